/- Part of the proof that the laws of this seat return true for every input. No condition. -/
import Derived.Test.YtheklenmejhdoaaT2
import Derived.Shelf.SlLaysM
import Derived.Shelf.Spec.SlicesGrow
set_option linter.unnecessarySimpa false
set_option linter.unusedVariables false
set_option linter.unusedSimpArgs false
section
open Go Go.Tv Go.Proofs
namespace Go.Tv.C35
set_option maxRecDepth 20000
set_option maxHeartbeats 2000000
set_option linter.unusedSimpArgs false
set_option linter.unusedVariables false
theorem any_fIx {α : Type} {p : α → Bool} {l : List α} : decide (fIx p l ≥ 0) = l.any p := by
  by_cases h : fIx p l < 0
  · rw [decide_eq_false (by omega)]
    symm
    rw [List.any_eq_false]
    intro x hx
    rw [fIx_neg.1 h x hx]; simp
  · rw [decide_eq_true (by omega)]
    symm
    obtain ⟨i, hi, _, _, hp⟩ := fIx_nat h
    exact List.any_eq_true.2 ⟨_, List.getElem_mem hi, hp⟩
theorem cellsB_kind (b : Bid) : (cellsB b).map Sc.kind = [.int .i64, .int .i64, .int .i64, .int .i64, .int .i64] := rfl
theorem cellsB_inj (a b : Bid) (h : cellsB a = cellsB b) : a = b := by
  obtain ⟨a1, a2, a3, a4, a5⟩ := a
  obtain ⟨b1, b2, b3, b4, b5⟩ := b
  simp only [cellsB, List.cons.injEq, Sc.int.injEq, true_and, and_true] at h
  obtain ⟨h1, h2, h3, h4, h5⟩ := h
  subst h1 h2 h3 h4 h5
  rfl
theorem any_mem {α : Type} [DecidableEq α] {b : α} {l : List α} : l.any (fun x => decide (b = x)) = decide (b ∈ l) := by
  by_cases h : b ∈ l
  · rw [decide_eq_true h, List.any_eq_true]; exact ⟨b, h, by simp⟩
  · rw [decide_eq_false h, List.any_eq_false]; intro x hx e; exact h (of_decide_eq_true e ▸ hx)

theorem indexB_ret (l : List Bid) (b : Bid) (hl : l.length ≤ 100000) : Ret Try.prog 80 [.sl (l.map encB) false, encB b] (encI (fIx (fun x => decide (b = x)) l)) := by
  refine ret_of_awp Try.func80 rfl (Nat.le_of_ble_eq_true rfl) ?_
  refine awp_seq ?_
  refine awp_rw rfl ?_
  refine RW.new rfl rfl (eff_boxK (v := .t _) (k := 5) (id := 3) rfl rfl rfl rfl rfl rfl) ?_
  refine RW.op rfl rfl (eff_assign (v := .t _) rfl rfl rfl) ?_
  refine RW.nil ?_
  refine awp_seq ?_
  refine awp_seq ?_
  refine awp_rw rfl ?_
  refine RW.op rfl rfl (eff_move (v := .t _) rfl rfl rfl) ?_
  refine RW.op rfl rfl (eff_lenM rfl rfl te23 rfl) ?_
  refine RW.op rfl rfl (eff_move (v := .t _) rfl rfl rfl) ?_
  refine RW.nil ?_
  refine awp_block ?_
  refine awp_loopW (fun m s => ∃ (i : Nat), (i ≤ l.length) ∧ (∀ y, y ∈ l.take i → (fun x => decide (b = x)) y = false) ∧ m = l.length - i ∧ s = ⟨19, [(0, .t (.sl (l.map encB) false)), (3, .ptr 3 0 0 0), (7, .t (encI l.length)), (8, .t (encI (i : Nat)))], [(3, some ⟨5, 42, 0, [.t (encB b)]⟩)]⟩) (_) (⟨_, weak_keep (n := 19) (fr' := [(0, .t (.sl (l.map encB) false)), (3, .ptr 3 0 0 0), (7, .t (encI l.length)), (8, .t (encI (0 : Nat)))]) (st' := [(3, some ⟨5, 42, 0, [.t (encB b)]⟩)]) ⟨rfl, rfl, rfl, rfl, rfl, rfl, rfl, rfl, trivial⟩ ⟨rfl, okE_one rfl, trivial⟩, 0, (by omega), (by simp), rfl, rfl⟩) ?_
  rintro m s ⟨i, hi, ha, rfl, rfl⟩
  refine awp_seq ?_
  refine awp_rw rfl ?_
  refine RW.op rfl rfl (eff_iop rfl rfl rfl rfl rfl) ?_
  refine RW.nil ?_
  refine awp_seq ?_
  refine awp_cond rfl (fun h1 => ?_) (fun h1 => ?_)
  · try simp only [decide_eq_true_eq, decide_eq_false_iff_not, beq_iff_eq, bne_iff_ne, bne_eq_false_iff_eq, beq_eq_false_iff_ne, Bool.not_eq_true, Bool.not_eq_false, Bool.not_eq_true', Bool.not_eq_false', ne_eq] at h1
    refine awp_skip ?_
    refine awp_seq ?_
    refine awp_block ?_
    refine awp_seq ?_
    refine awp_rw rfl ?_
    refine RW.op rfl rfl (eff_move (v := .t _) rfl rfl rfl) ?_
    refine RW.op rfl rfl (eff_assign (v := .t _) rfl rfl rfl) ?_
    refine RW.nil ?_
    refine awp_seq ?_
    refine awp_rd [(some 11, []), (some 12, []), (some 13, []), (some 14, []), (some 15, []), (some 16, [])] [[], [], [], [1, 2], [1, 2, 3], [0, 1, 2, 3, 4]] tm rfl rfl rfl rfl ?_
    refine RD.op rfl rfl rfl (eff_load rfl rfl ti42 rfl (.whole rfl rfl rfl rfl rfl rfl)) ?_
    refine RD.op rfl rfl rfl (eff_move (v := .t _) rfl rfl rfl) ?_
    refine RD.op rfl rfl rfl (eff_move (v := .t _) rfl rfl rfl) ?_
    refine RD.op rfl rfl rfl (eff_indexM rfl rfl te23 rfl rfl rfl (by first | assumption | exact List.getElem?_eq_getElem (by omega)) rfl (by decide)) ?_
    refine RD.op rfl rfl rfl (eff_loadW rfl rfl ti42 rfl rfl rfl) ?_
    refine RD.op rfl rfl rfl (eff_structEqlA (cells := cellsB) (a := b) (b := l[i]'(by omega)) rfl rfl ts42s ti42 th42 cellsB_inj cellsB_kind rfl rfl) ?_
    refine RD.nil ?_
    refine awp_cond rfl (fun h2 => ?_) (fun h2 => ?_)
    · try simp only [decide_eq_true_eq, decide_eq_false_iff_not, beq_iff_eq, bne_iff_ne, bne_eq_false_iff_eq, beq_eq_false_iff_ne, Bool.not_eq_true, Bool.not_eq_false, Bool.not_eq_true', Bool.not_eq_false', ne_eq] at h2
      refine awp_seq ?_
      refine awp_rw rfl ?_
      refine RW.op rfl rfl (eff_move (v := .t _) rfl rfl rfl) ?_
      refine RW.op rfl rfl (eff_assign (v := .t _) rfl rfl rfl) ?_
      refine RW.nil ?_
      refine awp_ret ?_
      rw [fIx_hit (p := fun x => decide (b = x)) (i := i) (by omega) ha (by first | exact h2 | exact decide_eq_true h2 | (simp at h2 ⊢; omega))]
      exact ⟨Or.inr rfl, [_], ⟨.tmp (.t _), trivial⟩, .refl _⟩
    · try simp only [decide_eq_true_eq, decide_eq_false_iff_not, beq_iff_eq, bne_iff_ne, bne_eq_false_iff_eq, beq_eq_false_iff_ne, Bool.not_eq_true, Bool.not_eq_false, Bool.not_eq_true', Bool.not_eq_false', ne_eq] at h2
      refine awp_skip ?_
      refine awp_rw rfl ?_
      refine RW.op rfl rfl (eff_iop rfl rfl rfl rfl (iadd (by omega))) ?_
      refine RW.op rfl rfl (eff_move (v := .t _) rfl rfl rfl) ?_
      refine RW.nil ?_
      refine ⟨_, ?_, _, weak_keep (n := 19) (fr' := [(0, .t (.sl (l.map encB) false)), (3, .ptr 3 0 0 0), (7, .t (encI l.length)), (8, .t (encI ((i + 1) : Nat)))]) (st' := [(3, some ⟨5, 42, 0, [.t (encB b)]⟩)]) ⟨rfl, rfl, rfl, rfl, rfl, rfl, rfl, rfl, trivial⟩ ⟨rfl, okE_one rfl, trivial⟩, i + 1, (by omega), (by intro y hy; rcases (mem_take_succ (show i < l.length by omega)).1 hy with h | h; exact ha y h; rw [h]; first | exact h2 | exact decide_eq_false h2 | (simp at h2 ⊢; omega)), rfl, rfl⟩
      omega
  · try simp only [decide_eq_true_eq, decide_eq_false_iff_not, beq_iff_eq, bne_iff_ne, bne_eq_false_iff_eq, beq_eq_false_iff_ne, Bool.not_eq_true, Bool.not_eq_false, Bool.not_eq_true', Bool.not_eq_false', ne_eq] at h1
    refine awp_exit ?_
    refine awp_seq ?_
    refine awp_rw rfl ?_
    refine RW.op rfl rfl (eff_assign (v := .t _) rfl rfl rfl) ?_
    refine RW.nil ?_
    refine awp_ret ?_
    have hi2 : i = l.length := by omega
    subst hi2
    rw [List.take_length] at ha
    rw [fIx_none (p := fun x => decide (b = x)) ha]
    exact ⟨Or.inr rfl, [_], ⟨.tmp (.t _), trivial⟩, .refl _⟩

theorem containsB_ret (l : List Bid) (b : Bid) (hl : l.length ≤ 100000) : Ret Try.prog 51 [.sl (l.map encB) false, encB b] (.bool (decide (b ∈ l))) := by
  refine ret_of_awp Try.func51 rfl (Nat.le_of_ble_eq_true rfl) ?_
  refine awp_seq ?_
  refine awp_rw rfl ?_
  refine RW.new rfl rfl (eff_boxK (v := .t _) (k := 5) (id := 3) rfl rfl rfl rfl rfl rfl) ?_
  refine RW.op rfl rfl (eff_assign (v := .t _) rfl rfl rfl) ?_
  refine RW.nil ?_
  refine awp_seq ?_
  refine awp_rw rfl ?_
  refine RW.op rfl rfl (eff_move (v := .t _) rfl rfl rfl) ?_
  refine RW.op rfl rfl (eff_load rfl rfl ti42 rfl (.whole rfl rfl rfl rfl rfl rfl)) ?_
  refine RW.op rfl rfl (eff_callT (indexB_ret l b hl) co80 rfl rfl rfl rfl) ?_
  refine RW.op rfl rfl (eff_iop rfl rfl rfl rfl rfl) ?_
  refine RW.op rfl rfl (eff_assign (v := .t _) rfl rfl rfl) ?_
  refine RW.nil ?_
  refine awp_ret ?_
  rw [← any_mem, ← any_fIx]
  exact ⟨Or.inr rfl, [_], ⟨.tmp (.t _), trivial⟩, .refl _⟩

theorem indexI_ret (l : List Nat) (n : Int) (hl : l.length ≤ 100000) : Ret Try.prog 82 [.sl (l.map encN) false, encI n] (encI (fIx (fun x : Nat => decide ((x : Int) = n)) l)) := by
  refine ret_of_awp Try.func82 rfl (Nat.le_of_ble_eq_true rfl) ?_
  refine awp_seq ?_
  refine awp_rw rfl ?_
  refine RW.op rfl rfl (eff_assign (v := .t _) rfl rfl rfl) ?_
  refine RW.nil ?_
  refine awp_seq ?_
  refine awp_seq ?_
  refine awp_rw rfl ?_
  refine RW.op rfl rfl (eff_move (v := .t _) rfl rfl rfl) ?_
  refine RW.op rfl rfl (eff_lenM rfl rfl te22 rfl) ?_
  refine RW.op rfl rfl (eff_move (v := .t _) rfl rfl rfl) ?_
  refine RW.nil ?_
  refine awp_block ?_
  refine awp_loopW (fun m s => ∃ (i : Nat), (i ≤ l.length) ∧ (∀ y, y ∈ l.take i → (fun x : Nat => decide ((x : Int) = n)) y = false) ∧ m = l.length - i ∧ s = ⟨19, [(0, .t (.sl (l.map encN) false)), (1, .t (encI n)), (7, .t (encI l.length)), (8, .t (encI (i : Nat)))], []⟩) (_) (⟨_, weak_keep (n := 19) (fr' := [(0, .t (.sl (l.map encN) false)), (1, .t (encI n)), (7, .t (encI l.length)), (8, .t (encI (0 : Nat)))]) (st' := []) ⟨rfl, rfl, rfl, rfl, rfl, rfl, rfl, rfl, trivial⟩ trivial, 0, (by omega), (by simp), rfl, rfl⟩) ?_
  rintro m s ⟨i, hi, ha, rfl, rfl⟩
  refine awp_seq ?_
  refine awp_rw rfl ?_
  refine RW.op rfl rfl (eff_iop rfl rfl rfl rfl rfl) ?_
  refine RW.nil ?_
  refine awp_seq ?_
  refine awp_cond rfl (fun h1 => ?_) (fun h1 => ?_)
  · try simp only [decide_eq_true_eq, decide_eq_false_iff_not, beq_iff_eq, bne_iff_ne, bne_eq_false_iff_eq, beq_eq_false_iff_ne, Bool.not_eq_true, Bool.not_eq_false, Bool.not_eq_true', Bool.not_eq_false', ne_eq] at h1
    refine awp_skip ?_
    refine awp_seq ?_
    refine awp_block ?_
    refine awp_seq ?_
    refine awp_rw rfl ?_
    refine RW.op rfl rfl (eff_move (v := .t _) rfl rfl rfl) ?_
    refine RW.op rfl rfl (eff_assign (v := .t _) rfl rfl rfl) ?_
    refine RW.nil ?_
    refine awp_seq ?_
    refine awp_rw rfl ?_
    refine RW.op rfl rfl (eff_move (v := .t _) rfl rfl rfl) ?_
    refine RW.op rfl rfl (eff_move (v := .t _) rfl rfl rfl) ?_
    refine RW.op rfl rfl (eff_move (v := .t _) rfl rfl rfl) ?_
    refine RW.op rfl rfl (eff_indexM rfl rfl te22 rfl rfl rfl (by first | assumption | exact List.getElem?_eq_getElem (by omega)) rfl (by decide)) ?_
    refine RW.op rfl rfl (eff_loadW1 rfl rfl ti3 rfl rfl) ?_
    refine RW.op rfl rfl (eff_iop rfl rfl rfl rfl rfl) ?_
    refine RW.nil ?_
    refine awp_cond rfl (fun h2 => ?_) (fun h2 => ?_)
    · try simp only [decide_eq_true_eq, decide_eq_false_iff_not, beq_iff_eq, bne_iff_ne, bne_eq_false_iff_eq, beq_eq_false_iff_ne, Bool.not_eq_true, Bool.not_eq_false, Bool.not_eq_true', Bool.not_eq_false', ne_eq] at h2
      refine awp_seq ?_
      refine awp_rw rfl ?_
      refine RW.op rfl rfl (eff_move (v := .t _) rfl rfl rfl) ?_
      refine RW.op rfl rfl (eff_assign (v := .t _) rfl rfl rfl) ?_
      refine RW.nil ?_
      refine awp_ret ?_
      rw [fIx_hit (p := fun x : Nat => decide ((x : Int) = n)) (i := i) (by omega) ha (by first | exact h2 | exact decide_eq_true h2 | (simp at h2 ⊢; omega))]
      exact ⟨Or.inr rfl, [_], ⟨.tmp (.t _), trivial⟩, .refl _⟩
    · try simp only [decide_eq_true_eq, decide_eq_false_iff_not, beq_iff_eq, bne_iff_ne, bne_eq_false_iff_eq, beq_eq_false_iff_ne, Bool.not_eq_true, Bool.not_eq_false, Bool.not_eq_true', Bool.not_eq_false', ne_eq] at h2
      refine awp_skip ?_
      refine awp_rw rfl ?_
      refine RW.op rfl rfl (eff_iop rfl rfl rfl rfl (iadd (by omega))) ?_
      refine RW.op rfl rfl (eff_move (v := .t _) rfl rfl rfl) ?_
      refine RW.nil ?_
      refine ⟨_, ?_, _, weak_keep (n := 19) (fr' := [(0, .t (.sl (l.map encN) false)), (1, .t (encI n)), (7, .t (encI l.length)), (8, .t (encI ((i + 1) : Nat)))]) (st' := []) ⟨rfl, rfl, rfl, rfl, rfl, rfl, rfl, rfl, trivial⟩ trivial, i + 1, (by omega), (by intro y hy; rcases (mem_take_succ (show i < l.length by omega)).1 hy with h | h; exact ha y h; rw [h]; first | exact h2 | exact decide_eq_false h2 | (simp at h2 ⊢; omega)), rfl, rfl⟩
      omega
  · try simp only [decide_eq_true_eq, decide_eq_false_iff_not, beq_iff_eq, bne_iff_ne, bne_eq_false_iff_eq, beq_eq_false_iff_ne, Bool.not_eq_true, Bool.not_eq_false, Bool.not_eq_true', Bool.not_eq_false', ne_eq] at h1
    refine awp_exit ?_
    refine awp_seq ?_
    refine awp_rw rfl ?_
    refine RW.op rfl rfl (eff_assign (v := .t _) rfl rfl rfl) ?_
    refine RW.nil ?_
    refine awp_ret ?_
    have hi2 : i = l.length := by omega
    subst hi2
    rw [List.take_length] at ha
    rw [fIx_none (p := fun x : Nat => decide ((x : Int) = n)) ha]
    exact ⟨Or.inr rfl, [_], ⟨.tmp (.t _), trivial⟩, .refl _⟩

theorem containsI_ret (l : List Nat) (n : Int) (hl : l.length ≤ 100000) : Ret Try.prog 57 [.sl (l.map encN) false, encI n] (.bool (l.any fun x : Nat => decide ((x : Int) = n))) := by
  refine ret_of_awp Try.func57 rfl (Nat.le_of_ble_eq_true rfl) ?_
  refine awp_seq ?_
  refine awp_rw rfl ?_
  refine RW.op rfl rfl (eff_assign (v := .t _) rfl rfl rfl) ?_
  refine RW.nil ?_
  refine awp_seq ?_
  refine awp_rw rfl ?_
  refine RW.op rfl rfl (eff_move (v := .t _) rfl rfl rfl) ?_
  refine RW.op rfl rfl (eff_move (v := .t _) rfl rfl rfl) ?_
  refine RW.op rfl rfl (eff_callT (indexI_ret l n hl) co82 rfl rfl rfl rfl) ?_
  refine RW.op rfl rfl (eff_iop rfl rfl rfl rfl rfl) ?_
  refine RW.op rfl rfl (eff_assign (v := .t _) rfl rfl rfl) ?_
  refine RW.nil ?_
  refine awp_ret ?_
  rw [← any_fIx]
  exact ⟨Or.inr rfl, [_], ⟨.tmp (.t _), trivial⟩, .refl _⟩

theorem ixfB_ret (l : List Bid) (fn : Nat) (caps : List Tr) (p : Bid → Bool) (hl : l.length ≤ 100000) (hco : callOK Try.prog fn = true) (hp : ∀ x, x ∈ l → Ret Try.prog fn (encB x :: caps) (.bool (p x))) : Ret Try.prog 81 [.sl (l.map encB) false, .fn fn caps] (encI (fIx p l)) := by
  refine ret_of_awp Try.func81 rfl (Nat.le_of_ble_eq_true rfl) ?_
  refine awp_seq ?_
  refine awp_rw rfl ?_
  refine RW.op rfl rfl (eff_assign (v := .t _) rfl rfl rfl) ?_
  refine RW.nil ?_
  refine awp_seq ?_
  refine awp_seq ?_
  refine awp_rw rfl ?_
  refine RW.op rfl rfl (eff_move (v := .t _) rfl rfl rfl) ?_
  refine RW.op rfl rfl (eff_lenM rfl rfl te23 rfl) ?_
  refine RW.op rfl rfl (eff_move (v := .t _) rfl rfl rfl) ?_
  refine RW.nil ?_
  refine awp_block ?_
  refine awp_loopW (fun m s => ∃ (i : Nat), (i ≤ l.length) ∧ (∀ b, b ∈ l.take i → p b = false) ∧ m = l.length - i ∧ s = ⟨19, [(0, .t (.sl (l.map encB) false)), (1, .t (.fn fn caps)), (7, .t (encI l.length)), (8, .t (encI (i : Nat)))], []⟩) (_) (⟨_, weak_keep (n := 19) (fr' := [(0, .t (.sl (l.map encB) false)), (1, .t (.fn fn caps)), (7, .t (encI l.length)), (8, .t (encI (0 : Nat)))]) (st' := []) ⟨rfl, rfl, rfl, rfl, rfl, rfl, rfl, rfl, trivial⟩ trivial, 0, (by omega), (by simp), rfl, rfl⟩) ?_
  rintro m s ⟨i, hi, ha, rfl, rfl⟩
  refine awp_seq ?_
  refine awp_rw rfl ?_
  refine RW.op rfl rfl (eff_iop rfl rfl rfl rfl rfl) ?_
  refine RW.nil ?_
  refine awp_seq ?_
  refine awp_cond rfl (fun h1 => ?_) (fun h1 => ?_)
  · try simp only [decide_eq_true_eq, decide_eq_false_iff_not, beq_iff_eq, bne_iff_ne, bne_eq_false_iff_eq, beq_eq_false_iff_ne, Bool.not_eq_true, Bool.not_eq_false, Bool.not_eq_true', Bool.not_eq_false', ne_eq] at h1
    refine awp_skip ?_
    refine awp_seq ?_
    refine awp_block ?_
    refine awp_seq ?_
    refine awp_rw rfl ?_
    refine RW.op rfl rfl (eff_move (v := .t _) rfl rfl rfl) ?_
    refine RW.op rfl rfl (eff_assign (v := .t _) rfl rfl rfl) ?_
    refine RW.nil ?_
    refine awp_seq ?_
    refine awp_rw rfl ?_
    refine RW.op rfl rfl (eff_move (v := .t _) rfl rfl rfl) ?_
    refine RW.op rfl rfl (eff_move (v := .t _) rfl rfl rfl) ?_
    refine RW.op rfl rfl (eff_move (v := .t _) rfl rfl rfl) ?_
    refine RW.op rfl rfl (eff_indexM rfl rfl te23 rfl rfl rfl (by first | assumption | exact List.getElem?_eq_getElem (by omega)) rfl (by decide)) ?_
    refine RW.op rfl rfl (eff_loadW rfl rfl ti42 rfl rfl rfl) ?_
    refine RW.op rfl rfl (eff_call (f := fn) (xs := [_]) (ys := [_]) (caps := caps) rfl rfl rfl hco rfl (WkL.cons (.refl _) .nil) (hp _ (List.getElem_mem (show i < l.length by omega)))) ?_
    refine RW.nil ?_
    refine awp_cond rfl (fun h2 => ?_) (fun h2 => ?_)
    · try simp only [decide_eq_true_eq, decide_eq_false_iff_not, beq_iff_eq, bne_iff_ne, bne_eq_false_iff_eq, beq_eq_false_iff_ne, Bool.not_eq_true, Bool.not_eq_false, Bool.not_eq_true', Bool.not_eq_false', ne_eq] at h2
      refine awp_seq ?_
      refine awp_rw rfl ?_
      refine RW.op rfl rfl (eff_move (v := .t _) rfl rfl rfl) ?_
      refine RW.op rfl rfl (eff_assign (v := .t _) rfl rfl rfl) ?_
      refine RW.nil ?_
      refine awp_ret ?_
      rw [fIx_hit (by omega) ha h2]
      exact ⟨Or.inr rfl, [_], ⟨.tmp (.t _), trivial⟩, .refl _⟩
    · try simp only [decide_eq_true_eq, decide_eq_false_iff_not, beq_iff_eq, bne_iff_ne, bne_eq_false_iff_eq, beq_eq_false_iff_ne, Bool.not_eq_true, Bool.not_eq_false, Bool.not_eq_true', Bool.not_eq_false', ne_eq] at h2
      refine awp_skip ?_
      refine awp_rw rfl ?_
      refine RW.op rfl rfl (eff_iop rfl rfl rfl rfl (iadd (by omega))) ?_
      refine RW.op rfl rfl (eff_move (v := .t _) rfl rfl rfl) ?_
      refine RW.nil ?_
      refine ⟨_, ?_, _, weak_keep (n := 19) (fr' := [(0, .t (.sl (l.map encB) false)), (1, .t (.fn fn caps)), (7, .t (encI l.length)), (8, .t (encI ((i + 1) : Nat)))]) (st' := []) ⟨rfl, rfl, rfl, rfl, rfl, rfl, rfl, rfl, trivial⟩ trivial, i + 1, (by omega), (by intro b hb; rcases (mem_take_succ (by omega)).1 hb with h | h; exact ha b h; rw [h]; exact h2), rfl, rfl⟩
      omega
  · try simp only [decide_eq_true_eq, decide_eq_false_iff_not, beq_iff_eq, bne_iff_ne, bne_eq_false_iff_eq, beq_eq_false_iff_ne, Bool.not_eq_true, Bool.not_eq_false, Bool.not_eq_true', Bool.not_eq_false', ne_eq] at h1
    refine awp_exit ?_
    refine awp_seq ?_
    refine awp_rw rfl ?_
    refine RW.op rfl rfl (eff_assign (v := .t _) rfl rfl rfl) ?_
    refine RW.nil ?_
    refine awp_ret ?_
    have hi2 : i = l.length := by omega
    subst hi2
    rw [List.take_length] at ha
    rw [fIx_none ha]
    exact ⟨Or.inr rfl, [_], ⟨.tmp (.t _), trivial⟩, .refl _⟩

theorem ixfI_ret (l : List Nat) (fn : Nat) (caps : List Tr) (p : Nat → Bool) (hl : l.length ≤ 100000) (hco : callOK Try.prog fn = true) (hp : ∀ x, x ∈ l → Ret Try.prog fn (encN x :: caps) (.bool (p x))) : Ret Try.prog 84 [.sl (l.map encN) false, .fn fn caps] (encI (fIx p l)) := by
  refine ret_of_awp Try.func84 rfl (Nat.le_of_ble_eq_true rfl) ?_
  refine awp_seq ?_
  refine awp_rw rfl ?_
  refine RW.op rfl rfl (eff_assign (v := .t _) rfl rfl rfl) ?_
  refine RW.nil ?_
  refine awp_seq ?_
  refine awp_seq ?_
  refine awp_rw rfl ?_
  refine RW.op rfl rfl (eff_move (v := .t _) rfl rfl rfl) ?_
  refine RW.op rfl rfl (eff_lenM rfl rfl te22 rfl) ?_
  refine RW.op rfl rfl (eff_move (v := .t _) rfl rfl rfl) ?_
  refine RW.nil ?_
  refine awp_block ?_
  refine awp_loopW (fun m s => ∃ (i : Nat), (i ≤ l.length) ∧ (∀ b, b ∈ l.take i → p b = false) ∧ m = l.length - i ∧ s = ⟨19, [(0, .t (.sl (l.map encN) false)), (1, .t (.fn fn caps)), (7, .t (encI l.length)), (8, .t (encI (i : Nat)))], []⟩) (_) (⟨_, weak_keep (n := 19) (fr' := [(0, .t (.sl (l.map encN) false)), (1, .t (.fn fn caps)), (7, .t (encI l.length)), (8, .t (encI (0 : Nat)))]) (st' := []) ⟨rfl, rfl, rfl, rfl, rfl, rfl, rfl, rfl, trivial⟩ trivial, 0, (by omega), (by simp), rfl, rfl⟩) ?_
  rintro m s ⟨i, hi, ha, rfl, rfl⟩
  refine awp_seq ?_
  refine awp_rw rfl ?_
  refine RW.op rfl rfl (eff_iop rfl rfl rfl rfl rfl) ?_
  refine RW.nil ?_
  refine awp_seq ?_
  refine awp_cond rfl (fun h1 => ?_) (fun h1 => ?_)
  · try simp only [decide_eq_true_eq, decide_eq_false_iff_not, beq_iff_eq, bne_iff_ne, bne_eq_false_iff_eq, beq_eq_false_iff_ne, Bool.not_eq_true, Bool.not_eq_false, Bool.not_eq_true', Bool.not_eq_false', ne_eq] at h1
    refine awp_skip ?_
    refine awp_seq ?_
    refine awp_block ?_
    refine awp_seq ?_
    refine awp_rw rfl ?_
    refine RW.op rfl rfl (eff_move (v := .t _) rfl rfl rfl) ?_
    refine RW.op rfl rfl (eff_assign (v := .t _) rfl rfl rfl) ?_
    refine RW.nil ?_
    refine awp_seq ?_
    refine awp_rw rfl ?_
    refine RW.op rfl rfl (eff_move (v := .t _) rfl rfl rfl) ?_
    refine RW.op rfl rfl (eff_move (v := .t _) rfl rfl rfl) ?_
    refine RW.op rfl rfl (eff_move (v := .t _) rfl rfl rfl) ?_
    refine RW.op rfl rfl (eff_indexM rfl rfl te22 rfl rfl rfl (by first | assumption | exact List.getElem?_eq_getElem (by omega)) rfl (by decide)) ?_
    refine RW.op rfl rfl (eff_loadW1 rfl rfl ti3 rfl rfl) ?_
    refine RW.op rfl rfl (eff_call (f := fn) (xs := [_]) (ys := [_]) (caps := caps) rfl rfl rfl hco rfl (WkL.cons (.refl _) .nil) (hp _ (List.getElem_mem (show i < l.length by omega)))) ?_
    refine RW.nil ?_
    refine awp_cond rfl (fun h2 => ?_) (fun h2 => ?_)
    · try simp only [decide_eq_true_eq, decide_eq_false_iff_not, beq_iff_eq, bne_iff_ne, bne_eq_false_iff_eq, beq_eq_false_iff_ne, Bool.not_eq_true, Bool.not_eq_false, Bool.not_eq_true', Bool.not_eq_false', ne_eq] at h2
      refine awp_seq ?_
      refine awp_rw rfl ?_
      refine RW.op rfl rfl (eff_move (v := .t _) rfl rfl rfl) ?_
      refine RW.op rfl rfl (eff_assign (v := .t _) rfl rfl rfl) ?_
      refine RW.nil ?_
      refine awp_ret ?_
      rw [fIx_hit (by omega) ha h2]
      exact ⟨Or.inr rfl, [_], ⟨.tmp (.t _), trivial⟩, .refl _⟩
    · try simp only [decide_eq_true_eq, decide_eq_false_iff_not, beq_iff_eq, bne_iff_ne, bne_eq_false_iff_eq, beq_eq_false_iff_ne, Bool.not_eq_true, Bool.not_eq_false, Bool.not_eq_true', Bool.not_eq_false', ne_eq] at h2
      refine awp_skip ?_
      refine awp_rw rfl ?_
      refine RW.op rfl rfl (eff_iop rfl rfl rfl rfl (iadd (by omega))) ?_
      refine RW.op rfl rfl (eff_move (v := .t _) rfl rfl rfl) ?_
      refine RW.nil ?_
      refine ⟨_, ?_, _, weak_keep (n := 19) (fr' := [(0, .t (.sl (l.map encN) false)), (1, .t (.fn fn caps)), (7, .t (encI l.length)), (8, .t (encI ((i + 1) : Nat)))]) (st' := []) ⟨rfl, rfl, rfl, rfl, rfl, rfl, rfl, rfl, trivial⟩ trivial, i + 1, (by omega), (by intro b hb; rcases (mem_take_succ (by omega)).1 hb with h | h; exact ha b h; rw [h]; exact h2), rfl, rfl⟩
      omega
  · try simp only [decide_eq_true_eq, decide_eq_false_iff_not, beq_iff_eq, bne_iff_ne, bne_eq_false_iff_eq, beq_eq_false_iff_ne, Bool.not_eq_true, Bool.not_eq_false, Bool.not_eq_true', Bool.not_eq_false', ne_eq] at h1
    refine awp_exit ?_
    refine awp_seq ?_
    refine awp_rw rfl ?_
    refine RW.op rfl rfl (eff_assign (v := .t _) rfl rfl rfl) ?_
    refine RW.nil ?_
    refine awp_ret ?_
    have hi2 : i = l.length := by omega
    subst hi2
    rw [List.take_length] at ha
    rw [fIx_none ha]
    exact ⟨Or.inr rfl, [_], ⟨.tmp (.t _), trivial⟩, .refl _⟩

theorem anyI_ret (l : List Nat) (fn : Nat) (caps : List Tr) (p : Nat → Bool) (hl : l.length ≤ 100000) (hco : callOK Try.prog fn = true) (hp : ∀ x, x ∈ l → Ret Try.prog fn (encN x :: caps) (.bool (p x))) : Ret Try.prog 61 [.sl (l.map encN) false, .fn fn caps] (.bool (l.any p)) := by
  refine ret_of_awp Try.func61 rfl (Nat.le_of_ble_eq_true rfl) ?_
  refine awp_seq ?_
  refine awp_rw rfl ?_
  refine RW.op rfl rfl (eff_assign (v := .t _) rfl rfl rfl) ?_
  refine RW.nil ?_
  refine awp_seq ?_
  refine awp_rw rfl ?_
  refine RW.op rfl rfl (eff_move (v := .t _) rfl rfl rfl) ?_
  refine RW.op rfl rfl (eff_move (v := .t _) rfl rfl rfl) ?_
  refine RW.op rfl rfl (eff_callT (ixfI_ret l fn caps p hl hco hp) co84 rfl rfl rfl rfl) ?_
  refine RW.op rfl rfl (eff_iop rfl rfl rfl rfl rfl) ?_
  refine RW.op rfl rfl (eff_assign (v := .t _) rfl rfl rfl) ?_
  refine RW.nil ?_
  refine awp_ret ?_
  rw [← any_fIx]
  exact ⟨Or.inr rfl, [_], ⟨.tmp (.t _), trivial⟩, .refl _⟩

theorem clone_retG (l : List Bid) (hl : l.length ≤ 1000000) : RetG Try.prog 53 [] [.t (.sl (l.map encB) false)] [(5, some ⟨5, 42, 1, (l.map encB).map .t⟩)] (.own 5 1 0 l.length) := by
  refine retG_of_awp Try.func53 rfl (Nat.le_of_ble_eq_true rfl) ?_
  refine awp_seq ?_
  refine awp_rw rfl ?_
  refine RW.op rfl rfl (eff_assign (v := .t _) rfl rfl rfl) ?_
  refine RW.nil ?_
  refine awp_seq ?_
  refine awp_seq ?_
  refine awp_rw rfl ?_
  refine RW.op rfl rfl (eff_move (v := .t _) rfl rfl rfl) ?_
  refine RW.nilEq rfl rfl rfl rfl te23 rfl (fun b1 hb1 => ?_)
  refine RW.nil ?_
  refine awp_cond rfl (fun h2 => ?_) (fun h2 => ?_)
  · try simp only [decide_eq_true_eq, decide_eq_false_iff_not, beq_iff_eq, bne_iff_ne, bne_eq_false_iff_eq, beq_eq_false_iff_ne, Bool.not_eq_true, Bool.not_eq_false, Bool.not_eq_true', Bool.not_eq_false', ne_eq] at h2
    refine awp_seq ?_
    refine awp_rw rfl ?_
    refine RW.op rfl rfl (eff_assign (v := .t _) rfl rfl rfl) ?_
    refine RW.nil ?_
    show AWP _ _ _ _
    refine awp_weak (weak_adopt (d := 2) (id := 5) (k := 5) (ty := 42) rfl rfl) ?_
    refine awp_weak (weak_bumpS (d := 2) (id := 5) (off := 0) (len := 0) 1 rfl rfl (by decide)) ?_
    refine awp_ret ?_
    have hl0 : l = [] := by simpa using hb1 h2
    subst hl0
    exact ⟨Or.inr rfl, [_], [.own 5 1 0 0], ⟨.tmp rfl, trivial⟩, rfl, weak_keep ⟨rfl, rfl, trivial⟩ ⟨rfl, okE_nil, trivial⟩, rfl⟩
  · try simp only [decide_eq_true_eq, decide_eq_false_iff_not, beq_iff_eq, bne_iff_ne, bne_eq_false_iff_eq, beq_eq_false_iff_ne, Bool.not_eq_true, Bool.not_eq_false, Bool.not_eq_true', Bool.not_eq_false', ne_eq] at h2
    refine awp_skip ?_
    refine awp_seq ?_
    refine awp_rw rfl ?_
    refine RW.new rfl rfl (eff_buildSliceL (id := 5) (els := []) rfl rfl te23 tz42 rfl (by decide) (by decide) rfl rfl rfl rfl) ?_
    refine RW.op rfl rfl (eff_move (v := .t _) rfl rfl rfl) ?_
    refine RW.new rfl rfl (eff_appendAny (id := 5) rfl rfl ta23 rfl rfl rfl rfl rfl rfl (srcM rfl (fun _ => rfl)) (by simp; omega) (by simp; omega)) ?_
    refine RW.op rfl rfl (eff_assign (v := .own _ _ _ _) rfl rfl rfl) ?_
    refine RW.nil ?_
    refine awp_ret ?_
    exact ⟨Or.inr rfl, [_], [.own 5 1 0 l.length], ⟨.tmp rfl, trivial⟩, rfl, weak_keep ⟨(by show AV.own 5 _ 0 _ = AV.own 5 1 0 l.length; congr 1; simp), rfl, trivial⟩ ⟨rfl, okE_t, trivial⟩, rfl⟩

theorem left_take {l : List Bid} {b : Bid} {j : Nat} (h : j < l.length) : leftOf (l.take (j + 1)) b = leftOf (l.take j) b ++ (if confl l[j] b then [] else [l[j]]) := by
  rw [take_succ_get h, left_append]
  congr 1
  unfold leftOf
  cases hc : confl l[j] b <;> simp [hc]
theorem left_none {l : List Bid} {b : Bid} (h : ∀ x, x ∈ l → confl x b = false) : leftOf l b = l := by
  unfold leftOf
  rw [List.filter_eq_self]
  intro x hx; rw [h x hx]; rfl
/-- How far the deleting has come: L: what lies in memory. -/
structure DelL (l : List Bid) (b : Bid) (i j : Nat) (L : List Bid) : Prop where
  len : L.length = l.length
  hj : j ≤ l.length
  hij : i < j
  cnt : i = (leftOf (l.take j) b).length
  pre : L.take i = leftOf (l.take j) b
  suf : L.drop j = l.drop j
theorem DelL.get {l : List Bid} {b : Bid} {i j : Nat} {L : List Bid} (h : DelL l b i j L) (hj : j < l.length) : L[j]? = some l[j] := by
  have h1 : (L.drop j)[0]? = (l.drop j)[0]? := by rw [h.suf]
  rw [List.getElem?_drop, List.getElem?_drop, Nat.add_zero] at h1
  rw [h1, List.getElem?_eq_getElem hj]
theorem DelL.skip {l : List Bid} {b : Bid} {i j : Nat} {L : List Bid} (h : DelL l b i j L) (hj : j < l.length) (hc : confl l[j] b = true) : DelL l b i (j + 1) L := by
  refine ⟨h.len, hj, Nat.lt_succ_of_lt h.hij, ?_, ?_, ?_⟩
  · rw [left_take hj, hc]; simpa using h.cnt
  · rw [left_take hj, hc]; simpa using h.pre
  · have := congrArg (List.drop 1) h.suf
    rw [List.drop_drop, List.drop_drop] at this
    rw [show j + 1 = 1 + j by omega, Nat.add_comm 1 j]; exact this
theorem DelL.keep {l : List Bid} {b : Bid} {i j : Nat} {L : List Bid} (h : DelL l b i j L) (hj : j < l.length) (hc : confl l[j] b = false) : DelL l b (i + 1) (j + 1) (L.set i l[j]) := by
  have hi : i < L.length := by have := h.len; have := h.hij; omega
  refine ⟨by rw [List.length_set]; exact h.len, hj, Nat.succ_lt_succ h.hij, ?_, ?_, ?_⟩
  · rw [left_take hj, hc]; simpa using h.cnt
  · rw [left_take hj, hc, List.take_add_one, List.getElem?_set_self hi, List.take_set_of_le (Nat.le_refl _), h.pre]; rfl
  · rw [List.drop_set_of_lt (by have := h.hij; omega)]
    have := congrArg (List.drop 1) h.suf
    rw [List.drop_drop, List.drop_drop] at this
    rw [show j + 1 = 1 + j by omega, Nat.add_comm 1 j]; exact this
theorem DelL.start {l : List Bid} {b : Bid} {i : Nat} (hi : i < l.length) (h : ∀ y, y ∈ l.take i → confl y b = false) (hc : confl l[i] b = true) : DelL l b i (i + 1) l := by
  have h1 : leftOf (l.take (i + 1)) b = l.take i := by rw [left_take hi, hc, left_none h]; simp
  exact ⟨rfl, hi, Nat.lt_succ_self _, by rw [h1, List.length_take]; omega, h1.symm, rfl⟩
theorem DelL.fin {l : List Bid} {b : Bid} {i : Nat} {L : List Bid} (h : DelL l b i l.length L) : i = (leftOf l b).length ∧ L.take i = leftOf l b := by
  have h1 := h.cnt; have h2 := h.pre
  rw [List.take_length] at h1 h2
  exact ⟨h1, h2⟩

theorem del_retG (l : List Bid) (g : Nat) (b : Bid) (hl : l.length ≤ 100000) : RetG Try.prog 52 [(0, some ⟨5, 42, g, (l.map encB).map .t⟩)] [.own 0 g 0 l.length, .t (.fn 54 [.ptr (encB b).cells])] [(0, some ⟨5, 42, g + 1, (((leftOf l b).map encB) ++ List.replicate (l.length - (leftOf l b).length) z42).map .t⟩)] (.own 0 (g + 1) 0 (leftOf l b).length) := by
  refine retG_of_awp Try.func52 rfl (Nat.le_of_ble_eq_true rfl) ?_
  refine awp_seq ?_
  refine awp_rw rfl ?_
  refine RW.op rfl rfl (eff_assign (v := .t _) rfl rfl rfl) ?_
  refine RW.nil ?_
  refine awp_seq ?_
  refine awp_rw rfl ?_
  refine RW.op rfl rfl (eff_move (v := .own _ _ _ _) rfl rfl rfl) ?_
  refine RW.op rfl rfl (eff_move (v := .t _) rfl rfl rfl) ?_
  refine RW.op rfl rfl (eff_callB (ys := [.sl (l.map encB) false, .fn 54 [.ptr (encB b).cells]]) (caps := []) rfl rfl rfl (.t _) co81 (ResL.cons (Res.ownM (xs := l.map encB) rfl (by simp)) (.refl _) (ResL.cons (.t _) (.refl _) .nil)) (by rw [List.append_nil]; exact ixfB_ret l 54 [.ptr (encB b).cells] (fun x => confl x b) hl co54 (fun x _ => clash_ret x b)) rfl) ?_
  refine RW.op rfl rfl (eff_assign (v := .t _) rfl rfl rfl) ?_
  refine RW.nil ?_
  refine awp_seq ?_
  refine awp_seq ?_
  by_cases hc1 : fIx (fun x => confl x b) l = -1
  · refine awp_rw rfl ?_
    refine RW.op rfl rfl (eff_move (v := .t _) rfl rfl rfl) ?_
    refine RW.op rfl rfl (eff_iop (r := .bool true) rfl rfl rfl rfl (by rw [hc1]; rfl)) ?_
    refine RW.nil ?_
    refine awp_cond rfl (fun _ => ?_) (fun h => nomatch h)
    refine awp_seq ?_
    refine awp_rw rfl ?_
    refine RW.op rfl rfl (eff_move (v := .own _ _ _ _) rfl rfl rfl) ?_
    refine RW.op rfl rfl (eff_assign (v := .own _ _ _ _) rfl rfl rfl) ?_
    refine RW.nil ?_
    refine awp_ret ?_
    have hln := left_none (fIx_neg.1 (by omega : fIx (fun x => confl x b) l < 0))
    rw [hln]
    refine ⟨Or.inr rfl, [_], [.own 0 (g + 1) 0 l.length], ⟨.tmp rfl, trivial⟩, rfl, Weak.trans (s1 := ⟨1, [(0, .own 0 g 0 l.length)], [(0, some ⟨5, 42, g, (l.map encB ++ List.replicate (l.length - l.length) z42).map .t⟩)]⟩) ?_ weak_bump, rfl⟩
    exact weak_keep ⟨rfl, rfl, trivial⟩ ⟨by simp [sget], okE_t, trivial⟩
  · refine awp_rw rfl ?_
    refine RW.op rfl rfl (eff_move (v := .t _) rfl rfl rfl) ?_
    refine RW.op rfl rfl (eff_iop (r := .bool false) rfl rfl rfl rfl (by exact congrArg (fun x => some (Tr.bool x)) (decide_eq_false hc1))) ?_
    refine RW.nil ?_
    refine awp_cond rfl (fun h => nomatch h) (fun _ => ?_)
    refine awp_skip ?_
    refine awp_seq ?_
    refine awp_seq ?_
    refine awp_rw rfl ?_
    have hne : ¬ fIx (fun x => confl x b) l < 0 := fun h => by have := fIx_none (fIx_neg.1 h); omega
    obtain ⟨i0, hi0, he0, hy0, hp0⟩ := fIx_nat hne
    rw [he0]
    refine RW.op rfl rfl (eff_move (v := .t _) rfl rfl rfl) ?_
    refine RW.op rfl rfl (eff_iop rfl rfl rfl rfl (iadd (by omega))) ?_
    refine RW.op rfl rfl (eff_assign (v := .t _) rfl rfl rfl) ?_
    refine RW.nil ?_
    refine awp_block ?_
    refine awp_loopW (fun m s => ∃ (i : Nat) (j : Nat) (L : List Bid), (DelL l b i j L) ∧ m = l.length - j ∧ s = ⟨42, [(0, .own 0 g 0 l.length), (1, .t (.fn 54 [.ptr (encB b).cells])), (5, .t (encI (i : Nat))), (6, .t (encI (j : Nat)))], [(0, some ⟨5, 42, g, (L.map encB).map .t⟩)]⟩) (_) (⟨_, weak_keep (n := 42) (fr' := [(0, .own 0 g 0 l.length), (1, .t (.fn 54 [.ptr (encB b).cells])), (5, .t (encI (i0 : Nat))), (6, .t (encI ((i0 + 1) : Nat)))]) (st' := [(0, some ⟨5, 42, g, (l.map encB).map .t⟩)]) ⟨rfl, rfl, rfl, rfl, rfl, rfl, rfl, rfl, trivial⟩ ⟨rfl, okE_t, trivial⟩, i0, i0 + 1, l, (by exact DelL.start hi0 hy0 hp0), rfl, rfl⟩) ?_
    rintro m s ⟨i, j, L, hD, rfl, rfl⟩
    have hDl := hD.len
    have hDj := hD.hj
    have hDi := hD.hij
    refine awp_seq ?_
    refine awp_seq ?_
    refine awp_rw rfl ?_
    refine RW.op rfl rfl (eff_move (v := .t _) rfl rfl rfl) ?_
    refine RW.op rfl rfl (eff_move (v := .own _ _ _ _) rfl rfl rfl) ?_
    refine RW.op rfl rfl (eff_len rfl rfl te23 rfl rfl rfl) ?_
    refine RW.op rfl rfl (eff_iop rfl rfl rfl rfl rfl) ?_
    refine RW.nil ?_
    refine awp_cond rfl (fun h2 => ?_) (fun h2 => ?_)
    · try simp only [decide_eq_true_eq, decide_eq_false_iff_not, beq_iff_eq, bne_iff_ne, bne_eq_false_iff_eq, beq_eq_false_iff_ne, Bool.not_eq_true, Bool.not_eq_false, Bool.not_eq_true', Bool.not_eq_false', ne_eq] at h2
      refine awp_skip ?_
      refine awp_seq ?_
      refine awp_block ?_
      refine awp_seq ?_
      refine awp_rw rfl ?_
      have hjl : j < l.length := by omega
      have hgj := hD.get hjl
      refine RW.op rfl rfl (eff_move (v := .own _ _ _ _) rfl rfl rfl) ?_
      refine RW.op rfl rfl (eff_move (v := .t _) rfl rfl rfl) ?_
      refine RW.op rfl rfl (eff_indexAddr (i := j) rfl rfl te23 rfl rfl (by first | rfl | omega) rfl rfl rfl (by omega)) ?_
      refine RW.op rfl rfl (eff_load (y := .t (encB (l[j]'hjl))) rfl rfl ti42 rfl (.whole rfl rfl (by rw [List.getElem?_map, List.getElem?_map, Nat.zero_add, hgj]; rfl) rfl rfl rfl)) ?_
      refine RW.new rfl rfl (eff_allocK (k := 5) (id := 7) rfl rfl tz42 rfl rfl) ?_
      refine RW.store rfl rfl (eff_storeW (v := .t _) (els := [_]) (els' := [_]) rfl rfl ti42 rfl rfl rfl rfl rfl rfl rfl rfl rfl) ?_
      refine RW.nil ?_
      refine awp_seq ?_
      refine awp_rw rfl ?_
      refine RW.op rfl rfl (eff_move (v := .t _) rfl rfl rfl) ?_
      refine RW.op rfl rfl (eff_load rfl rfl ti42 rfl (.whole rfl rfl rfl rfl rfl rfl)) ?_
      refine RW.op rfl rfl (eff_call (f := 54) (xs := [_]) (ys := [_]) (caps := [.ptr (encB b).cells]) rfl rfl rfl co54 rfl (WkL.cons (.refl _) .nil) (clash_ret _ b)) ?_
      refine RW.op rfl rfl (eff_unop rfl rfl rfl rfl) ?_
      refine RW.nil ?_
      refine awp_cond rfl (fun h3 => ?_) (fun h3 => ?_)
      · try simp only [decide_eq_true_eq, decide_eq_false_iff_not, beq_iff_eq, bne_iff_ne, bne_eq_false_iff_eq, beq_eq_false_iff_ne, Bool.not_eq_true, Bool.not_eq_false, Bool.not_eq_true', Bool.not_eq_false', ne_eq] at h3
        refine awp_seq ?_
        refine awp_rw rfl ?_
        refine RW.op rfl rfl (eff_move (v := .own _ _ _ _) rfl rfl rfl) ?_
        refine RW.op rfl rfl (eff_move (v := .t _) rfl rfl rfl) ?_
        refine RW.op rfl rfl (eff_load rfl rfl ti42 rfl (.whole rfl rfl rfl rfl rfl rfl)) ?_
        refine RW.op rfl rfl (eff_indexAddr rfl rfl te23 rfl rfl rfl rfl rfl rfl (by omega)) ?_
        refine RW.store rfl rfl (eff_storeW (v := .t (encB (l[j]'(by omega)))) (els' := ((L.set i (l[j]'(by omega))).map encB).map .t) rfl rfl ti42 rfl rfl rfl rfl rfl rfl (List.getElem?_eq_getElem (by simp; omega)) (by simp [encB, AV.cells, Tr.cells]) (by simp [List.map_set])) ?_
        refine RW.nil ?_
        refine awp_rw rfl ?_
        refine RW.op rfl rfl (eff_move (v := .t _) rfl rfl rfl) ?_
        refine RW.op rfl rfl (eff_iop rfl rfl rfl rfl (iadd (by omega))) ?_
        refine RW.op rfl rfl (eff_assign (v := .t _) rfl rfl rfl) ?_
        refine RW.nil ?_
        refine awp_rw rfl ?_
        refine RW.op rfl rfl (eff_move (v := .t _) rfl rfl rfl) ?_
        refine RW.op rfl rfl (eff_iop rfl rfl rfl rfl (iadd (by omega))) ?_
        refine RW.op rfl rfl (eff_assign (v := .t _) rfl rfl rfl) ?_
        refine RW.nil ?_
        exact ⟨_, (by omega : l.length - (j + 1) < l.length - j), _, weak_keep (n := 42) (fr' := [(0, .own 0 g 0 l.length), (1, .t (.fn 54 [.ptr (encB b).cells])), (5, .t (encI ((i + 1) : Nat))), (6, .t (encI ((j + 1 : Nat) : Nat)))]) (st' := [(0, some ⟨5, 42, g, ((L.set i (l[j]'(by omega))).map encB).map .t⟩)]) ⟨rfl, rfl, rfl, rfl, rfl, rfl, rfl, rfl, trivial⟩ ⟨rfl, okE_t, trivial⟩, (i + 1), j + 1, L.set i (l[j]'(by omega)), hD.keep (by omega) (by simpa using h3), rfl, rfl⟩
      · try simp only [decide_eq_true_eq, decide_eq_false_iff_not, beq_iff_eq, bne_iff_ne, bne_eq_false_iff_eq, beq_eq_false_iff_ne, Bool.not_eq_true, Bool.not_eq_false, Bool.not_eq_true', Bool.not_eq_false', ne_eq] at h3
        refine awp_skip ?_
        refine awp_rw rfl ?_
        refine RW.op rfl rfl (eff_move (v := .t _) rfl rfl rfl) ?_
        refine RW.op rfl rfl (eff_iop rfl rfl rfl rfl (iadd (by omega))) ?_
        refine RW.op rfl rfl (eff_assign (v := .t _) rfl rfl rfl) ?_
        refine RW.nil ?_
        exact ⟨_, (by omega : l.length - (j + 1) < l.length - j), _, weak_keep (n := 42) (fr' := [(0, .own 0 g 0 l.length), (1, .t (.fn 54 [.ptr (encB b).cells])), (5, .t (encI (i : Nat))), (6, .t (encI ((j + 1 : Nat) : Nat)))]) (st' := [(0, some ⟨5, 42, g, ((L).map encB).map .t⟩)]) ⟨rfl, rfl, rfl, rfl, rfl, rfl, rfl, rfl, trivial⟩ ⟨rfl, okE_t, trivial⟩, i, j + 1, L, hD.skip (by omega) (by simpa using h3), rfl, rfl⟩
    · try simp only [decide_eq_true_eq, decide_eq_false_iff_not, beq_iff_eq, bne_iff_ne, bne_eq_false_iff_eq, beq_eq_false_iff_ne, Bool.not_eq_true, Bool.not_eq_false, Bool.not_eq_true', Bool.not_eq_false', ne_eq] at h2
      refine awp_exit ?_
      refine awp_seq ?_
      refine awp_rw rfl ?_
      have hDl := hD.len
      have hDj := hD.hj
      have hDi := hD.hij
      obtain rfl : j = l.length := by omega
      obtain ⟨hie, hpe⟩ := hD.fin
      refine RW.op rfl rfl (eff_move (v := .own _ _ _ _) rfl rfl rfl) ?_
      refine RW.op rfl rfl (eff_move (v := .t _) rfl rfl rfl) ?_
      refine RW.op rfl rfl (eff_slice (l := some i) (h := none) rfl rfl te23 rfl rfl rfl rfl (.yes rfl rfl) .no (by simp; omega) (by simp; omega)) ?_
      refine RW.store rfl rfl (eff_clear (id := 0) rfl rfl te23 tz42 rfl (by decide) rfl rfl rfl rfl (by simp; omega)) ?_
      refine RW.nil ?_
      refine awp_seq ?_
      refine awp_rw rfl ?_
      refine RW.op rfl rfl (eff_move (v := .own _ _ _ _) rfl rfl rfl) ?_
      refine RW.op rfl rfl (eff_move (v := .t _) rfl rfl rfl) ?_
      refine RW.op rfl rfl (eff_slice (l := none) (h := some i) rfl rfl te23 rfl rfl rfl rfl .no (.yes rfl rfl) (Nat.zero_le _) (by simp; omega)) ?_
      refine RW.op rfl rfl (eff_assign (v := .own _ _ _ _) rfl rfl rfl) ?_
      refine RW.nil ?_
      refine awp_ret ?_
      refine ⟨Or.inr rfl, [_], [.own 0 (g + 1) 0 (leftOf l b).length], ⟨.tmp rfl, trivial⟩, rfl, Weak.trans (s1 := ⟨1, [(0, .own 0 g 0 (leftOf l b).length)], [(0, some ⟨5, 42, g, ((leftOf l b).map encB ++ List.replicate (l.length - (leftOf l b).length) z42).map .t⟩)]⟩) ?_ weak_bump, rfl⟩
      refine weak_keep ⟨(by show AV.own 0 g 0 _ = AV.own 0 g 0 (leftOf l b).length; rw [hie.symm]; rfl), rfl, trivial⟩ ⟨?_, okE_t, trivial⟩
      rw [hie.symm, ← hpe]
      simp [sget, List.map_take, hDl]
      omega

end Go.Tv.C35

end
section
open Go Go.Tv Go.Proofs
namespace Go.Tv.C35
set_option maxRecDepth 20000
set_option maxHeartbeats 2000000
set_option linter.unusedSimpArgs false
set_option linter.unusedVariables false
theorem OkL.sub {B C : List Bid} (h : OkL B) (hs : C.Sublist B) : OkL C := ⟨fun b hb => h.ok b (hs.subset hb), Nat.le_trans hs.length_le h.len, fun b hb => h.lim b (hs.subset hb)⟩
theorem OkL.at {B : List Bid} (h : OkL B) (s : Int) : OkL (atS B s) := h.sub List.filter_sublist
theorem OkL.left {B : List Bid} (h : OkL B) (b : Bid) : OkL (leftOf B b) := h.sub List.filter_sublist
theorem getD_zb {B : List Bid} {i : Nat} (hi : i < B.length) : B.getD i zb = B[i] := by simp [List.getD_eq_getElem?_getD, hi]
theorem go_skip {B op : List Bid} {s r : Int} {i : Nat} (hi : i < B.length) (h : B[i].station ≠ s ∨ B[i] ∉ op) : bestGo B s i op r = bestGo B s (i + 1) op r := by
  rw [bestGo, dif_pos hi, getD_zb hi, if_pos h]
theorem go_take {B op : List Bid} {s r : Int} {i : Nat} (hi : i < B.length) (h1 : B[i].station = s) (h2 : B[i] ∈ op) (h3 : B[i].val + optOf (leftOf op B[i]) = r) :
    bestGo B s i op r = i :: bestGo B s (i + 1) (leftOf op B[i]) (optOf (leftOf op B[i])) := by
  rw [bestGo, dif_pos hi, getD_zb hi, if_neg (fun h => h.elim (fun h => h h1) (fun h => h h2)), if_pos h3, show r - B[i].val = optOf (leftOf op B[i]) by omega]
theorem go_drop {B op : List Bid} {s r : Int} {i : Nat} (hi : i < B.length) (h1 : B[i].station = s) (h2 : B[i] ∈ op) (h3 : ¬ B[i].val + optOf (leftOf op B[i]) = r) :
    bestGo B s i op r = bestGo B s (i + 1) op r := by
  rw [bestGo, dif_pos hi, getD_zb hi, if_neg (fun h => h.elim (fun h => h h1) (fun h => h h2)), if_neg h3]
theorem go_end {B op : List Bid} {s r : Int} {i : Nat} (hi : ¬ i < B.length) : bestGo B s i op r = [] := by
  rw [bestGo, dif_neg hi]

theorem best_ret (B : List Bid) (sn : Int) (hB : OkL B) : Ret Try.prog 20 [.sl (B.map encB) false, encI sn] (.sl ((bestF B sn).map encN) false) := by
  have hBL : B.length ≤ 100000 := by have := hB.len; omega
  refine ret_of_awp Try.func20 rfl (Nat.le_of_ble_eq_true rfl) ?_
  refine awp_seq ?_
  refine awp_rw rfl ?_
  refine RW.op rfl rfl (eff_assign (v := .t _) rfl rfl rfl) ?_
  refine RW.nil ?_
  refine awp_seq ?_
  refine awp_rw rfl ?_
  refine RW.op rfl rfl (eff_assign (v := .t _) rfl rfl rfl) ?_
  refine RW.nil ?_
  show AWP _ _ _ _
  refine awp_weak (weak_adopt (d := 5) (id := 5) (k := 1) (ty := 3) rfl rfl) ?_
  refine awp_seq ?_
  refine awp_rw rfl ?_
  refine RW.op rfl rfl (eff_move (v := .t _) rfl rfl rfl) ?_
  refine RW.op rfl rfl (eff_move (v := .t _) rfl rfl rfl) ?_
  refine RW.op rfl rfl (eff_callT (at_ret B sn hBL) co49 rfl rfl rfl rfl) ?_
  refine RW.op rfl rfl (eff_assign (v := .t _) rfl rfl rfl) ?_
  refine RW.nil ?_
  refine awp_seq ?_
  refine awp_rw rfl ?_
  refine RW.op rfl rfl (eff_move (v := .t _) rfl rfl rfl) ?_
  refine RW.op rfl rfl (eff_callT (optimum_ret (atS B sn) (hB.at sn)) co50 rfl rfl rfl rfl) ?_
  refine RW.op rfl rfl (eff_assign (v := .t _) rfl rfl rfl) ?_
  refine RW.nil ?_
  refine awp_seq ?_
  refine awp_seq ?_
  refine awp_rw rfl ?_
  refine RW.op rfl rfl (eff_move (v := .t _) rfl rfl rfl) ?_
  refine RW.op rfl rfl (eff_lenM rfl rfl te23 rfl) ?_
  refine RW.op rfl rfl (eff_move (v := .t _) rfl rfl rfl) ?_
  refine RW.nil ?_
  refine awp_block ?_
  refine awp_loopW (fun m s => ∃ (i : Nat) (op : List Bid) (out : List Nat) (gn : Nat) (n : Nat) (els : List AV), (i ≤ B.length) ∧ (OkL op) ∧ (out.length ≤ i) ∧ (bestF B sn = out ++ bestGo B sn i op (optOf op)) ∧ (n = out.length) ∧ (els = (out.map encN).map .t) ∧ m = B.length - i ∧ s = ⟨55, [(0, .t (.sl (B.map encB) false)), (1, .t (encI sn)), (5, .own 5 gn 0 n), (6, .t (.sl (op.map encB) false)), (7, .t (encI (optOf op))), (16, .t (.sl (B.map encB) false)), (17, .t (encI B.length)), (18, .t (encI (i : Nat)))], [(5, some ⟨1, 3, gn, els⟩)]⟩) (_) (⟨_, weak_keep (n := 55) (fr' := [(0, .t (.sl (B.map encB) false)), (1, .t (encI sn)), (5, .own 5 0 0 0), (6, .t (.sl ((atS B sn).map encB) false)), (7, .t (encI (optOf (atS B sn)))), (16, .t (.sl (B.map encB) false)), (17, .t (encI B.length)), (18, .t (encI (0 : Nat)))]) (st' := [(5, some ⟨1, 3, 0, ([])⟩)]) ⟨rfl, rfl, rfl, rfl, rfl, rfl, rfl, rfl, rfl, rfl, rfl, rfl, rfl, rfl, rfl, rfl, trivial⟩ ⟨rfl, (by first | exact okE_nil | (rw [he]; exact okE_t) | (rw [he]; intro x hx; simp only [List.mem_append, List.mem_map, List.mem_singleton] at hx; rcases hx with ⟨y, _, rfl⟩ | rfl <;> rfl)), trivial⟩, 0, atS B sn, [], 0, 0, [], (by omega), (by exact hB.at sn), (by exact Nat.le_refl _), (by rfl), (by rfl), (by rfl), rfl, rfl⟩) ?_
  rintro m s ⟨i, op, out, gn, n, els, hi, hop, hol, hF, hnn, he, rfl, rfl⟩
  have hBl := hB.len
  have hor := hop.opt_range
  refine awp_seq ?_
  refine awp_rw rfl ?_
  refine RW.op rfl rfl (eff_iop rfl rfl rfl rfl rfl) ?_
  refine RW.nil ?_
  refine awp_seq ?_
  refine awp_cond rfl (fun h1 => ?_) (fun h1 => ?_)
  · try simp only [decide_eq_true_eq, decide_eq_false_iff_not, beq_iff_eq, bne_iff_ne, bne_eq_false_iff_eq, beq_eq_false_iff_ne, Bool.not_eq_true, Bool.not_eq_false, Bool.not_eq_true', Bool.not_eq_false', ne_eq] at h1
    refine awp_skip ?_
    refine awp_seq ?_
    refine awp_block ?_
    refine awp_seq ?_
    refine awp_rw rfl ?_
    have hil : i < B.length := by omega
    have hok := hop.left (B[i]'hil)
    have hlr := hok.opt_range
    have hvb := hB.lim _ (List.getElem_mem hil)
    have hvo := (hB.ok _ (List.getElem_mem hil)).2
    refine RW.op rfl rfl (eff_move (v := .t _) rfl rfl rfl) ?_
    refine RW.op rfl rfl (eff_indexAddrT (i := i) rfl rfl te23 rfl rfl (by first | rfl | omega) (by rw [List.getElem?_map, List.getElem?_eq_getElem hil]; rfl) rfl (by decide)) ?_
    refine RW.op rfl rfl (eff_loadW rfl rfl ti42 rfl rfl rfl) ?_
    refine RW.new rfl rfl (eff_allocK (k := 5) (id := 9) rfl rfl tz42 rfl rfl) ?_
    refine RW.op rfl rfl (eff_assign (v := .t _) rfl rfl rfl) ?_
    refine RW.store rfl rfl (eff_storeW (v := .t _) (els := [_]) (els' := [_]) rfl rfl ti42 rfl rfl rfl rfl rfl rfl rfl rfl rfl) ?_
    refine RW.nil ?_
    show AWP _ _ _ _
    refine awp_weak (weak_frz (n := 55) (fr' := [(0, .t (.sl (B.map encB) false)), (1, .t (encI sn)), (5, .own 5 gn 0 n), (6, .t (.sl (op.map encB) false)), (7, .t (encI (optOf op))), (16, .t (.sl (B.map encB) false)), (17, .t (encI B.length)), (18, .t (encI (i : Nat))), (8, .t (encI (i : Nat))), (9, (.t (.ptr (encB (B[i]'hil)).cells)))]) (st' := [(5, some ⟨1, 3, gn, els⟩)]) [(9, some ⟨5, 42, 0, [.t (encB (B[i]'hil))]⟩)] ⟨rfl, trivial⟩ ⟨rfl, trivial⟩ ⟨wa_eq rfl rfl, wa_eq rfl rfl, wa_eq rfl rfl, wa_eq rfl rfl, wa_eq rfl rfl, wa_eq rfl rfl, wa_eq rfl rfl, wa_eq rfl rfl, wa_eq rfl rfl, .res (Res.ptrT (x := encB (B[i]'hil)) rfl rfl rfl) (.refl _), trivial⟩ ⟨rfl, (by first | exact okE_nil | (rw [he]; exact okE_t) | (rw [he]; intro x hx; simp only [List.mem_append, List.mem_map, List.mem_singleton] at hx; rcases hx with ⟨y, _, rfl⟩ | rfl <;> rfl)), trivial⟩) ?_
    refine awp_seq ?_
    refine awp_seq ?_
    refine awp_rw rfl ?_
    refine RW.op rfl rfl (eff_fieldAddrT rfl rfl tf42_1 (by decide) rfl) ?_
    refine RW.op rfl rfl (eff_loadT1 rfl rfl ti3 rfl rfl) ?_
    refine RW.op rfl rfl (eff_move (v := .t _) rfl rfl rfl) ?_
    refine RW.op rfl rfl (eff_iop rfl rfl rfl rfl rfl) ?_
    refine RW.op rfl rfl (eff_move (v := .t _) rfl rfl rfl) ?_
    refine RW.split 27 rfl (fun h2 => ?_) (fun h2 => ?_)
    · try simp only [decide_eq_true_eq, decide_eq_false_iff_not, beq_iff_eq, bne_iff_ne, bne_eq_false_iff_eq, beq_eq_false_iff_ne, Bool.not_eq_true, Bool.not_eq_false, Bool.not_eq_true', Bool.not_eq_false', ne_eq] at h2
      refine RW.gskip rfl rfl rfl rfl rfl (by decide) ?_
      refine RW.gskip rfl rfl rfl rfl rfl (by decide) ?_
      refine RW.gskip rfl rfl rfl rfl rfl (by decide) ?_
      refine RW.gskip rfl rfl rfl rfl rfl (by decide) ?_
      refine RW.op rfl rfl (eff_pick (v := .t _) rfl rfl rfl rfl) ?_
      refine RW.nil ?_
      refine awp_cond rfl (fun _ => ?_) (fun h => nomatch h)
      refine awp_exit ?_
      refine awp_rw rfl ?_
      refine RW.op rfl rfl (eff_iop rfl rfl rfl rfl (iadd (by omega))) ?_
      refine RW.op rfl rfl (eff_move (v := .t _) rfl rfl rfl) ?_
      refine RW.nil ?_
      (refine ⟨_, ?_, _, weak_keep (n := 55) (fr' := [(0, .t (.sl (B.map encB) false)), (1, .t (encI sn)), (5, .own 5 _ 0 _), (6, .t (.sl (op.map encB) false)), (7, .t (encI (optOf op))), (16, .t (.sl (B.map encB) false)), (17, .t (encI B.length)), (18, .t (encI ((i + 1) : Nat)))]) (st' := [(5, some ⟨1, 3, _, _⟩)]) ⟨rfl, rfl, rfl, rfl, rfl, rfl, rfl, rfl, rfl, rfl, rfl, rfl, rfl, rfl, rfl, rfl, trivial⟩ ⟨rfl, (by first | exact okE_nil | (rw [he]; exact okE_t) | (rw [he]; intro x hx; simp only [List.mem_append, List.mem_map, List.mem_singleton] at hx; rcases hx with ⟨y, _, rfl⟩ | rfl <;> rfl)), trivial⟩, i + 1, op, out, _, _, _, (by omega), (by exact hop), (by omega), (by rw [hF, go_skip hil (by first | exact .inl (by assumption) | exact .inr (by assumption))]), (by exact hnn), (by exact he), rfl, rfl⟩; omega)
    · try simp only [decide_eq_true_eq, decide_eq_false_iff_not, beq_iff_eq, bne_iff_ne, bne_eq_false_iff_eq, beq_eq_false_iff_ne, Bool.not_eq_true, Bool.not_eq_false, Bool.not_eq_true', Bool.not_eq_false', ne_eq] at h2
      refine RW.gop rfl rfl rfl rfl rfl rfl (eff_move (v := .t _) rfl rfl rfl) ?_
      refine RW.gop rfl rfl rfl rfl rfl rfl (eff_loadW rfl rfl ti42 rfl rfl rfl) ?_
      refine RW.gop rfl rfl rfl rfl rfl rfl (eff_callT (containsB_ret op (B[i]'hil) (by have := hop.len; omega)) co51 rfl rfl rfl rfl) ?_
      refine RW.gop rfl rfl rfl rfl rfl rfl (eff_unop rfl rfl rfl rfl) ?_
      refine RW.op rfl rfl (eff_pick (v := .t _) rfl rfl rfl rfl) ?_
      refine RW.nil ?_
      refine awp_cond rfl (fun h3 => ?_) (fun h3 => ?_)
      · try simp only [decide_eq_true_eq, decide_eq_false_iff_not, beq_iff_eq, bne_iff_ne, bne_eq_false_iff_eq, beq_eq_false_iff_ne, Bool.not_eq_true, Bool.not_eq_false, Bool.not_eq_true', Bool.not_eq_false', ne_eq] at h3
        refine awp_exit ?_
        refine awp_rw rfl ?_
        refine RW.op rfl rfl (eff_iop rfl rfl rfl rfl (iadd (by omega))) ?_
        refine RW.op rfl rfl (eff_move (v := .t _) rfl rfl rfl) ?_
        refine RW.nil ?_
        (refine ⟨_, ?_, _, weak_keep (n := 55) (fr' := [(0, .t (.sl (B.map encB) false)), (1, .t (encI sn)), (5, .own 5 _ 0 _), (6, .t (.sl (op.map encB) false)), (7, .t (encI (optOf op))), (16, .t (.sl (B.map encB) false)), (17, .t (encI B.length)), (18, .t (encI ((i + 1) : Nat)))]) (st' := [(5, some ⟨1, 3, _, _⟩)]) ⟨rfl, rfl, rfl, rfl, rfl, rfl, rfl, rfl, rfl, rfl, rfl, rfl, rfl, rfl, rfl, rfl, trivial⟩ ⟨rfl, (by first | exact okE_nil | (rw [he]; exact okE_t) | (rw [he]; intro x hx; simp only [List.mem_append, List.mem_map, List.mem_singleton] at hx; rcases hx with ⟨y, _, rfl⟩ | rfl <;> rfl)), trivial⟩, i + 1, op, out, _, _, _, (by omega), (by exact hop), (by omega), (by rw [hF, go_skip hil (by first | exact .inl (by assumption) | exact .inr (by assumption))]), (by exact hnn), (by exact he), rfl, rfl⟩; omega)
      · try simp only [decide_eq_true_eq, decide_eq_false_iff_not, beq_iff_eq, bne_iff_ne, bne_eq_false_iff_eq, beq_eq_false_iff_ne, Bool.not_eq_true, Bool.not_eq_false, Bool.not_eq_true', Bool.not_eq_false', ne_eq] at h3
        refine awp_skip ?_
        refine awp_seq ?_
        refine awp_rw rfl ?_
        refine RW.op rfl rfl (eff_move (v := .t _) rfl rfl rfl) ?_
        refine RW.new rfl rfl (eff_callG (clone_retG op (by have := hop.len; omega)) co53 (fun id => id + 29) rfl rfl rfl ⟨.t _, trivial⟩ (.own _ _ _ _ rfl rfl) rfl trivial ⟨⟨treeEls_t, .inr rfl⟩, trivial⟩) ?_
        refine RW.op rfl rfl (eff_makeFunc rfl rfl rfl rfl) ?_
        refine RW.new rfl rfl (eff_callG (del_retG op 1 (B[i]'hil) (by have := hop.len; omega)) co52 (fun id => id + 34) rfl rfl rfl ⟨.own _ _ _ _ rfl rfl, .t _, trivial⟩ (.own _ _ _ _ rfl rfl) rfl ⟨⟨rfl, treeEls_t, ⟨_, rfl, Nat.lt_succ_self _⟩⟩, trivial⟩ ⟨⟨treeEls_t, .inl rfl⟩, trivial⟩) ?_
        refine RW.op rfl rfl (eff_assign (v := .own _ _ _ _) rfl rfl rfl) ?_
        refine RW.nil ?_
        show AWP _ _ _ _
        refine awp_weak (weak_frz (n := 55) (fr' := [(0, .t (.sl (B.map encB) false)), (1, .t (encI sn)), (5, .own 5 gn 0 n), (6, .t (.sl (op.map encB) false)), (7, .t (encI (optOf op))), (16, .t (.sl (B.map encB) false)), (17, .t (encI B.length)), (18, .t (encI (i : Nat))), (8, .t (encI (i : Nat))), (9, (.t (.ptr (encB (B[i]'hil)).cells))), (10, (.t (.sl ((leftOf op (B[i]'hil)).map encB) false)))]) (st' := [(5, some ⟨1, 3, gn, els⟩)]) [(34, some ⟨5, 42, 2, ((leftOf op (B[i]'hil)).map encB ++ List.replicate (op.length - (leftOf op (B[i]'hil)).length) z42).map .t⟩)] ⟨rfl, trivial⟩ ⟨rfl, trivial⟩ ⟨wa_eq rfl rfl, wa_eq rfl rfl, wa_eq rfl rfl, wa_eq rfl rfl, wa_eq rfl rfl, wa_eq rfl rfl, wa_eq rfl rfl, wa_eq rfl rfl, wa_eq rfl rfl, wa_eq rfl rfl, (.res (Res.ownPre (xs := (leftOf op (B[i]'hil)).map encB) ((List.replicate (op.length - (leftOf op (B[i]'hil)).length) z42).map .t) rfl rfl (List.map_append ..) (by simp)) (.refl _)), trivial⟩ ⟨rfl, (by first | exact okE_nil | (rw [he]; exact okE_t) | (rw [he]; intro x hx; simp only [List.mem_append, List.mem_map, List.mem_singleton] at hx; rcases hx with ⟨y, _, rfl⟩ | rfl <;> rfl)), trivial⟩) ?_
        refine awp_seq ?_
        refine awp_rd [(some 37, []), (some 38, []), (some 39, []), (some 40, []), (some 41, []), (some 42, []), (some 43, [])] [[], [0], [], [2], [0, 1, 2, 3], [], [0, 1, 2, 3, 4, 5]] tm rfl rfl rfl rfl ?_
        refine RD.op rfl rfl rfl (eff_fieldAddrT rfl rfl tf42_4 (by decide) rfl) ?_
        refine RD.op rfl rfl rfl (eff_loadT1 rfl rfl ti3 rfl rfl) ?_
        refine RD.op rfl rfl rfl (eff_move (v := .t _) rfl rfl rfl) ?_
        refine RD.op rfl rfl rfl (eff_callT (optimum_ret (leftOf op (B[i]'hil)) hok) co50 rfl rfl rfl rfl) ?_
        refine RD.op rfl rfl rfl (eff_iop rfl rfl rfl rfl (iadd (by omega))) ?_
        refine RD.op rfl rfl rfl (eff_move (v := .t _) rfl rfl rfl) ?_
        refine RD.op rfl rfl rfl (eff_iop rfl rfl rfl rfl rfl) ?_
        refine RD.nil ?_
        refine awp_cond rfl (fun h4 => ?_) (fun h4 => ?_)
        · try simp only [decide_eq_true_eq, decide_eq_false_iff_not, beq_iff_eq, bne_iff_ne, bne_eq_false_iff_eq, beq_eq_false_iff_ne, Bool.not_eq_true, Bool.not_eq_false, Bool.not_eq_true', Bool.not_eq_false', ne_eq] at h4
          refine awp_seq ?_
          refine awp_rw rfl ?_
          refine RW.op rfl rfl (eff_move (v := .own _ _ _ _) rfl rfl rfl) ?_
          refine RW.op rfl rfl (eff_move (v := .t _) rfl rfl rfl) ?_
          refine RW.new rfl rfl (eff_buildSlice1 (id := 46) (els := [_]) rfl rfl te22 tz3 rfl (by decide) rfl rfl rfl rfl) ?_
          refine RW.new rfl rfl (eff_append (id := 5) (ys := [_]) rfl rfl ta22 rfl rfl rfl (by rw [he, hnn]; simp) rfl rfl (srcOwn rfl rfl rfl rfl rfl rfl) (by simp) (by simp; omega) (by simp; omega)) ?_
          refine RW.op rfl rfl (eff_assign (v := .own _ _ _ _) rfl rfl rfl) ?_
          refine RW.nil ?_
          refine awp_seq ?_
          refine awp_rw rfl ?_
          refine RW.op rfl rfl (eff_move (v := .t _) rfl rfl rfl) ?_
          refine RW.op rfl rfl (eff_fieldAddrT rfl rfl tf42_4 (by decide) rfl) ?_
          refine RW.op rfl rfl (eff_loadT1 rfl rfl ti3 rfl rfl) ?_
          refine RW.op rfl rfl (eff_iop (r := encI (optOf (leftOf op (B[i]'hil)))) rfl rfl rfl rfl ((isub (by omega)).trans (congrArg (fun n => some (Tr.int .i64 n)) (by omega)))) ?_
          refine RW.op rfl rfl (eff_assign (v := .t _) rfl rfl rfl) ?_
          refine RW.nil ?_
          refine awp_rw rfl ?_
          refine RW.op rfl rfl (eff_move (v := .t _) rfl rfl rfl) ?_
          refine RW.op rfl rfl (eff_assign (v := .t _) rfl rfl rfl) ?_
          refine RW.nil ?_
          refine awp_rw rfl ?_
          refine RW.op rfl rfl (eff_iop rfl rfl rfl rfl (iadd (by omega))) ?_
          refine RW.op rfl rfl (eff_move (v := .t _) rfl rfl rfl) ?_
          refine RW.nil ?_
          (refine ⟨_, ?_, _, weak_keep (n := 55) (fr' := [(0, .t (.sl (B.map encB) false)), (1, .t (encI sn)), (5, .own 5 _ 0 _), (6, .t (.sl (((leftOf op (B[i]'hil))).map encB) false)), (7, .t (encI (optOf ((leftOf op (B[i]'hil)))))), (16, .t (.sl (B.map encB) false)), (17, .t (encI B.length)), (18, .t (encI ((i + 1) : Nat)))]) (st' := [(5, some ⟨1, 3, _, _⟩)]) ⟨rfl, rfl, rfl, rfl, rfl, rfl, rfl, rfl, rfl, rfl, rfl, rfl, rfl, rfl, rfl, rfl, trivial⟩ ⟨rfl, (by first | exact okE_nil | (rw [he]; exact okE_t) | (rw [he]; intro x hx; simp only [List.mem_append, List.mem_map, List.mem_singleton] at hx; rcases hx with ⟨y, _, rfl⟩ | rfl <;> rfl)), trivial⟩, i + 1, (leftOf op (B[i]'hil)), (out ++ [i]), _, _, _, (by omega), (by exact hok), (by rw [List.length_append]; simp; omega), (by rw [hF, go_take hil (by first | assumption | (simp only [Classical.not_not] at *; assumption)) (by assumption) (by assumption)]; simp), (by rw [hnn]; simp; done), (by rw [he]; simp <;> rfl), rfl, rfl⟩; omega)
        · try simp only [decide_eq_true_eq, decide_eq_false_iff_not, beq_iff_eq, bne_iff_ne, bne_eq_false_iff_eq, beq_eq_false_iff_ne, Bool.not_eq_true, Bool.not_eq_false, Bool.not_eq_true', Bool.not_eq_false', ne_eq] at h4
          refine awp_skip ?_
          refine awp_rw rfl ?_
          refine RW.op rfl rfl (eff_iop rfl rfl rfl rfl (iadd (by omega))) ?_
          refine RW.op rfl rfl (eff_move (v := .t _) rfl rfl rfl) ?_
          refine RW.nil ?_
          (refine ⟨_, ?_, _, weak_keep (n := 55) (fr' := [(0, .t (.sl (B.map encB) false)), (1, .t (encI sn)), (5, .own 5 _ 0 _), (6, .t (.sl (op.map encB) false)), (7, .t (encI (optOf op))), (16, .t (.sl (B.map encB) false)), (17, .t (encI B.length)), (18, .t (encI ((i + 1) : Nat)))]) (st' := [(5, some ⟨1, 3, _, _⟩)]) ⟨rfl, rfl, rfl, rfl, rfl, rfl, rfl, rfl, rfl, rfl, rfl, rfl, rfl, rfl, rfl, rfl, trivial⟩ ⟨rfl, (by first | exact okE_nil | (rw [he]; exact okE_t) | (rw [he]; intro x hx; simp only [List.mem_append, List.mem_map, List.mem_singleton] at hx; rcases hx with ⟨y, _, rfl⟩ | rfl <;> rfl)), trivial⟩, i + 1, op, out, _, _, _, (by omega), (by exact hop), (by omega), (by rw [hF, go_drop hil (by first | assumption | (simp only [Classical.not_not] at *; assumption)) (by assumption) (by assumption)]), (by exact hnn), (by exact he), rfl, rfl⟩; omega)
  · try simp only [decide_eq_true_eq, decide_eq_false_iff_not, beq_iff_eq, bne_iff_ne, bne_eq_false_iff_eq, beq_eq_false_iff_ne, Bool.not_eq_true, Bool.not_eq_false, Bool.not_eq_true', Bool.not_eq_false', ne_eq] at h1
    refine awp_exit ?_
    refine awp_seq ?_
    refine awp_rw rfl ?_
    refine RW.op rfl rfl (eff_move (v := .own _ _ _ _) rfl rfl rfl) ?_
    refine RW.op rfl rfl (eff_assign (v := .own _ _ _ _) rfl rfl rfl) ?_
    refine RW.nil ?_
    refine awp_ret ?_
    have hFe := hF
    rw [go_end (by omega), List.append_nil] at hFe
    rw [hFe]
    exact ⟨Or.inr rfl, [_], ⟨.tmp (Res.ownT (xs := out.map encN) rfl rfl he (by rw [hnn]; simp)), trivial⟩, .refl _⟩

end Go.Tv.C35

end
section
open Go Go.Tv Go.Proofs
namespace Go.Tv.C35
set_option maxRecDepth 20000
set_option maxHeartbeats 2000000
set_option linter.unusedSimpArgs false
set_option linter.unusedVariables false
def toI (l : List Nat) : List Int := l.map fun n : Nat => (n : Int)
theorem encN_map (l : List Nat) : l.map encN = (toI l).map encI := by unfold toI; rw [List.map_map]; rfl
theorem toI_len (l : List Nat) : (toI l).length = l.length := by simp [toI]
theorem best_reti (B : List Bid) (sn : Int) (hB : OkL B) : Ret Try.prog 20 [.sl (B.map encB) false, encI sn] (.sl ((toI (bestF B sn)).map encI) false) := by
  have h := best_ret B sn hB
  rw [encN_map] at h
  exact h
def at1 (B : List Bid) (i : Int) : Int := if 0 ≤ i ∧ i < B.length then (B.getD i.toNat zb).val else 0
/-- The value of some indices. -/
def valZ (B : List Bid) : List Int → Int
  | [] => 0
  | i :: l => at1 B i + valZ B l
theorem valZ_append (B : List Bid) : ∀ (l m : List Int), valZ B (l ++ m) = valZ B l + valZ B m
  | [], m => by simp [valZ]
  | i :: l, m => by simp only [List.cons_append, valZ, valZ_append B l m]; omega
theorem valZ_take {B : List Bid} {l : List Int} {i : Nat} (h : i < l.length) : valZ B (l.take (i + 1)) = valZ B (l.take i) + at1 B l[i] := by
  rw [take_succ_get h, valZ_append]; simp [valZ]
theorem at1_range {B : List Bid} (h : ∀ b, b ∈ B → 0 ≤ b.val ∧ b.val ≤ 1000000) (i : Int) : 0 ≤ at1 B i ∧ at1 B i ≤ 1000000 := by
  unfold at1
  split
  · rename_i hi
    have hl : i.toNat < B.length := by omega
    rw [getD_zb hl]
    exact h _ (List.getElem_mem hl)
  · omega
theorem valZ_range {B : List Bid} (h : ∀ b, b ∈ B → 0 ≤ b.val ∧ b.val ≤ 1000000) : ∀ l : List Int, 0 ≤ valZ B l ∧ valZ B l ≤ 1000000 * l.length
  | [] => by simp [valZ]
  | i :: l => by
    have h1 := at1_range h i
    have h2 := valZ_range h l
    simp only [valZ, List.length_cons]
    omega
/-- Compatible indices (the specification). -/
def compZ (B : List Bid) (s : Int) (l : List Int) : Prop := (∀ i, i ∈ l → 0 ≤ i ∧ i < B.length ∧ (B.getD i.toNat zb).station = s) ∧ l.Pairwise fun a b => a ≠ b ∧ confl (B.getD a.toNat zb) (B.getD b.toNat zb) = false
instance (B : List Bid) (s : Int) (l : List Int) : Decidable (compZ B s l) := by unfold compZ; exact inferInstance
theorem value_ret (B : List Bid) (l : List Int) (hB : ∀ b, b ∈ B → 0 ≤ b.val ∧ b.val ≤ 1000000) (hBl : B.length ≤ 100000) (hl : l.length ≤ 100000) : Ret Try.prog 22 [.sl (B.map encB) false, .sl (l.map encI) false] (encI (valZ B l)) := by
  refine ret_of_awp Try.func22 rfl (Nat.le_of_ble_eq_true rfl) ?_
  refine awp_seq ?_
  refine awp_rw rfl ?_
  refine RW.op rfl rfl (eff_assign (v := .t _) rfl rfl rfl) ?_
  refine RW.nil ?_
  refine awp_seq ?_
  refine awp_rw rfl ?_
  refine RW.op rfl rfl (eff_assign (v := .t _) rfl rfl rfl) ?_
  refine RW.nil ?_
  refine awp_seq ?_
  refine awp_seq ?_
  refine awp_rw rfl ?_
  refine RW.op rfl rfl (eff_move (v := .t _) rfl rfl rfl) ?_
  refine RW.op rfl rfl (eff_lenM rfl rfl te22 rfl) ?_
  refine RW.op rfl rfl (eff_move (v := .t _) rfl rfl rfl) ?_
  refine RW.nil ?_
  refine awp_block ?_
  refine awp_loopW (fun m s => ∃ (i : Nat), (i ≤ l.length) ∧ m = l.length - i ∧ s = ⟨31, [(0, .t (.sl (B.map encB) false)), (8, .t (.sl (l.map encI) false)), (9, .t (encI l.length)), (10, .t (encI (i : Nat))), (5, .t (encI (valZ B (l.take i))))], []⟩) (_) (⟨_, weak_keep (n := 31) (fr' := [(0, .t (.sl (B.map encB) false)), (8, .t (.sl (l.map encI) false)), (9, .t (encI l.length)), (10, .t (encI (0 : Nat))), (5, .t (encI (valZ B (l.take 0))))]) (st' := []) ⟨rfl, rfl, rfl, rfl, rfl, rfl, rfl, rfl, rfl, rfl, trivial⟩ trivial, 0, (by omega), rfl, rfl⟩) ?_
  rintro m s ⟨i, hi, rfl, rfl⟩
  have hvr := valZ_range hB (l.take i)
  rw [List.length_take] at hvr
  refine awp_seq ?_
  refine awp_rw rfl ?_
  refine RW.op rfl rfl (eff_iop rfl rfl rfl rfl rfl) ?_
  refine RW.nil ?_
  refine awp_seq ?_
  refine awp_cond rfl (fun h1 => ?_) (fun h1 => ?_)
  · try simp only [decide_eq_true_eq, decide_eq_false_iff_not, beq_iff_eq, bne_iff_ne, bne_eq_false_iff_eq, beq_eq_false_iff_ne, Bool.not_eq_true, Bool.not_eq_false, Bool.not_eq_true', Bool.not_eq_false', ne_eq] at h1
    refine awp_skip ?_
    refine awp_seq ?_
    refine awp_block ?_
    refine awp_seq ?_
    refine awp_rw rfl ?_
    have hil : i < l.length := by omega
    refine RW.op rfl rfl (eff_indexAddrT (i := i) rfl rfl te22 rfl rfl (by first | rfl | omega) (by exact (List.getElem?_map ..).trans (by rw [List.getElem?_eq_getElem hil]; rfl)) rfl (by decide)) ?_
    refine RW.op rfl rfl (eff_loadW1 rfl rfl ti3 rfl rfl) ?_
    refine RW.op rfl rfl (eff_assign (v := .t _) rfl rfl rfl) ?_
    refine RW.nil ?_
    refine awp_seq ?_
    refine awp_rw rfl ?_
    refine RW.op rfl rfl (eff_move (v := .t _) rfl rfl rfl) ?_
    refine RW.op rfl rfl (eff_iop rfl rfl rfl rfl rfl) ?_
    refine RW.op rfl rfl (eff_move (v := .t _) rfl rfl rfl) ?_
    refine RW.split 16 rfl (fun h2 => ?_) (fun h2 => ?_)
    · try simp only [decide_eq_true_eq, decide_eq_false_iff_not, beq_iff_eq, bne_iff_ne, bne_eq_false_iff_eq, beq_eq_false_iff_ne, Bool.not_eq_true, Bool.not_eq_false, Bool.not_eq_true', Bool.not_eq_false', ne_eq] at h2
      refine RW.gop rfl rfl rfl rfl rfl rfl (eff_move (v := .t _) rfl rfl rfl) ?_
      refine RW.gop rfl rfl rfl rfl rfl rfl (eff_move (v := .t _) rfl rfl rfl) ?_
      refine RW.gop rfl rfl rfl rfl rfl rfl (eff_lenM rfl rfl te23 rfl) ?_
      refine RW.gop rfl rfl rfl rfl rfl rfl (eff_iop rfl rfl rfl rfl rfl) ?_
      refine RW.op rfl rfl (eff_pick (v := .t _) rfl rfl rfl rfl) ?_
      refine RW.nil ?_
      refine awp_cond rfl (fun h3 => ?_) (fun h3 => ?_)
      · try simp only [decide_eq_true_eq, decide_eq_false_iff_not, beq_iff_eq, bne_iff_ne, bne_eq_false_iff_eq, beq_eq_false_iff_ne, Bool.not_eq_true, Bool.not_eq_false, Bool.not_eq_true', Bool.not_eq_false', ne_eq] at h3
        refine awp_rw rfl ?_
        have hlz : (l[i]'hil).toNat < B.length := by omega
        have hvz := hB _ (List.getElem_mem hlz)
        refine RW.op rfl rfl (eff_move (v := .t _) rfl rfl rfl) ?_
        refine RW.op rfl rfl (eff_move (v := .t _) rfl rfl rfl) ?_
        refine RW.op rfl rfl (eff_move (v := .t _) rfl rfl rfl) ?_
        refine RW.op rfl rfl (eff_indexAddrT (i := (l[i]'hil).toNat) rfl rfl te23 rfl rfl (by first | rfl | omega) (by rw [List.getElem?_map, List.getElem?_eq_getElem (by omega)]; rfl) rfl (by decide)) ?_
        refine RW.op rfl rfl (eff_fieldAddrT rfl rfl tf42_4 (by decide) rfl) ?_
        refine RW.op rfl rfl (eff_loadT1 rfl rfl ti3 rfl rfl) ?_
        refine RW.op rfl rfl (eff_iop rfl rfl rfl rfl (iadd (by omega))) ?_
        refine RW.op rfl rfl (eff_assign (v := .t _) rfl rfl rfl) ?_
        refine RW.nil ?_
        refine awp_rw rfl ?_
        refine RW.op rfl rfl (eff_iop rfl rfl rfl rfl (iadd (by omega))) ?_
        refine RW.op rfl rfl (eff_move (v := .t _) rfl rfl rfl) ?_
        refine RW.nil ?_
        refine ⟨_, ?_, _, weak_keep (n := 31) (fr' := [(0, .t (.sl (B.map encB) false)), (8, .t (.sl (l.map encI) false)), (9, .t (encI l.length)), (10, .t (encI ((i + 1) : Nat))), (5, .t (encI (valZ B (l.take (i + 1)))))]) (st' := []) ⟨rfl, rfl, rfl, rfl, rfl, rfl, rfl, rfl, (by first | rfl | (show AV.t (encI _) = AV.t (encI (valZ B (l.take (i + 1)))); rw [valZ_take (B := B) (l := l) (i := i) hil]; unfold at1; first | (rw [if_pos (show 0 ≤ l[i] ∧ l[i] < B.length from ⟨by omega, by omega⟩), getD_zb hlz]; done) | (rw [if_neg (show ¬ (0 ≤ l[i] ∧ l[i] < B.length) from fun hh => by omega), Int.add_zero]))), rfl, trivial⟩ trivial, i + 1, by omega, rfl, rfl⟩
        omega
      · try simp only [decide_eq_true_eq, decide_eq_false_iff_not, beq_iff_eq, bne_iff_ne, bne_eq_false_iff_eq, beq_eq_false_iff_ne, Bool.not_eq_true, Bool.not_eq_false, Bool.not_eq_true', Bool.not_eq_false', ne_eq] at h3
        refine awp_skip ?_
        refine awp_rw rfl ?_
        refine RW.op rfl rfl (eff_iop rfl rfl rfl rfl (iadd (by omega))) ?_
        refine RW.op rfl rfl (eff_move (v := .t _) rfl rfl rfl) ?_
        refine RW.nil ?_
        refine ⟨_, ?_, _, weak_keep (n := 31) (fr' := [(0, .t (.sl (B.map encB) false)), (8, .t (.sl (l.map encI) false)), (9, .t (encI l.length)), (10, .t (encI ((i + 1) : Nat))), (5, .t (encI (valZ B (l.take (i + 1)))))]) (st' := []) ⟨rfl, rfl, rfl, rfl, rfl, rfl, rfl, rfl, (by first | rfl | (show AV.t (encI _) = AV.t (encI (valZ B (l.take (i + 1)))); rw [valZ_take (B := B) (l := l) (i := i) hil]; unfold at1; first | (rw [if_pos (show 0 ≤ l[i] ∧ l[i] < B.length from ⟨by omega, by omega⟩), getD_zb hlz]; done) | (rw [if_neg (show ¬ (0 ≤ l[i] ∧ l[i] < B.length) from fun hh => by omega), Int.add_zero]))), rfl, trivial⟩ trivial, i + 1, by omega, rfl, rfl⟩
        omega
    · try simp only [decide_eq_true_eq, decide_eq_false_iff_not, beq_iff_eq, bne_iff_ne, bne_eq_false_iff_eq, beq_eq_false_iff_ne, Bool.not_eq_true, Bool.not_eq_false, Bool.not_eq_true', Bool.not_eq_false', ne_eq] at h2
      refine RW.gskip rfl rfl rfl rfl rfl (by decide) ?_
      refine RW.gskip rfl rfl rfl rfl rfl (by decide) ?_
      refine RW.gskip rfl rfl rfl rfl rfl (by decide) ?_
      refine RW.gskip rfl rfl rfl rfl rfl (by decide) ?_
      refine RW.op rfl rfl (eff_pick (v := .t _) rfl rfl rfl rfl) ?_
      refine RW.nil ?_
      refine awp_cond rfl (fun h => nomatch h) (fun _ => ?_)
      refine awp_skip ?_
      refine awp_rw rfl ?_
      refine RW.op rfl rfl (eff_iop rfl rfl rfl rfl (iadd (by omega))) ?_
      refine RW.op rfl rfl (eff_move (v := .t _) rfl rfl rfl) ?_
      refine RW.nil ?_
      refine ⟨_, ?_, _, weak_keep (n := 31) (fr' := [(0, .t (.sl (B.map encB) false)), (8, .t (.sl (l.map encI) false)), (9, .t (encI l.length)), (10, .t (encI ((i + 1) : Nat))), (5, .t (encI (valZ B (l.take (i + 1)))))]) (st' := []) ⟨rfl, rfl, rfl, rfl, rfl, rfl, rfl, rfl, (by first | rfl | (show AV.t (encI _) = AV.t (encI (valZ B (l.take (i + 1)))); rw [valZ_take (B := B) (l := l) (i := i) hil]; unfold at1; first | (rw [if_pos (show 0 ≤ l[i] ∧ l[i] < B.length from ⟨by omega, by omega⟩), getD_zb hlz]; done) | (rw [if_neg (show ¬ (0 ≤ l[i] ∧ l[i] < B.length) from fun hh => by omega), Int.add_zero]))), rfl, trivial⟩ trivial, i + 1, by omega, rfl, rfl⟩
      omega
  · try simp only [decide_eq_true_eq, decide_eq_false_iff_not, beq_iff_eq, bne_iff_ne, bne_eq_false_iff_eq, beq_eq_false_iff_ne, Bool.not_eq_true, Bool.not_eq_false, Bool.not_eq_true', Bool.not_eq_false', ne_eq] at h1
    refine awp_exit ?_
    refine awp_seq ?_
    refine awp_rw rfl ?_
    refine RW.op rfl rfl (eff_move (v := .t _) rfl rfl rfl) ?_
    refine RW.op rfl rfl (eff_assign (v := .t _) rfl rfl rfl) ?_
    refine RW.nil ?_
    refine awp_ret ?_
    obtain rfl : i = l.length := by omega
    rw [List.take_length]
    exact ⟨Or.inr rfl, [_], ⟨.tmp (.t _), trivial⟩, .refl _⟩

theorem sameInts_ret (l q : List Int) (hl : l.length ≤ 1000000) (hm : q.length ≤ 1000000) : Ret Try.prog 19 [.sl (l.map encI) false, .sl (q.map encI) false] (.bool (decide (l = q))) := by
  refine ret_of_awp Try.func19 rfl (Nat.le_of_ble_eq_true rfl) ?_
  refine awp_seq ?_
  refine awp_rw rfl ?_
  refine RW.op rfl rfl (eff_assign (v := .t _) rfl rfl rfl) ?_
  refine RW.nil ?_
  refine awp_seq ?_
  refine awp_seq ?_
  refine awp_rw rfl ?_
  refine RW.op rfl rfl (eff_move (v := .t _) rfl rfl rfl) ?_
  refine RW.op rfl rfl (eff_lenM rfl rfl te22 rfl) ?_
  refine RW.op rfl rfl (eff_move (v := .t _) rfl rfl rfl) ?_
  refine RW.op rfl rfl (eff_lenM rfl rfl te22 rfl) ?_
  refine RW.op rfl rfl (eff_iop rfl rfl rfl rfl rfl) ?_
  refine RW.nil ?_
  refine awp_cond rfl (fun h1 => ?_) (fun h1 => ?_)
  · try simp only [decide_eq_true_eq, decide_eq_false_iff_not, beq_iff_eq, bne_iff_ne, bne_eq_false_iff_eq, beq_eq_false_iff_ne, Bool.not_eq_true, Bool.not_eq_false, Bool.not_eq_true', Bool.not_eq_false', ne_eq] at h1
    refine awp_seq ?_
    refine awp_rw rfl ?_
    refine RW.op rfl rfl (eff_assign (v := .t _) rfl rfl rfl) ?_
    refine RW.nil ?_
    refine awp_ret ?_
    rw [decide_eq_false (fun e => h1 (by rw [e]))]
    exact ⟨Or.inr rfl, [_], ⟨.tmp (.t _), trivial⟩, .refl _⟩
  · try simp only [decide_eq_true_eq, decide_eq_false_iff_not, beq_iff_eq, bne_iff_ne, bne_eq_false_iff_eq, beq_eq_false_iff_ne, Bool.not_eq_true, Bool.not_eq_false, Bool.not_eq_true', Bool.not_eq_false', ne_eq] at h1
    refine awp_skip ?_
    refine awp_seq ?_
    refine awp_seq ?_
    refine awp_rw rfl ?_
    have hlm : l.length = q.length := by omega
    refine RW.op rfl rfl (eff_assign (v := .t _) rfl rfl rfl) ?_
    refine RW.nil ?_
    refine awp_block ?_
    refine awp_loopW (fun m s => ∃ (i : Nat), (i ≤ l.length) ∧ (l.take i = q.take i) ∧ m = l.length - i ∧ s = ⟨26, [(0, .t (.sl (l.map encI) false)), (1, .t (.sl (q.map encI) false)), (5, .t (encI (i : Nat)))], []⟩) (_) (⟨_, weak_keep (n := 26) (fr' := [(0, .t (.sl (l.map encI) false)), (1, .t (.sl (q.map encI) false)), (5, .t (encI (0 : Nat)))]) (st' := []) ⟨rfl, rfl, rfl, rfl, rfl, rfl, trivial⟩ trivial, 0, (by omega), (by simp), rfl, rfl⟩) ?_
    rintro m s ⟨i, hi, ha, rfl, rfl⟩
    refine awp_seq ?_
    refine awp_seq ?_
    refine awp_rw rfl ?_
    refine RW.op rfl rfl (eff_move (v := .t _) rfl rfl rfl) ?_
    refine RW.op rfl rfl (eff_move (v := .t _) rfl rfl rfl) ?_
    refine RW.op rfl rfl (eff_lenM rfl rfl te22 rfl) ?_
    refine RW.op rfl rfl (eff_iop rfl rfl rfl rfl rfl) ?_
    refine RW.nil ?_
    refine awp_cond rfl (fun h2 => ?_) (fun h2 => ?_)
    · try simp only [decide_eq_true_eq, decide_eq_false_iff_not, beq_iff_eq, bne_iff_ne, bne_eq_false_iff_eq, beq_eq_false_iff_ne, Bool.not_eq_true, Bool.not_eq_false, Bool.not_eq_true', Bool.not_eq_false', ne_eq] at h2
      refine awp_skip ?_
      refine awp_seq ?_
      refine awp_block ?_
      refine awp_seq ?_
      refine awp_rd [(some 17, []), (some 18, []), (some 19, []), (some 20, []), (some 21, []), (some 22, []), (some 23, []), (some 24, []), (some 25, [])] [[], [], [0, 1], [0, 1, 2], [], [], [4, 5], [4, 5, 6], [0, 1, 2, 3, 4, 5, 6, 7]] tm rfl rfl rfl rfl ?_
      refine RD.op rfl rfl rfl (eff_move (v := .t _) rfl rfl rfl) ?_
      refine RD.op rfl rfl rfl (eff_move (v := .t _) rfl rfl rfl) ?_
      refine RD.op rfl rfl rfl (eff_indexM rfl rfl te22 rfl rfl rfl (by first | assumption | exact List.getElem?_eq_getElem (by omega)) rfl (by decide)) ?_
      refine RD.op rfl rfl rfl (eff_loadW1 rfl rfl ti3 rfl rfl) ?_
      refine RD.op rfl rfl rfl (eff_move (v := .t _) rfl rfl rfl) ?_
      refine RD.op rfl rfl rfl (eff_move (v := .t _) rfl rfl rfl) ?_
      refine RD.op rfl rfl rfl (eff_indexM rfl rfl te22 rfl rfl rfl (by first | assumption | exact List.getElem?_eq_getElem (by omega)) rfl (by decide)) ?_
      refine RD.op rfl rfl rfl (eff_loadW1 rfl rfl ti3 rfl rfl) ?_
      refine RD.op rfl rfl rfl (eff_iop rfl rfl rfl rfl rfl) ?_
      refine RD.nil ?_
      refine awp_cond rfl (fun h3 => ?_) (fun h3 => ?_)
      · try simp only [decide_eq_true_eq, decide_eq_false_iff_not, beq_iff_eq, bne_iff_ne, bne_eq_false_iff_eq, beq_eq_false_iff_ne, Bool.not_eq_true, Bool.not_eq_false, Bool.not_eq_true', Bool.not_eq_false', ne_eq] at h3
        refine awp_seq ?_
        refine awp_rw rfl ?_
        refine RW.op rfl rfl (eff_assign (v := .t _) rfl rfl rfl) ?_
        refine RW.nil ?_
        refine awp_ret ?_
        rw [decide_eq_false (fun e => h3 (by simp only [e]))]
        exact ⟨Or.inr rfl, [_], ⟨.tmp (.t _), trivial⟩, .refl _⟩
      · try simp only [decide_eq_true_eq, decide_eq_false_iff_not, beq_iff_eq, bne_iff_ne, bne_eq_false_iff_eq, beq_eq_false_iff_ne, Bool.not_eq_true, Bool.not_eq_false, Bool.not_eq_true', Bool.not_eq_false', ne_eq] at h3
        refine awp_skip ?_
        refine awp_rw rfl ?_
        refine RW.op rfl rfl (eff_move (v := .t _) rfl rfl rfl) ?_
        refine RW.op rfl rfl (eff_iop rfl rfl rfl rfl (iadd (by omega))) ?_
        refine RW.op rfl rfl (eff_assign (v := .t _) rfl rfl rfl) ?_
        refine RW.nil ?_
        refine ⟨_, ?_, _, weak_keep (n := 26) (fr' := [(0, .t (.sl (l.map encI) false)), (1, .t (.sl (q.map encI) false)), (5, .t (encI ((i + 1) : Nat)))]) (st' := []) ⟨rfl, rfl, rfl, rfl, rfl, rfl, trivial⟩ trivial, i + 1, (by omega), (by rw [take_succ_get (show i < l.length by omega), take_succ_get (show i < q.length by omega), ha]; congr 2), rfl, rfl⟩
        omega
    · try simp only [decide_eq_true_eq, decide_eq_false_iff_not, beq_iff_eq, bne_iff_ne, bne_eq_false_iff_eq, beq_eq_false_iff_ne, Bool.not_eq_true, Bool.not_eq_false, Bool.not_eq_true', Bool.not_eq_false', ne_eq] at h2
      refine awp_exit ?_
      refine awp_seq ?_
      refine awp_rw rfl ?_
      refine RW.op rfl rfl (eff_assign (v := .t _) rfl rfl rfl) ?_
      refine RW.nil ?_
      refine awp_ret ?_
      obtain rfl : i = l.length := by omega
      rw [List.take_length, hlm, List.take_length] at ha
      rw [decide_eq_true ha]
      exact ⟨Or.inr rfl, [_], ⟨.tmp (.t _), trivial⟩, .refl _⟩

end Go.Tv.C35

end
section
open Go Go.Tv Go.Proofs
namespace Go.Tv.C35
set_option maxRecDepth 20000
set_option maxHeartbeats 2000000
set_option linter.unusedSimpArgs false
set_option linter.unusedVariables false
theorem incr_ge {l : List Nat} (h : l.Pairwise (· < ·)) : ∀ (j : Nat) (hj : j < l.length), j ≤ l[j]
  | 0, _ => Nat.zero_le _
  | j + 1, hj => by
    have h1 := incr_ge h j (by omega)
    have h2 := List.pairwise_iff_getElem.1 h j (j + 1) (by omega) hj (Nat.lt_succ_self _)
    omega
theorem incr_len {l : List Nat} {n : Nat} (h : l.Pairwise (· < ·)) (hl : ∀ j, j ∈ l → j < n) : l.length ≤ n := by
  rcases Nat.eq_zero_or_pos l.length with h0 | h0
  · omega
  · have h1 := incr_ge h (l.length - 1) (by omega)
    have h2 := hl _ (List.getElem_mem (show l.length - 1 < l.length by omega))
    omega
end Go.Tv.C35

end
section
namespace Go.Proofs
open Go.Shelf
def Try.sortI_ren : Go.Shelf.Ren := ⟨fun | 5 => 62 | 8 => 86 | 7 => 85 | 19 => 103 | 20 => 104 | 10 => 94 | 11 => 95 | 12 => 96 | 13 => 97 | 14 => 98 | 15 => 99 | 16 => 100 | 17 => 101 | 18 => 102 | 30 => 108 | 31 => 109 | 32 => 110 | 33 => 111 | 34 => 112 | 35 => 88 | 40 => 121 | n => n, fun | 23 => 22 | 25 => 3 | 3 => 3 | 32 => 86 | 22 => 22 | 0 => 0 | 44 => 123 | 46 => 125 | 4 => 4 | 36 => 116 | 35 => 115 | 41 => 99 | 5 => 5 | 9 => 9 | 53 => 128 | 57 => 132 | 63 => 139 | 64 => 140 | n => n, fun | n => n⟩
theorem Try.sortI : Go.Proofs.SlLaysM.n5 Try.prog Try.sortI_ren := {
  mixed := by kernel_rfl
  f5 := ⟨Try.f62.name, by decide, Try.func62.trans (congrArg some (by kernel_rfl))⟩
  f7 := ⟨Try.f85.name, by decide, Try.func85.trans (congrArg some (by kernel_rfl))⟩
  f8 := Try.func86.trans (congrArg some (by kernel_rfl))
  f10 := ⟨Try.f94.name, by decide, Try.func94.trans (congrArg some (by kernel_rfl))⟩
  f11 := ⟨Try.f95.name, by decide, Try.func95.trans (congrArg some (by kernel_rfl))⟩
  f12 := ⟨Try.f96.name, by decide, Try.func96.trans (congrArg some (by kernel_rfl))⟩
  f13 := ⟨Try.f97.name, by decide, Try.func97.trans (congrArg some (by kernel_rfl))⟩
  f14 := ⟨Try.f98.name, by decide, Try.func98.trans (congrArg some (by kernel_rfl))⟩
  f15 := ⟨Try.f99.name, by decide, Try.func99.trans (congrArg some (by kernel_rfl))⟩
  f16 := ⟨Try.f100.name, by decide, Try.func100.trans (congrArg some (by kernel_rfl))⟩
  f17 := ⟨Try.f101.name, by decide, Try.func101.trans (congrArg some (by kernel_rfl))⟩
  f18 := ⟨Try.f102.name, by decide, Try.func102.trans (congrArg some (by kernel_rfl))⟩
  f19 := Try.func103.trans (congrArg some (by kernel_rfl))
  f20 := Try.func104.trans (congrArg some (by kernel_rfl))
  f30 := ⟨Try.f108.name, by decide, Try.func108.trans (congrArg some (by kernel_rfl))⟩
  f31 := Try.func109.trans (congrArg some (by kernel_rfl))
  f32 := Try.func110.trans (congrArg some (by kernel_rfl))
  f33 := ⟨Try.f111.name, by decide, Try.func111.trans (congrArg some (by kernel_rfl))⟩
  f34 := ⟨Try.f112.name, by decide, Try.func112.trans (congrArg some (by kernel_rfl))⟩
  f35 := ⟨Try.f88.name, by decide, Try.func88.trans (congrArg some (by kernel_rfl))⟩
  f40 := ⟨Try.f121.name, by decide, Try.func121.trans (congrArg some (by kernel_rfl))⟩
  t0 := Try.underlying0
  a0 := Try.isAgg0
  z0 := Try.sizeOf0
  v0 := Try.zeroValue0
  t3 := Try.underlying3
  a3 := Try.isAgg3
  z3 := Try.sizeOf3
  v3 := Try.zeroValue3
  t4 := Try.underlying4
  a4 := Try.isAgg4
  z4 := Try.sizeOf4
  v4 := Try.zeroValue4
  t5 := Try.underlying5
  a5 := Try.isAgg5
  z5 := Try.sizeOf5
  v5 := Try.zeroValue5
  t9 := Try.underlying9
  a9 := Try.isAgg9
  z9 := Try.sizeOf9
  v9 := Try.zeroValue9
  t22 := Try.underlying22
  a22 := Try.isAgg22
  z22 := Try.sizeOf22
  v22 := Try.zeroValue22
  t23 := Try.underlying22
  a23 := Try.isAgg22
  z23 := Try.sizeOf22
  v23 := Try.zeroValue22
  t25 := Try.underlying3
  a25 := Try.isAgg3
  z25 := Try.sizeOf3
  v25 := Try.zeroValue3
  t32 := Try.underlying86
  a32 := Try.isAgg86
  z32 := Try.sizeOf86
  v32 := Try.zeroValue86
  t35 := Try.underlying115
  a35 := Try.isAgg115
  z35 := Try.sizeOf115
  v35 := Try.zeroValue115
  t36 := Try.underlying116
  a36 := Try.isAgg116
  z36 := Try.sizeOf116
  v36 := Try.zeroValue116
  t41 := Try.underlying99
  a41 := Try.isAgg99
  z41 := Try.sizeOf99
  v41 := Try.zeroValue99
  t44 := Try.underlying123
  a44 := Try.isAgg123
  z44 := Try.sizeOf123
  v44 := Try.zeroValue123
  t46 := Try.underlying125
  a46 := Try.isAgg125
  z46 := Try.sizeOf125
  v46 := Try.zeroValue125
  t53 := Try.underlying128
  a53 := Try.isAgg128
  z53 := Try.sizeOf128
  v53 := Try.zeroValue128
  t57 := Try.underlying132
  a57 := Try.isAgg132
  z57 := Try.sizeOf132
  v57 := Try.zeroValue132
  t63 := Try.underlying139
  a63 := Try.isAgg139
  z63 := Try.sizeOf139
  v63 := Try.zeroValue139
  t64 := Try.underlying140
  a64 := Try.isAgg140
  z64 := Try.sizeOf140
  v64 := Try.zeroValue140 }
end Go.Proofs

end
section
namespace Go.Proofs
open Go.Shelf
def Try.growB_ren : Go.Shelf.Ren := ⟨fun | 4 => 83 | n => n, fun | 22 => 23 | 25 => 42 | 3 => 3 | 4 => 4 | 9 => 9 | 20 => 20 | 0 => 0 | n => n, fun | n => n⟩
theorem Try.growB : Go.Proofs.Lays8.n4 Try.prog Try.growB_ren := {
  mixed := by kernel_rfl
  f4 := ⟨Try.f83.name, by decide, Try.func83.trans (congrArg some (by kernel_rfl))⟩
  t0 := Try.underlying0
  a0 := Try.isAgg0
  z0 := Try.sizeOf0
  v0 := Try.zeroValue0
  t3 := Try.underlying3
  a3 := Try.isAgg3
  z3 := Try.sizeOf3
  v3 := Try.zeroValue3
  t4 := Try.underlying4
  a4 := Try.isAgg4
  z4 := Try.sizeOf4
  v4 := Try.zeroValue4
  t9 := Try.underlying9
  a9 := Try.isAgg9
  z9 := Try.sizeOf9
  v9 := Try.zeroValue9
  t20 := Try.underlying20
  a20 := Try.isAgg20
  z20 := Try.sizeOf20
  v20 := Try.zeroValue20
  t22 := Try.underlying23
  a22 := Try.isAgg23
  z22 := Try.sizeOf23
  v22 := Try.zeroValue23 }
end Go.Proofs

end
section
open Go Go.Tv Go.Proofs
namespace Go.Tv.C35
set_option maxRecDepth 20000
set_option maxHeartbeats 2000000
set_option linter.unusedSimpArgs false
set_option linter.unusedVariables false
theorem inf42 : ∃ i0 z, Try.prog.info? 42 = some i0 ∧ i0.zero = some z ∧ i0.size = 5 ∧ i0.bytes = 40 ∧ z.cells.size = 5 := by
  have h1 := tb42; have h2 := ti42; have h3 := tz42
  unfold tinf at h2
  unfold zeroOf at h3
  cases hi : Try.prog.info? 42 with
  | none => rw [hi] at h1; cases h1
  | some i0 =>
    rw [hi] at h1 h2 h3
    simp only [Option.map_some, Option.some.injEq] at h1
    cases hu : Try.prog.underlying 42 with
    | none => rw [hu] at h2; simp at h2
    | some d =>
      rw [hu] at h2
      simp only [Option.some.injEq, Prod.mk.injEq] at h2
      cases hz : i0.zero with
      | none => simp only [hz] at h3; cases h3
      | some z =>
        simp only [hz] at h3
        have hv := (constT_v h3 (default : World) (fun _ => False)).2.2
        refine ⟨i0, z, rfl, hz, h2.1, h1, ?_⟩
        rw [hv]; rfl
theorem sget_one (id : Nat) (ob : Ob) (m : Nat) : sget [(id, some ob)] m = if m = id then some ob else none := by
  have := sget_sput [] id m (some ob)
  simpa [sget, sput] using this
/-- slices.Grow at nil: room for n more, none of them there yet. -/
theorem growB_retG (n : Nat) (hn : n ≤ 1000000) : RetG Try.prog 83 [] [.t (.sl [] true), .t (encI (n : Nat))] [(1, some ⟨5, 42, 0, []⟩)] (.own 1 0 0 0) := by
  intro F β w vals hm hl hV
  obtain ⟨i0, z, hi0, hz0, hs0, hb0, hzc⟩ := inf42
  match vals, hl, hV with
  | [v0, v1], _, hV =>
    have h0 := hV 0 _ v0 rfl rfl
    have h1 := hV 1 _ v1 rfl rfl
    have e1 : v1 = .int .i64 (n : Nat) := by
      cases h1 with
      | t h => cases h; rfl
    subst e1
    have hbase : ∃ base, v0 = .slice base 0 0 := by
      cases h0 with
      | t h =>
        generalize hx : (Tr.sl [] true) = x at h
        cases h with
        | nils f => exact ⟨_, rfl⟩
        | nilsE f a => exact ⟨_, rfl⟩
        | sl xs f k b o cap vs hb hF hf hcap hk h1 hc hv => cases hx; have := hf rfl; simp at this; subst this; exact ⟨_, rfl⟩
        | _ => cases hx
    obtain ⟨base, rfl⟩ := hbase
    have hnone : ∀ id ob, sget ([(1, some ⟨5, 42, 0, []⟩)] : Sto) id = some ob → id = 1 ∧ ob = ⟨5, 42, 0, []⟩ := fun id ob h => by
      rw [sget_one] at h
      split at h
      · cases h; exact ⟨by assumption, rfl⟩
      · cases h
    rcases Nat.eq_zero_or_pos n with rfl | hpos
    · refine Calls.mono (Any8.slices_Grow_room Try.growB base 0 0 0 w (Nat.le_refl _) (by decide) (by decide) (Nat.le_refl _)) ?_
      rintro e w' ⟨rfl, rfl⟩
      refine ⟨_, fun _ => none, rfl, ?_, ⟨fun id ob h => ?_, fun i j oi oj b _ _ h => (by cases h), fun i oi b _ h => (by cases h), hm.ltF⟩, ?_⟩
      · cases base with
        | none => exact .ownNil (ob := ⟨5, 42, 0, []⟩) (by rw [sget_one]; rfl) rfl rfl rfl
        | some a => exact .ownE (ob := ⟨5, 42, 0, []⟩) (by rw [sget_one]; rfl) rfl rfl rfl
      · obtain ⟨rfl, rfl⟩ := hnone id ob h
        exact .inl ⟨rfl, rfl⟩
      · exact ⟨rfl, .refl _, rfl, Nat.le_refl _, fun b _ _ => rfl, fun b hb => (by obtain ⟨m, ob, _, h⟩ := hb; cases h), fun b c ty h => ⟨c, h, rfl⟩⟩
    · have hg := Any8.slices_Grow_grow Try.growB i0 z hi0 hz0 (by omega) base 0 0 n [] w (Nat.le_refl _) (by omega) (by rw [hb0]; omega) (by omega) (by simp) (fun _ => rfl) (fun a _ j v h => by simp at h)
      refine Calls.mono hg ?_
      rintro e w' ⟨rfl, rfl⟩
      generalize hcap : Go.grownCap w (0 + n) 0 (Try.growB_ren.t 25) = cap
      generalize hcs : (([] : List Value).toArray ++ Builtin.zeroCells z.cells (0 + n - 0) ++ Builtin.zeroCells z.cells (cap - (0 + n))) = cs
      have hsz : cap * 5 ≤ cs.size := by
        rw [← hcs]
        simp [Builtin.zeroCells, hzc]
        omega
      have hh : (w.drew.alloc (.cells cs (Try.growB_ren.t 25))).heap = w.heap.push (.cells cs 42 (0, 0)) := rfl
      have hnew : (w.heap.push (.cells cs 42 (0, 0)))[w.heap.size]? = some (.cells cs 42 (0, 0)) := by simp
      have hold : ∀ b, b < w.heap.size → (w.heap.push (.cells cs 42 (0, 0)))[b]? = w.heap[b]? := fun b hb => by rw [Array.getElem?_push_lt hb, Array.getElem?_eq_getElem hb]
      refine ⟨_, fun _ => some w.heap.size, rfl, ?_, ⟨fun id ob h => ?_, fun i j oi oj b hi hj _ _ => ?_, fun i oi b _ h hF => ?_, fun b hb => ?_⟩, ?_⟩
      · have := VA.own (w := w.drew.alloc (.cells cs (Try.growB_ren.t 25))) (H := G F (fun _ => some w.heap.size) [(1, some ⟨5, 42, 0, []⟩)]) (β := fun _ => some w.heap.size) (σ := [(1, some ⟨5, 42, 0, []⟩)]) (id := 1) (g := 0) (off := 0) (len := 0) (b := w.heap.size) (cap := cap) (ob := ⟨5, 42, 0, []⟩) (c := cs) (by rw [sget_one]; rfl) rfl rfl (Nat.le_refl _) (Nat.zero_le _) (by rw [hh]; exact hnew) (by show (0 + cap) * 5 ≤ _; omega)
        simpa using this
      · obtain ⟨rfl, rfl⟩ := hnone id ob h
        exact .inr ⟨w.heap.size, cs, rfl, by rw [hh]; exact hnew, by simp, fun i x hx => by simp at hx, fun i x j y hx => by simp at hx⟩
      · rw [(hnone i oi hi).1, (hnone j oj hj).1]
      · cases h; exact absurd (hm.ltF _ hF) (Nat.lt_irrefl _)
      · rw [hh, Array.size_push]; exact Nat.lt_succ_of_lt (hm.ltF b hb)
      · refine ⟨rfl, ⟨rfl, Nat.le_succ _⟩, rfl, by rw [hh, Array.size_push]; omega, fun b hb _ => by rw [hh]; exact hold b hb, fun b hb => ?_, fun b c ty h => ⟨c, by rw [hh, hold b (lt_of_heap h)]; exact h, rfl⟩⟩
        obtain ⟨m, ob, _, h⟩ := hb
        cases h; exact .inl (Nat.le_refl _)
def encLB (l : List Bid) : Tr := .sl (l.map encB) false
theorem flat_take {LL : List (List Bid)} {i : Nat} (h : i < LL.length) : (LL.take (i + 1)).flatten = (LL.take i).flatten ++ LL[i] := by
  rw [take_succ_get h, List.flatten_append]; simp
theorem flat_le {LL : List (List Bid)} (i : Nat) : (LL.take i).flatten.length ≤ LL.flatten.length := by
  have := congrArg (fun l => l.flatten.length) (List.take_append_drop i LL)
  simp only [List.flatten_append, List.length_append] at this
  omega

theorem concat_ret (LL : List (List Bid)) (hL : LL.length ≤ 1000) (hF : LL.flatten.length ≤ 100000) : Ret Try.prog 58 [.sl (LL.map encLB) false] (.sl (LL.flatten.map encB) false) := by
  refine ret_of_awp Try.func58 rfl (Nat.le_of_ble_eq_true rfl) ?_
  refine awp_seq ?_
  refine awp_rw rfl ?_
  refine RW.op rfl rfl (eff_assign (v := .t _) rfl rfl rfl) ?_
  refine RW.nil ?_
  refine awp_seq ?_
  refine awp_rw rfl ?_
  refine RW.op rfl rfl (eff_assign (v := .t _) rfl rfl rfl) ?_
  refine RW.nil ?_
  refine awp_seq ?_
  refine awp_seq ?_
  refine awp_rw rfl ?_
  refine RW.op rfl rfl (eff_move (v := .t _) rfl rfl rfl) ?_
  refine RW.op rfl rfl (eff_lenM rfl rfl te105 rfl) ?_
  refine RW.op rfl rfl (eff_move (v := .t _) rfl rfl rfl) ?_
  refine RW.nil ?_
  refine awp_block ?_
  refine awp_loopW (fun m s => ∃ (i : Nat), (i ≤ LL.length) ∧ m = LL.length - i ∧ s = ⟨36, [(0, .t (.sl (LL.map encLB) false)), (3, .t (encI ((LL.take i).flatten.length : Nat))), (9, .t (.sl (LL.map encLB) false)), (10, .t (encI LL.length)), (11, .t (encI (i : Nat)))], []⟩) (_) (⟨_, weak_keep (n := 36) (fr' := [(0, .t (.sl (LL.map encLB) false)), (3, .t (encI ((LL.take 0).flatten.length : Nat))), (9, .t (.sl (LL.map encLB) false)), (10, .t (encI LL.length)), (11, .t (encI (0 : Nat)))]) (st' := []) ⟨rfl, rfl, rfl, rfl, rfl, rfl, rfl, rfl, rfl, rfl, trivial⟩ trivial, 0, (by omega), rfl, rfl⟩) ?_
  rintro m s ⟨i, hi, rfl, rfl⟩
  have hfl := flat_le (LL := LL) i
  have hfl2 := flat_le (LL := LL) (i + 1)
  refine awp_seq ?_
  refine awp_rw rfl ?_
  refine RW.op rfl rfl (eff_iop rfl rfl rfl rfl rfl) ?_
  refine RW.nil ?_
  refine awp_seq ?_
  refine awp_cond rfl (fun h1 => ?_) (fun h1 => ?_)
  · try simp only [decide_eq_true_eq, decide_eq_false_iff_not, beq_iff_eq, bne_iff_ne, bne_eq_false_iff_eq, beq_eq_false_iff_ne, Bool.not_eq_true, Bool.not_eq_false, Bool.not_eq_true', Bool.not_eq_false', ne_eq] at h1
    refine awp_skip ?_
    refine awp_seq ?_
    refine awp_block ?_
    refine awp_seq ?_
    refine awp_rw rfl ?_
    have hil : i < LL.length := by omega
    have hft : (LL.take (i + 1)).flatten.length = (LL.take i).flatten.length + LL[i].length := by rw [flat_take hil, List.length_append]
    refine RW.op rfl rfl (eff_indexAddrT (i := i) rfl rfl te105 rfl rfl (by first | rfl | omega) (by exact (List.getElem?_map ..).trans (by rw [List.getElem?_eq_getElem hil]; rfl)) rfl (by decide)) ?_
    refine RW.op rfl rfl (eff_loadW1 rfl rfl ti23 rfl rfl) ?_
    refine RW.op rfl rfl (eff_assign (v := .t _) rfl rfl rfl) ?_
    refine RW.nil ?_
    refine awp_seq ?_
    refine awp_rw rfl ?_
    refine RW.op rfl rfl (eff_move (v := .t _) rfl rfl rfl) ?_
    refine RW.op rfl rfl (eff_move (v := .t _) rfl rfl rfl) ?_
    refine RW.op rfl rfl (eff_lenM (xs := LL[i]'hil) rfl rfl te23 rfl) ?_
    refine RW.op rfl rfl (eff_iop (r := encI (((LL.take i).flatten.length + (LL[i]'hil).length : Nat) : Int)) rfl rfl rfl rfl (iadd (by omega))) ?_
    refine RW.op rfl rfl (eff_assign (v := .t _) rfl rfl rfl) ?_
    refine RW.nil ?_
    refine awp_seq ?_
    refine awp_rw rfl ?_
    refine RW.op rfl rfl (eff_move (v := .t _) rfl rfl rfl) ?_
    refine RW.op rfl rfl (eff_iop (r := .bool false) rfl rfl rfl rfl (by simp [iop]; omega)) ?_
    refine RW.nil ?_
    refine awp_cond rfl (fun h => nomatch h) (fun _ => ?_)
    refine awp_skip ?_
    refine awp_rw rfl ?_
    refine RW.op rfl rfl (eff_iop rfl rfl rfl rfl (iadd (by omega))) ?_
    refine RW.op rfl rfl (eff_move (v := .t _) rfl rfl rfl) ?_
    refine RW.nil ?_
    refine ⟨_, ?_, _, weak_keep (n := 36) (fr' := [(0, .t (.sl (LL.map encLB) false)), (3, .t (encI ((LL.take (i + 1)).flatten.length : Nat))), (9, .t (.sl (LL.map encLB) false)), (10, .t (encI LL.length)), (11, .t (encI ((i + 1) : Nat)))]) (st' := []) ⟨rfl, rfl, (by rw [hft]; rfl), rfl, rfl, rfl, rfl, rfl, rfl, rfl, trivial⟩ trivial, i + 1, by omega, rfl, rfl⟩
    omega
  · try simp only [decide_eq_true_eq, decide_eq_false_iff_not, beq_iff_eq, bne_iff_ne, bne_eq_false_iff_eq, beq_eq_false_iff_ne, Bool.not_eq_true, Bool.not_eq_false, Bool.not_eq_true', Bool.not_eq_false', ne_eq] at h1
    refine awp_exit ?_
    refine awp_seq ?_
    refine awp_rw rfl ?_
    have hfl := flat_le (LL := LL) i
    refine RW.op rfl rfl (eff_move (v := .t _) rfl rfl rfl) ?_
    refine RW.new rfl rfl (eff_callG (growB_retG (LL.take i).flatten.length (by omega)) co83 (fun _ => 6) rfl rfl rfl ⟨.t _, .t _, trivial⟩ (.own _ _ _ _ rfl rfl) rfl trivial ⟨⟨(fun x hx => by cases hx), .inr rfl⟩, trivial⟩) ?_
    refine RW.op rfl rfl (eff_assign (v := .own _ _ _ _) rfl rfl rfl) ?_
    refine RW.nil ?_
    refine awp_seq ?_
    refine awp_seq ?_
    refine awp_rw rfl ?_
    refine RW.op rfl rfl (eff_move (v := .t _) rfl rfl rfl) ?_
    refine RW.op rfl rfl (eff_lenM rfl rfl te105 rfl) ?_
    refine RW.op rfl rfl (eff_move (v := .t _) rfl rfl rfl) ?_
    refine RW.nil ?_
    refine awp_block ?_
    refine awp_loopW (fun m s => ∃ (k : Nat) (els : List AV) (n : Nat), (k ≤ LL.length) ∧ (els = ((LL.take k).flatten.map encB).map .t) ∧ (n = (LL.take k).flatten.length) ∧ m = LL.length - k ∧ s = ⟨36, [(6, .own 6 k 0 n), (25, .t (.sl (LL.map encLB) false)), (26, .t (encI LL.length)), (27, .t (encI (k : Nat)))], [(6, some ⟨5, 42, k, els⟩)]⟩) (_) (⟨_, weak_keep (n := 36) (fr' := [(6, .own 6 0 0 0), (25, .t (.sl (LL.map encLB) false)), (26, .t (encI LL.length)), (27, .t (encI (0 : Nat)))]) (st' := [(6, some ⟨5, 42, 0, ([])⟩)]) ⟨rfl, rfl, rfl, rfl, rfl, rfl, rfl, rfl, trivial⟩ ⟨rfl, (by first | exact okE_nil | (rw [he]; intro x hx; first | (obtain ⟨y, _, rfl⟩ := List.mem_map.1 hx; rfl) | (rcases List.mem_append.1 hx with h | h <;> (obtain ⟨y, _, rfl⟩ := List.mem_map.1 h; rfl)))), trivial⟩, 0, [], 0, (by omega), (by rfl), (by rfl), rfl, rfl⟩) ?_
    rintro m s ⟨k, els, n, hk, he, hnn, rfl, rfl⟩
    have hfl := flat_le (LL := LL) k
    have hfl2 := flat_le (LL := LL) (k + 1)
    refine awp_seq ?_
    refine awp_rw rfl ?_
    refine RW.op rfl rfl (eff_iop rfl rfl rfl rfl rfl) ?_
    refine RW.nil ?_
    refine awp_seq ?_
    refine awp_cond rfl (fun h2 => ?_) (fun h2 => ?_)
    · try simp only [decide_eq_true_eq, decide_eq_false_iff_not, beq_iff_eq, bne_iff_ne, bne_eq_false_iff_eq, beq_eq_false_iff_ne, Bool.not_eq_true, Bool.not_eq_false, Bool.not_eq_true', Bool.not_eq_false', ne_eq] at h2
      refine awp_skip ?_
      refine awp_seq ?_
      refine awp_block ?_
      refine awp_seq ?_
      refine awp_rw rfl ?_
      have hkl : k < LL.length := by omega
      refine RW.op rfl rfl (eff_indexAddrT (i := k) rfl rfl te105 rfl rfl (by first | rfl | omega) (by exact (List.getElem?_map ..).trans (by rw [List.getElem?_eq_getElem hkl]; rfl)) rfl (by decide)) ?_
      refine RW.op rfl rfl (eff_loadW1 rfl rfl ti23 rfl rfl) ?_
      refine RW.op rfl rfl (eff_assign (v := .t _) rfl rfl rfl) ?_
      refine RW.nil ?_
      refine awp_rw rfl ?_
      refine RW.op rfl rfl (eff_move (v := .own _ _ _ _) rfl rfl rfl) ?_
      refine RW.op rfl rfl (eff_move (v := .t _) rfl rfl rfl) ?_
      refine RW.new rfl rfl (eff_appendAny (id := 6) rfl rfl ta23 rfl rfl rfl (by rw [he, hnn, List.length_map, List.length_map]) rfl rfl (srcM (l := LL[k]'hkl) (g := encB) rfl (fun _ => rfl)) (by have hg := congrArg List.length (flat_take hkl); simp only [List.length_append] at hg; simp only [List.length_map]; omega) (by have hg := congrArg List.length (flat_take hkl); simp only [List.length_append] at hg; simp only [List.length_map]; omega)) ?_
      refine RW.op rfl rfl (eff_assign (v := .own _ _ _ _) rfl rfl rfl) ?_
      refine RW.nil ?_
      refine awp_rw rfl ?_
      refine RW.op rfl rfl (eff_iop rfl rfl rfl rfl (iadd (by omega))) ?_
      refine RW.op rfl rfl (eff_move (v := .t _) rfl rfl rfl) ?_
      refine RW.nil ?_
      refine ⟨_, ?_, _, weak_keep (n := 36) (fr' := [(6, .own 6 (k + 1) 0 _), (25, .t (.sl (LL.map encLB) false)), (26, .t (encI LL.length)), (27, .t (encI ((k + 1) : Nat)))]) (st' := [(6, some ⟨5, 42, (k + 1), _⟩)]) ⟨rfl, rfl, rfl, rfl, rfl, rfl, rfl, rfl, trivial⟩ ⟨rfl, (by first | exact okE_nil | (rw [he]; intro x hx; first | (obtain ⟨y, _, rfl⟩ := List.mem_map.1 hx; rfl) | (rcases List.mem_append.1 hx with h | h <;> (obtain ⟨y, _, rfl⟩ := List.mem_map.1 h; rfl)))), trivial⟩, k + 1, _, _, (by omega), (by rw [flat_take hkl, he]; simp <;> rfl), (by rw [flat_take hkl, hnn]; simp), rfl, rfl⟩
      omega
    · try simp only [decide_eq_true_eq, decide_eq_false_iff_not, beq_iff_eq, bne_iff_ne, bne_eq_false_iff_eq, beq_eq_false_iff_ne, Bool.not_eq_true, Bool.not_eq_false, Bool.not_eq_true', Bool.not_eq_false', ne_eq] at h2
      refine awp_exit ?_
      refine awp_seq ?_
      refine awp_rw rfl ?_
      refine RW.op rfl rfl (eff_move (v := .own _ _ _ _) rfl rfl rfl) ?_
      refine RW.op rfl rfl (eff_assign (v := .own _ _ _ _) rfl rfl rfl) ?_
      refine RW.nil ?_
      refine awp_ret ?_
      obtain rfl : k = LL.length := by omega
      rw [List.take_length] at he hnn
      exact ⟨Or.inr rfl, [_], ⟨.tmp (Res.ownT (xs := LL.flatten.map encB) rfl rfl he (by rw [hnn, List.length_map])), trivial⟩, .refl _⟩

end Go.Tv.C35

end
section
open Go Go.Tv Go.Proofs
namespace Go.Tv.C35
set_option maxRecDepth 20000
set_option maxHeartbeats 2000000
set_option linter.unusedSimpArgs false
set_option linter.unusedVariables false
theorem any_toI (l : List Nat) (n : Int) : (l.any fun x : Nat => decide ((x : Int) = n)) = decide (n ∈ toI l) := by
  by_cases h : n ∈ toI l
  · rw [decide_eq_true h, List.any_eq_true]
    obtain ⟨x, hx, rfl⟩ := List.mem_map.1 h
    exact ⟨x, hx, by simp⟩
  · rw [decide_eq_false h, List.any_eq_false]
    intro x hx e
    exact h (List.mem_map.2 ⟨x, hx, of_decide_eq_true e⟩)
theorem containsT_ret (l : List Nat) (n : Int) (hl : l.length ≤ 100000) : Ret Try.prog 57 [.sl ((toI l).map encI) false, encI n] (.bool (decide (n ∈ toI l))) := by
  have h := containsI_ret l n hl
  rw [any_toI, encN_map] at h
  exact h
noncomputable def priceZ (B : List Bid) (s i : Int) : Int := if i ∈ toI (bestF B s) then priceF B s i.toNat else 0
theorem others_len {B : List Bid} {i : Nat} (hi : i < B.length) : (othersF B i).length = B.length - 1 := by
  unfold othersF; rw [List.length_append, List.length_take, List.length_drop]; omega
theorem others_sub {B : List Bid} {i : Nat} (hi : i < B.length) : (othersF B i).Sublist B := by
  unfold othersF
  conv => rhs; rw [split_get hi]
  exact (List.Sublist.refl _).append (List.sublist_cons_self _ _)
theorem best_len {B : List Bid} {s : Int} (hB : OkL B) : (bestF B s).length ≤ B.length :=
  incr_len (best_lead hB.ok).inc (fun j hj => ((best_comp hB.ok).1 j hj).1)

theorem price_ret (B : List Bid) (sn i : Int) (hB : OkL B) : Ret Try.prog 24 [.sl (B.map encB) false, encI sn, encI i] (encI (priceZ B sn i)) := by
  refine ret_of_awp Try.func24 rfl (Nat.le_of_ble_eq_true rfl) ?_
  refine awp_seq ?_
  refine awp_rw rfl ?_
  refine RW.op rfl rfl (eff_assign (v := .t _) rfl rfl rfl) ?_
  refine RW.nil ?_
  refine awp_seq ?_
  refine awp_seq ?_
  refine awp_rw rfl ?_
  refine RW.op rfl rfl (eff_move (v := .t _) rfl rfl rfl) ?_
  refine RW.op rfl rfl (eff_move (v := .t _) rfl rfl rfl) ?_
  refine RW.op rfl rfl (eff_callT (best_reti B sn hB) co20 rfl rfl rfl rfl) ?_
  refine RW.op rfl rfl (eff_move (v := .t _) rfl rfl rfl) ?_
  refine RW.op rfl rfl (eff_callT (containsT_ret (bestF B sn) i (by have := best_len (s := sn) hB; have := hB.len; omega)) co57 rfl rfl rfl rfl) ?_
  refine RW.op rfl rfl (eff_unop rfl rfl rfl rfl) ?_
  refine RW.nil ?_
  refine awp_cond rfl (fun h1 => ?_) (fun h1 => ?_)
  · try simp only [decide_eq_true_eq, decide_eq_false_iff_not, beq_iff_eq, bne_iff_ne, bne_eq_false_iff_eq, beq_eq_false_iff_ne, Bool.not_eq_true, Bool.not_eq_false, Bool.not_eq_true', Bool.not_eq_false', ne_eq] at h1
    refine awp_seq ?_
    refine awp_rw rfl ?_
    refine RW.op rfl rfl (eff_assign (v := .t _) rfl rfl rfl) ?_
    refine RW.nil ?_
    refine awp_ret ?_
    rw [show priceZ B sn i = 0 from if_neg (by assumption)]
    exact ⟨Or.inr rfl, [_], ⟨.tmp (.t _), trivial⟩, .refl _⟩
  · try simp only [decide_eq_true_eq, decide_eq_false_iff_not, beq_iff_eq, bne_iff_ne, bne_eq_false_iff_eq, beq_eq_false_iff_ne, Bool.not_eq_true, Bool.not_eq_false, Bool.not_eq_true', Bool.not_eq_false', ne_eq] at h1
    refine awp_skip ?_
    refine awp_seq ?_
    obtain ⟨n, hn, rfl⟩ := List.mem_map.1 (show i ∈ toI (bestF B sn) by first | assumption | exact Classical.not_not.1 (by assumption))
    have hnl := ((best_comp (s := sn) hB.ok).1 n hn).1
    have hBl := hB.len
    have hol := others_len hnl
    have hOo := hB.sub (others_sub hnl)
    have hr1 := (hOo.at sn).opt_range
    have hr2 := (hB.at sn).opt_range
    have hvb := hB.lim _ (List.getElem_mem hnl)
    have hvo := (hB.ok _ (List.getElem_mem hnl)).2
    refine awp_rd [(some 14, []), (some 15, []), (some 16, []), (some 17, []), (some 18, []), (some 19, []), (some 20, []), (some 21, []), (some 22, []), (some 7, [])] [[], [], [0, 1], [], [], [4], [3, 4, 5], [0, 1, 2, 3, 4, 5, 6], [0, 1, 2, 3, 4, 5, 6, 7], [0, 1, 2, 3, 4, 5, 6, 7, 8]] tm rfl rfl rfl rfl ?_
    refine RD.op rfl rfl rfl (eff_move (v := .t _) rfl rfl rfl) ?_
    refine RD.op rfl rfl rfl (eff_move (v := .t _) rfl rfl rfl) ?_
    refine RD.op rfl rfl rfl (eff_sliceM (l := none) (h := some n) (r := B.take n) rfl rfl te23 rfl (fun _ => rfl) .no (.yes rfl rfl) (Nat.zero_le _) (by show n ≤ B.length; omega) (by simp)) ?_
    refine RD.op rfl rfl rfl (eff_move (v := .t _) rfl rfl rfl) ?_
    refine RD.op rfl rfl rfl (eff_move (v := .t _) rfl rfl rfl) ?_
    refine RD.op rfl rfl rfl (eff_iop rfl rfl rfl rfl (iadd (by omega))) ?_
    refine RD.op rfl rfl rfl (eff_sliceM (l := some (n + 1)) (h := none) (r := B.drop (n + 1)) rfl rfl te23 rfl (fun _ => rfl) (.yes rfl (by first | rfl | omega)) .no (by show n + 1 ≤ B.length; omega) (Nat.le_refl _) (by simp)) ?_
    refine RD.op rfl rfl rfl (eff_buildSliceT (xs := [.sl ((B.take n).map encB) false, .sl ((B.drop (n + 1)).map encB) false]) rfl rfl te105 tz23 rfl (by decide) rfl rfl rfl (by decide)) ?_
    refine RD.op rfl rfl rfl (eff_callW (xs := [_]) (concat_ret [B.take n, B.drop (n + 1)] (by simp) (by simp; omega)) co58 rfl rfl rfl rfl (by repeat' first | exact trivial | exact Wk.refl _ | exact Wk.sl _ | refine And.intro ?_ ?_ | refine Wk.aggP ?_)) ?_
    refine RD.op rfl rfl rfl (eff_assign (v := .t _) rfl rfl rfl) ?_
    refine RD.nil ?_
    show AWP _ _ _ _
    rw [show ([B.take n, B.drop (n + 1)] : List (List Bid)).flatten = othersF B n from by simp [othersF]]
    refine awp_seq ?_
    refine awp_rd [(some 23, []), (some 24, []), (some 25, []), (some 26, []), (some 27, []), (some 28, []), (some 29, []), (some 30, []), (some 31, []), (some 32, []), (some 33, []), (some 34, []), (some 35, []), (some 36, []), (some 37, []), (some 6, [])] [[], [], [0, 1], [0, 1, 2], [], [], [0, 1, 2, 3, 4, 5], [0, 1, 2, 3, 4, 5, 6], [0, 1, 2, 3, 4, 5, 6, 7], [], [], [9, 10], [9, 10, 11], [9, 10, 11, 12], [0, 1, 2, 3, 4, 5, 6, 7, 8, 9, 10, 11, 12, 13], [0, 1, 2, 3, 4, 5, 6, 7, 8, 9, 10, 11, 12, 13, 14]] tm rfl rfl rfl rfl ?_
    refine RD.op rfl rfl rfl (eff_move (v := .t _) rfl rfl rfl) ?_
    refine RD.op rfl rfl rfl (eff_move (v := .t _) rfl rfl rfl) ?_
    refine RD.op rfl rfl rfl (eff_callT (at_ret (othersF B n) sn (by omega)) co49 rfl rfl rfl rfl) ?_
    refine RD.op rfl rfl rfl (eff_callT (optimum_ret (atS (othersF B n) sn) (hOo.at sn)) co50 rfl rfl rfl rfl) ?_
    refine RD.op rfl rfl rfl (eff_move (v := .t _) rfl rfl rfl) ?_
    refine RD.op rfl rfl rfl (eff_move (v := .t _) rfl rfl rfl) ?_
    refine RD.op rfl rfl rfl (eff_callT (at_ret B sn (by omega)) co49 rfl rfl rfl rfl) ?_
    refine RD.op rfl rfl rfl (eff_callT (optimum_ret (atS B sn) (hB.at sn)) co50 rfl rfl rfl rfl) ?_
    refine RD.op rfl rfl rfl (eff_iop rfl rfl rfl rfl (isub (by omega))) ?_
    refine RD.op rfl rfl rfl (eff_move (v := .t _) rfl rfl rfl) ?_
    refine RD.op rfl rfl rfl (eff_move (v := .t _) rfl rfl rfl) ?_
    refine RD.op rfl rfl rfl (eff_indexAddrT (i := n) rfl rfl te23 rfl rfl (by first | rfl | omega) (by rw [List.getElem?_map, List.getElem?_eq_getElem hnl]; rfl) rfl (by decide)) ?_
    refine RD.op rfl rfl rfl (eff_fieldAddrT rfl rfl tf42_4 (by decide) rfl) ?_
    refine RD.op rfl rfl rfl (eff_loadT1 rfl rfl ti3 rfl rfl) ?_
    refine RD.op rfl rfl rfl (eff_iop rfl rfl rfl rfl (iadd (by omega))) ?_
    refine RD.op rfl rfl rfl (eff_assign (v := .t _) rfl rfl rfl) ?_
    refine RD.nil ?_
    refine awp_ret ?_
    rw [show priceZ B sn (n : Int) = oF B sn n - optOf (atS B sn) + (B[n]'hnl).val from by unfold priceZ priceF; rw [if_pos (show (n : Int) ∈ toI (bestF B sn) from List.mem_map.2 ⟨n, hn, rfl⟩), Int.toNat_natCast, if_pos hn, getD_zb hnl]]
    exact ⟨Or.inr rfl, [_], ⟨.tmp (.t _), trivial⟩, .refl _⟩

end Go.Tv.C35

end
section
open Go Go.Tv Go.Proofs
namespace Go.Tv.C35
set_option maxRecDepth 20000
set_option maxHeartbeats 2000000
set_option linter.unusedSimpArgs false
set_option linter.unusedVariables false
theorem OkL.vb {B : List Bid} (hB : OkL B) : ∀ b, b ∈ B → 0 ≤ b.val ∧ b.val ≤ 1000000 := fun b hb => ⟨by have := (hB.ok b hb).2; omega, (hB.lim b hb).1⟩
end Go.Tv.C35

end
section
open Go Go.Tv Go.Proofs
namespace Go.Tv.C35
set_option maxRecDepth 20000
set_option maxHeartbeats 2000000
set_option linter.unusedSimpArgs false
set_option linter.unusedVariables false
theorem best_retG (B : List Bid) (sn : Int) (hB : OkL B) : RetG Try.prog 20 [] [.t (.sl (B.map encB) false), .t (encI sn)] [(5, some ⟨1, 3, (bestF B sn).length, ((bestF B sn).map encN).map .t⟩)] (.own 5 (bestF B sn).length 0 (bestF B sn).length) := by
  have hBL : B.length ≤ 100000 := by have := hB.len; omega
  refine retG_of_awp Try.func20 rfl (Nat.le_of_ble_eq_true rfl) ?_
  refine awp_seq ?_
  refine awp_rw rfl ?_
  refine RW.op rfl rfl (eff_assign (v := .t _) rfl rfl rfl) ?_
  refine RW.nil ?_
  refine awp_seq ?_
  refine awp_rw rfl ?_
  refine RW.op rfl rfl (eff_assign (v := .t _) rfl rfl rfl) ?_
  refine RW.nil ?_
  show AWP _ _ _ _
  refine awp_weak (weak_adopt (d := 5) (id := 5) (k := 1) (ty := 3) rfl rfl) ?_
  refine awp_seq ?_
  refine awp_rw rfl ?_
  refine RW.op rfl rfl (eff_move (v := .t _) rfl rfl rfl) ?_
  refine RW.op rfl rfl (eff_move (v := .t _) rfl rfl rfl) ?_
  refine RW.op rfl rfl (eff_callT (at_ret B sn hBL) co49 rfl rfl rfl rfl) ?_
  refine RW.op rfl rfl (eff_assign (v := .t _) rfl rfl rfl) ?_
  refine RW.nil ?_
  refine awp_seq ?_
  refine awp_rw rfl ?_
  refine RW.op rfl rfl (eff_move (v := .t _) rfl rfl rfl) ?_
  refine RW.op rfl rfl (eff_callT (optimum_ret (atS B sn) (hB.at sn)) co50 rfl rfl rfl rfl) ?_
  refine RW.op rfl rfl (eff_assign (v := .t _) rfl rfl rfl) ?_
  refine RW.nil ?_
  refine awp_seq ?_
  refine awp_seq ?_
  refine awp_rw rfl ?_
  refine RW.op rfl rfl (eff_move (v := .t _) rfl rfl rfl) ?_
  refine RW.op rfl rfl (eff_lenM rfl rfl te23 rfl) ?_
  refine RW.op rfl rfl (eff_move (v := .t _) rfl rfl rfl) ?_
  refine RW.nil ?_
  refine awp_block ?_
  refine awp_loopW (fun m s => ∃ (i : Nat) (op : List Bid) (out : List Nat) (n : Nat) (els : List AV), (i ≤ B.length) ∧ (OkL op) ∧ (out.length ≤ i) ∧ (bestF B sn = out ++ bestGo B sn i op (optOf op)) ∧ (n = out.length) ∧ (els = (out.map encN).map .t) ∧ m = B.length - i ∧ s = ⟨55, [(0, .t (.sl (B.map encB) false)), (1, .t (encI sn)), (5, .own 5 n 0 n), (6, .t (.sl (op.map encB) false)), (7, .t (encI (optOf op))), (16, .t (.sl (B.map encB) false)), (17, .t (encI B.length)), (18, .t (encI (i : Nat)))], [(5, some ⟨1, 3, n, els⟩)]⟩) (_) (⟨_, weak_keep (n := 55) (fr' := [(0, .t (.sl (B.map encB) false)), (1, .t (encI sn)), (5, .own 5 0 0 0), (6, .t (.sl ((atS B sn).map encB) false)), (7, .t (encI (optOf (atS B sn)))), (16, .t (.sl (B.map encB) false)), (17, .t (encI B.length)), (18, .t (encI (0 : Nat)))]) (st' := [(5, some ⟨1, 3, 0, ([])⟩)]) ⟨rfl, rfl, rfl, rfl, rfl, rfl, rfl, rfl, rfl, rfl, rfl, rfl, rfl, rfl, rfl, rfl, trivial⟩ ⟨rfl, (by first | exact okE_nil | (rw [he]; exact okE_t) | (rw [he]; intro x hx; simp only [List.mem_append, List.mem_map, List.mem_singleton] at hx; rcases hx with ⟨y, _, rfl⟩ | rfl <;> rfl)), trivial⟩, 0, atS B sn, [], 0, [], (by omega), (by exact hB.at sn), (by exact Nat.le_refl _), (by rfl), (by rfl), (by rfl), rfl, rfl⟩) ?_
  rintro m s ⟨i, op, out, n, els, hi, hop, hol, hF, hnn, he, rfl, rfl⟩
  have hBl := hB.len
  have hor := hop.opt_range
  refine awp_seq ?_
  refine awp_rw rfl ?_
  refine RW.op rfl rfl (eff_iop rfl rfl rfl rfl rfl) ?_
  refine RW.nil ?_
  refine awp_seq ?_
  refine awp_cond rfl (fun h1 => ?_) (fun h1 => ?_)
  · try simp only [decide_eq_true_eq, decide_eq_false_iff_not, beq_iff_eq, bne_iff_ne, bne_eq_false_iff_eq, beq_eq_false_iff_ne, Bool.not_eq_true, Bool.not_eq_false, Bool.not_eq_true', Bool.not_eq_false', ne_eq] at h1
    refine awp_skip ?_
    refine awp_seq ?_
    refine awp_block ?_
    refine awp_seq ?_
    refine awp_rw rfl ?_
    have hil : i < B.length := by omega
    have hok := hop.left (B[i]'hil)
    have hlr := hok.opt_range
    have hvb := hB.lim _ (List.getElem_mem hil)
    have hvo := (hB.ok _ (List.getElem_mem hil)).2
    refine RW.op rfl rfl (eff_move (v := .t _) rfl rfl rfl) ?_
    refine RW.op rfl rfl (eff_indexAddrT (i := i) rfl rfl te23 rfl rfl (by first | rfl | omega) (by rw [List.getElem?_map, List.getElem?_eq_getElem hil]; rfl) rfl (by decide)) ?_
    refine RW.op rfl rfl (eff_loadW rfl rfl ti42 rfl rfl rfl) ?_
    refine RW.new rfl rfl (eff_allocK (k := 5) (id := 9) rfl rfl tz42 rfl rfl) ?_
    refine RW.op rfl rfl (eff_assign (v := .t _) rfl rfl rfl) ?_
    refine RW.store rfl rfl (eff_storeW (v := .t _) (els := [_]) (els' := [_]) rfl rfl ti42 rfl rfl rfl rfl rfl rfl rfl rfl rfl) ?_
    refine RW.nil ?_
    show AWP _ _ _ _
    refine awp_weak (weak_frz (n := 55) (fr' := [(0, .t (.sl (B.map encB) false)), (1, .t (encI sn)), (5, .own 5 n 0 n), (6, .t (.sl (op.map encB) false)), (7, .t (encI (optOf op))), (16, .t (.sl (B.map encB) false)), (17, .t (encI B.length)), (18, .t (encI (i : Nat))), (8, .t (encI (i : Nat))), (9, (.t (.ptr (encB (B[i]'hil)).cells)))]) (st' := [(5, some ⟨1, 3, n, els⟩)]) [(9, some ⟨5, 42, 0, [.t (encB (B[i]'hil))]⟩)] ⟨rfl, trivial⟩ ⟨rfl, trivial⟩ ⟨wa_eq rfl rfl, wa_eq rfl rfl, wa_eq rfl rfl, wa_eq rfl rfl, wa_eq rfl rfl, wa_eq rfl rfl, wa_eq rfl rfl, wa_eq rfl rfl, wa_eq rfl rfl, .res (Res.ptrT (x := encB (B[i]'hil)) rfl rfl rfl) (.refl _), trivial⟩ ⟨rfl, (by first | exact okE_nil | (rw [he]; exact okE_t) | (rw [he]; intro x hx; simp only [List.mem_append, List.mem_map, List.mem_singleton] at hx; rcases hx with ⟨y, _, rfl⟩ | rfl <;> rfl)), trivial⟩) ?_
    refine awp_seq ?_
    refine awp_seq ?_
    refine awp_rw rfl ?_
    refine RW.op rfl rfl (eff_fieldAddrT rfl rfl tf42_1 (by decide) rfl) ?_
    refine RW.op rfl rfl (eff_loadT1 rfl rfl ti3 rfl rfl) ?_
    refine RW.op rfl rfl (eff_move (v := .t _) rfl rfl rfl) ?_
    refine RW.op rfl rfl (eff_iop rfl rfl rfl rfl rfl) ?_
    refine RW.op rfl rfl (eff_move (v := .t _) rfl rfl rfl) ?_
    refine RW.split 27 rfl (fun h2 => ?_) (fun h2 => ?_)
    · try simp only [decide_eq_true_eq, decide_eq_false_iff_not, beq_iff_eq, bne_iff_ne, bne_eq_false_iff_eq, beq_eq_false_iff_ne, Bool.not_eq_true, Bool.not_eq_false, Bool.not_eq_true', Bool.not_eq_false', ne_eq] at h2
      refine RW.gskip rfl rfl rfl rfl rfl (by decide) ?_
      refine RW.gskip rfl rfl rfl rfl rfl (by decide) ?_
      refine RW.gskip rfl rfl rfl rfl rfl (by decide) ?_
      refine RW.gskip rfl rfl rfl rfl rfl (by decide) ?_
      refine RW.op rfl rfl (eff_pick (v := .t _) rfl rfl rfl rfl) ?_
      refine RW.nil ?_
      refine awp_cond rfl (fun _ => ?_) (fun h => nomatch h)
      refine awp_exit ?_
      refine awp_rw rfl ?_
      refine RW.op rfl rfl (eff_iop rfl rfl rfl rfl (iadd (by omega))) ?_
      refine RW.op rfl rfl (eff_move (v := .t _) rfl rfl rfl) ?_
      refine RW.nil ?_
      (refine ⟨_, ?_, _, weak_keep (n := 55) (fr' := [(0, .t (.sl (B.map encB) false)), (1, .t (encI sn)), (5, .own 5 _ 0 _), (6, .t (.sl (op.map encB) false)), (7, .t (encI (optOf op))), (16, .t (.sl (B.map encB) false)), (17, .t (encI B.length)), (18, .t (encI ((i + 1) : Nat)))]) (st' := [(5, some ⟨1, 3, _, _⟩)]) ⟨rfl, rfl, rfl, rfl, rfl, rfl, rfl, rfl, rfl, rfl, rfl, rfl, rfl, rfl, rfl, rfl, trivial⟩ ⟨rfl, (by first | exact okE_nil | (rw [he]; exact okE_t) | (rw [he]; intro x hx; simp only [List.mem_append, List.mem_map, List.mem_singleton] at hx; rcases hx with ⟨y, _, rfl⟩ | rfl <;> rfl)), trivial⟩, i + 1, op, out, _, _, (by omega), (by exact hop), (by omega), (by rw [hF, go_skip hil (by first | exact .inl (by assumption) | exact .inr (by assumption))]), (by exact hnn), (by exact he), rfl, rfl⟩; omega)
    · try simp only [decide_eq_true_eq, decide_eq_false_iff_not, beq_iff_eq, bne_iff_ne, bne_eq_false_iff_eq, beq_eq_false_iff_ne, Bool.not_eq_true, Bool.not_eq_false, Bool.not_eq_true', Bool.not_eq_false', ne_eq] at h2
      refine RW.gop rfl rfl rfl rfl rfl rfl (eff_move (v := .t _) rfl rfl rfl) ?_
      refine RW.gop rfl rfl rfl rfl rfl rfl (eff_loadW rfl rfl ti42 rfl rfl rfl) ?_
      refine RW.gop rfl rfl rfl rfl rfl rfl (eff_callT (containsB_ret op (B[i]'hil) (by have := hop.len; omega)) co51 rfl rfl rfl rfl) ?_
      refine RW.gop rfl rfl rfl rfl rfl rfl (eff_unop rfl rfl rfl rfl) ?_
      refine RW.op rfl rfl (eff_pick (v := .t _) rfl rfl rfl rfl) ?_
      refine RW.nil ?_
      refine awp_cond rfl (fun h3 => ?_) (fun h3 => ?_)
      · try simp only [decide_eq_true_eq, decide_eq_false_iff_not, beq_iff_eq, bne_iff_ne, bne_eq_false_iff_eq, beq_eq_false_iff_ne, Bool.not_eq_true, Bool.not_eq_false, Bool.not_eq_true', Bool.not_eq_false', ne_eq] at h3
        refine awp_exit ?_
        refine awp_rw rfl ?_
        refine RW.op rfl rfl (eff_iop rfl rfl rfl rfl (iadd (by omega))) ?_
        refine RW.op rfl rfl (eff_move (v := .t _) rfl rfl rfl) ?_
        refine RW.nil ?_
        (refine ⟨_, ?_, _, weak_keep (n := 55) (fr' := [(0, .t (.sl (B.map encB) false)), (1, .t (encI sn)), (5, .own 5 _ 0 _), (6, .t (.sl (op.map encB) false)), (7, .t (encI (optOf op))), (16, .t (.sl (B.map encB) false)), (17, .t (encI B.length)), (18, .t (encI ((i + 1) : Nat)))]) (st' := [(5, some ⟨1, 3, _, _⟩)]) ⟨rfl, rfl, rfl, rfl, rfl, rfl, rfl, rfl, rfl, rfl, rfl, rfl, rfl, rfl, rfl, rfl, trivial⟩ ⟨rfl, (by first | exact okE_nil | (rw [he]; exact okE_t) | (rw [he]; intro x hx; simp only [List.mem_append, List.mem_map, List.mem_singleton] at hx; rcases hx with ⟨y, _, rfl⟩ | rfl <;> rfl)), trivial⟩, i + 1, op, out, _, _, (by omega), (by exact hop), (by omega), (by rw [hF, go_skip hil (by first | exact .inl (by assumption) | exact .inr (by assumption))]), (by exact hnn), (by exact he), rfl, rfl⟩; omega)
      · try simp only [decide_eq_true_eq, decide_eq_false_iff_not, beq_iff_eq, bne_iff_ne, bne_eq_false_iff_eq, beq_eq_false_iff_ne, Bool.not_eq_true, Bool.not_eq_false, Bool.not_eq_true', Bool.not_eq_false', ne_eq] at h3
        refine awp_skip ?_
        refine awp_seq ?_
        refine awp_rw rfl ?_
        refine RW.op rfl rfl (eff_move (v := .t _) rfl rfl rfl) ?_
        refine RW.new rfl rfl (eff_callG (clone_retG op (by have := hop.len; omega)) co53 (fun id => id + 29) rfl rfl rfl ⟨.t _, trivial⟩ (.own _ _ _ _ rfl rfl) rfl trivial ⟨⟨treeEls_t, .inr rfl⟩, trivial⟩) ?_
        refine RW.op rfl rfl (eff_makeFunc rfl rfl rfl rfl) ?_
        refine RW.new rfl rfl (eff_callG (del_retG op 1 (B[i]'hil) (by have := hop.len; omega)) co52 (fun id => id + 34) rfl rfl rfl ⟨.own _ _ _ _ rfl rfl, .t _, trivial⟩ (.own _ _ _ _ rfl rfl) rfl ⟨⟨rfl, treeEls_t, ⟨_, rfl, Nat.lt_succ_self _⟩⟩, trivial⟩ ⟨⟨treeEls_t, .inl rfl⟩, trivial⟩) ?_
        refine RW.op rfl rfl (eff_assign (v := .own _ _ _ _) rfl rfl rfl) ?_
        refine RW.nil ?_
        show AWP _ _ _ _
        refine awp_weak (weak_frz (n := 55) (fr' := [(0, .t (.sl (B.map encB) false)), (1, .t (encI sn)), (5, .own 5 n 0 n), (6, .t (.sl (op.map encB) false)), (7, .t (encI (optOf op))), (16, .t (.sl (B.map encB) false)), (17, .t (encI B.length)), (18, .t (encI (i : Nat))), (8, .t (encI (i : Nat))), (9, (.t (.ptr (encB (B[i]'hil)).cells))), (10, (.t (.sl ((leftOf op (B[i]'hil)).map encB) false)))]) (st' := [(5, some ⟨1, 3, n, els⟩)]) [(34, some ⟨5, 42, 2, ((leftOf op (B[i]'hil)).map encB ++ List.replicate (op.length - (leftOf op (B[i]'hil)).length) z42).map .t⟩)] ⟨rfl, trivial⟩ ⟨rfl, trivial⟩ ⟨wa_eq rfl rfl, wa_eq rfl rfl, wa_eq rfl rfl, wa_eq rfl rfl, wa_eq rfl rfl, wa_eq rfl rfl, wa_eq rfl rfl, wa_eq rfl rfl, wa_eq rfl rfl, wa_eq rfl rfl, (.res (Res.ownPre (xs := (leftOf op (B[i]'hil)).map encB) ((List.replicate (op.length - (leftOf op (B[i]'hil)).length) z42).map .t) rfl rfl (List.map_append ..) (by simp)) (.refl _)), trivial⟩ ⟨rfl, (by first | exact okE_nil | (rw [he]; exact okE_t) | (rw [he]; intro x hx; simp only [List.mem_append, List.mem_map, List.mem_singleton] at hx; rcases hx with ⟨y, _, rfl⟩ | rfl <;> rfl)), trivial⟩) ?_
        refine awp_seq ?_
        refine awp_rd [(some 37, []), (some 38, []), (some 39, []), (some 40, []), (some 41, []), (some 42, []), (some 43, [])] [[], [0], [], [2], [0, 1, 2, 3], [], [0, 1, 2, 3, 4, 5]] tm rfl rfl rfl rfl ?_
        refine RD.op rfl rfl rfl (eff_fieldAddrT rfl rfl tf42_4 (by decide) rfl) ?_
        refine RD.op rfl rfl rfl (eff_loadT1 rfl rfl ti3 rfl rfl) ?_
        refine RD.op rfl rfl rfl (eff_move (v := .t _) rfl rfl rfl) ?_
        refine RD.op rfl rfl rfl (eff_callT (optimum_ret (leftOf op (B[i]'hil)) hok) co50 rfl rfl rfl rfl) ?_
        refine RD.op rfl rfl rfl (eff_iop rfl rfl rfl rfl (iadd (by omega))) ?_
        refine RD.op rfl rfl rfl (eff_move (v := .t _) rfl rfl rfl) ?_
        refine RD.op rfl rfl rfl (eff_iop rfl rfl rfl rfl rfl) ?_
        refine RD.nil ?_
        refine awp_cond rfl (fun h4 => ?_) (fun h4 => ?_)
        · try simp only [decide_eq_true_eq, decide_eq_false_iff_not, beq_iff_eq, bne_iff_ne, bne_eq_false_iff_eq, beq_eq_false_iff_ne, Bool.not_eq_true, Bool.not_eq_false, Bool.not_eq_true', Bool.not_eq_false', ne_eq] at h4
          refine awp_seq ?_
          refine awp_rw rfl ?_
          refine RW.op rfl rfl (eff_move (v := .own _ _ _ _) rfl rfl rfl) ?_
          refine RW.op rfl rfl (eff_move (v := .t _) rfl rfl rfl) ?_
          refine RW.new rfl rfl (eff_buildSlice1 (id := 46) (els := [_]) rfl rfl te22 tz3 rfl (by decide) rfl rfl rfl rfl) ?_
          refine RW.new rfl rfl (eff_append (id := 5) (ys := [_]) rfl rfl ta22 rfl rfl rfl (by rw [he, hnn]; simp) rfl rfl (srcOwn rfl rfl rfl rfl rfl rfl) (by simp) (by simp; omega) (by simp; omega)) ?_
          refine RW.op rfl rfl (eff_assign (v := .own _ _ _ _) rfl rfl rfl) ?_
          refine RW.nil ?_
          refine awp_seq ?_
          refine awp_rw rfl ?_
          refine RW.op rfl rfl (eff_move (v := .t _) rfl rfl rfl) ?_
          refine RW.op rfl rfl (eff_fieldAddrT rfl rfl tf42_4 (by decide) rfl) ?_
          refine RW.op rfl rfl (eff_loadT1 rfl rfl ti3 rfl rfl) ?_
          refine RW.op rfl rfl (eff_iop (r := encI (optOf (leftOf op (B[i]'hil)))) rfl rfl rfl rfl ((isub (by omega)).trans (congrArg (fun n => some (Tr.int .i64 n)) (by omega)))) ?_
          refine RW.op rfl rfl (eff_assign (v := .t _) rfl rfl rfl) ?_
          refine RW.nil ?_
          refine awp_rw rfl ?_
          refine RW.op rfl rfl (eff_move (v := .t _) rfl rfl rfl) ?_
          refine RW.op rfl rfl (eff_assign (v := .t _) rfl rfl rfl) ?_
          refine RW.nil ?_
          refine awp_rw rfl ?_
          refine RW.op rfl rfl (eff_iop rfl rfl rfl rfl (iadd (by omega))) ?_
          refine RW.op rfl rfl (eff_move (v := .t _) rfl rfl rfl) ?_
          refine RW.nil ?_
          (refine ⟨_, ?_, _, weak_keep (n := 55) (fr' := [(0, .t (.sl (B.map encB) false)), (1, .t (encI sn)), (5, .own 5 _ 0 _), (6, .t (.sl (((leftOf op (B[i]'hil))).map encB) false)), (7, .t (encI (optOf ((leftOf op (B[i]'hil)))))), (16, .t (.sl (B.map encB) false)), (17, .t (encI B.length)), (18, .t (encI ((i + 1) : Nat)))]) (st' := [(5, some ⟨1, 3, _, _⟩)]) ⟨rfl, rfl, rfl, rfl, rfl, rfl, rfl, rfl, rfl, rfl, rfl, rfl, rfl, rfl, rfl, rfl, trivial⟩ ⟨rfl, (by first | exact okE_nil | (rw [he]; exact okE_t) | (rw [he]; intro x hx; simp only [List.mem_append, List.mem_map, List.mem_singleton] at hx; rcases hx with ⟨y, _, rfl⟩ | rfl <;> rfl)), trivial⟩, i + 1, (leftOf op (B[i]'hil)), (out ++ [i]), _, _, (by omega), (by exact hok), (by rw [List.length_append]; simp; omega), (by rw [hF, go_take hil (by first | assumption | (simp only [Classical.not_not] at *; assumption)) (by assumption) (by assumption)]; simp), (by rw [hnn]; simp; done), (by rw [he]; simp <;> rfl), rfl, rfl⟩; omega)
        · try simp only [decide_eq_true_eq, decide_eq_false_iff_not, beq_iff_eq, bne_iff_ne, bne_eq_false_iff_eq, beq_eq_false_iff_ne, Bool.not_eq_true, Bool.not_eq_false, Bool.not_eq_true', Bool.not_eq_false', ne_eq] at h4
          refine awp_skip ?_
          refine awp_rw rfl ?_
          refine RW.op rfl rfl (eff_iop rfl rfl rfl rfl (iadd (by omega))) ?_
          refine RW.op rfl rfl (eff_move (v := .t _) rfl rfl rfl) ?_
          refine RW.nil ?_
          (refine ⟨_, ?_, _, weak_keep (n := 55) (fr' := [(0, .t (.sl (B.map encB) false)), (1, .t (encI sn)), (5, .own 5 _ 0 _), (6, .t (.sl (op.map encB) false)), (7, .t (encI (optOf op))), (16, .t (.sl (B.map encB) false)), (17, .t (encI B.length)), (18, .t (encI ((i + 1) : Nat)))]) (st' := [(5, some ⟨1, 3, _, _⟩)]) ⟨rfl, rfl, rfl, rfl, rfl, rfl, rfl, rfl, rfl, rfl, rfl, rfl, rfl, rfl, rfl, rfl, trivial⟩ ⟨rfl, (by first | exact okE_nil | (rw [he]; exact okE_t) | (rw [he]; intro x hx; simp only [List.mem_append, List.mem_map, List.mem_singleton] at hx; rcases hx with ⟨y, _, rfl⟩ | rfl <;> rfl)), trivial⟩, i + 1, op, out, _, _, (by omega), (by exact hop), (by omega), (by rw [hF, go_drop hil (by first | assumption | (simp only [Classical.not_not] at *; assumption)) (by assumption) (by assumption)]), (by exact hnn), (by exact he), rfl, rfl⟩; omega)
  · try simp only [decide_eq_true_eq, decide_eq_false_iff_not, beq_iff_eq, bne_iff_ne, bne_eq_false_iff_eq, beq_eq_false_iff_ne, Bool.not_eq_true, Bool.not_eq_false, Bool.not_eq_true', Bool.not_eq_false', ne_eq] at h1
    refine awp_exit ?_
    refine awp_seq ?_
    refine awp_rw rfl ?_
    refine RW.op rfl rfl (eff_move (v := .own _ _ _ _) rfl rfl rfl) ?_
    refine RW.op rfl rfl (eff_assign (v := .own _ _ _ _) rfl rfl rfl) ?_
    refine RW.nil ?_
    refine awp_ret ?_
    have hFe := hF
    rw [go_end (by omega), List.append_nil] at hFe
    rw [hFe]
    subst hnn he
    exact ⟨Or.inr rfl, [_], [_], ⟨.tmp rfl, trivial⟩, rfl, weak_keep ⟨rfl, rfl, trivial⟩ ⟨rfl, okE_t, trivial⟩, rfl⟩

theorem busy_ret (B : List Bid) (k i : Nat) (hk : k < B.length) (hi : i < B.length) : Ret Try.prog 60 [encN k, .ptr [.sl (B.map encB) false], .ptr [encI (i : Nat)]] (.bool (busyF B k i)) := by
  refine ret_of_awp Try.func60 rfl (Nat.le_of_ble_eq_true rfl) ?_
  refine awp_seq ?_
  refine awp_rw rfl ?_
  refine RW.op rfl rfl (eff_assign (v := .t _) rfl rfl rfl) ?_
  refine RW.nil ?_
  refine awp_seq ?_
  by_cases hc1 : (B[k]'hk).craft = (B[i]'hi).craft
  · refine awp_rd [(some 5, []), (some 6, []), (some 7, []), (some 8, []), (some 9, []), (some 10, []), (some 11, []), (some 12, []), (some 13, []), (some 14, []), (some 15, []), (some 16, []), (some 17, []), (some 18, []), (some 19, []), (some 20, []), (some 21, []), (some 22, []), (some 23, []), (some 24, []), (some 25, []), (some 26, []), (some 4, [])] [[], [], [0, 1], [0, 1, 2], [0, 1, 2, 3], [], [], [5, 6], [5, 6, 7], [5, 6, 7, 8], [0, 1, 2, 3, 4, 5, 6, 7, 8, 9], [0, 1, 2, 3, 4, 5, 6, 7, 8, 9, 10], [0, 1, 2, 3, 4, 5, 6, 7, 8, 9, 10, 11], [0, 1, 2, 3, 4, 5, 6, 7, 8, 9, 10, 11], [0, 1, 2, 3, 4, 5, 6, 7, 8, 9, 10, 11, 12, 13], [0, 1, 2, 3, 4, 5, 6, 7, 8, 9, 10, 11, 12, 13, 14], [0, 1, 2, 3, 4, 5, 6, 7, 8, 9, 10, 11], [0, 1, 2, 3, 4, 5, 6, 7, 8, 9, 10, 11], [0, 1, 2, 3, 4, 5, 6, 7, 8, 9, 10, 11, 16, 17], [0, 1, 2, 3, 4, 5, 6, 7, 8, 9, 10, 11, 16, 17, 18], [0, 1, 2, 3, 4, 5, 6, 7, 8, 9, 10, 11, 12, 13, 14, 15, 16, 17, 18, 19], [0, 1, 2, 3, 4, 5, 6, 7, 8, 9, 10, 11, 12, 13, 14, 15, 16, 17, 18, 19, 20], [0, 1, 2, 3, 4, 5, 6, 7, 8, 9, 10, 11, 12, 13, 14, 15, 16, 17, 18, 19, 20, 21]] tm rfl rfl rfl rfl ?_
    refine RD.op rfl rfl rfl (eff_loadT1 rfl rfl ti23 rfl rfl) ?_
    refine RD.op rfl rfl rfl (eff_move (v := .t _) rfl rfl rfl) ?_
    refine RD.op rfl rfl rfl (eff_indexAddrT (i := k) rfl rfl te23 rfl rfl (by first | rfl | omega) (by rw [List.getElem?_map, List.getElem?_eq_getElem hk]; rfl) rfl (by decide)) ?_
    refine RD.op rfl rfl rfl (eff_fieldAddrT rfl rfl tf42_0 (by decide) rfl) ?_
    refine RD.op rfl rfl rfl (eff_loadT1 rfl rfl ti3 rfl rfl) ?_
    refine RD.op rfl rfl rfl (eff_loadT1 rfl rfl ti23 rfl rfl) ?_
    refine RD.op rfl rfl rfl (eff_loadT1 rfl rfl ti3 rfl rfl) ?_
    refine RD.op rfl rfl rfl (eff_indexAddrT (i := i) rfl rfl te23 rfl rfl (by first | rfl | omega) (by rw [List.getElem?_map, List.getElem?_eq_getElem hi]; rfl) rfl (by decide)) ?_
    refine RD.op rfl rfl rfl (eff_fieldAddrT rfl rfl tf42_0 (by decide) rfl) ?_
    refine RD.op rfl rfl rfl (eff_loadT1 rfl rfl ti3 rfl rfl) ?_
    refine RD.op rfl rfl rfl (eff_iop (r := .bool true) rfl rfl rfl rfl (by rw [hc1]; exact congrArg (fun x => some (Tr.bool x)) (beq_self_eq_true _))) ?_
    refine RD.op rfl rfl rfl (eff_move (v := .t _) rfl rfl rfl) ?_
    refine RD.gop rfl rfl rfl rfl rfl rfl rfl (eff_loadT1 rfl rfl ti23 rfl rfl) ?_
    refine RD.gop rfl rfl rfl rfl rfl rfl rfl (eff_move (v := .t _) rfl rfl rfl) ?_
    refine RD.gop rfl rfl rfl rfl rfl rfl rfl (eff_indexAddrT (i := k) rfl rfl te23 rfl rfl (by first | rfl | omega) (by rw [List.getElem?_map, List.getElem?_eq_getElem hk]; rfl) rfl (by decide)) ?_
    refine RD.gop rfl rfl rfl rfl rfl rfl rfl (eff_loadW rfl rfl ti42 rfl rfl rfl) ?_
    refine RD.gop rfl rfl rfl rfl rfl rfl rfl (eff_loadT1 rfl rfl ti23 rfl rfl) ?_
    refine RD.gop rfl rfl rfl rfl rfl rfl rfl (eff_loadT1 rfl rfl ti3 rfl rfl) ?_
    refine RD.gop rfl rfl rfl rfl rfl rfl rfl (eff_indexAddrT (i := i) rfl rfl te23 rfl rfl (by first | rfl | omega) (by rw [List.getElem?_map, List.getElem?_eq_getElem hi]; rfl) rfl (by decide)) ?_
    refine RD.gop rfl rfl rfl rfl rfl rfl rfl (eff_loadW rfl rfl ti42 rfl rfl rfl) ?_
    refine RD.gop rfl rfl rfl rfl rfl rfl rfl (eff_callT (conflict_ret (B[k]'hk) (B[i]'hi)) co55 rfl rfl rfl rfl) ?_
    refine RD.op rfl rfl rfl (eff_pick (v := .t _) rfl rfl rfl rfl) ?_
    refine RD.op rfl rfl rfl (eff_assign (v := .t _) rfl rfl rfl) ?_
    refine RD.nil ?_
    refine awp_ret ?_
    have hbf : busyF B k i = (decide ((B[k]'hk).craft = (B[i]'hi).craft) && confl (B[k]'hk) (B[i]'hi)) := by unfold busyF; rw [getD_zb hk, getD_zb hi]
    (rw [hbf, decide_eq_true (by assumption), Bool.true_and]; exact ⟨Or.inr rfl, [_], ⟨.tmp (.t _), trivial⟩, .refl _⟩)
  · refine awp_rd [(some 5, []), (some 6, []), (some 7, []), (some 8, []), (some 9, []), (some 10, []), (some 11, []), (some 12, []), (some 13, []), (some 14, []), (some 15, []), (some 16, []), (some 17, []), (some 18, []), (some 19, []), (some 20, []), (some 21, []), (some 22, []), (some 23, []), (some 24, []), (some 25, []), (some 26, []), (some 4, [])] [[], [], [0, 1], [0, 1, 2], [0, 1, 2, 3], [], [], [5, 6], [5, 6, 7], [5, 6, 7, 8], [0, 1, 2, 3, 4, 5, 6, 7, 8, 9], [0, 1, 2, 3, 4, 5, 6, 7, 8, 9, 10], [0, 1, 2, 3, 4, 5, 6, 7, 8, 9, 10, 11], [0, 1, 2, 3, 4, 5, 6, 7, 8, 9, 10, 11], [0, 1, 2, 3, 4, 5, 6, 7, 8, 9, 10, 11, 12, 13], [0, 1, 2, 3, 4, 5, 6, 7, 8, 9, 10, 11, 12, 13, 14], [0, 1, 2, 3, 4, 5, 6, 7, 8, 9, 10, 11], [0, 1, 2, 3, 4, 5, 6, 7, 8, 9, 10, 11], [0, 1, 2, 3, 4, 5, 6, 7, 8, 9, 10, 11, 16, 17], [0, 1, 2, 3, 4, 5, 6, 7, 8, 9, 10, 11, 16, 17, 18], [0, 1, 2, 3, 4, 5, 6, 7, 8, 9, 10, 11, 12, 13, 14, 15, 16, 17, 18, 19], [0, 1, 2, 3, 4, 5, 6, 7, 8, 9, 10, 11, 12, 13, 14, 15, 16, 17, 18, 19, 20], [0, 1, 2, 3, 4, 5, 6, 7, 8, 9, 10, 11, 12, 13, 14, 15, 16, 17, 18, 19, 20, 21]] tm rfl rfl rfl rfl ?_
    refine RD.op rfl rfl rfl (eff_loadT1 rfl rfl ti23 rfl rfl) ?_
    refine RD.op rfl rfl rfl (eff_move (v := .t _) rfl rfl rfl) ?_
    refine RD.op rfl rfl rfl (eff_indexAddrT (i := k) rfl rfl te23 rfl rfl (by first | rfl | omega) (by rw [List.getElem?_map, List.getElem?_eq_getElem hk]; rfl) rfl (by decide)) ?_
    refine RD.op rfl rfl rfl (eff_fieldAddrT rfl rfl tf42_0 (by decide) rfl) ?_
    refine RD.op rfl rfl rfl (eff_loadT1 rfl rfl ti3 rfl rfl) ?_
    refine RD.op rfl rfl rfl (eff_loadT1 rfl rfl ti23 rfl rfl) ?_
    refine RD.op rfl rfl rfl (eff_loadT1 rfl rfl ti3 rfl rfl) ?_
    refine RD.op rfl rfl rfl (eff_indexAddrT (i := i) rfl rfl te23 rfl rfl (by first | rfl | omega) (by rw [List.getElem?_map, List.getElem?_eq_getElem hi]; rfl) rfl (by decide)) ?_
    refine RD.op rfl rfl rfl (eff_fieldAddrT rfl rfl tf42_0 (by decide) rfl) ?_
    refine RD.op rfl rfl rfl (eff_loadT1 rfl rfl ti3 rfl rfl) ?_
    refine RD.op rfl rfl rfl (eff_iop (r := .bool false) rfl rfl rfl rfl (by exact congrArg (fun x => some (Tr.bool x)) (beq_eq_false_iff_ne.2 hc1))) ?_
    refine RD.op rfl rfl rfl (eff_move (v := .t _) rfl rfl rfl) ?_
    refine RD.gskip rfl rfl rfl rfl rfl rfl (by decide) ?_
    refine RD.gskip rfl rfl rfl rfl rfl rfl (by decide) ?_
    refine RD.gskip rfl rfl rfl rfl rfl rfl (by decide) ?_
    refine RD.gskip rfl rfl rfl rfl rfl rfl (by decide) ?_
    refine RD.gskip rfl rfl rfl rfl rfl rfl (by decide) ?_
    refine RD.gskip rfl rfl rfl rfl rfl rfl (by decide) ?_
    refine RD.gskip rfl rfl rfl rfl rfl rfl (by decide) ?_
    refine RD.gskip rfl rfl rfl rfl rfl rfl (by decide) ?_
    refine RD.gskip rfl rfl rfl rfl rfl rfl (by decide) ?_
    refine RD.op rfl rfl rfl (eff_pick (v := .t _) rfl rfl rfl rfl) ?_
    refine RD.op rfl rfl rfl (eff_assign (v := .t _) rfl rfl rfl) ?_
    refine RD.nil ?_
    refine awp_ret ?_
    have hbf : busyF B k i = (decide ((B[k]'hk).craft = (B[i]'hi).craft) && confl (B[k]'hk) (B[i]'hi)) := by unfold busyF; rw [getD_zb hk, getD_zb hi]
    (rw [hbf, decide_eq_false (by assumption), Bool.false_and]; exact ⟨Or.inr rfl, [_], ⟨.tmp (.t _), trivial⟩, .refl _⟩)

/-- The step of the program's list of bids, done as far as i. -/
def stepTo (B O : List Bid) (s : Int) (best : List Nat) (i : Nat) : List Bid := (List.range B.length).map fun j => if j < i then stepB B O s best j else O.getD j zb
theorem stepTo_len (B O : List Bid) (s : Int) (best : List Nat) (i : Nat) : (stepTo B O s best i).length = B.length := by simp [stepTo]
theorem stepTo_zero {B O : List Bid} {s : Int} {best : List Nat} (h : O.length = B.length) : stepTo B O s best 0 = O := by
  apply List.ext_getElem?
  intro j
  unfold stepTo
  rw [List.getElem?_map]
  by_cases hj : j < B.length
  · simp [hj, h, List.getD_eq_getElem?_getD]
  · simp [hj, h]
theorem stepTo_all {B O : List Bid} {s : Int} {best : List Nat} : stepTo B O s best B.length = stepF B O s best := by
  unfold stepTo stepF
  apply List.map_congr_left
  intro j hj
  rw [if_pos (List.mem_range.1 hj)]
theorem stepTo_get {B O : List Bid} {s : Int} {best : List Nat} {i : Nat} (hi : i < B.length) : (stepTo B O s best i)[i]? = some (O.getD i zb) := by
  unfold stepTo
  rw [List.getElem?_map]
  simp [hi]
theorem stepTo_succ {B O : List Bid} {s : Int} {best : List Nat} {i : Nat} (hi : i < B.length) : stepTo B O s best (i + 1) = (stepTo B O s best i).set i (stepB B O s best i) := by
  apply List.ext_getElem?
  intro j
  rw [List.getElem?_set]
  by_cases hj : i = j
  · subst hj
    rw [if_pos rfl, if_pos (by rw [stepTo_len]; exact hi)]
    unfold stepTo
    rw [List.getElem?_map]
    simp [hi]
  · rw [if_neg hj]
    unfold stepTo
    rw [List.getElem?_map, List.getElem?_map]
    by_cases hlt : j < B.length
    · simp [hlt]
      by_cases h2 : j < i
      · rw [if_pos h2, if_pos (by omega)]
      · rw [if_neg h2, if_neg (by omega)]
    · simp [hlt]
theorem stepTo_same {B O : List Bid} {s : Int} {best : List Nat} {i : Nat} (hi : i < B.length) (h : ¬ ((O.getD i zb).station > s ∧ (best.any fun k => busyF B k i) = true)) : stepTo B O s best (i + 1) = stepTo B O s best i := by
  rw [stepTo_succ hi]
  have h1 := stepTo_get (O := O) (s := s) (best := best) hi
  apply List.ext_getElem?
  intro j
  rw [List.getElem?_set]
  split
  · rename_i e
    subst e
    rw [if_pos (by rw [stepTo_len]; exact hi), h1]
    unfold stepB
    rw [if_neg h]
  · rfl
theorem stepTo_away {B O : List Bid} {s : Int} {best : List Nat} {i : Nat} (hi : i < B.length) (h : (O.getD i zb).station > s ∧ (best.any fun k => busyF B k i) = true) : stepTo B O s best (i + 1) = (stepTo B O s best i).set i (away (O.getD i zb)) := by
  rw [stepTo_succ hi]
  unfold stepB
  rw [if_pos h]
theorem out_len {B : List Bid} (hB : OkL B) : ∀ s : Nat, (outF B s).length ≤ s * 1000
  | 0 => by simp [outF]
  | s + 1 => by
    have h1 := out_len hB s
    have h2 : (bestF (blockF B (outF B s) s) s).length ≤ (blockF B (outF B s) s).length := incr_len (best_lead (block_ok hB.ok)).inc (fun j hj => ((best_comp (block_ok hB.ok)).1 j hj).1)
    have h3 := hB.len
    rw [block_len] at h2
    show (outF B s ++ _).length ≤ _
    rw [List.length_append, Nat.add_mul]
    omega
theorem out_succ (B : List Bid) (s : Nat) : outF B (s + 1) = outF B s ++ bestF (openF B s) s := by
  rw [(open_is B s).1]; rfl
theorem step_lim {B O : List Bid} {s : Int} {best : List Nat} (hO : OkL O) (hl : O.length = B.length) (i : Nat) (hi : i ≤ B.length) : OkL (stepTo B O s best i) := by
  have hm : ∀ b, b ∈ stepTo B O s best i → ∃ c, c ∈ O ∧ b.frm = c.frm ∧ b.til = c.til ∧ b.val = c.val := by
    intro b hb
    obtain ⟨j, hj, rfl⟩ := List.mem_map.1 hb
    have hj' : j < O.length := by rw [hl]; simpa using hj
    have hm : O.getD j zb ∈ O := by rw [getD_zb hj']; exact List.getElem_mem _
    refine ⟨O.getD j zb, hm, ?_⟩
    split
    · unfold stepB; split <;> exact ⟨rfl, rfl, rfl⟩
    · exact ⟨rfl, rfl, rfl⟩
  refine ⟨fun b hb => ?_, by rw [stepTo_len, ← hl]; exact hO.len, fun b hb => ?_⟩
  · obtain ⟨c, hc, e1, e2, e3⟩ := hm b hb
    have := hO.ok c hc
    exact ⟨by rw [e1, e2]; exact this.1, by rw [e3]; exact this.2⟩
  · obtain ⟨c, hc, e1, e2, e3⟩ := hm b hb
    rw [e1, e3]; exact hO.lim c hc
theorem open_okl {B : List Bid} (hB : OkL B) : ∀ s : Nat, OkL (openF B s)
  | 0 => hB
  | s + 1 => by
    have h := step_lim (s := (s : Int)) (best := bestF (openF B s) s) (open_okl hB s) (open_len B s) B.length (Nat.le_refl _)
    rw [stepTo_all] at h
    exact h

theorem assign_ret (B : List Bid) (hB : OkL B) : Ret Try.prog 26 [.sl (B.map encB) false] (.sl ((sortI (toI (outF B 9))).map encI) false) := by
  refine ret_of_awp Try.func26 rfl (Nat.le_of_ble_eq_true rfl) ?_
  refine awp_seq ?_
  refine awp_rw rfl ?_
  refine RW.new rfl rfl (eff_boxK (v := .t _) (k := 1) (id := 1) rfl rfl rfl rfl rfl rfl) ?_
  refine RW.op rfl rfl (eff_assign (v := .t _) rfl rfl rfl) ?_
  refine RW.nil ?_
  show AWP _ _ _ _
  refine awp_weak (weak_frz (n := 47) (fr' := [(1, .t (.ptr [.sl (B.map encB) false]))]) (st' := []) [(1, some ⟨1, 23, 0, [.t (.sl (B.map encB) false)]⟩)] ⟨rfl, trivial⟩ trivial ⟨.res (Res.ptrT (x := .sl (B.map encB) false) rfl rfl rfl) (.refl _), trivial⟩ trivial) ?_
  refine awp_seq ?_
  refine awp_rw rfl ?_
  refine RW.op rfl rfl (eff_assign (v := .t _) rfl rfl rfl) ?_
  refine RW.nil ?_
  show AWP _ _ _ _
  refine awp_weak (weak_adopt (d := 3) (id := 3) (k := 1) (ty := 3) rfl rfl) ?_
  refine awp_seq ?_
  refine awp_rw rfl ?_
  refine RW.op rfl rfl (eff_loadT1 rfl rfl ti23 rfl rfl) ?_
  refine RW.new rfl rfl (eff_callG (clone_retG B (by have := hB.len; omega)) co53 (fun id => id + 5) rfl rfl rfl ⟨.t _, trivial⟩ (.own _ _ _ _ rfl rfl) rfl trivial ⟨⟨treeEls_t, .inr rfl⟩, trivial⟩) ?_
  refine RW.op rfl rfl (eff_assign (v := .own _ _ _ _) rfl rfl rfl) ?_
  refine RW.nil ?_
  refine awp_seq ?_
  refine awp_seq ?_
  refine awp_rw rfl ?_
  refine RW.op rfl rfl (eff_move (v := .t _) rfl rfl rfl) ?_
  refine RW.nil ?_
  refine awp_block ?_
  refine awp_loopW (fun m s => ∃ (k : Nat) (n : Nat) (els : List AV), (k ≤ 9) ∧ (n = (outF B k).length) ∧ (els = ((outF B k).map encN).map .t) ∧ m = 9 - k ∧ s = ⟨47, [(1, .t (.ptr [.sl (B.map encB) false])), (3, .own 3 k 0 n), (4, .own 10 1 0 B.length), (11, .t (encI (k : Nat)))], [(3, some ⟨1, 3, k, els⟩), (10, some ⟨5, 42, 1, ((openF B k).map encB).map .t⟩)]⟩) (_) (⟨_, weak_keep (n := 47) (fr' := [(1, .t (.ptr [.sl (B.map encB) false])), (3, .own 3 0 0 0), (4, .own 10 1 0 B.length), (11, .t (encI (0 : Nat)))]) (st' := [(3, some ⟨1, 3, 0, ([])⟩), (10, some ⟨5, 42, 1, ((openF B 0).map encB).map .t⟩)]) ⟨rfl, rfl, rfl, rfl, rfl, rfl, rfl, rfl, trivial⟩ ⟨rfl, (by first | exact okE_nil | (rw [he2]; exact okE_t) | (rw [he]; exact okE_t)), rfl, okE_t, trivial⟩, 0, 0, [], (by omega), (by rfl), (by rfl), rfl, rfl⟩) ?_
  rintro m s ⟨k, n, els, hk, hnn, he, rfl, rfl⟩
  have hBl := hB.len
  have hOk := open_okl hB k
  have hOl := open_len B k
  have hoL := out_len hB k
  have hbl := best_len (s := (k : Int)) hOk
  refine awp_seq ?_
  refine awp_rw rfl ?_
  refine RW.op rfl rfl (eff_iop rfl rfl rfl rfl rfl) ?_
  refine RW.nil ?_
  refine awp_seq ?_
  refine awp_cond rfl (fun h1 => ?_) (fun h1 => ?_)
  · try simp only [decide_eq_true_eq, decide_eq_false_iff_not, beq_iff_eq, bne_iff_ne, bne_eq_false_iff_eq, beq_eq_false_iff_ne, Bool.not_eq_true, Bool.not_eq_false, Bool.not_eq_true', Bool.not_eq_false', ne_eq] at h1
    refine awp_skip ?_
    refine awp_seq ?_
    refine awp_block ?_
    refine awp_seq ?_
    refine awp_rw rfl ?_
    refine RW.op rfl rfl (eff_move (v := .t _) rfl rfl rfl) ?_
    refine RW.op rfl rfl (eff_assign (v := .t _) rfl rfl rfl) ?_
    refine RW.nil ?_
    refine awp_seq ?_
    refine awp_rw rfl ?_
    refine RW.op rfl rfl (eff_move (v := .own _ _ _ _) rfl rfl rfl) ?_
    refine RW.op rfl rfl (eff_move (v := .t _) rfl rfl rfl) ?_
    refine RW.new rfl rfl (eff_callGBE (ys := [.sl ((openF B k).map encB) false, encI (k : Nat)]) (best_retG (openF B k) k hOk) co20 (fun _ => 16) rfl rfl rfl ⟨Res.ownT (xs := (openF B k).map encB) rfl rfl rfl (by rw [List.length_map, hOl]), .t _, trivial⟩ (.own _ _ _ _) (.own _ _ _ _ rfl rfl) rfl ⟨⟨flatEls_t (fun x hx => by obtain ⟨y, _, rfl⟩ := List.mem_map.1 hx; rfl), rfl⟩, trivial⟩) ?_
    refine RW.op rfl rfl (eff_assign (v := .own _ _ _ _) rfl rfl rfl) ?_
    refine RW.nil ?_
    show AWP _ _ _ _
    refine awp_weak (weak_frz (n := 47) (fr' := [(1, .t (.ptr [.sl (B.map encB) false])), (3, .own 3 k 0 n), (4, .own 10 1 0 B.length), (5, .t (encI (k : Nat))), (6, .t (.sl ((bestF (openF B k) k).map encN) false)), (11, .t (encI (k : Nat)))]) (st' := [(3, some ⟨1, 3, k, els⟩), (10, some ⟨5, 42, 1, ((openF B k).map encB).map .t⟩)]) [(16, some ⟨1, 3, (bestF (openF B k) k).length, ((bestF (openF B k) k).map encN).map .t⟩)] ⟨rfl, trivial⟩ ⟨rfl, rfl, trivial⟩ ⟨wa_eq rfl rfl, wa_eq rfl rfl, wa_eq rfl rfl, wa_eq rfl rfl, .res (Res.ownT (xs := (bestF (openF B k) k).map encN) rfl rfl rfl (by simp)) (.refl _), wa_eq rfl rfl, trivial⟩ ⟨rfl, (by first | exact okE_nil | (rw [he]; exact okE_t) | (rw [he]; intro x hx; simp only [List.mem_append, List.mem_map, List.mem_singleton] at hx; rcases hx with ⟨y, _, rfl⟩ | rfl <;> rfl)), rfl, okE_t, trivial⟩) ?_
    refine awp_seq ?_
    refine awp_rw rfl ?_
    refine RW.op rfl rfl (eff_move (v := .own _ _ _ _) rfl rfl rfl) ?_
    refine RW.op rfl rfl (eff_move (v := .t _) rfl rfl rfl) ?_
    refine RW.new rfl rfl (eff_appendAny (id := 3) rfl rfl ta22 rfl rfl rfl (by rw [he, hnn]; simp) rfl rfl (srcM (l := (bestF (openF B k) k)) (g := encN) rfl (fun _ => rfl)) (by simp only [List.length_map]; omega) (by simp only [List.length_map]; omega)) ?_
    refine RW.op rfl rfl (eff_assign (v := .own _ _ _ _) rfl rfl rfl) ?_
    refine RW.nil ?_
    refine awp_seq ?_
    refine awp_rw rfl ?_
    refine RW.op rfl rfl (eff_move (v := .own _ _ _ _) rfl rfl rfl) ?_
    refine RW.op rfl rfl (eff_len rfl rfl te23 rfl rfl rfl) ?_
    refine RW.op rfl rfl (eff_move (v := .t _) rfl rfl rfl) ?_
    refine RW.nil ?_
    refine awp_block ?_
    refine awp_loopW (fun m s => ∃ (i : Nat) (n2 : Nat) (els2 : List AV), (i ≤ B.length) ∧ (n2 = (outF B (k + 1)).length) ∧ (els2 = ((outF B (k + 1)).map encN).map .t) ∧ m = B.length - i ∧ s = ⟨47, [(1, .t (.ptr [.sl (B.map encB) false])), (3, .own 3 (k + 1) 0 n2), (4, .own 10 1 0 B.length), (5, .t (encI (k : Nat))), (6, .t (.sl ((bestF (openF B k) k).map encN) false)), (11, .t (encI (k : Nat))), (21, .t (encI B.length)), (22, .t (encI (i : Nat)))], [(3, some ⟨1, 3, k + 1, els2⟩), (10, some ⟨5, 42, 1, ((stepTo B (openF B k) k (bestF (openF B k) k) i).map encB).map .t⟩)]⟩) (_) (⟨_, weak_keep (n := 47) (fr' := [(1, .t (.ptr [.sl (B.map encB) false])), (3, .own 3 (k + 1) 0 _), (4, .own 10 1 0 B.length), (5, .t (encI (k : Nat))), (6, .t (.sl ((bestF (openF B k) k).map encN) false)), (11, .t (encI (k : Nat))), (21, .t (encI B.length)), (22, .t (encI (0 : Nat)))]) (st' := [(3, some ⟨1, 3, k + 1, _⟩), (10, some ⟨5, 42, 1, ((stepTo B (openF B k) k (bestF (openF B k) k) 0).map encB).map .t⟩)]) ⟨rfl, rfl, rfl, rfl, rfl, rfl, rfl, rfl, rfl, rfl, rfl, rfl, rfl, rfl, rfl, rfl, trivial⟩ ⟨rfl, (by first | (rw [he2]; exact okE_t) | (rw [he]; intro x hx; rcases List.mem_append.1 hx with h | h <;> (obtain ⟨y, _, rfl⟩ := List.mem_map.1 h; rfl))), by first | rfl | (rw [stepTo_zero hOl]; rfl) | (rw [stepTo_same hil (fun hh => by first | exact absurd hh.1 (by assumption) | (have h8 := hh.2; simp_all))]; rfl), okE_t, trivial⟩, 0, _, _, (by omega), (by rw [out_succ, hnn]; simp), (by rw [out_succ, he]; simp), rfl, rfl⟩) ?_
    rintro m s ⟨i, n2, els2, hi, hnn2, he2, rfl, rfl⟩
    refine awp_seq ?_
    refine awp_rw rfl ?_
    refine RW.op rfl rfl (eff_iop rfl rfl rfl rfl rfl) ?_
    refine RW.nil ?_
    refine awp_seq ?_
    refine awp_cond rfl (fun h2 => ?_) (fun h2 => ?_)
    · try simp only [decide_eq_true_eq, decide_eq_false_iff_not, beq_iff_eq, bne_iff_ne, bne_eq_false_iff_eq, beq_eq_false_iff_ne, Bool.not_eq_true, Bool.not_eq_false, Bool.not_eq_true', Bool.not_eq_false', ne_eq] at h2
      refine awp_skip ?_
      refine awp_seq ?_
      refine awp_block ?_
      refine awp_seq ?_
      refine awp_rw rfl ?_
      have hil : i < B.length := by omega
      have hel : ((stepTo B (openF B k) k (bestF (openF B k) k) i).map encB)[i]? = some (encB ((openF B k).getD i zb)) := by rw [List.getElem?_map, stepTo_get hil]; rfl
      refine RW.op rfl rfl (eff_move (v := .t _) rfl rfl rfl) ?_
      refine RW.new rfl rfl (eff_allocK (k := 1) (id := 7) rfl rfl tz3 rfl rfl) ?_
      refine RW.store rfl rfl (eff_storeW (v := .t _) (els := [_]) (els' := [_]) rfl rfl ti3 rfl rfl rfl rfl rfl rfl rfl rfl rfl) ?_
      refine RW.nil ?_
      show AWP _ _ _ _
      refine awp_weak (weak_frz (n := 47) (fr' := [(1, .t (.ptr [.sl (B.map encB) false])), (3, .own 3 (k + 1) 0 n2), (4, .own 10 1 0 B.length), (5, .t (encI (k : Nat))), (6, .t (.sl ((bestF (openF B k) k).map encN) false)), (11, .t (encI (k : Nat))), (21, .t (encI B.length)), (22, .t (encI (i : Nat))), (7, .t (.ptr [encI (i : Nat)]))]) (st' := [(3, some ⟨1, 3, k + 1, els2⟩), (10, some ⟨5, 42, 1, ((stepTo B (openF B k) k (bestF (openF B k) k) i).map encB).map .t⟩)]) [(7, some ⟨1, 3, 0, [.t (encI (i : Nat))]⟩)] ⟨rfl, trivial⟩ ⟨rfl, rfl, trivial⟩ ⟨wa_eq rfl rfl, wa_eq rfl rfl, wa_eq rfl rfl, wa_eq rfl rfl, wa_eq rfl rfl, wa_eq rfl rfl, wa_eq rfl rfl, wa_eq rfl rfl, .res (Res.ptrT (x := encI (i : Nat)) rfl rfl rfl) (.refl _), trivial⟩ ⟨rfl, (by rw [he2]; exact okE_t), rfl, okE_t, trivial⟩) ?_
      refine awp_seq ?_
      refine awp_rw rfl ?_
      refine RW.op rfl rfl (eff_makeFunc rfl rfl rfl rfl) ?_
      refine RW.op rfl rfl (eff_assign (v := .t _) rfl rfl rfl) ?_
      refine RW.nil ?_
      refine awp_seq ?_
      refine awp_rw rfl ?_
      refine RW.op rfl rfl (eff_move (v := .own _ _ _ _) rfl rfl rfl) ?_
      refine RW.op rfl rfl (eff_loadT1 rfl rfl ti3 rfl rfl) ?_
      refine RW.op rfl rfl (eff_indexAddr (i := i) rfl rfl te23 rfl rfl rfl rfl rfl rfl (by first | omega | (simp only [List.length_map, stepTo_len]; omega))) ?_
      refine RW.op rfl rfl (eff_fieldAddr rfl rfl tf42_1 (by decide) rfl rfl rfl (Nat.le_of_ble_eq_true rfl)) ?_
      refine RW.op rfl rfl (eff_load (y := .t (encI ((openF B k).getD i zb).station)) rfl rfl ti3 rfl (.one rfl rfl (by rw [List.getElem?_map, Nat.zero_add, hel]; rfl) rfl)) ?_
      refine RW.op rfl rfl (eff_move (v := .t _) rfl rfl rfl) ?_
      refine RW.op rfl rfl (eff_iop rfl rfl rfl rfl rfl) ?_
      refine RW.op rfl rfl (eff_move (v := .t _) rfl rfl rfl) ?_
      refine RW.split 33 rfl (fun h3 => ?_) (fun h3 => ?_)
      · try simp only [decide_eq_true_eq, decide_eq_false_iff_not, beq_iff_eq, bne_iff_ne, bne_eq_false_iff_eq, beq_eq_false_iff_ne, Bool.not_eq_true, Bool.not_eq_false, Bool.not_eq_true', Bool.not_eq_false', ne_eq] at h3
        refine RW.gop rfl rfl rfl rfl rfl rfl (eff_move (v := .t _) rfl rfl rfl) ?_
        refine RW.gop rfl rfl rfl rfl rfl rfl (eff_move (v := .t _) rfl rfl rfl) ?_
        refine RW.gop rfl rfl rfl rfl rfl rfl (eff_callT (anyI_ret (bestF (openF B k) k) 60 [.ptr [.sl (B.map encB) false], .ptr [encI (i : Nat)]] (fun q => busyF B q i) (by omega) co60 (fun q hq => busy_ret B q i (by have := ((best_comp hOk.ok).1 q hq).1; omega) hil)) co61 rfl rfl rfl rfl) ?_
        refine RW.op rfl rfl (eff_pick (v := .t _) rfl rfl rfl rfl) ?_
        refine RW.nil ?_
        refine awp_cond rfl (fun h4 => ?_) (fun h4 => ?_)
        · try simp only [decide_eq_true_eq, decide_eq_false_iff_not, beq_iff_eq, bne_iff_ne, bne_eq_false_iff_eq, beq_eq_false_iff_ne, Bool.not_eq_true, Bool.not_eq_false, Bool.not_eq_true', Bool.not_eq_false', ne_eq] at h4
          refine awp_rw rfl ?_
          refine RW.op rfl rfl (eff_move (v := .own _ _ _ _) rfl rfl rfl) ?_
          refine RW.op rfl rfl (eff_loadT1 rfl rfl ti3 rfl rfl) ?_
          refine RW.op rfl rfl (eff_indexAddr (i := i) rfl rfl te23 rfl rfl rfl rfl rfl rfl (by first | omega | (simp only [List.length_map, stepTo_len]; omega))) ?_
          refine RW.op rfl rfl (eff_fieldAddr rfl rfl tf42_1 (by decide) rfl rfl rfl (Nat.le_of_ble_eq_true rfl)) ?_
          refine RW.store rfl rfl (eff_storeS (v := .t _) (el := .t (encB ((openF B k).getD i zb))) (ys := [encI ((openF B k).getD i zb).craft, encI (-1), encI ((openF B k).getD i zb).frm, encI ((openF B k).getD i zb).til, encI ((openF B k).getD i zb).val]) (els' := ((stepTo B (openF B k) k (bestF (openF B k) k) (i + 1)).map encB).map .t) rfl rfl ti3 rfl rfl rfl rfl rfl rfl (by rw [List.getElem?_map, Nat.zero_add, hel]; rfl) (Nat.le_of_ble_eq_true rfl) rfl (by rw [Nat.zero_add, stepTo_away hil (by first | exact ⟨by assumption, by assumption⟩ | simp_all), List.map_set, List.map_set]; rfl)) ?_
          refine RW.nil ?_
          refine awp_rw rfl ?_
          refine RW.op rfl rfl (eff_iop rfl rfl rfl rfl (iadd (by omega))) ?_
          refine RW.op rfl rfl (eff_move (v := .t _) rfl rfl rfl) ?_
          refine RW.nil ?_
          refine ⟨_, ?_, _, weak_keep (n := 47) (fr' := [(1, .t (.ptr [.sl (B.map encB) false])), (3, .own 3 (k + 1) 0 n2), (4, .own 10 1 0 B.length), (5, .t (encI (k : Nat))), (6, .t (.sl ((bestF (openF B k) k).map encN) false)), (11, .t (encI (k : Nat))), (21, .t (encI B.length)), (22, .t (encI ((i + 1) : Nat)))]) (st' := [(3, some ⟨1, 3, k + 1, els2⟩), (10, some ⟨5, 42, 1, ((stepTo B (openF B k) k (bestF (openF B k) k) (i + 1)).map encB).map .t⟩)]) ⟨rfl, rfl, rfl, rfl, rfl, rfl, rfl, rfl, rfl, rfl, rfl, rfl, rfl, rfl, rfl, rfl, trivial⟩ ⟨rfl, (by first | (rw [he2]; exact okE_t) | (rw [he]; intro x hx; rcases List.mem_append.1 hx with h | h <;> (obtain ⟨y, _, rfl⟩ := List.mem_map.1 h; rfl))), by first | rfl | (rw [stepTo_zero hOl]; rfl) | (rw [stepTo_same hil (fun hh => by first | exact absurd hh.1 (by assumption) | (have h8 := hh.2; simp_all))]; rfl), okE_t, trivial⟩, i + 1, n2, els2, (by omega), (by exact hnn2), (by exact he2), rfl, rfl⟩
          omega
        · try simp only [decide_eq_true_eq, decide_eq_false_iff_not, beq_iff_eq, bne_iff_ne, bne_eq_false_iff_eq, beq_eq_false_iff_ne, Bool.not_eq_true, Bool.not_eq_false, Bool.not_eq_true', Bool.not_eq_false', ne_eq] at h4
          refine awp_skip ?_
          refine awp_rw rfl ?_
          refine RW.op rfl rfl (eff_iop rfl rfl rfl rfl (iadd (by omega))) ?_
          refine RW.op rfl rfl (eff_move (v := .t _) rfl rfl rfl) ?_
          refine RW.nil ?_
          refine ⟨_, ?_, _, weak_keep (n := 47) (fr' := [(1, .t (.ptr [.sl (B.map encB) false])), (3, .own 3 (k + 1) 0 n2), (4, .own 10 1 0 B.length), (5, .t (encI (k : Nat))), (6, .t (.sl ((bestF (openF B k) k).map encN) false)), (11, .t (encI (k : Nat))), (21, .t (encI B.length)), (22, .t (encI ((i + 1) : Nat)))]) (st' := [(3, some ⟨1, 3, k + 1, els2⟩), (10, some ⟨5, 42, 1, ((stepTo B (openF B k) k (bestF (openF B k) k) (i + 1)).map encB).map .t⟩)]) ⟨rfl, rfl, rfl, rfl, rfl, rfl, rfl, rfl, rfl, rfl, rfl, rfl, rfl, rfl, rfl, rfl, trivial⟩ ⟨rfl, (by first | (rw [he2]; exact okE_t) | (rw [he]; intro x hx; rcases List.mem_append.1 hx with h | h <;> (obtain ⟨y, _, rfl⟩ := List.mem_map.1 h; rfl))), by first | rfl | (rw [stepTo_zero hOl]; rfl) | (rw [stepTo_same hil (fun hh => by first | exact absurd hh.1 (by assumption) | (have h8 := hh.2; simp_all))]; rfl), okE_t, trivial⟩, i + 1, n2, els2, (by omega), (by exact hnn2), (by exact he2), rfl, rfl⟩
          omega
      · try simp only [decide_eq_true_eq, decide_eq_false_iff_not, beq_iff_eq, bne_iff_ne, bne_eq_false_iff_eq, beq_eq_false_iff_ne, Bool.not_eq_true, Bool.not_eq_false, Bool.not_eq_true', Bool.not_eq_false', ne_eq] at h3
        refine RW.gskip rfl rfl rfl rfl rfl (by decide) ?_
        refine RW.gskip rfl rfl rfl rfl rfl (by decide) ?_
        refine RW.gskip rfl rfl rfl rfl rfl (by decide) ?_
        refine RW.op rfl rfl (eff_pick (v := .t _) rfl rfl rfl rfl) ?_
        refine RW.nil ?_
        refine awp_cond rfl (fun h => nomatch h) (fun _ => ?_)
        refine awp_skip ?_
        refine awp_rw rfl ?_
        refine RW.op rfl rfl (eff_iop rfl rfl rfl rfl (iadd (by omega))) ?_
        refine RW.op rfl rfl (eff_move (v := .t _) rfl rfl rfl) ?_
        refine RW.nil ?_
        refine ⟨_, ?_, _, weak_keep (n := 47) (fr' := [(1, .t (.ptr [.sl (B.map encB) false])), (3, .own 3 (k + 1) 0 n2), (4, .own 10 1 0 B.length), (5, .t (encI (k : Nat))), (6, .t (.sl ((bestF (openF B k) k).map encN) false)), (11, .t (encI (k : Nat))), (21, .t (encI B.length)), (22, .t (encI ((i + 1) : Nat)))]) (st' := [(3, some ⟨1, 3, k + 1, els2⟩), (10, some ⟨5, 42, 1, ((stepTo B (openF B k) k (bestF (openF B k) k) (i + 1)).map encB).map .t⟩)]) ⟨rfl, rfl, rfl, rfl, rfl, rfl, rfl, rfl, rfl, rfl, rfl, rfl, rfl, rfl, rfl, rfl, trivial⟩ ⟨rfl, (by first | (rw [he2]; exact okE_t) | (rw [he]; intro x hx; rcases List.mem_append.1 hx with h | h <;> (obtain ⟨y, _, rfl⟩ := List.mem_map.1 h; rfl))), by first | rfl | (rw [stepTo_zero hOl]; rfl) | (rw [stepTo_same hil (fun hh => by first | exact absurd hh.1 (by assumption) | (have h8 := hh.2; simp_all))]; rfl), okE_t, trivial⟩, i + 1, n2, els2, (by omega), (by exact hnn2), (by exact he2), rfl, rfl⟩
        omega
    · try simp only [decide_eq_true_eq, decide_eq_false_iff_not, beq_iff_eq, bne_iff_ne, bne_eq_false_iff_eq, beq_eq_false_iff_ne, Bool.not_eq_true, Bool.not_eq_false, Bool.not_eq_true', Bool.not_eq_false', ne_eq] at h2
      refine awp_exit ?_
      refine awp_rw rfl ?_
      refine RW.op rfl rfl (eff_iop rfl rfl rfl rfl (iadd (by omega))) ?_
      refine RW.op rfl rfl (eff_move (v := .t _) rfl rfl rfl) ?_
      refine RW.nil ?_
      obtain rfl : i = B.length := by omega
      rw [stepTo_all]
      refine ⟨_, ?_, _, weak_keep (n := 47) (fr' := [(1, .t (.ptr [.sl (B.map encB) false])), (3, .own 3 (k + 1) 0 _), (4, .own 10 1 0 B.length), (11, .t (encI ((k + 1) : Nat)))]) (st' := [(3, some ⟨1, 3, (k + 1), _⟩), (10, some ⟨5, 42, 1, ((openF B (k + 1)).map encB).map .t⟩)]) ⟨rfl, rfl, rfl, rfl, rfl, rfl, rfl, rfl, trivial⟩ ⟨rfl, (by first | exact okE_nil | (rw [he2]; exact okE_t) | (rw [he]; exact okE_t)), rfl, okE_t, trivial⟩, k + 1, _, _, (by omega), (by exact hnn2), (by exact he2), rfl, rfl⟩
      omega
  · try simp only [decide_eq_true_eq, decide_eq_false_iff_not, beq_iff_eq, bne_iff_ne, bne_eq_false_iff_eq, beq_eq_false_iff_ne, Bool.not_eq_true, Bool.not_eq_false, Bool.not_eq_true', Bool.not_eq_false', ne_eq] at h1
    refine awp_exit ?_
    refine awp_seq ?_
    refine awp_rw rfl ?_
    obtain rfl : k = 9 := by omega
    refine RW.op rfl rfl (eff_move (v := .own _ _ _ _) rfl rfl rfl) ?_
    refine RW.new rfl rfl (eff_sortInts Try.sortI (toI (outF B 9)) (by rw [toI_len]; omega) rfl co62 rfl rfl rfl rfl rfl (by rw [he, encN_map]; rfl) (by rw [hnn, toI_len]) rfl) ?_
    refine RW.nil ?_
    refine awp_seq ?_
    refine awp_rw rfl ?_
    refine RW.op rfl rfl (eff_move (v := .own _ _ _ _) rfl rfl rfl) ?_
    refine RW.op rfl rfl (eff_assign (v := .own _ _ _ _) rfl rfl rfl) ?_
    refine RW.nil ?_
    refine awp_ret ?_
    exact ⟨Or.inr rfl, [_], ⟨.tmp (Res.ownT (xs := (sortI (toI (outF B 9))).map encI) rfl rfl rfl (by rw [hnn, List.length_map, sortI_length, toI_len])), trivial⟩, .refl _⟩

end Go.Tv.C35

end
section
open Go Go.Tv Go.Proofs
namespace Go.Tv.C35
set_option maxRecDepth 20000
set_option maxHeartbeats 2000000
set_option linter.unusedSimpArgs false
set_option linter.unusedVariables false
theorem sortI_eq {l X : List Int} (h1 : X.Pairwise (· ≤ ·)) (h2 : X.Perm l) : X = sortI l :=
  List.Perm.eq_of_pairwise (fun a b _ _ h1 h2 => Int.le_antisymm h1 h2) h1 (sortI_sorted l) (h2.trans (sortI_perm l).symm)
end Go.Tv.C35

end
section
open Go Go.Tv Go.Proofs
namespace Go.Tv.C35
set_option maxRecDepth 20000
set_option maxHeartbeats 2000000
set_option linter.unusedSimpArgs false
set_option linter.unusedVariables false
def blk (B : List Bid) (o : List Nat) (s : Int) (j : Nat) : Bid := if (B.getD j zb).station = s ∧ (o.any fun k => busyF B k j) = true then away (B.getD j zb) else B.getD j zb
end Go.Tv.C35

end
section
open Go Go.Tv Go.Proofs
namespace Go.Tv.C35
set_option linter.unusedVariables false

structure Win where
  kind : Int
  a : Int
  b : Int
  frm : Int
  til : Int
  rate : Int
  deriving DecidableEq, Inhabited
def encW (w : Win) : Tr := .agg [encI w.kind, encI w.a, encI w.b, encI w.frm, encI w.til, encI w.rate]
def cellsW (w : Win) : List Sc := [.int .i64 w.kind, .int .i64 w.a, .int .i64 w.b, .int .i64 w.frm, .int .i64 w.til, .int .i64 w.rate]
theorem cellsW_kind (w : Win) : (cellsW w).map Sc.kind = [.int .i64, .int .i64, .int .i64, .int .i64, .int .i64, .int .i64] := rfl
theorem cellsW_inj (x y : Win) (h : cellsW x = cellsW y) : x = y := by
  obtain ⟨a1, a2, a3, a4, a5, a6⟩ := x
  obtain ⟨b1, b2, b3, b4, b5, b6⟩ := y
  simp only [cellsW, List.cons.injEq, Sc.int.injEq, true_and, and_true] at h
  obtain ⟨h1, h2, h3, h4, h5, h6⟩ := h
  subst h1 h2 h3 h4 h5 h6
  rfl
def zw : Win := ⟨0, 0, 0, 0, 0, 0⟩
def keyB (k a b : Int) (w : Win) : Bool := decide (w.kind = k ∧ w.a = a ∧ w.b = b)
def passB (craft tick : Int) (w : Win) : Bool := decide (w.kind = 1 ∧ w.a = craft ∧ w.til > tick)
def passesF (t : List Win) (craft tick : Int) : List Win := t.filter (passB craft tick)
def nextF (t : List Win) (k a b tick : Int) : Win × Bool := match (t.filter (keyB k a b)).find? (fun w => decide (w.til > tick)) with
  | some w => (w, true)
  | none => (zw, false)
def atF (t : List Win) (k a b tick : Int) : Win × Bool := if (nextF t k a b tick).2 = true ∧ (nextF t k a b tick).1.frm ≤ tick then ((nextF t k a b tick).1, true) else (zw, false)
def validB (b : Bid) : Bool := decide (0 ≤ b.craft ∧ b.craft < 12 ∧ 0 ≤ b.station ∧ b.station < 9 ∧ 0 ≤ b.frm ∧ b.frm < b.til ∧ b.til ≤ 1000000 ∧ 1 ≤ b.val ∧ b.val ≤ 1000000)
def atB (t : List Win) (b : Bid) : Bool := decide ((atF t 1 b.craft b.station b.frm).2 = true ∧ ¬ (atF t 1 b.craft b.station b.frm).1.til < b.til)
def errG (f : Bid → Bool) : List Bid → Int
  | [] => 0
  | b :: l => if validB b = true then (if f b = true then errG f l else 32) else 5
def errF (f : Bid → Bool) (l : List Bid) : Int := if l.length > 64 then 2 else errG f l
theorem errG_drop {f : Bid → Bool} : ∀ {l : List Bid} {i : Nat}, i ≤ l.length → (∀ b, b ∈ l.take i → validB b = true ∧ f b = true) → errG f l = errG f (l.drop i)
  | _, 0, _, _ => by simp
  | [], i + 1, h, _ => by simp at h
  | b :: l, i + 1, h, hh => by
    obtain ⟨h1, h2⟩ := hh b (by simp)
    have := errG_drop (f := f) (l := l) (i := i) (by simpa using h) (fun c hc => hh c (by simp [hc]))
    show (if validB b = true then (if f b = true then errG f l else 32) else 5) = errG f (l.drop i)
    rw [if_pos h1, if_pos h2, this]
theorem errG_at {f : Bid → Bool} {l : List Bid} {i : Nat} (hi : i < l.length) (hh : ∀ b, b ∈ l.take i → validB b = true ∧ f b = true) : errG f l = if validB l[i] = true then (if f l[i] = true then errG f (l.drop (i + 1)) else 32) else 5 := by
  rw [errG_drop (Nat.le_of_lt hi) hh, List.drop_eq_getElem_cons hi]; rfl
theorem filter_get {α : Type} {p : α → Bool} {l : List α} {i : Nat} (hi : i < l.length) (hp : p l[i] = true) : (l.filter p)[((l.take i).filter p).length]? = some l[i] := by
  have h := List.take_append_drop i l
  have h2 : l.filter p = (l.take i).filter p ++ (l.drop i).filter p := by rw [← List.filter_append, h]
  rw [h2, List.getElem?_append_right (Nat.le_refl _), Nat.sub_self, List.drop_eq_getElem_cons hi, List.filter_cons, if_pos hp]; rfl
theorem filter_take_yes {α : Type} {p : α → Bool} {l : List α} {i : Nat} (hi : i < l.length) (hp : p l[i] = true) : ((l.take (i + 1)).filter p) = ((l.take i).filter p) ++ [l[i]] := by
  rw [take_succ_get hi, List.filter_append, List.filter_cons, if_pos hp]; rfl
theorem filter_take_no {α : Type} {p : α → Bool} {l : List α} {i : Nat} (hi : i < l.length) (hp : p l[i] = false) : ((l.take (i + 1)).filter p) = ((l.take i).filter p) := by
  rw [take_succ_get hi, List.filter_append, List.filter_cons, if_neg (by rw [hp]; decide)]; simp
theorem next_first {t : List Win} {k a b tick : Int} {i : Nat} {w : Win} (h : (t.filter (keyB k a b))[i]? = some w) (hp : ∀ y, y ∈ (t.filter (keyB k a b)).take i → ¬ y.til > tick) (hw : w.til > tick) : nextF t k a b tick = (w, true) := by
  obtain ⟨hi, he⟩ := List.getElem?_eq_some_iff.1 h
  have hf : (t.filter (keyB k a b)).find? (fun w => decide (w.til > tick)) = some w := by
    rw [List.find?_eq_some_iff_getElem]
    refine ⟨decide_eq_true hw, i, hi, he, fun j hj => ?_⟩
    have := hp ((t.filter (keyB k a b))[j]'(by omega)) (List.mem_take_iff_getElem.2 ⟨j, by omega, rfl⟩)
    simpa using this
  unfold nextF; rw [hf]
theorem next_never {t : List Win} {k a b tick : Int} (hp : ∀ y, y ∈ t.filter (keyB k a b) → ¬ y.til > tick) : nextF t k a b tick = (zw, false) := by
  have hf : (t.filter (keyB k a b)).find? (fun w => decide (w.til > tick)) = none := by
    rw [List.find?_eq_none]
    intro y hy; have := hp y hy; simpa using this
  unfold nextF; rw [hf]
end Go.Tv.C35

end
section
open Go Go.Tv Go.Proofs
namespace Go.Tv.C35
set_option maxRecDepth 20000
set_option maxHeartbeats 2000000
set_option linter.unusedSimpArgs false
set_option linter.unusedVariables false
theorem of_iter (t : List Win) (kd a b : Int) (ht : t.length ≤ 100000) : Iter Try.prog 105 [.ptr [.sl (t.map encW) false], .ptr [encI kd], .ptr [encI a], .ptr [encI b]] ((t.filter (keyB kd a b)).map encW) := by
  refine iter_of_awj Try.func105 rfl (Nat.le_of_ble_eq_true rfl) rfl ?_
  intro γ X hds At Stop yl hy g0 hAt
  refine awj_seq ?_
  refine awj_rj rfl ?_
  refine RJ.op rfl rfl (eff_loadT1 rfl rfl ti25 rfl rfl) ?_
  refine RJ.op rfl rfl (eff_lenM rfl rfl te25 rfl) ?_
  refine RJ.op rfl rfl (eff_move (v := .t _) rfl rfl rfl) ?_
  refine RJ.nil ?_
  refine awj_block ?_
  refine awj_loopW (fun m s g => ∃ (i : Nat), (i ≤ t.length) ∧ (At ((t.take i).filter (keyB kd a b)).length g) ∧ m = t.length - i ∧ s = ⟨37, [(0, .t (.yld yl)), (1, .t (.ptr [.sl (t.map encW) false])), (2, .t (.ptr [encI kd])), (3, .t (.ptr [encI a])), (4, .t (.ptr [encI b])), (8, .t (.sl (t.map encW) false)), (9, .t (encI t.length)), (10, .t (encI (i : Nat)))], []⟩) (_) (⟨_, weak_keep (n := 37) (fr' := [(0, .t (.yld yl)), (1, .t (.ptr [.sl (t.map encW) false])), (2, .t (.ptr [encI kd])), (3, .t (.ptr [encI a])), (4, .t (.ptr [encI b])), (8, .t (.sl (t.map encW) false)), (9, .t (encI t.length)), (10, .t (encI (0 : Nat)))]) (st' := []) ⟨rfl, rfl, rfl, rfl, rfl, rfl, rfl, rfl, rfl, rfl, rfl, rfl, rfl, rfl, rfl, rfl, trivial⟩ trivial, 0, (by omega), (by exact hAt), rfl, rfl⟩) ?_
  rintro m s g ⟨i, hi, hA, rfl, rfl⟩
  refine awj_seq ?_
  refine awj_rj rfl ?_
  refine RJ.op rfl rfl (eff_iop rfl rfl rfl rfl rfl) ?_
  refine RJ.nil ?_
  refine awj_seq ?_
  refine awj_cond rfl (fun h1 => ?_) (fun h1 => ?_)
  · try simp only [decide_eq_true_eq, decide_eq_false_iff_not, beq_iff_eq, bne_iff_ne, bne_eq_false_iff_eq, beq_eq_false_iff_ne, Bool.not_eq_true, Bool.not_eq_false, Bool.not_eq_true', Bool.not_eq_false', ne_eq] at h1
    refine awj_skip ?_
    refine awj_seq ?_
    refine awj_block ?_
    refine awj_seq ?_
    refine awj_rj rfl ?_
    have hil : i < t.length := by omega
    refine RJ.op rfl rfl (eff_indexAddrT (i := i) rfl rfl te25 rfl rfl (by first | rfl | omega) (by rw [List.getElem?_map, List.getElem?_eq_getElem hil]; rfl) rfl (by decide)) ?_
    refine RJ.op rfl rfl (eff_loadW rfl rfl ti29 rfl rfl rfl) ?_
    refine RJ.new rfl rfl (eff_allocK (k := 6) (id := 7) rfl rfl tz29 rfl rfl) ?_
    refine RJ.store rfl rfl (eff_storeW (v := .t _) (els := [_]) (els' := [_]) rfl rfl ti29 rfl rfl rfl rfl rfl rfl rfl rfl rfl) ?_
    refine RJ.nil ?_
    refine awj_seq ?_
    refine awj_rj rfl ?_
    refine RJ.op rfl rfl (eff_fieldAddr rfl rfl tf29_0 (by decide) rfl rfl rfl (Nat.le_of_ble_eq_true rfl)) ?_
    refine RJ.op rfl rfl (eff_load (y := .t _) rfl rfl ti3 rfl (.one rfl rfl rfl rfl)) ?_
    refine RJ.op rfl rfl (eff_loadT1 rfl rfl ti3 rfl rfl) ?_
    refine RJ.op rfl rfl (eff_iop rfl rfl rfl rfl rfl) ?_
    refine RJ.op rfl rfl (eff_move (v := .t _) rfl rfl rfl) ?_
    refine RJ.split 18 rfl (fun h2 => ?_) (fun h2 => ?_)
    · try simp only [decide_eq_true_eq, decide_eq_false_iff_not, beq_iff_eq, bne_iff_ne, bne_eq_false_iff_eq, beq_eq_false_iff_ne, Bool.not_eq_true, Bool.not_eq_false, Bool.not_eq_true', Bool.not_eq_false', ne_eq] at h2
      refine RJ.gop rfl rfl rfl rfl rfl rfl (eff_fieldAddr rfl rfl tf29_1 (by decide) rfl rfl rfl (Nat.le_of_ble_eq_true rfl)) ?_
      refine RJ.gop rfl rfl rfl rfl rfl rfl (eff_load (y := .t _) rfl rfl ti3 rfl (.one rfl rfl rfl rfl)) ?_
      refine RJ.gop rfl rfl rfl rfl rfl rfl (eff_loadT1 rfl rfl ti3 rfl rfl) ?_
      refine RJ.gop rfl rfl rfl rfl rfl rfl (eff_iop rfl rfl rfl rfl rfl) ?_
      refine RJ.op rfl rfl (eff_pick (v := .t _) rfl rfl rfl rfl) ?_
      refine RJ.op rfl rfl (eff_move (v := .t _) rfl rfl rfl) ?_
      refine RJ.split 24 rfl (fun h3 => ?_) (fun h3 => ?_)
      · try simp only [decide_eq_true_eq, decide_eq_false_iff_not, beq_iff_eq, bne_iff_ne, bne_eq_false_iff_eq, beq_eq_false_iff_ne, Bool.not_eq_true, Bool.not_eq_false, Bool.not_eq_true', Bool.not_eq_false', ne_eq] at h3
        refine RJ.gop rfl rfl rfl rfl rfl rfl (eff_fieldAddr rfl rfl tf29_2 (by decide) rfl rfl rfl (Nat.le_of_ble_eq_true rfl)) ?_
        refine RJ.gop rfl rfl rfl rfl rfl rfl (eff_load (y := .t _) rfl rfl ti3 rfl (.one rfl rfl rfl rfl)) ?_
        refine RJ.gop rfl rfl rfl rfl rfl rfl (eff_loadT1 rfl rfl ti3 rfl rfl) ?_
        refine RJ.gop rfl rfl rfl rfl rfl rfl (eff_iop rfl rfl rfl rfl rfl) ?_
        refine RJ.op rfl rfl (eff_pick (v := .t _) rfl rfl rfl rfl) ?_
        refine RJ.op rfl rfl (eff_move (v := .t _) rfl rfl rfl) ?_
        refine RJ.split 30 rfl (fun h4 => ?_) (fun h4 => ?_)
        · try simp only [decide_eq_true_eq, decide_eq_false_iff_not, beq_iff_eq, bne_iff_ne, bne_eq_false_iff_eq, beq_eq_false_iff_ne, Bool.not_eq_true, Bool.not_eq_false, Bool.not_eq_true', Bool.not_eq_false', ne_eq] at h4
          refine RJ.gop rfl rfl rfl rfl rfl rfl (eff_move (v := .t _) rfl rfl rfl) ?_
          refine RJ.gop rfl rfl rfl rfl rfl rfl (eff_load rfl rfl ti29 rfl (.whole rfl rfl rfl rfl rfl rfl)) ?_
          have hpos : ((t.filter (keyB kd a b)).map encW)[((t.take i).filter (keyB kd a b)).length]? = some (encW (t[i]'hil)) := by
            rw [List.getElem?_map, filter_get hil (by unfold keyB; exact decide_eq_true ⟨by omega, by omega, by omega⟩)]; rfl
          refine RJ.many (.inr ⟨_, _, _, _, _, rfl, rfl, rfl, rfl, rfl⟩) (eff_yield rfl rfl rfl rfl hds (hy _ _ _ hpos hA)) ?_
          rintro e g2 ⟨yb, rfl, hyb⟩
          show RJ _ _ _ _ _ ⟨_, (33, .t (.bool yb)) :: _, _⟩ _ _
          refine RJ.gop rfl rfl rfl rfl rfl rfl (eff_unop rfl rfl rfl rfl) ?_
          refine RJ.op rfl rfl (eff_pick (v := .t _) rfl rfl rfl rfl) ?_
          refine RJ.nil ?_
          refine awj_cond rfl (fun h5 => ?_) (fun h5 => ?_)
          · try simp only [decide_eq_true_eq, decide_eq_false_iff_not, beq_iff_eq, bne_iff_ne, bne_eq_false_iff_eq, beq_eq_false_iff_ne, Bool.not_eq_true, Bool.not_eq_false, Bool.not_eq_true', Bool.not_eq_false', ne_eq] at h5
            refine awj_ret ?_
            rcases hyb with ⟨h, _⟩ | ⟨_, h⟩
            · exact absurd (h.symm.trans (by assumption : yb = false)) (by decide)
            · exact ⟨Or.inr rfl, Or.inr h⟩
          · try simp only [decide_eq_true_eq, decide_eq_false_iff_not, beq_iff_eq, bne_iff_ne, bne_eq_false_iff_eq, beq_eq_false_iff_ne, Bool.not_eq_true, Bool.not_eq_false, Bool.not_eq_true', Bool.not_eq_false', ne_eq] at h5
            refine awj_skip ?_
            refine awj_rj rfl ?_
            refine RJ.op rfl rfl (eff_iop rfl rfl rfl rfl (iadd (by omega))) ?_
            refine RJ.op rfl rfl (eff_move (v := .t _) rfl rfl rfl) ?_
            refine RJ.nil ?_
            refine ⟨_, ?_, _, weak_keep (n := 37) (fr' := [(0, .t (.yld yl)), (1, .t (.ptr [.sl (t.map encW) false])), (2, .t (.ptr [encI kd])), (3, .t (.ptr [encI a])), (4, .t (.ptr [encI b])), (8, .t (.sl (t.map encW) false)), (9, .t (encI t.length)), (10, .t (encI ((i + 1) : Nat)))]) (st' := []) ⟨rfl, rfl, rfl, rfl, rfl, rfl, rfl, rfl, rfl, rfl, rfl, rfl, rfl, rfl, rfl, rfl, trivial⟩ trivial, i + 1, (by omega), (by first | (rw [filter_take_no hil (by unfold keyB; exact decide_eq_false (by omega))]; exact hA) | (rw [filter_take_yes hil (by unfold keyB; exact decide_eq_true ⟨by omega, by omega, by omega⟩), List.length_append]; rcases hyb with ⟨_, h⟩ | ⟨h, _⟩ <;> first | exact h | exact absurd (h.symm.trans (by assumption : yb = true)) (by decide))), rfl, rfl⟩
            omega
        · try simp only [decide_eq_true_eq, decide_eq_false_iff_not, beq_iff_eq, bne_iff_ne, bne_eq_false_iff_eq, beq_eq_false_iff_ne, Bool.not_eq_true, Bool.not_eq_false, Bool.not_eq_true', Bool.not_eq_false', ne_eq] at h4
          refine RJ.gskip rfl rfl rfl rfl rfl (by decide) ?_
          refine RJ.gskip rfl rfl rfl rfl rfl (by decide) ?_
          refine RJ.gskip rfl rfl rfl rfl rfl (by decide) ?_
          refine RJ.gskip rfl rfl rfl rfl rfl (by decide) ?_
          refine RJ.op rfl rfl (eff_pick (v := .t _) rfl rfl rfl rfl) ?_
          refine RJ.nil ?_
          refine awj_cond rfl (fun h => nomatch h) (fun _ => ?_)
          refine awj_skip ?_
          refine awj_rj rfl ?_
          refine RJ.op rfl rfl (eff_iop rfl rfl rfl rfl (iadd (by omega))) ?_
          refine RJ.op rfl rfl (eff_move (v := .t _) rfl rfl rfl) ?_
          refine RJ.nil ?_
          refine ⟨_, ?_, _, weak_keep (n := 37) (fr' := [(0, .t (.yld yl)), (1, .t (.ptr [.sl (t.map encW) false])), (2, .t (.ptr [encI kd])), (3, .t (.ptr [encI a])), (4, .t (.ptr [encI b])), (8, .t (.sl (t.map encW) false)), (9, .t (encI t.length)), (10, .t (encI ((i + 1) : Nat)))]) (st' := []) ⟨rfl, rfl, rfl, rfl, rfl, rfl, rfl, rfl, rfl, rfl, rfl, rfl, rfl, rfl, rfl, rfl, trivial⟩ trivial, i + 1, (by omega), (by first | (rw [filter_take_no hil (by unfold keyB; exact decide_eq_false (by omega))]; exact hA) | (rw [filter_take_yes hil (by unfold keyB; exact decide_eq_true ⟨by omega, by omega, by omega⟩), List.length_append]; rcases hyb with ⟨_, h⟩ | ⟨h, _⟩ <;> first | exact h | exact absurd (h.symm.trans (by assumption : yb = true)) (by decide))), rfl, rfl⟩
          omega
      · try simp only [decide_eq_true_eq, decide_eq_false_iff_not, beq_iff_eq, bne_iff_ne, bne_eq_false_iff_eq, beq_eq_false_iff_ne, Bool.not_eq_true, Bool.not_eq_false, Bool.not_eq_true', Bool.not_eq_false', ne_eq] at h3
        refine RJ.gskip rfl rfl rfl rfl rfl (by decide) ?_
        refine RJ.gskip rfl rfl rfl rfl rfl (by decide) ?_
        refine RJ.gskip rfl rfl rfl rfl rfl (by decide) ?_
        refine RJ.gskip rfl rfl rfl rfl rfl (by decide) ?_
        refine RJ.op rfl rfl (eff_pick (v := .t _) rfl rfl rfl rfl) ?_
        refine RJ.op rfl rfl (eff_move (v := .t _) rfl rfl rfl) ?_
        refine RJ.gskip rfl rfl rfl rfl rfl (by decide) ?_
        refine RJ.gskip rfl rfl rfl rfl rfl (by decide) ?_
        refine RJ.gskip rfl rfl rfl rfl rfl (by decide) ?_
        refine RJ.gskip rfl rfl rfl rfl rfl (by decide) ?_
        refine RJ.op rfl rfl (eff_pick (v := .t _) rfl rfl rfl rfl) ?_
        refine RJ.nil ?_
        refine awj_cond rfl (fun h => nomatch h) (fun _ => ?_)
        refine awj_skip ?_
        refine awj_rj rfl ?_
        refine RJ.op rfl rfl (eff_iop rfl rfl rfl rfl (iadd (by omega))) ?_
        refine RJ.op rfl rfl (eff_move (v := .t _) rfl rfl rfl) ?_
        refine RJ.nil ?_
        refine ⟨_, ?_, _, weak_keep (n := 37) (fr' := [(0, .t (.yld yl)), (1, .t (.ptr [.sl (t.map encW) false])), (2, .t (.ptr [encI kd])), (3, .t (.ptr [encI a])), (4, .t (.ptr [encI b])), (8, .t (.sl (t.map encW) false)), (9, .t (encI t.length)), (10, .t (encI ((i + 1) : Nat)))]) (st' := []) ⟨rfl, rfl, rfl, rfl, rfl, rfl, rfl, rfl, rfl, rfl, rfl, rfl, rfl, rfl, rfl, rfl, trivial⟩ trivial, i + 1, (by omega), (by first | (rw [filter_take_no hil (by unfold keyB; exact decide_eq_false (by omega))]; exact hA) | (rw [filter_take_yes hil (by unfold keyB; exact decide_eq_true ⟨by omega, by omega, by omega⟩), List.length_append]; rcases hyb with ⟨_, h⟩ | ⟨h, _⟩ <;> first | exact h | exact absurd (h.symm.trans (by assumption : yb = true)) (by decide))), rfl, rfl⟩
        omega
    · try simp only [decide_eq_true_eq, decide_eq_false_iff_not, beq_iff_eq, bne_iff_ne, bne_eq_false_iff_eq, beq_eq_false_iff_ne, Bool.not_eq_true, Bool.not_eq_false, Bool.not_eq_true', Bool.not_eq_false', ne_eq] at h2
      refine RJ.gskip rfl rfl rfl rfl rfl (by decide) ?_
      refine RJ.gskip rfl rfl rfl rfl rfl (by decide) ?_
      refine RJ.gskip rfl rfl rfl rfl rfl (by decide) ?_
      refine RJ.gskip rfl rfl rfl rfl rfl (by decide) ?_
      refine RJ.op rfl rfl (eff_pick (v := .t _) rfl rfl rfl rfl) ?_
      refine RJ.op rfl rfl (eff_move (v := .t _) rfl rfl rfl) ?_
      refine RJ.gskip rfl rfl rfl rfl rfl (by decide) ?_
      refine RJ.gskip rfl rfl rfl rfl rfl (by decide) ?_
      refine RJ.gskip rfl rfl rfl rfl rfl (by decide) ?_
      refine RJ.gskip rfl rfl rfl rfl rfl (by decide) ?_
      refine RJ.op rfl rfl (eff_pick (v := .t _) rfl rfl rfl rfl) ?_
      refine RJ.op rfl rfl (eff_move (v := .t _) rfl rfl rfl) ?_
      refine RJ.gskip rfl rfl rfl rfl rfl (by decide) ?_
      refine RJ.gskip rfl rfl rfl rfl rfl (by decide) ?_
      refine RJ.gskip rfl rfl rfl rfl rfl (by decide) ?_
      refine RJ.gskip rfl rfl rfl rfl rfl (by decide) ?_
      refine RJ.op rfl rfl (eff_pick (v := .t _) rfl rfl rfl rfl) ?_
      refine RJ.nil ?_
      refine awj_cond rfl (fun h => nomatch h) (fun _ => ?_)
      refine awj_skip ?_
      refine awj_rj rfl ?_
      refine RJ.op rfl rfl (eff_iop rfl rfl rfl rfl (iadd (by omega))) ?_
      refine RJ.op rfl rfl (eff_move (v := .t _) rfl rfl rfl) ?_
      refine RJ.nil ?_
      refine ⟨_, ?_, _, weak_keep (n := 37) (fr' := [(0, .t (.yld yl)), (1, .t (.ptr [.sl (t.map encW) false])), (2, .t (.ptr [encI kd])), (3, .t (.ptr [encI a])), (4, .t (.ptr [encI b])), (8, .t (.sl (t.map encW) false)), (9, .t (encI t.length)), (10, .t (encI ((i + 1) : Nat)))]) (st' := []) ⟨rfl, rfl, rfl, rfl, rfl, rfl, rfl, rfl, rfl, rfl, rfl, rfl, rfl, rfl, rfl, rfl, trivial⟩ trivial, i + 1, (by omega), (by first | (rw [filter_take_no hil (by unfold keyB; exact decide_eq_false (by omega))]; exact hA) | (rw [filter_take_yes hil (by unfold keyB; exact decide_eq_true ⟨by omega, by omega, by omega⟩), List.length_append]; rcases hyb with ⟨_, h⟩ | ⟨h, _⟩ <;> first | exact h | exact absurd (h.symm.trans (by assumption : yb = true)) (by decide))), rfl, rfl⟩
      omega
  · try simp only [decide_eq_true_eq, decide_eq_false_iff_not, beq_iff_eq, bne_iff_ne, bne_eq_false_iff_eq, beq_eq_false_iff_ne, Bool.not_eq_true, Bool.not_eq_false, Bool.not_eq_true', Bool.not_eq_false', ne_eq] at h1
    refine awj_exit ?_
    have hi2 : i = t.length := by omega
    subst hi2
    rw [List.take_length] at hA
    exact ⟨Or.inl rfl, Or.inl (by rw [List.length_map]; exact hA)⟩

theorem contacts_iter (t : List Win) (craft tick : Int) (ht : t.length ≤ 100000) : Iter Try.prog 73 [.ptr [.sl (t.map encW) false], .ptr [encI craft], .ptr [encI tick]] ((t.filter (passB craft tick)).map encW) := by
  refine iter_of_awj Try.func73 rfl (Nat.le_of_ble_eq_true rfl) rfl ?_
  intro γ X hds At Stop yl hy g0 hAt
  refine awj_seq ?_
  refine awj_rj rfl ?_
  refine RJ.op rfl rfl (eff_loadT1 rfl rfl ti25 rfl rfl) ?_
  refine RJ.op rfl rfl (eff_lenM rfl rfl te25 rfl) ?_
  refine RJ.op rfl rfl (eff_move (v := .t _) rfl rfl rfl) ?_
  refine RJ.nil ?_
  refine awj_block ?_
  refine awj_loopW (fun m s g => ∃ (i : Nat), (i ≤ t.length) ∧ (At ((t.take i).filter (passB craft tick)).length g) ∧ m = t.length - i ∧ s = ⟨35, [(0, .t (.yld yl)), (1, .t (.ptr [.sl (t.map encW) false])), (2, .t (.ptr [encI craft])), (3, .t (.ptr [encI tick])), (7, .t (.sl (t.map encW) false)), (8, .t (encI t.length)), (9, .t (encI (i : Nat)))], []⟩) (_) (⟨_, weak_keep (n := 35) (fr' := [(0, .t (.yld yl)), (1, .t (.ptr [.sl (t.map encW) false])), (2, .t (.ptr [encI craft])), (3, .t (.ptr [encI tick])), (7, .t (.sl (t.map encW) false)), (8, .t (encI t.length)), (9, .t (encI (0 : Nat)))]) (st' := []) ⟨rfl, rfl, rfl, rfl, rfl, rfl, rfl, rfl, rfl, rfl, rfl, rfl, rfl, rfl, trivial⟩ trivial, 0, (by omega), (by exact hAt), rfl, rfl⟩) ?_
  rintro m s g ⟨i, hi, hA, rfl, rfl⟩
  refine awj_seq ?_
  refine awj_rj rfl ?_
  refine RJ.op rfl rfl (eff_iop rfl rfl rfl rfl rfl) ?_
  refine RJ.nil ?_
  refine awj_seq ?_
  refine awj_cond rfl (fun h1 => ?_) (fun h1 => ?_)
  · try simp only [decide_eq_true_eq, decide_eq_false_iff_not, beq_iff_eq, bne_iff_ne, bne_eq_false_iff_eq, beq_eq_false_iff_ne, Bool.not_eq_true, Bool.not_eq_false, Bool.not_eq_true', Bool.not_eq_false', ne_eq] at h1
    refine awj_skip ?_
    refine awj_seq ?_
    refine awj_block ?_
    refine awj_seq ?_
    refine awj_rj rfl ?_
    have hil : i < t.length := by omega
    refine RJ.op rfl rfl (eff_indexAddrT (i := i) rfl rfl te25 rfl rfl (by first | rfl | omega) (by rw [List.getElem?_map, List.getElem?_eq_getElem hil]; rfl) rfl (by decide)) ?_
    refine RJ.op rfl rfl (eff_loadW rfl rfl ti29 rfl rfl rfl) ?_
    refine RJ.new rfl rfl (eff_allocK (k := 6) (id := 6) rfl rfl tz29 rfl rfl) ?_
    refine RJ.store rfl rfl (eff_storeW (v := .t _) (els := [_]) (els' := [_]) rfl rfl ti29 rfl rfl rfl rfl rfl rfl rfl rfl rfl) ?_
    refine RJ.nil ?_
    refine awj_seq ?_
    refine awj_rj rfl ?_
    refine RJ.op rfl rfl (eff_fieldAddr rfl rfl tf29_0 (by decide) rfl rfl rfl (Nat.le_of_ble_eq_true rfl)) ?_
    refine RJ.op rfl rfl (eff_load (y := .t _) rfl rfl ti3 rfl (.one rfl rfl rfl rfl)) ?_
    refine RJ.op rfl rfl (eff_iop rfl rfl rfl rfl rfl) ?_
    refine RJ.op rfl rfl (eff_move (v := .t _) rfl rfl rfl) ?_
    refine RJ.split 16 rfl (fun h2 => ?_) (fun h2 => ?_)
    · try simp only [decide_eq_true_eq, decide_eq_false_iff_not, beq_iff_eq, bne_iff_ne, bne_eq_false_iff_eq, beq_eq_false_iff_ne, Bool.not_eq_true, Bool.not_eq_false, Bool.not_eq_true', Bool.not_eq_false', ne_eq] at h2
      refine RJ.gop rfl rfl rfl rfl rfl rfl (eff_fieldAddr rfl rfl tf29_1 (by decide) rfl rfl rfl (Nat.le_of_ble_eq_true rfl)) ?_
      refine RJ.gop rfl rfl rfl rfl rfl rfl (eff_load (y := .t _) rfl rfl ti3 rfl (.one rfl rfl rfl rfl)) ?_
      refine RJ.gop rfl rfl rfl rfl rfl rfl (eff_loadT1 rfl rfl ti3 rfl rfl) ?_
      refine RJ.gop rfl rfl rfl rfl rfl rfl (eff_iop rfl rfl rfl rfl rfl) ?_
      refine RJ.op rfl rfl (eff_pick (v := .t _) rfl rfl rfl rfl) ?_
      refine RJ.op rfl rfl (eff_move (v := .t _) rfl rfl rfl) ?_
      refine RJ.split 22 rfl (fun h3 => ?_) (fun h3 => ?_)
      · try simp only [decide_eq_true_eq, decide_eq_false_iff_not, beq_iff_eq, bne_iff_ne, bne_eq_false_iff_eq, beq_eq_false_iff_ne, Bool.not_eq_true, Bool.not_eq_false, Bool.not_eq_true', Bool.not_eq_false', ne_eq] at h3
        refine RJ.gop rfl rfl rfl rfl rfl rfl (eff_fieldAddr rfl rfl tf29_4 (by decide) rfl rfl rfl (Nat.le_of_ble_eq_true rfl)) ?_
        refine RJ.gop rfl rfl rfl rfl rfl rfl (eff_load (y := .t _) rfl rfl ti3 rfl (.one rfl rfl rfl rfl)) ?_
        refine RJ.gop rfl rfl rfl rfl rfl rfl (eff_loadT1 rfl rfl ti3 rfl rfl) ?_
        refine RJ.gop rfl rfl rfl rfl rfl rfl (eff_iop rfl rfl rfl rfl rfl) ?_
        refine RJ.op rfl rfl (eff_pick (v := .t _) rfl rfl rfl rfl) ?_
        refine RJ.op rfl rfl (eff_move (v := .t _) rfl rfl rfl) ?_
        refine RJ.split 28 rfl (fun h4 => ?_) (fun h4 => ?_)
        · try simp only [decide_eq_true_eq, decide_eq_false_iff_not, beq_iff_eq, bne_iff_ne, bne_eq_false_iff_eq, beq_eq_false_iff_ne, Bool.not_eq_true, Bool.not_eq_false, Bool.not_eq_true', Bool.not_eq_false', ne_eq] at h4
          refine RJ.gop rfl rfl rfl rfl rfl rfl (eff_move (v := .t _) rfl rfl rfl) ?_
          refine RJ.gop rfl rfl rfl rfl rfl rfl (eff_load rfl rfl ti29 rfl (.whole rfl rfl rfl rfl rfl rfl)) ?_
          have hpos : ((t.filter (passB craft tick)).map encW)[((t.take i).filter (passB craft tick)).length]? = some (encW (t[i]'hil)) := by
            rw [List.getElem?_map, filter_get hil (by unfold passB; exact decide_eq_true ⟨by omega, by omega, by omega⟩)]; rfl
          refine RJ.many (.inr ⟨_, _, _, _, _, rfl, rfl, rfl, rfl, rfl⟩) (eff_yield rfl rfl rfl rfl hds (hy _ _ _ hpos hA)) ?_
          rintro e g2 ⟨yb, rfl, hyb⟩
          show RJ _ _ _ _ _ ⟨_, (31, .t (.bool yb)) :: _, _⟩ _ _
          refine RJ.gop rfl rfl rfl rfl rfl rfl (eff_unop rfl rfl rfl rfl) ?_
          refine RJ.op rfl rfl (eff_pick (v := .t _) rfl rfl rfl rfl) ?_
          refine RJ.nil ?_
          refine awj_cond rfl (fun h5 => ?_) (fun h5 => ?_)
          · try simp only [decide_eq_true_eq, decide_eq_false_iff_not, beq_iff_eq, bne_iff_ne, bne_eq_false_iff_eq, beq_eq_false_iff_ne, Bool.not_eq_true, Bool.not_eq_false, Bool.not_eq_true', Bool.not_eq_false', ne_eq] at h5
            refine awj_ret ?_
            rcases hyb with ⟨h, _⟩ | ⟨_, h⟩
            · exact absurd (h.symm.trans (by assumption : yb = false)) (by decide)
            · exact ⟨Or.inr rfl, Or.inr h⟩
          · try simp only [decide_eq_true_eq, decide_eq_false_iff_not, beq_iff_eq, bne_iff_ne, bne_eq_false_iff_eq, beq_eq_false_iff_ne, Bool.not_eq_true, Bool.not_eq_false, Bool.not_eq_true', Bool.not_eq_false', ne_eq] at h5
            refine awj_skip ?_
            refine awj_rj rfl ?_
            refine RJ.op rfl rfl (eff_iop rfl rfl rfl rfl (iadd (by omega))) ?_
            refine RJ.op rfl rfl (eff_move (v := .t _) rfl rfl rfl) ?_
            refine RJ.nil ?_
            refine ⟨_, ?_, _, weak_keep (n := 35) (fr' := [(0, .t (.yld yl)), (1, .t (.ptr [.sl (t.map encW) false])), (2, .t (.ptr [encI craft])), (3, .t (.ptr [encI tick])), (7, .t (.sl (t.map encW) false)), (8, .t (encI t.length)), (9, .t (encI ((i + 1) : Nat)))]) (st' := []) ⟨rfl, rfl, rfl, rfl, rfl, rfl, rfl, rfl, rfl, rfl, rfl, rfl, rfl, rfl, trivial⟩ trivial, i + 1, (by omega), (by first | (rw [filter_take_no hil (by unfold passB; exact decide_eq_false (by omega))]; exact hA) | (rw [filter_take_yes hil (by unfold passB; exact decide_eq_true ⟨by omega, by omega, by omega⟩), List.length_append]; rcases hyb with ⟨_, h⟩ | ⟨h, _⟩ <;> first | exact h | exact absurd (h.symm.trans (by assumption : yb = true)) (by decide))), rfl, rfl⟩
            omega
        · try simp only [decide_eq_true_eq, decide_eq_false_iff_not, beq_iff_eq, bne_iff_ne, bne_eq_false_iff_eq, beq_eq_false_iff_ne, Bool.not_eq_true, Bool.not_eq_false, Bool.not_eq_true', Bool.not_eq_false', ne_eq] at h4
          refine RJ.gskip rfl rfl rfl rfl rfl (by decide) ?_
          refine RJ.gskip rfl rfl rfl rfl rfl (by decide) ?_
          refine RJ.gskip rfl rfl rfl rfl rfl (by decide) ?_
          refine RJ.gskip rfl rfl rfl rfl rfl (by decide) ?_
          refine RJ.op rfl rfl (eff_pick (v := .t _) rfl rfl rfl rfl) ?_
          refine RJ.nil ?_
          refine awj_cond rfl (fun h => nomatch h) (fun _ => ?_)
          refine awj_skip ?_
          refine awj_rj rfl ?_
          refine RJ.op rfl rfl (eff_iop rfl rfl rfl rfl (iadd (by omega))) ?_
          refine RJ.op rfl rfl (eff_move (v := .t _) rfl rfl rfl) ?_
          refine RJ.nil ?_
          refine ⟨_, ?_, _, weak_keep (n := 35) (fr' := [(0, .t (.yld yl)), (1, .t (.ptr [.sl (t.map encW) false])), (2, .t (.ptr [encI craft])), (3, .t (.ptr [encI tick])), (7, .t (.sl (t.map encW) false)), (8, .t (encI t.length)), (9, .t (encI ((i + 1) : Nat)))]) (st' := []) ⟨rfl, rfl, rfl, rfl, rfl, rfl, rfl, rfl, rfl, rfl, rfl, rfl, rfl, rfl, trivial⟩ trivial, i + 1, (by omega), (by first | (rw [filter_take_no hil (by unfold passB; exact decide_eq_false (by omega))]; exact hA) | (rw [filter_take_yes hil (by unfold passB; exact decide_eq_true ⟨by omega, by omega, by omega⟩), List.length_append]; rcases hyb with ⟨_, h⟩ | ⟨h, _⟩ <;> first | exact h | exact absurd (h.symm.trans (by assumption : yb = true)) (by decide))), rfl, rfl⟩
          omega
      · try simp only [decide_eq_true_eq, decide_eq_false_iff_not, beq_iff_eq, bne_iff_ne, bne_eq_false_iff_eq, beq_eq_false_iff_ne, Bool.not_eq_true, Bool.not_eq_false, Bool.not_eq_true', Bool.not_eq_false', ne_eq] at h3
        refine RJ.gskip rfl rfl rfl rfl rfl (by decide) ?_
        refine RJ.gskip rfl rfl rfl rfl rfl (by decide) ?_
        refine RJ.gskip rfl rfl rfl rfl rfl (by decide) ?_
        refine RJ.gskip rfl rfl rfl rfl rfl (by decide) ?_
        refine RJ.op rfl rfl (eff_pick (v := .t _) rfl rfl rfl rfl) ?_
        refine RJ.op rfl rfl (eff_move (v := .t _) rfl rfl rfl) ?_
        refine RJ.gskip rfl rfl rfl rfl rfl (by decide) ?_
        refine RJ.gskip rfl rfl rfl rfl rfl (by decide) ?_
        refine RJ.gskip rfl rfl rfl rfl rfl (by decide) ?_
        refine RJ.gskip rfl rfl rfl rfl rfl (by decide) ?_
        refine RJ.op rfl rfl (eff_pick (v := .t _) rfl rfl rfl rfl) ?_
        refine RJ.nil ?_
        refine awj_cond rfl (fun h => nomatch h) (fun _ => ?_)
        refine awj_skip ?_
        refine awj_rj rfl ?_
        refine RJ.op rfl rfl (eff_iop rfl rfl rfl rfl (iadd (by omega))) ?_
        refine RJ.op rfl rfl (eff_move (v := .t _) rfl rfl rfl) ?_
        refine RJ.nil ?_
        refine ⟨_, ?_, _, weak_keep (n := 35) (fr' := [(0, .t (.yld yl)), (1, .t (.ptr [.sl (t.map encW) false])), (2, .t (.ptr [encI craft])), (3, .t (.ptr [encI tick])), (7, .t (.sl (t.map encW) false)), (8, .t (encI t.length)), (9, .t (encI ((i + 1) : Nat)))]) (st' := []) ⟨rfl, rfl, rfl, rfl, rfl, rfl, rfl, rfl, rfl, rfl, rfl, rfl, rfl, rfl, trivial⟩ trivial, i + 1, (by omega), (by first | (rw [filter_take_no hil (by unfold passB; exact decide_eq_false (by omega))]; exact hA) | (rw [filter_take_yes hil (by unfold passB; exact decide_eq_true ⟨by omega, by omega, by omega⟩), List.length_append]; rcases hyb with ⟨_, h⟩ | ⟨h, _⟩ <;> first | exact h | exact absurd (h.symm.trans (by assumption : yb = true)) (by decide))), rfl, rfl⟩
        omega
    · try simp only [decide_eq_true_eq, decide_eq_false_iff_not, beq_iff_eq, bne_iff_ne, bne_eq_false_iff_eq, beq_eq_false_iff_ne, Bool.not_eq_true, Bool.not_eq_false, Bool.not_eq_true', Bool.not_eq_false', ne_eq] at h2
      refine RJ.gskip rfl rfl rfl rfl rfl (by decide) ?_
      refine RJ.gskip rfl rfl rfl rfl rfl (by decide) ?_
      refine RJ.gskip rfl rfl rfl rfl rfl (by decide) ?_
      refine RJ.gskip rfl rfl rfl rfl rfl (by decide) ?_
      refine RJ.op rfl rfl (eff_pick (v := .t _) rfl rfl rfl rfl) ?_
      refine RJ.op rfl rfl (eff_move (v := .t _) rfl rfl rfl) ?_
      refine RJ.gskip rfl rfl rfl rfl rfl (by decide) ?_
      refine RJ.gskip rfl rfl rfl rfl rfl (by decide) ?_
      refine RJ.gskip rfl rfl rfl rfl rfl (by decide) ?_
      refine RJ.gskip rfl rfl rfl rfl rfl (by decide) ?_
      refine RJ.op rfl rfl (eff_pick (v := .t _) rfl rfl rfl rfl) ?_
      refine RJ.op rfl rfl (eff_move (v := .t _) rfl rfl rfl) ?_
      refine RJ.gskip rfl rfl rfl rfl rfl (by decide) ?_
      refine RJ.gskip rfl rfl rfl rfl rfl (by decide) ?_
      refine RJ.gskip rfl rfl rfl rfl rfl (by decide) ?_
      refine RJ.gskip rfl rfl rfl rfl rfl (by decide) ?_
      refine RJ.op rfl rfl (eff_pick (v := .t _) rfl rfl rfl rfl) ?_
      refine RJ.nil ?_
      refine awj_cond rfl (fun h => nomatch h) (fun _ => ?_)
      refine awj_skip ?_
      refine awj_rj rfl ?_
      refine RJ.op rfl rfl (eff_iop rfl rfl rfl rfl (iadd (by omega))) ?_
      refine RJ.op rfl rfl (eff_move (v := .t _) rfl rfl rfl) ?_
      refine RJ.nil ?_
      refine ⟨_, ?_, _, weak_keep (n := 35) (fr' := [(0, .t (.yld yl)), (1, .t (.ptr [.sl (t.map encW) false])), (2, .t (.ptr [encI craft])), (3, .t (.ptr [encI tick])), (7, .t (.sl (t.map encW) false)), (8, .t (encI t.length)), (9, .t (encI ((i + 1) : Nat)))]) (st' := []) ⟨rfl, rfl, rfl, rfl, rfl, rfl, rfl, rfl, rfl, rfl, rfl, rfl, rfl, rfl, trivial⟩ trivial, i + 1, (by omega), (by first | (rw [filter_take_no hil (by unfold passB; exact decide_eq_false (by omega))]; exact hA) | (rw [filter_take_yes hil (by unfold passB; exact decide_eq_true ⟨by omega, by omega, by omega⟩), List.length_append]; rcases hyb with ⟨_, h⟩ | ⟨h, _⟩ <;> first | exact h | exact absurd (h.symm.trans (by assumption : yb = true)) (by decide))), rfl, rfl⟩
      omega
  · try simp only [decide_eq_true_eq, decide_eq_false_iff_not, beq_iff_eq, bne_iff_ne, bne_eq_false_iff_eq, beq_eq_false_iff_ne, Bool.not_eq_true, Bool.not_eq_false, Bool.not_eq_true', Bool.not_eq_false', ne_eq] at h1
    refine awj_exit ?_
    have hi2 : i = t.length := by omega
    subst hi2
    rw [List.take_length] at hA
    exact ⟨Or.inl rfl, Or.inl (by rw [List.length_map]; exact hA)⟩

theorem of_ret (t : List Win) (kd a b : Int) : Ret Try.prog 89 [.sl (t.map encW) false, encI kd, encI a, encI b] (.fn 105 [.ptr [.sl (t.map encW) false], .ptr [encI kd], .ptr [encI a], .ptr [encI b]]) := by
  refine ret_of_awp Try.func89 rfl (Nat.le_of_ble_eq_true rfl) ?_
  refine awp_seq ?_
  refine awp_rw rfl ?_
  refine RW.new rfl rfl (eff_boxK (v := .t _) (k := 1) (id := 4) rfl rfl rfl rfl rfl rfl) ?_
  refine RW.new rfl rfl (eff_boxK (v := .t _) (k := 1) (id := 5) rfl rfl rfl rfl rfl rfl) ?_
  refine RW.new rfl rfl (eff_boxK (v := .t _) (k := 1) (id := 6) rfl rfl rfl rfl rfl rfl) ?_
  refine RW.new rfl rfl (eff_boxK (v := .t _) (k := 1) (id := 7) rfl rfl rfl rfl rfl rfl) ?_
  refine RW.op rfl rfl (eff_assign (v := .t _) rfl rfl rfl) ?_
  refine RW.nil ?_
  refine awp_seq ?_
  refine awp_rw rfl ?_
  refine RW.op rfl rfl (eff_makeFunc rfl rfl rfl rfl) ?_
  refine RW.op rfl rfl (eff_assign (v := .fn _ _) rfl rfl rfl) ?_
  refine RW.nil ?_
  refine awp_ret ?_
  exact ⟨Or.inr rfl, [_], ⟨.tmp (Res.fnP (xs := [.ptr [.sl (t.map encW) false], .ptr [encI kd], .ptr [encI a], .ptr [encI b]]) ⟨Res.ptrT (x := .sl (t.map encW) false) rfl rfl rfl, Res.ptrT (x := encI kd) rfl rfl rfl, Res.ptrT (x := encI a) rfl rfl rfl, Res.ptrT (x := encI b) rfl rfl rfl, trivial⟩), trivial⟩, .refl _⟩

theorem contacts_ret (t : List Win) (craft tick : Int) : Ret Try.prog 44 [.sl (t.map encW) false, encI craft, encI tick] (.fn 73 [.ptr [.sl (t.map encW) false], .ptr [encI craft], .ptr [encI tick]]) := by
  refine ret_of_awp Try.func44 rfl (Nat.le_of_ble_eq_true rfl) ?_
  refine awp_seq ?_
  refine awp_rw rfl ?_
  refine RW.new rfl rfl (eff_boxK (v := .t _) (k := 1) (id := 3) rfl rfl rfl rfl rfl rfl) ?_
  refine RW.new rfl rfl (eff_boxK (v := .t _) (k := 1) (id := 4) rfl rfl rfl rfl rfl rfl) ?_
  refine RW.new rfl rfl (eff_boxK (v := .t _) (k := 1) (id := 5) rfl rfl rfl rfl rfl rfl) ?_
  refine RW.op rfl rfl (eff_assign (v := .t _) rfl rfl rfl) ?_
  refine RW.nil ?_
  refine awp_seq ?_
  refine awp_rw rfl ?_
  refine RW.op rfl rfl (eff_makeFunc rfl rfl rfl rfl) ?_
  refine RW.op rfl rfl (eff_assign (v := .fn _ _) rfl rfl rfl) ?_
  refine RW.nil ?_
  refine awp_ret ?_
  exact ⟨Or.inr rfl, [_], ⟨.tmp (Res.fnP (xs := [.ptr [.sl (t.map encW) false], .ptr [encI craft], .ptr [encI tick]]) ⟨Res.ptrT (x := .sl (t.map encW) false) rfl rfl rfl, Res.ptrT (x := encI craft) rfl rfl rfl, Res.ptrT (x := encI tick) rfl rfl rfl, trivial⟩), trivial⟩, .refl _⟩

theorem next_ret (t : List Win) (kd a b tick : Int) (ht : t.length ≤ 100000) : Ret Try.prog 69 [.sl (t.map encW) false, encI kd, encI a, encI b, encI tick] (.tup [encW (nextF t kd a b tick).1, .bool (nextF t kd a b tick).2]) := by
  refine ret_of_awj Try.func69 rfl (Nat.le_of_ble_eq_true rfl) ?_
  intro F0 w0
  refine awj_seq ?_
  refine awj_rj rfl ?_
  refine RJ.new rfl rfl (eff_boxK (v := .t _) (k := 1) (id := 9) rfl rfl rfl rfl rfl rfl) ?_
  refine RJ.new rfl rfl (eff_allocK (k := 6) (id := 10) rfl rfl tz29 rfl rfl) ?_
  refine RJ.new rfl rfl (eff_allocK (k := 1) (id := 11) rfl rfl tz4 rfl rfl) ?_
  refine RJ.nil ?_
  refine awj_seq ?_
  refine awj_seq ?_
  refine awj_rj rfl ?_
  refine RJ.op rfl rfl (eff_move (v := .t _) rfl rfl rfl) ?_
  refine RJ.op rfl rfl (eff_move (v := .t _) rfl rfl rfl) ?_
  refine RJ.op rfl rfl (eff_move (v := .t _) rfl rfl rfl) ?_
  refine RJ.op rfl rfl (eff_move (v := .t _) rfl rfl rfl) ?_
  refine RJ.op rfl rfl (eff_callT (of_ret t kd a b) co89 rfl rfl rfl rfl) ?_
  refine RJ.nil ?_
  refine awj_block ?_
  refine awj_rangeFunc (kp' := fun j => [9, 10, 11].elem j) (f := 105) rfl co105 (of_iter t kd a b ht) rfl rfl rfl (fun i s => (∀ y, y ∈ (t.filter (keyB kd a b)).take i → ¬ y.til > tick) ∧ s = ⟨25, [(9, .ptr 9 0 0 0), (10, .ptr 10 0 0 0), (11, .ptr 11 0 0 0)], [(9, some ⟨1, 3, 0, [.t (encI tick)]⟩), (10, some ⟨6, 29, 0, [.t z29]⟩), (11, some ⟨1, 4, 0, [.t (.bool false)]⟩)]⟩) (fun c s => c = .ret ∧ ∃ w, nextF t kd a b tick = (w, true) ∧ s = ⟨25, [(10, .ptr 10 0 0 0), (11, .ptr 11 0 0 0)], [(10, some ⟨6, 29, 0, [.t (encW w)]⟩), (11, some ⟨1, 4, 0, [.t (.bool true)]⟩)]⟩) (⟨_, weak_keep (n := 25) (fr' := [(9, .ptr 9 0 0 0), (10, .ptr 10 0 0 0), (11, .ptr 11 0 0 0)]) (st' := [(9, some ⟨1, 3, 0, [.t (encI tick)]⟩), (10, some ⟨6, 29, 0, [.t z29]⟩), (11, some ⟨1, 4, 0, [.t (.bool false)]⟩)]) ⟨rfl, rfl, rfl, rfl, rfl, rfl, trivial⟩ ⟨rfl, okE_one rfl, rfl, okE_one rfl, rfl, okE_one rfl, trivial⟩, by simp, rfl⟩) (fun i s1 hI => by obtain ⟨_, rfl⟩ := hI; exact ⟨rfl, kept_of rfl⟩) (fun c s1 hI => by obtain ⟨_, w, _, rfl⟩ := hI; exact ⟨rfl, kept_of rfl⟩) ?_ ?_ ?_
  · intro rl i x s1 hI hx F1 w1
    obtain ⟨hlt, rfl⟩ := hI
    rw [List.getElem?_map] at hx
    obtain ⟨w, hb, rfl⟩ := Option.map_eq_some_iff.1 hx
    show AWJ _ _ _ _ _ ⟨25, _, _⟩ _ _
    refine awj_rj rfl ?_
    refine RJ.new rfl rfl (eff_allocK (k := 6) (id := 12) rfl rfl tz29 rfl rfl) ?_
    refine RJ.store rfl rfl (eff_storeW (v := .t _) (els := [_]) (els' := [_]) rfl rfl ti29 rfl rfl rfl rfl rfl rfl rfl rfl rfl) ?_
    refine RJ.nil ?_
    refine ⟨rfl, rfl, fun F2 w2 => ?_⟩
    refine awj_block ?_
    refine awj_seq ?_
    refine awj_rj rfl ?_
    refine RJ.op rfl rfl (eff_fieldAddr rfl rfl tf29_4 (by decide) rfl rfl rfl (Nat.le_of_ble_eq_true rfl)) ?_
    refine RJ.op rfl rfl (eff_load (y := .t _) rfl rfl ti3 rfl (.one rfl rfl rfl rfl)) ?_
    refine RJ.op rfl rfl (eff_load (y := .t _) rfl rfl ti3 rfl (.one rfl rfl rfl rfl)) ?_
    refine RJ.op rfl rfl (eff_iop rfl rfl rfl rfl rfl) ?_
    refine RJ.nil ?_
    refine awj_cond rfl (fun h1 => ?_) (fun h1 => ?_)
    · try simp only [decide_eq_true_eq, decide_eq_false_iff_not, beq_iff_eq, bne_iff_ne, bne_eq_false_iff_eq, beq_eq_false_iff_ne, Bool.not_eq_true, Bool.not_eq_false, Bool.not_eq_true', Bool.not_eq_false', ne_eq] at h1
      refine awj_seq ?_
      refine awj_rj rfl ?_
      refine RJ.op rfl rfl (eff_load rfl rfl ti29 rfl (.whole rfl rfl rfl rfl rfl rfl)) ?_
      refine RJ.store rfl rfl (eff_storeW (v := .t _) (els := [_]) (els' := [_]) rfl rfl ti29 rfl rfl rfl rfl rfl rfl rfl rfl rfl) ?_
      refine RJ.store rfl rfl (eff_storeW (v := .t _) (els := [_]) (els' := [_]) rfl rfl ti4 rfl rfl rfl rfl rfl rfl rfl rfl rfl) ?_
      refine RJ.nil ?_
      refine awj_ret ?_
      exact ⟨rfl, _, weak_keep (n := 25) (fr' := [(10, .ptr 10 0 0 0), (11, .ptr 11 0 0 0)]) (st' := [(10, some ⟨6, 29, 0, [.t (encW w)]⟩), (11, some ⟨1, 4, 0, [.t (.bool true)]⟩)]) ⟨rfl, rfl, rfl, rfl, trivial⟩ ⟨rfl, okE_one rfl, rfl, okE_one rfl, trivial⟩, rfl, w, next_first hb hlt (by omega), rfl⟩
    · try simp only [decide_eq_true_eq, decide_eq_false_iff_not, beq_iff_eq, bne_iff_ne, bne_eq_false_iff_eq, beq_eq_false_iff_ne, Bool.not_eq_true, Bool.not_eq_false, Bool.not_eq_true', Bool.not_eq_false', ne_eq] at h1
      refine awj_skip ?_
      refine ⟨rfl, _, weak_keep (n := 25) (fr' := [(9, .ptr 9 0 0 0), (10, .ptr 10 0 0 0), (11, .ptr 11 0 0 0)]) (st' := [(9, some ⟨1, 3, 0, [.t (encI tick)]⟩), (10, some ⟨6, 29, 0, [.t z29]⟩), (11, some ⟨1, 4, 0, [.t (.bool false)]⟩)]) ⟨rfl, rfl, rfl, rfl, rfl, rfl, trivial⟩ ⟨rfl, okE_one rfl, rfl, okE_one rfl, rfl, okE_one rfl, trivial⟩, fun c hc => ?_, rfl⟩
      obtain ⟨hi, he⟩ := List.getElem?_eq_some_iff.1 hb
      rcases (mem_take_succ hi).1 hc with h | h
      · exact hlt c h
      · rw [h, he]; omega
  · intro D s1 hI
    obtain ⟨hlt, rfl⟩ := hI
    rw [List.length_map, List.take_length] at hlt
    refine awj_seq ?_
    refine awj_rj rfl ?_
    refine RJ.op rfl rfl (eff_buildT (ys := [_, _, _, _, _, _]) rfl rfl tz29 tg29 rfl) ?_
    refine RJ.store rfl rfl (eff_storeW (v := .t _) (els := [_]) (els' := [_]) rfl rfl ti29 rfl rfl rfl rfl rfl rfl rfl rfl rfl) ?_
    refine RJ.store rfl rfl (eff_storeW (v := .t _) (els := [_]) (els' := [_]) rfl rfl ti4 rfl rfl rfl rfl rfl rfl rfl rfl rfl) ?_
    refine RJ.nil ?_
    refine awj_ret ?_
    rw [next_never hlt]
    exact ⟨Or.inr rfl, [_, _], ⟨.cell rfl ti29 (.whole rfl rfl rfl rfl rfl rfl) (.t _), .cell (y := .t _) rfl ti4 (.one rfl rfl rfl rfl) (.t _), trivial⟩, (by repeat' first | exact trivial | exact Wk.refl _ | exact Wk.sl _ | refine And.intro ?_ ?_ | refine Wk.tupP ?_ | refine Wk.aggP ?_)⟩
  · intro D c s1 hI
    obtain ⟨rfl, w, hb, rfl⟩ := hI
    refine awj_ret ?_
    rw [hb]
    exact ⟨Or.inr rfl, [_, _], ⟨.cell rfl ti29 (.whole rfl rfl rfl rfl rfl rfl) (.t _), .cell (y := .t _) rfl ti4 (.one rfl rfl rfl rfl) (.t _), trivial⟩, .refl _⟩

theorem at_ret39 (t : List Win) (kd a b tick : Int) (ht : t.length ≤ 100000) : Ret Try.prog 39 [.sl (t.map encW) false, encI kd, encI a, encI b, encI tick] (.tup [encW (atF t kd a b tick).1, .bool (atF t kd a b tick).2]) := by
  refine ret_of_awp Try.func39 rfl (Nat.le_of_ble_eq_true rfl) ?_
  refine awp_seq ?_
  refine awp_rw rfl ?_
  refine RW.new rfl rfl (eff_allocK (k := 6) (id := 10) rfl rfl tz29 rfl rfl) ?_
  refine RW.op rfl rfl (eff_assign (v := .t _) rfl rfl rfl) ?_
  refine RW.nil ?_
  refine awp_seq ?_
  refine awp_seq ?_
  refine awp_rw rfl ?_
  refine RW.op rfl rfl (eff_move (v := .t _) rfl rfl rfl) ?_
  refine RW.op rfl rfl (eff_move (v := .t _) rfl rfl rfl) ?_
  refine RW.op rfl rfl (eff_move (v := .t _) rfl rfl rfl) ?_
  refine RW.op rfl rfl (eff_move (v := .t _) rfl rfl rfl) ?_
  refine RW.op rfl rfl (eff_move (v := .t _) rfl rfl rfl) ?_
  refine RW.op rfl rfl (eff_callT (next_ret t kd a b tick ht) co69 rfl rfl rfl rfl) ?_
  refine RW.op rfl rfl (eff_move (v := .t _) rfl rfl rfl) ?_
  refine RW.op rfl rfl (eff_extract rfl rfl rfl rfl) ?_
  refine RW.op rfl rfl (eff_extract rfl rfl rfl rfl) ?_
  refine RW.new rfl rfl (eff_allocK (k := 6) (id := 12) rfl rfl tz29 rfl rfl) ?_
  refine RW.store rfl rfl (eff_storeW (v := .t _) (els := [_]) (els' := [_]) rfl rfl ti29 rfl rfl rfl rfl rfl rfl rfl rfl rfl) ?_
  refine RW.op rfl rfl (eff_assign (v := .t _) rfl rfl rfl) ?_
  refine RW.nil ?_
  refine awp_seq ?_
  refine awp_rw rfl ?_
  refine RW.op rfl rfl (eff_move (v := .t _) rfl rfl rfl) ?_
  refine RW.op rfl rfl (eff_move (v := .t _) rfl rfl rfl) ?_
  refine RW.split 24 rfl (fun h1 => ?_) (fun h1 => ?_)
  · try simp only [decide_eq_true_eq, decide_eq_false_iff_not, beq_iff_eq, bne_iff_ne, bne_eq_false_iff_eq, beq_eq_false_iff_ne, Bool.not_eq_true, Bool.not_eq_false, Bool.not_eq_true', Bool.not_eq_false', ne_eq] at h1
    refine RW.gop rfl rfl rfl rfl rfl rfl (eff_fieldAddr rfl rfl tf29_3 (by decide) rfl rfl rfl (Nat.le_of_ble_eq_true rfl)) ?_
    refine RW.gop rfl rfl rfl rfl rfl rfl (eff_load (y := .t _) rfl rfl ti3 rfl (.one rfl rfl rfl rfl)) ?_
    refine RW.gop rfl rfl rfl rfl rfl rfl (eff_move (v := .t _) rfl rfl rfl) ?_
    refine RW.gop rfl rfl rfl rfl rfl rfl (eff_iop rfl rfl rfl rfl rfl) ?_
    refine RW.op rfl rfl (eff_pick (v := .t _) rfl rfl rfl rfl) ?_
    refine RW.nil ?_
    refine awp_cond rfl (fun h2 => ?_) (fun h2 => ?_)
    · try simp only [decide_eq_true_eq, decide_eq_false_iff_not, beq_iff_eq, bne_iff_ne, bne_eq_false_iff_eq, beq_eq_false_iff_ne, Bool.not_eq_true, Bool.not_eq_false, Bool.not_eq_true', Bool.not_eq_false', ne_eq] at h2
      refine awp_seq ?_
      refine awp_rw rfl ?_
      refine RW.op rfl rfl (eff_load rfl rfl ti29 rfl (.whole rfl rfl rfl rfl rfl rfl)) ?_
      refine RW.store rfl rfl (eff_storeW (v := .t _) (els := [_]) (els' := [_]) rfl rfl ti29 rfl rfl rfl rfl rfl rfl rfl rfl rfl) ?_
      refine RW.op rfl rfl (eff_assign (v := .t _) rfl rfl rfl) ?_
      refine RW.nil ?_
      refine awp_ret ?_
      (rw [show atF t kd a b tick = ((nextF t kd a b tick).1, true) from if_pos ⟨by assumption, by assumption⟩]; exact ⟨Or.inr rfl, [_, _], ⟨.cell rfl ti29 (.whole rfl rfl rfl rfl rfl rfl) (.t _), .tmp (.t _), trivial⟩, .refl _⟩)
    · try simp only [decide_eq_true_eq, decide_eq_false_iff_not, beq_iff_eq, bne_iff_ne, bne_eq_false_iff_eq, beq_eq_false_iff_ne, Bool.not_eq_true, Bool.not_eq_false, Bool.not_eq_true', Bool.not_eq_false', ne_eq] at h2
      refine awp_skip ?_
      refine awp_seq ?_
      refine awp_rw rfl ?_
      refine RW.op rfl rfl (eff_buildT (ys := [_, _, _, _, _, _]) rfl rfl tz29 tg29 rfl) ?_
      refine RW.store rfl rfl (eff_storeW (v := .t _) (els := [_]) (els' := [_]) rfl rfl ti29 rfl rfl rfl rfl rfl rfl rfl rfl rfl) ?_
      refine RW.op rfl rfl (eff_assign (v := .t _) rfl rfl rfl) ?_
      refine RW.nil ?_
      refine awp_ret ?_
      (rw [show atF t kd a b tick = (zw, false) from if_neg (fun hh => by simp_all)]; exact ⟨Or.inr rfl, [_, _], ⟨.cell rfl ti29 (.whole rfl rfl rfl rfl rfl rfl) (.t _), .tmp (.t _), trivial⟩, (by repeat' first | exact trivial | exact Wk.refl _ | exact Wk.sl _ | refine And.intro ?_ ?_ | refine Wk.tupP ?_ | refine Wk.aggP ?_)⟩)
  · try simp only [decide_eq_true_eq, decide_eq_false_iff_not, beq_iff_eq, bne_iff_ne, bne_eq_false_iff_eq, beq_eq_false_iff_ne, Bool.not_eq_true, Bool.not_eq_false, Bool.not_eq_true', Bool.not_eq_false', ne_eq] at h1
    refine RW.gskip rfl rfl rfl rfl rfl (by decide) ?_
    refine RW.gskip rfl rfl rfl rfl rfl (by decide) ?_
    refine RW.gskip rfl rfl rfl rfl rfl (by decide) ?_
    refine RW.gskip rfl rfl rfl rfl rfl (by decide) ?_
    refine RW.op rfl rfl (eff_pick (v := .t _) rfl rfl rfl rfl) ?_
    refine RW.nil ?_
    refine awp_cond rfl (fun h => nomatch h) (fun _ => ?_)
    refine awp_skip ?_
    refine awp_seq ?_
    refine awp_rw rfl ?_
    refine RW.op rfl rfl (eff_buildT (ys := [_, _, _, _, _, _]) rfl rfl tz29 tg29 rfl) ?_
    refine RW.store rfl rfl (eff_storeW (v := .t _) (els := [_]) (els' := [_]) rfl rfl ti29 rfl rfl rfl rfl rfl rfl rfl rfl rfl) ?_
    refine RW.op rfl rfl (eff_assign (v := .t _) rfl rfl rfl) ?_
    refine RW.nil ?_
    refine awp_ret ?_
    (rw [show atF t kd a b tick = (zw, false) from if_neg (fun hh => by simp_all)]; exact ⟨Or.inr rfl, [_, _], ⟨.cell rfl ti29 (.whole rfl rfl rfl rfl rfl rfl) (.t _), .tmp (.t _), trivial⟩, (by repeat' first | exact trivial | exact Wk.refl _ | exact Wk.sl _ | refine And.intro ?_ ?_ | refine Wk.tupP ?_ | refine Wk.aggP ?_)⟩)

end Go.Tv.C35

end
section
open Go Go.Tv Go.Proofs
namespace Go.Tv.C35
set_option maxRecDepth 20000
set_option maxHeartbeats 2000000
set_option linter.unusedSimpArgs false
set_option linter.unusedVariables false
theorem wmap_succ {B : List Win} {i : Nat} (h : i < B.length) : ((B.take (i + 1)).map encW).map AV.t = ((B.take i).map encW).map AV.t ++ [.t (encW B[i])] := by
  rw [take_succ_get h, List.map_append, List.map_append]; rfl
theorem passes_len (t : List Win) (c k : Int) : (passesF t c k).length ≤ t.length := List.length_filter_le _ _

theorem appendSeqW_ret (t u : List Win) (craft tick : Int) (ht : t.length ≤ 100000) (hu : u = passesF t craft tick) : Ret Try.prog 72 [.sl [] true, .fn 73 [.ptr [.sl (t.map encW) false], .ptr [encI craft], .ptr [encI tick]]] (.sl (u.map encW) false) := by
  have hul : u.length ≤ 100000 := by rw [hu]; exact Nat.le_trans (passes_len t craft tick) ht
  have hit := contacts_iter t craft tick ht
  rw [show t.filter (passB craft tick) = u from hu.symm] at hit
  refine ret_of_awj Try.func72 rfl (Nat.le_of_ble_eq_true rfl) ?_
  intro F0 w0
  refine awj_seq ?_
  refine awj_rj rfl ?_
  refine RJ.new rfl rfl (eff_boxK (v := .t _) (k := 1) (id := 2) rfl rfl rfl rfl rfl rfl) ?_
  refine RJ.op rfl rfl (eff_assign (v := .t _) rfl rfl rfl) ?_
  refine RJ.nil ?_
  refine awj_seq ?_
  refine awj_seq ?_
  refine awj_rj rfl ?_
  refine RJ.op rfl rfl (eff_move (v := .t _) rfl rfl rfl) ?_
  refine RJ.nil ?_
  show AWJ _ _ _ _ _ _ _ _
  refine awj_weak (weak_adopt1 (id0 := 2) 1010 6 29 rfl rfl) ?_
  refine awj_block ?_
  refine awj_rangeFunc (kp' := fun j => [2].elem j) (f := 73) rfl co73 (hit) rfl rfl rfl (fun i s1 => i ≤ u.length ∧ s1 = ⟨13, [(2, .ptr 2 0 0 0)], [(2, some ⟨1, 25, 0, [.own 1010 (i) 0 (i)]⟩), (1010, some ⟨6, 29, (i), ((u.take (i)).map encW).map .t⟩)]⟩) (fun c s => False) (⟨_, weak_keep (n := 13) (fr' := [(2, .ptr 2 0 0 0)]) (st' := [(2, some ⟨1, 25, 0, [.own 1010 (0) 0 (0)]⟩), (1010, some ⟨6, 29, (0), ((u.take (0)).map encW).map .t⟩)]) ⟨rfl, rfl, trivial⟩ ⟨rfl, okE_one rfl, rfl, okE_t, trivial⟩, Nat.zero_le _, rfl⟩) (fun i s1 hI => by obtain ⟨_, rfl⟩ := hI; exact ⟨rfl, kept_of rfl⟩) (fun c s1 hI => hI.elim) ?_ ?_ ?_
  · intro rl i x s1 hI hx F1 w1
    obtain ⟨hiB, rfl⟩ := hI
    rw [List.getElem?_map] at hx
    obtain ⟨b, hb, rfl⟩ := Option.map_eq_some_iff.1 hx
    obtain ⟨hil, hbe⟩ := List.getElem?_eq_some_iff.1 hb
    have hsc := wmap_succ hil
    show AWJ _ _ _ _ _ ⟨13, _, _⟩ _ _
    refine awj_rj rfl ?_
    refine RJ.new rfl rfl (eff_allocK (k := 6) (id := 5) rfl rfl tz29 rfl rfl) ?_
    refine RJ.store rfl rfl (eff_storeW (v := .t _) (els := [_]) (els' := [_]) rfl rfl ti29 rfl rfl rfl rfl rfl rfl rfl rfl rfl) ?_
    refine RJ.nil ?_
    refine ⟨rfl, rfl, fun F2 w2 => ?_⟩
    refine awj_block ?_
    refine awj_rj rfl ?_
    refine RJ.op rfl rfl (eff_load (y := .own _ _ _ _) rfl rfl ti25 rfl (.one rfl rfl rfl rfl)) ?_
    refine RJ.op rfl rfl (eff_load rfl rfl ti29 rfl (.whole rfl rfl rfl rfl rfl rfl)) ?_
    refine RJ.new rfl rfl (eff_buildSliceL (id := 10) (els := [.t (.agg [_, _, _, _, _, _])]) rfl rfl te25 tz29 rfl (by decide) (by decide) rfl rfl rfl rfl) ?_
    refine RJ.new rfl rfl (eff_append (id := 1010) (ys := [_]) rfl rfl ta25 rfl rfl rfl (by simp; omega) rfl rfl (srcOwn rfl rfl rfl rfl rfl rfl) (by simp) (by simp; omega) (by simp; omega)) ?_
    refine RJ.store rfl rfl (eff_storeW (v := .own _ _ _ _) (els := [_]) (els' := [_]) rfl rfl ti25 rfl rfl rfl rfl rfl rfl rfl rfl rfl) ?_
    refine RJ.nil ?_
    refine ⟨rfl, _, weak_keep (n := 13) (fr' := [(2, .ptr 2 0 0 0)]) (st' := [(2, some ⟨1, 25, 0, [.own 1010 (i + 1) 0 (i + 1)]⟩), (1010, some ⟨6, 29, (i + 1), ((u.take (i + 1)).map encW).map .t⟩)]) ⟨rfl, rfl, trivial⟩ ⟨rfl, okE_one rfl, by rw [hsc, hbe]; rfl, okE_t, trivial⟩, by omega, rfl⟩
  · intro D s1 hI
    obtain ⟨_, rfl⟩ := hI
    simp only [List.length_map, List.take_length]
    refine awj_seq ?_
    refine awj_rj rfl ?_
    refine RJ.op rfl rfl (eff_load (y := .own _ _ _ _) rfl rfl ti25 rfl (.one rfl rfl rfl rfl)) ?_
    refine RJ.op rfl rfl (eff_assign (v := .own _ _ _ _) rfl rfl rfl) ?_
    refine RJ.nil ?_
    refine awj_ret ?_
    exact ⟨Or.inr rfl, [_], ⟨.tmp (Res.ownT (xs := u.map encW) rfl rfl (by simp) (by simp)), trivial⟩, .refl _⟩
  · intro D c s1 hI
    exact hI.elim

theorem collectW_ret (t : List Win) (craft tick : Int) (ht : t.length ≤ 100000) : Ret Try.prog 43 [.fn 73 [.ptr [.sl (t.map encW) false], .ptr [encI craft], .ptr [encI tick]]] (.sl ((passesF t craft tick).map encW) false) := by
  refine ret_of_awp Try.func43 rfl (Nat.le_of_ble_eq_true rfl) ?_
  refine awp_seq ?_
  refine awp_rw rfl ?_
  refine RW.op rfl rfl (eff_assign (v := .t _) rfl rfl rfl) ?_
  refine RW.nil ?_
  refine awp_seq ?_
  refine awp_rw rfl ?_
  refine RW.op rfl rfl (eff_move (v := .t _) rfl rfl rfl) ?_
  refine RW.op rfl rfl (eff_callT (appendSeqW_ret t _ craft tick ht rfl) co72 rfl rfl rfl rfl) ?_
  refine RW.op rfl rfl (eff_assign (v := .t _) rfl rfl rfl) ?_
  refine RW.nil ?_
  refine awp_ret ?_
  exact ⟨Or.inr rfl, [_], ⟨.tmp (.t _), trivial⟩, .refl _⟩

theorem passes_ret (t : List Win) (craft tick : Int) (ht : t.length ≤ 100000) : Ret Try.prog 14 [.sl (t.map encW) false, encI craft, encI tick] (.sl ((passesF t craft tick).map encW) false) := by
  refine ret_of_awp Try.func14 rfl (Nat.le_of_ble_eq_true rfl) ?_
  refine awp_seq ?_
  refine awp_rw rfl ?_
  refine RW.op rfl rfl (eff_assign (v := .t _) rfl rfl rfl) ?_
  refine RW.nil ?_
  refine awp_seq ?_
  refine awp_rw rfl ?_
  refine RW.op rfl rfl (eff_move (v := .t _) rfl rfl rfl) ?_
  refine RW.op rfl rfl (eff_move (v := .t _) rfl rfl rfl) ?_
  refine RW.op rfl rfl (eff_move (v := .t _) rfl rfl rfl) ?_
  refine RW.op rfl rfl (eff_callT (contacts_ret t craft tick) co44 rfl rfl rfl rfl) ?_
  refine RW.op rfl rfl (eff_callT (collectW_ret t craft tick ht) co43 rfl rfl rfl rfl) ?_
  refine RW.op rfl rfl (eff_assign (v := .t _) rfl rfl rfl) ?_
  refine RW.nil ?_
  refine awp_ret ?_
  exact ⟨Or.inr rfl, [_], ⟨.tmp (.t _), trivial⟩, .refl _⟩

theorem valid_ret (b : Bid) : Ret Try.prog 45 [encB b] (.bool (validB b)) := by
  refine ret_of_awp Try.func45 rfl (Nat.le_of_ble_eq_true rfl) ?_
  refine awp_seq ?_
  refine awp_rw rfl ?_
  refine RW.new rfl rfl (eff_boxK (v := .t _) (k := 5) (id := 1) rfl rfl rfl rfl rfl rfl) ?_
  refine RW.op rfl rfl (eff_assign (v := .t _) rfl rfl rfl) ?_
  refine RW.nil ?_
  refine awp_seq ?_
  refine awp_rw rfl ?_
  refine RW.op rfl rfl (eff_fieldAddr rfl rfl tf42_0 (by decide) rfl rfl rfl (Nat.le_of_ble_eq_true rfl)) ?_
  refine RW.op rfl rfl (eff_load (y := .t _) rfl rfl ti3 rfl (.one rfl rfl rfl rfl)) ?_
  refine RW.op rfl rfl (eff_iop rfl rfl rfl rfl rfl) ?_
  refine RW.op rfl rfl (eff_move (v := .t _) rfl rfl rfl) ?_
  refine RW.split 6 rfl (fun h1 => ?_) (fun h1 => ?_)
  · try simp only [decide_eq_true_eq, decide_eq_false_iff_not, beq_iff_eq, bne_iff_ne, bne_eq_false_iff_eq, beq_eq_false_iff_ne, Bool.not_eq_true, Bool.not_eq_false, Bool.not_eq_true', Bool.not_eq_false', ne_eq] at h1
    refine RW.gop rfl rfl rfl rfl rfl rfl (eff_fieldAddr rfl rfl tf42_0 (by decide) rfl rfl rfl (Nat.le_of_ble_eq_true rfl)) ?_
    refine RW.gop rfl rfl rfl rfl rfl rfl (eff_load (y := .t _) rfl rfl ti3 rfl (.one rfl rfl rfl rfl)) ?_
    refine RW.gop rfl rfl rfl rfl rfl rfl (eff_iop rfl rfl rfl rfl rfl) ?_
    refine RW.op rfl rfl (eff_pick (v := .t _) rfl rfl rfl rfl) ?_
    refine RW.op rfl rfl (eff_move (v := .t _) rfl rfl rfl) ?_
    refine RW.split 11 rfl (fun h2 => ?_) (fun h2 => ?_)
    · try simp only [decide_eq_true_eq, decide_eq_false_iff_not, beq_iff_eq, bne_iff_ne, bne_eq_false_iff_eq, beq_eq_false_iff_ne, Bool.not_eq_true, Bool.not_eq_false, Bool.not_eq_true', Bool.not_eq_false', ne_eq] at h2
      refine RW.gop rfl rfl rfl rfl rfl rfl (eff_fieldAddr rfl rfl tf42_1 (by decide) rfl rfl rfl (Nat.le_of_ble_eq_true rfl)) ?_
      refine RW.gop rfl rfl rfl rfl rfl rfl (eff_load (y := .t _) rfl rfl ti3 rfl (.one rfl rfl rfl rfl)) ?_
      refine RW.gop rfl rfl rfl rfl rfl rfl (eff_iop rfl rfl rfl rfl rfl) ?_
      refine RW.op rfl rfl (eff_pick (v := .t _) rfl rfl rfl rfl) ?_
      refine RW.op rfl rfl (eff_move (v := .t _) rfl rfl rfl) ?_
      refine RW.split 16 rfl (fun h3 => ?_) (fun h3 => ?_)
      · try simp only [decide_eq_true_eq, decide_eq_false_iff_not, beq_iff_eq, bne_iff_ne, bne_eq_false_iff_eq, beq_eq_false_iff_ne, Bool.not_eq_true, Bool.not_eq_false, Bool.not_eq_true', Bool.not_eq_false', ne_eq] at h3
        refine RW.gop rfl rfl rfl rfl rfl rfl (eff_fieldAddr rfl rfl tf42_1 (by decide) rfl rfl rfl (Nat.le_of_ble_eq_true rfl)) ?_
        refine RW.gop rfl rfl rfl rfl rfl rfl (eff_load (y := .t _) rfl rfl ti3 rfl (.one rfl rfl rfl rfl)) ?_
        refine RW.gop rfl rfl rfl rfl rfl rfl (eff_iop rfl rfl rfl rfl rfl) ?_
        refine RW.op rfl rfl (eff_pick (v := .t _) rfl rfl rfl rfl) ?_
        refine RW.op rfl rfl (eff_move (v := .t _) rfl rfl rfl) ?_
        refine RW.split 21 rfl (fun h4 => ?_) (fun h4 => ?_)
        · try simp only [decide_eq_true_eq, decide_eq_false_iff_not, beq_iff_eq, bne_iff_ne, bne_eq_false_iff_eq, beq_eq_false_iff_ne, Bool.not_eq_true, Bool.not_eq_false, Bool.not_eq_true', Bool.not_eq_false', ne_eq] at h4
          refine RW.gop rfl rfl rfl rfl rfl rfl (eff_fieldAddr rfl rfl tf42_2 (by decide) rfl rfl rfl (Nat.le_of_ble_eq_true rfl)) ?_
          refine RW.gop rfl rfl rfl rfl rfl rfl (eff_load (y := .t _) rfl rfl ti3 rfl (.one rfl rfl rfl rfl)) ?_
          refine RW.gop rfl rfl rfl rfl rfl rfl (eff_iop rfl rfl rfl rfl rfl) ?_
          refine RW.op rfl rfl (eff_pick (v := .t _) rfl rfl rfl rfl) ?_
          refine RW.op rfl rfl (eff_move (v := .t _) rfl rfl rfl) ?_
          refine RW.split 26 rfl (fun h5 => ?_) (fun h5 => ?_)
          · try simp only [decide_eq_true_eq, decide_eq_false_iff_not, beq_iff_eq, bne_iff_ne, bne_eq_false_iff_eq, beq_eq_false_iff_ne, Bool.not_eq_true, Bool.not_eq_false, Bool.not_eq_true', Bool.not_eq_false', ne_eq] at h5
            refine RW.gop rfl rfl rfl rfl rfl rfl (eff_fieldAddr rfl rfl tf42_2 (by decide) rfl rfl rfl (Nat.le_of_ble_eq_true rfl)) ?_
            refine RW.gop rfl rfl rfl rfl rfl rfl (eff_load (y := .t _) rfl rfl ti3 rfl (.one rfl rfl rfl rfl)) ?_
            refine RW.gop rfl rfl rfl rfl rfl rfl (eff_fieldAddr rfl rfl tf42_3 (by decide) rfl rfl rfl (Nat.le_of_ble_eq_true rfl)) ?_
            refine RW.gop rfl rfl rfl rfl rfl rfl (eff_load (y := .t _) rfl rfl ti3 rfl (.one rfl rfl rfl rfl)) ?_
            refine RW.gop rfl rfl rfl rfl rfl rfl (eff_iop rfl rfl rfl rfl rfl) ?_
            refine RW.op rfl rfl (eff_pick (v := .t _) rfl rfl rfl rfl) ?_
            refine RW.op rfl rfl (eff_move (v := .t _) rfl rfl rfl) ?_
            refine RW.split 33 rfl (fun h6 => ?_) (fun h6 => ?_)
            · try simp only [decide_eq_true_eq, decide_eq_false_iff_not, beq_iff_eq, bne_iff_ne, bne_eq_false_iff_eq, beq_eq_false_iff_ne, Bool.not_eq_true, Bool.not_eq_false, Bool.not_eq_true', Bool.not_eq_false', ne_eq] at h6
              refine RW.gop rfl rfl rfl rfl rfl rfl (eff_fieldAddr rfl rfl tf42_3 (by decide) rfl rfl rfl (Nat.le_of_ble_eq_true rfl)) ?_
              refine RW.gop rfl rfl rfl rfl rfl rfl (eff_load (y := .t _) rfl rfl ti3 rfl (.one rfl rfl rfl rfl)) ?_
              refine RW.gop rfl rfl rfl rfl rfl rfl (eff_iop rfl rfl rfl rfl rfl) ?_
              refine RW.op rfl rfl (eff_pick (v := .t _) rfl rfl rfl rfl) ?_
              refine RW.op rfl rfl (eff_move (v := .t _) rfl rfl rfl) ?_
              refine RW.split 38 rfl (fun h7 => ?_) (fun h7 => ?_)
              · try simp only [decide_eq_true_eq, decide_eq_false_iff_not, beq_iff_eq, bne_iff_ne, bne_eq_false_iff_eq, beq_eq_false_iff_ne, Bool.not_eq_true, Bool.not_eq_false, Bool.not_eq_true', Bool.not_eq_false', ne_eq] at h7
                refine RW.gop rfl rfl rfl rfl rfl rfl (eff_fieldAddr rfl rfl tf42_4 (by decide) rfl rfl rfl (Nat.le_of_ble_eq_true rfl)) ?_
                refine RW.gop rfl rfl rfl rfl rfl rfl (eff_load (y := .t _) rfl rfl ti3 rfl (.one rfl rfl rfl rfl)) ?_
                refine RW.gop rfl rfl rfl rfl rfl rfl (eff_iop rfl rfl rfl rfl rfl) ?_
                refine RW.op rfl rfl (eff_pick (v := .t _) rfl rfl rfl rfl) ?_
                refine RW.op rfl rfl (eff_move (v := .t _) rfl rfl rfl) ?_
                refine RW.split 43 rfl (fun h8 => ?_) (fun h8 => ?_)
                · try simp only [decide_eq_true_eq, decide_eq_false_iff_not, beq_iff_eq, bne_iff_ne, bne_eq_false_iff_eq, beq_eq_false_iff_ne, Bool.not_eq_true, Bool.not_eq_false, Bool.not_eq_true', Bool.not_eq_false', ne_eq] at h8
                  refine RW.gop rfl rfl rfl rfl rfl rfl (eff_fieldAddr rfl rfl tf42_4 (by decide) rfl rfl rfl (Nat.le_of_ble_eq_true rfl)) ?_
                  refine RW.gop rfl rfl rfl rfl rfl rfl (eff_load (y := .t _) rfl rfl ti3 rfl (.one rfl rfl rfl rfl)) ?_
                  refine RW.gop rfl rfl rfl rfl rfl rfl (eff_iop rfl rfl rfl rfl rfl) ?_
                  refine RW.op rfl rfl (eff_pick (v := .t _) rfl rfl rfl rfl) ?_
                  refine RW.op rfl rfl (eff_assign (v := .t _) rfl rfl rfl) ?_
                  refine RW.nil ?_
                  refine awp_ret ?_
                  (rw [show validB b = decide (b.val ≤ 1000000) from decide_eq_decide.2 ⟨fun h => by omega, fun h => by omega⟩]; exact ⟨Or.inr rfl, [_], ⟨.tmp (.t _), trivial⟩, .refl _⟩)
                · try simp only [decide_eq_true_eq, decide_eq_false_iff_not, beq_iff_eq, bne_iff_ne, bne_eq_false_iff_eq, beq_eq_false_iff_ne, Bool.not_eq_true, Bool.not_eq_false, Bool.not_eq_true', Bool.not_eq_false', ne_eq] at h8
                  refine RW.gskip rfl rfl rfl rfl rfl (by decide) ?_
                  refine RW.gskip rfl rfl rfl rfl rfl (by decide) ?_
                  refine RW.gskip rfl rfl rfl rfl rfl (by decide) ?_
                  refine RW.op rfl rfl (eff_pick (v := .t _) rfl rfl rfl rfl) ?_
                  refine RW.op rfl rfl (eff_assign (v := .t _) rfl rfl rfl) ?_
                  refine RW.nil ?_
                  refine awp_ret ?_
                  (rw [show validB b = false from decide_eq_false (by omega)]; exact ⟨Or.inr rfl, [_], ⟨.tmp (.t _), trivial⟩, .refl _⟩)
              · try simp only [decide_eq_true_eq, decide_eq_false_iff_not, beq_iff_eq, bne_iff_ne, bne_eq_false_iff_eq, beq_eq_false_iff_ne, Bool.not_eq_true, Bool.not_eq_false, Bool.not_eq_true', Bool.not_eq_false', ne_eq] at h7
                refine RW.gskip rfl rfl rfl rfl rfl (by decide) ?_
                refine RW.gskip rfl rfl rfl rfl rfl (by decide) ?_
                refine RW.gskip rfl rfl rfl rfl rfl (by decide) ?_
                refine RW.op rfl rfl (eff_pick (v := .t _) rfl rfl rfl rfl) ?_
                refine RW.op rfl rfl (eff_move (v := .t _) rfl rfl rfl) ?_
                refine RW.gskip rfl rfl rfl rfl rfl (by decide) ?_
                refine RW.gskip rfl rfl rfl rfl rfl (by decide) ?_
                refine RW.gskip rfl rfl rfl rfl rfl (by decide) ?_
                refine RW.op rfl rfl (eff_pick (v := .t _) rfl rfl rfl rfl) ?_
                refine RW.op rfl rfl (eff_assign (v := .t _) rfl rfl rfl) ?_
                refine RW.nil ?_
                refine awp_ret ?_
                (rw [show validB b = false from decide_eq_false (by omega)]; exact ⟨Or.inr rfl, [_], ⟨.tmp (.t _), trivial⟩, .refl _⟩)
            · try simp only [decide_eq_true_eq, decide_eq_false_iff_not, beq_iff_eq, bne_iff_ne, bne_eq_false_iff_eq, beq_eq_false_iff_ne, Bool.not_eq_true, Bool.not_eq_false, Bool.not_eq_true', Bool.not_eq_false', ne_eq] at h6
              refine RW.gskip rfl rfl rfl rfl rfl (by decide) ?_
              refine RW.gskip rfl rfl rfl rfl rfl (by decide) ?_
              refine RW.gskip rfl rfl rfl rfl rfl (by decide) ?_
              refine RW.op rfl rfl (eff_pick (v := .t _) rfl rfl rfl rfl) ?_
              refine RW.op rfl rfl (eff_move (v := .t _) rfl rfl rfl) ?_
              refine RW.gskip rfl rfl rfl rfl rfl (by decide) ?_
              refine RW.gskip rfl rfl rfl rfl rfl (by decide) ?_
              refine RW.gskip rfl rfl rfl rfl rfl (by decide) ?_
              refine RW.op rfl rfl (eff_pick (v := .t _) rfl rfl rfl rfl) ?_
              refine RW.op rfl rfl (eff_move (v := .t _) rfl rfl rfl) ?_
              refine RW.gskip rfl rfl rfl rfl rfl (by decide) ?_
              refine RW.gskip rfl rfl rfl rfl rfl (by decide) ?_
              refine RW.gskip rfl rfl rfl rfl rfl (by decide) ?_
              refine RW.op rfl rfl (eff_pick (v := .t _) rfl rfl rfl rfl) ?_
              refine RW.op rfl rfl (eff_assign (v := .t _) rfl rfl rfl) ?_
              refine RW.nil ?_
              refine awp_ret ?_
              (rw [show validB b = false from decide_eq_false (by omega)]; exact ⟨Or.inr rfl, [_], ⟨.tmp (.t _), trivial⟩, .refl _⟩)
          · try simp only [decide_eq_true_eq, decide_eq_false_iff_not, beq_iff_eq, bne_iff_ne, bne_eq_false_iff_eq, beq_eq_false_iff_ne, Bool.not_eq_true, Bool.not_eq_false, Bool.not_eq_true', Bool.not_eq_false', ne_eq] at h5
            refine RW.gskip rfl rfl rfl rfl rfl (by decide) ?_
            refine RW.gskip rfl rfl rfl rfl rfl (by decide) ?_
            refine RW.gskip rfl rfl rfl rfl rfl (by decide) ?_
            refine RW.gskip rfl rfl rfl rfl rfl (by decide) ?_
            refine RW.gskip rfl rfl rfl rfl rfl (by decide) ?_
            refine RW.op rfl rfl (eff_pick (v := .t _) rfl rfl rfl rfl) ?_
            refine RW.op rfl rfl (eff_move (v := .t _) rfl rfl rfl) ?_
            refine RW.gskip rfl rfl rfl rfl rfl (by decide) ?_
            refine RW.gskip rfl rfl rfl rfl rfl (by decide) ?_
            refine RW.gskip rfl rfl rfl rfl rfl (by decide) ?_
            refine RW.op rfl rfl (eff_pick (v := .t _) rfl rfl rfl rfl) ?_
            refine RW.op rfl rfl (eff_move (v := .t _) rfl rfl rfl) ?_
            refine RW.gskip rfl rfl rfl rfl rfl (by decide) ?_
            refine RW.gskip rfl rfl rfl rfl rfl (by decide) ?_
            refine RW.gskip rfl rfl rfl rfl rfl (by decide) ?_
            refine RW.op rfl rfl (eff_pick (v := .t _) rfl rfl rfl rfl) ?_
            refine RW.op rfl rfl (eff_move (v := .t _) rfl rfl rfl) ?_
            refine RW.gskip rfl rfl rfl rfl rfl (by decide) ?_
            refine RW.gskip rfl rfl rfl rfl rfl (by decide) ?_
            refine RW.gskip rfl rfl rfl rfl rfl (by decide) ?_
            refine RW.op rfl rfl (eff_pick (v := .t _) rfl rfl rfl rfl) ?_
            refine RW.op rfl rfl (eff_assign (v := .t _) rfl rfl rfl) ?_
            refine RW.nil ?_
            refine awp_ret ?_
            (rw [show validB b = false from decide_eq_false (by omega)]; exact ⟨Or.inr rfl, [_], ⟨.tmp (.t _), trivial⟩, .refl _⟩)
        · try simp only [decide_eq_true_eq, decide_eq_false_iff_not, beq_iff_eq, bne_iff_ne, bne_eq_false_iff_eq, beq_eq_false_iff_ne, Bool.not_eq_true, Bool.not_eq_false, Bool.not_eq_true', Bool.not_eq_false', ne_eq] at h4
          refine RW.gskip rfl rfl rfl rfl rfl (by decide) ?_
          refine RW.gskip rfl rfl rfl rfl rfl (by decide) ?_
          refine RW.gskip rfl rfl rfl rfl rfl (by decide) ?_
          refine RW.op rfl rfl (eff_pick (v := .t _) rfl rfl rfl rfl) ?_
          refine RW.op rfl rfl (eff_move (v := .t _) rfl rfl rfl) ?_
          refine RW.gskip rfl rfl rfl rfl rfl (by decide) ?_
          refine RW.gskip rfl rfl rfl rfl rfl (by decide) ?_
          refine RW.gskip rfl rfl rfl rfl rfl (by decide) ?_
          refine RW.gskip rfl rfl rfl rfl rfl (by decide) ?_
          refine RW.gskip rfl rfl rfl rfl rfl (by decide) ?_
          refine RW.op rfl rfl (eff_pick (v := .t _) rfl rfl rfl rfl) ?_
          refine RW.op rfl rfl (eff_move (v := .t _) rfl rfl rfl) ?_
          refine RW.gskip rfl rfl rfl rfl rfl (by decide) ?_
          refine RW.gskip rfl rfl rfl rfl rfl (by decide) ?_
          refine RW.gskip rfl rfl rfl rfl rfl (by decide) ?_
          refine RW.op rfl rfl (eff_pick (v := .t _) rfl rfl rfl rfl) ?_
          refine RW.op rfl rfl (eff_move (v := .t _) rfl rfl rfl) ?_
          refine RW.gskip rfl rfl rfl rfl rfl (by decide) ?_
          refine RW.gskip rfl rfl rfl rfl rfl (by decide) ?_
          refine RW.gskip rfl rfl rfl rfl rfl (by decide) ?_
          refine RW.op rfl rfl (eff_pick (v := .t _) rfl rfl rfl rfl) ?_
          refine RW.op rfl rfl (eff_move (v := .t _) rfl rfl rfl) ?_
          refine RW.gskip rfl rfl rfl rfl rfl (by decide) ?_
          refine RW.gskip rfl rfl rfl rfl rfl (by decide) ?_
          refine RW.gskip rfl rfl rfl rfl rfl (by decide) ?_
          refine RW.op rfl rfl (eff_pick (v := .t _) rfl rfl rfl rfl) ?_
          refine RW.op rfl rfl (eff_assign (v := .t _) rfl rfl rfl) ?_
          refine RW.nil ?_
          refine awp_ret ?_
          (rw [show validB b = false from decide_eq_false (by omega)]; exact ⟨Or.inr rfl, [_], ⟨.tmp (.t _), trivial⟩, .refl _⟩)
      · try simp only [decide_eq_true_eq, decide_eq_false_iff_not, beq_iff_eq, bne_iff_ne, bne_eq_false_iff_eq, beq_eq_false_iff_ne, Bool.not_eq_true, Bool.not_eq_false, Bool.not_eq_true', Bool.not_eq_false', ne_eq] at h3
        refine RW.gskip rfl rfl rfl rfl rfl (by decide) ?_
        refine RW.gskip rfl rfl rfl rfl rfl (by decide) ?_
        refine RW.gskip rfl rfl rfl rfl rfl (by decide) ?_
        refine RW.op rfl rfl (eff_pick (v := .t _) rfl rfl rfl rfl) ?_
        refine RW.op rfl rfl (eff_move (v := .t _) rfl rfl rfl) ?_
        refine RW.gskip rfl rfl rfl rfl rfl (by decide) ?_
        refine RW.gskip rfl rfl rfl rfl rfl (by decide) ?_
        refine RW.gskip rfl rfl rfl rfl rfl (by decide) ?_
        refine RW.op rfl rfl (eff_pick (v := .t _) rfl rfl rfl rfl) ?_
        refine RW.op rfl rfl (eff_move (v := .t _) rfl rfl rfl) ?_
        refine RW.gskip rfl rfl rfl rfl rfl (by decide) ?_
        refine RW.gskip rfl rfl rfl rfl rfl (by decide) ?_
        refine RW.gskip rfl rfl rfl rfl rfl (by decide) ?_
        refine RW.gskip rfl rfl rfl rfl rfl (by decide) ?_
        refine RW.gskip rfl rfl rfl rfl rfl (by decide) ?_
        refine RW.op rfl rfl (eff_pick (v := .t _) rfl rfl rfl rfl) ?_
        refine RW.op rfl rfl (eff_move (v := .t _) rfl rfl rfl) ?_
        refine RW.gskip rfl rfl rfl rfl rfl (by decide) ?_
        refine RW.gskip rfl rfl rfl rfl rfl (by decide) ?_
        refine RW.gskip rfl rfl rfl rfl rfl (by decide) ?_
        refine RW.op rfl rfl (eff_pick (v := .t _) rfl rfl rfl rfl) ?_
        refine RW.op rfl rfl (eff_move (v := .t _) rfl rfl rfl) ?_
        refine RW.gskip rfl rfl rfl rfl rfl (by decide) ?_
        refine RW.gskip rfl rfl rfl rfl rfl (by decide) ?_
        refine RW.gskip rfl rfl rfl rfl rfl (by decide) ?_
        refine RW.op rfl rfl (eff_pick (v := .t _) rfl rfl rfl rfl) ?_
        refine RW.op rfl rfl (eff_move (v := .t _) rfl rfl rfl) ?_
        refine RW.gskip rfl rfl rfl rfl rfl (by decide) ?_
        refine RW.gskip rfl rfl rfl rfl rfl (by decide) ?_
        refine RW.gskip rfl rfl rfl rfl rfl (by decide) ?_
        refine RW.op rfl rfl (eff_pick (v := .t _) rfl rfl rfl rfl) ?_
        refine RW.op rfl rfl (eff_assign (v := .t _) rfl rfl rfl) ?_
        refine RW.nil ?_
        refine awp_ret ?_
        (rw [show validB b = false from decide_eq_false (by omega)]; exact ⟨Or.inr rfl, [_], ⟨.tmp (.t _), trivial⟩, .refl _⟩)
    · try simp only [decide_eq_true_eq, decide_eq_false_iff_not, beq_iff_eq, bne_iff_ne, bne_eq_false_iff_eq, beq_eq_false_iff_ne, Bool.not_eq_true, Bool.not_eq_false, Bool.not_eq_true', Bool.not_eq_false', ne_eq] at h2
      refine RW.gskip rfl rfl rfl rfl rfl (by decide) ?_
      refine RW.gskip rfl rfl rfl rfl rfl (by decide) ?_
      refine RW.gskip rfl rfl rfl rfl rfl (by decide) ?_
      refine RW.op rfl rfl (eff_pick (v := .t _) rfl rfl rfl rfl) ?_
      refine RW.op rfl rfl (eff_move (v := .t _) rfl rfl rfl) ?_
      refine RW.gskip rfl rfl rfl rfl rfl (by decide) ?_
      refine RW.gskip rfl rfl rfl rfl rfl (by decide) ?_
      refine RW.gskip rfl rfl rfl rfl rfl (by decide) ?_
      refine RW.op rfl rfl (eff_pick (v := .t _) rfl rfl rfl rfl) ?_
      refine RW.op rfl rfl (eff_move (v := .t _) rfl rfl rfl) ?_
      refine RW.gskip rfl rfl rfl rfl rfl (by decide) ?_
      refine RW.gskip rfl rfl rfl rfl rfl (by decide) ?_
      refine RW.gskip rfl rfl rfl rfl rfl (by decide) ?_
      refine RW.op rfl rfl (eff_pick (v := .t _) rfl rfl rfl rfl) ?_
      refine RW.op rfl rfl (eff_move (v := .t _) rfl rfl rfl) ?_
      refine RW.gskip rfl rfl rfl rfl rfl (by decide) ?_
      refine RW.gskip rfl rfl rfl rfl rfl (by decide) ?_
      refine RW.gskip rfl rfl rfl rfl rfl (by decide) ?_
      refine RW.gskip rfl rfl rfl rfl rfl (by decide) ?_
      refine RW.gskip rfl rfl rfl rfl rfl (by decide) ?_
      refine RW.op rfl rfl (eff_pick (v := .t _) rfl rfl rfl rfl) ?_
      refine RW.op rfl rfl (eff_move (v := .t _) rfl rfl rfl) ?_
      refine RW.gskip rfl rfl rfl rfl rfl (by decide) ?_
      refine RW.gskip rfl rfl rfl rfl rfl (by decide) ?_
      refine RW.gskip rfl rfl rfl rfl rfl (by decide) ?_
      refine RW.op rfl rfl (eff_pick (v := .t _) rfl rfl rfl rfl) ?_
      refine RW.op rfl rfl (eff_move (v := .t _) rfl rfl rfl) ?_
      refine RW.gskip rfl rfl rfl rfl rfl (by decide) ?_
      refine RW.gskip rfl rfl rfl rfl rfl (by decide) ?_
      refine RW.gskip rfl rfl rfl rfl rfl (by decide) ?_
      refine RW.op rfl rfl (eff_pick (v := .t _) rfl rfl rfl rfl) ?_
      refine RW.op rfl rfl (eff_move (v := .t _) rfl rfl rfl) ?_
      refine RW.gskip rfl rfl rfl rfl rfl (by decide) ?_
      refine RW.gskip rfl rfl rfl rfl rfl (by decide) ?_
      refine RW.gskip rfl rfl rfl rfl rfl (by decide) ?_
      refine RW.op rfl rfl (eff_pick (v := .t _) rfl rfl rfl rfl) ?_
      refine RW.op rfl rfl (eff_assign (v := .t _) rfl rfl rfl) ?_
      refine RW.nil ?_
      refine awp_ret ?_
      (rw [show validB b = false from decide_eq_false (by omega)]; exact ⟨Or.inr rfl, [_], ⟨.tmp (.t _), trivial⟩, .refl _⟩)
  · try simp only [decide_eq_true_eq, decide_eq_false_iff_not, beq_iff_eq, bne_iff_ne, bne_eq_false_iff_eq, beq_eq_false_iff_ne, Bool.not_eq_true, Bool.not_eq_false, Bool.not_eq_true', Bool.not_eq_false', ne_eq] at h1
    refine RW.gskip rfl rfl rfl rfl rfl (by decide) ?_
    refine RW.gskip rfl rfl rfl rfl rfl (by decide) ?_
    refine RW.gskip rfl rfl rfl rfl rfl (by decide) ?_
    refine RW.op rfl rfl (eff_pick (v := .t _) rfl rfl rfl rfl) ?_
    refine RW.op rfl rfl (eff_move (v := .t _) rfl rfl rfl) ?_
    refine RW.gskip rfl rfl rfl rfl rfl (by decide) ?_
    refine RW.gskip rfl rfl rfl rfl rfl (by decide) ?_
    refine RW.gskip rfl rfl rfl rfl rfl (by decide) ?_
    refine RW.op rfl rfl (eff_pick (v := .t _) rfl rfl rfl rfl) ?_
    refine RW.op rfl rfl (eff_move (v := .t _) rfl rfl rfl) ?_
    refine RW.gskip rfl rfl rfl rfl rfl (by decide) ?_
    refine RW.gskip rfl rfl rfl rfl rfl (by decide) ?_
    refine RW.gskip rfl rfl rfl rfl rfl (by decide) ?_
    refine RW.op rfl rfl (eff_pick (v := .t _) rfl rfl rfl rfl) ?_
    refine RW.op rfl rfl (eff_move (v := .t _) rfl rfl rfl) ?_
    refine RW.gskip rfl rfl rfl rfl rfl (by decide) ?_
    refine RW.gskip rfl rfl rfl rfl rfl (by decide) ?_
    refine RW.gskip rfl rfl rfl rfl rfl (by decide) ?_
    refine RW.op rfl rfl (eff_pick (v := .t _) rfl rfl rfl rfl) ?_
    refine RW.op rfl rfl (eff_move (v := .t _) rfl rfl rfl) ?_
    refine RW.gskip rfl rfl rfl rfl rfl (by decide) ?_
    refine RW.gskip rfl rfl rfl rfl rfl (by decide) ?_
    refine RW.gskip rfl rfl rfl rfl rfl (by decide) ?_
    refine RW.gskip rfl rfl rfl rfl rfl (by decide) ?_
    refine RW.gskip rfl rfl rfl rfl rfl (by decide) ?_
    refine RW.op rfl rfl (eff_pick (v := .t _) rfl rfl rfl rfl) ?_
    refine RW.op rfl rfl (eff_move (v := .t _) rfl rfl rfl) ?_
    refine RW.gskip rfl rfl rfl rfl rfl (by decide) ?_
    refine RW.gskip rfl rfl rfl rfl rfl (by decide) ?_
    refine RW.gskip rfl rfl rfl rfl rfl (by decide) ?_
    refine RW.op rfl rfl (eff_pick (v := .t _) rfl rfl rfl rfl) ?_
    refine RW.op rfl rfl (eff_move (v := .t _) rfl rfl rfl) ?_
    refine RW.gskip rfl rfl rfl rfl rfl (by decide) ?_
    refine RW.gskip rfl rfl rfl rfl rfl (by decide) ?_
    refine RW.gskip rfl rfl rfl rfl rfl (by decide) ?_
    refine RW.op rfl rfl (eff_pick (v := .t _) rfl rfl rfl rfl) ?_
    refine RW.op rfl rfl (eff_move (v := .t _) rfl rfl rfl) ?_
    refine RW.gskip rfl rfl rfl rfl rfl (by decide) ?_
    refine RW.gskip rfl rfl rfl rfl rfl (by decide) ?_
    refine RW.gskip rfl rfl rfl rfl rfl (by decide) ?_
    refine RW.op rfl rfl (eff_pick (v := .t _) rfl rfl rfl rfl) ?_
    refine RW.op rfl rfl (eff_assign (v := .t _) rfl rfl rfl) ?_
    refine RW.nil ?_
    refine awp_ret ?_
    (rw [show validB b = false from decide_eq_false (by omega)]; exact ⟨Or.inr rfl, [_], ⟨.tmp (.t _), trivial⟩, .refl _⟩)

theorem check_ret (t : List Win) (l : List Bid) (ht : t.length ≤ 100000) (hl : l.length ≤ 100000) : Ret Try.prog 16 [.sl (t.map encW) false, .sl (l.map encB) false] (encI (errF (atB t) l)) := by
  refine ret_of_awp Try.func16 rfl (Nat.le_of_ble_eq_true rfl) ?_
  refine awp_seq ?_
  refine awp_rw rfl ?_
  refine RW.op rfl rfl (eff_assign (v := .t _) rfl rfl rfl) ?_
  refine RW.nil ?_
  refine awp_seq ?_
  refine awp_seq ?_
  refine awp_rw rfl ?_
  refine RW.op rfl rfl (eff_move (v := .t _) rfl rfl rfl) ?_
  refine RW.op rfl rfl (eff_lenM rfl rfl te23 rfl) ?_
  refine RW.op rfl rfl (eff_iop rfl rfl rfl rfl rfl) ?_
  refine RW.nil ?_
  refine awp_cond rfl (fun h1 => ?_) (fun h1 => ?_)
  · try simp only [decide_eq_true_eq, decide_eq_false_iff_not, beq_iff_eq, bne_iff_ne, bne_eq_false_iff_eq, beq_eq_false_iff_ne, Bool.not_eq_true, Bool.not_eq_false, Bool.not_eq_true', Bool.not_eq_false', ne_eq] at h1
    refine awp_seq ?_
    refine awp_rw rfl ?_
    refine RW.op rfl rfl (eff_assign (v := .t _) rfl rfl rfl) ?_
    refine RW.nil ?_
    refine awp_ret ?_
    first
      | (rw [show errF (atB t) l = 2 from if_pos (by omega)]; exact ⟨Or.inr rfl, [_], ⟨.tmp (.t _), trivial⟩, .refl _⟩)
      | (rw [show errF (atB t) l = 5 from by unfold errF; rw [if_neg (by omega), errG_at hil ha, if_neg (by rw [(by assumption : validB (l[i]'hil) = false)]; decide)]]; exact ⟨Or.inr rfl, [_], ⟨.tmp (.t _), trivial⟩, .refl _⟩)
      | (rw [show errF (atB t) l = 32 from by unfold errF; rw [if_neg (by omega), errG_at hil ha, if_pos (by assumption), if_neg (by first | (rw [(by assumption : atB t (l[i]'hil) = false)]; decide) | exact hnf (by assumption) | (unfold atB; simp_all))]]; exact ⟨Or.inr rfl, [_], ⟨.tmp (.t _), trivial⟩, .refl _⟩)
      | (obtain rfl : i = l.length := by omega
         rw [show errF (atB t) l = 0 from by unfold errF; rw [if_neg (by omega), errG_drop hi ha, List.drop_length]; rfl]; exact ⟨Or.inr rfl, [_], ⟨.tmp (.t _), trivial⟩, .refl _⟩)
  · try simp only [decide_eq_true_eq, decide_eq_false_iff_not, beq_iff_eq, bne_iff_ne, bne_eq_false_iff_eq, beq_eq_false_iff_ne, Bool.not_eq_true, Bool.not_eq_false, Bool.not_eq_true', Bool.not_eq_false', ne_eq] at h1
    refine awp_skip ?_
    refine awp_seq ?_
    refine awp_seq ?_
    refine awp_rw rfl ?_
    refine RW.op rfl rfl (eff_move (v := .t _) rfl rfl rfl) ?_
    refine RW.op rfl rfl (eff_lenM rfl rfl te23 rfl) ?_
    refine RW.op rfl rfl (eff_move (v := .t _) rfl rfl rfl) ?_
    refine RW.nil ?_
    refine awp_block ?_
    refine awp_loopW (fun m s => ∃ (i : Nat), (i ≤ l.length) ∧ (∀ b, b ∈ l.take i → validB b = true ∧ atB t b = true) ∧ m = l.length - i ∧ s = ⟨42, [(0, .t (.sl (t.map encW) false)), (12, .t (.sl (l.map encB) false)), (13, .t (encI l.length)), (14, .t (encI (i : Nat)))], []⟩) (_) (⟨_, weak_keep (n := 42) (fr' := [(0, .t (.sl (t.map encW) false)), (12, .t (.sl (l.map encB) false)), (13, .t (encI l.length)), (14, .t (encI (0 : Nat)))]) (st' := []) ⟨rfl, rfl, rfl, rfl, rfl, rfl, rfl, rfl, trivial⟩ trivial, 0, (by omega), (by simp), rfl, rfl⟩) ?_
    rintro m s ⟨i, hi, ha, rfl, rfl⟩
    refine awp_seq ?_
    refine awp_rw rfl ?_
    refine RW.op rfl rfl (eff_iop rfl rfl rfl rfl rfl) ?_
    refine RW.nil ?_
    refine awp_seq ?_
    refine awp_cond rfl (fun h2 => ?_) (fun h2 => ?_)
    · try simp only [decide_eq_true_eq, decide_eq_false_iff_not, beq_iff_eq, bne_iff_ne, bne_eq_false_iff_eq, beq_eq_false_iff_ne, Bool.not_eq_true, Bool.not_eq_false, Bool.not_eq_true', Bool.not_eq_false', ne_eq] at h2
      refine awp_skip ?_
      refine awp_seq ?_
      refine awp_block ?_
      refine awp_seq ?_
      refine awp_rw rfl ?_
      have hil : i < l.length := by omega
      refine RW.op rfl rfl (eff_indexAddrT (i := i) rfl rfl te23 rfl rfl (by first | rfl | omega) (by rw [List.getElem?_map, List.getElem?_eq_getElem hil]; rfl) rfl (by decide)) ?_
      refine RW.op rfl rfl (eff_loadW rfl rfl ti42 rfl rfl rfl) ?_
      refine RW.new rfl rfl (eff_allocK (k := 5) (id := 6) rfl rfl tz42 rfl rfl) ?_
      refine RW.store rfl rfl (eff_storeW (v := .t _) (els := [_]) (els' := [_]) rfl rfl ti42 rfl rfl rfl rfl rfl rfl rfl rfl rfl) ?_
      refine RW.nil ?_
      refine awp_seq ?_
      refine awp_seq ?_
      refine awp_rw rfl ?_
      refine RW.op rfl rfl (eff_load rfl rfl ti42 rfl (.whole rfl rfl rfl rfl rfl rfl)) ?_
      refine RW.op rfl rfl (eff_callT (valid_ret _) co45 rfl rfl rfl rfl) ?_
      refine RW.op rfl rfl (eff_unop rfl rfl rfl rfl) ?_
      refine RW.nil ?_
      refine awp_cond rfl (fun h3 => ?_) (fun h3 => ?_)
      · try simp only [decide_eq_true_eq, decide_eq_false_iff_not, beq_iff_eq, bne_iff_ne, bne_eq_false_iff_eq, beq_eq_false_iff_ne, Bool.not_eq_true, Bool.not_eq_false, Bool.not_eq_true', Bool.not_eq_false', ne_eq] at h3
        refine awp_seq ?_
        refine awp_rw rfl ?_
        refine RW.op rfl rfl (eff_assign (v := .t _) rfl rfl rfl) ?_
        refine RW.nil ?_
        refine awp_ret ?_
        first
          | (rw [show errF (atB t) l = 2 from if_pos (by omega)]; exact ⟨Or.inr rfl, [_], ⟨.tmp (.t _), trivial⟩, .refl _⟩)
          | (rw [show errF (atB t) l = 5 from by unfold errF; rw [if_neg (by omega), errG_at hil ha, if_neg (by rw [(by assumption : validB (l[i]'hil) = false)]; decide)]]; exact ⟨Or.inr rfl, [_], ⟨.tmp (.t _), trivial⟩, .refl _⟩)
          | (rw [show errF (atB t) l = 32 from by unfold errF; rw [if_neg (by omega), errG_at hil ha, if_pos (by assumption), if_neg (by first | (rw [(by assumption : atB t (l[i]'hil) = false)]; decide) | exact hnf (by assumption) | (unfold atB; simp_all))]]; exact ⟨Or.inr rfl, [_], ⟨.tmp (.t _), trivial⟩, .refl _⟩)
          | (obtain rfl : i = l.length := by omega
             rw [show errF (atB t) l = 0 from by unfold errF; rw [if_neg (by omega), errG_drop hi ha, List.drop_length]; rfl]; exact ⟨Or.inr rfl, [_], ⟨.tmp (.t _), trivial⟩, .refl _⟩)
      · try simp only [decide_eq_true_eq, decide_eq_false_iff_not, beq_iff_eq, bne_iff_ne, bne_eq_false_iff_eq, beq_eq_false_iff_ne, Bool.not_eq_true, Bool.not_eq_false, Bool.not_eq_true', Bool.not_eq_false', ne_eq] at h3
        refine awp_skip ?_
        refine awp_seq ?_
        refine awp_rw rfl ?_
        refine RW.op rfl rfl (eff_move (v := .t _) rfl rfl rfl) ?_
        refine RW.op rfl rfl (eff_fieldAddr rfl rfl tf42_0 (by decide) rfl rfl rfl (Nat.le_of_ble_eq_true rfl)) ?_
        refine RW.op rfl rfl (eff_load (y := .t _) rfl rfl ti3 rfl (.one rfl rfl rfl rfl)) ?_
        refine RW.op rfl rfl (eff_fieldAddr rfl rfl tf42_1 (by decide) rfl rfl rfl (Nat.le_of_ble_eq_true rfl)) ?_
        refine RW.op rfl rfl (eff_load (y := .t _) rfl rfl ti3 rfl (.one rfl rfl rfl rfl)) ?_
        refine RW.op rfl rfl (eff_fieldAddr rfl rfl tf42_2 (by decide) rfl rfl rfl (Nat.le_of_ble_eq_true rfl)) ?_
        refine RW.op rfl rfl (eff_load (y := .t _) rfl rfl ti3 rfl (.one rfl rfl rfl rfl)) ?_
        refine RW.op rfl rfl (eff_callT (at_ret39 t 1 (l[i]'hil).craft (l[i]'hil).station (l[i]'hil).frm ht) co39 rfl rfl rfl rfl) ?_
        refine RW.op rfl rfl (eff_move (v := .t _) rfl rfl rfl) ?_
        refine RW.op rfl rfl (eff_extract rfl rfl rfl rfl) ?_
        refine RW.op rfl rfl (eff_extract rfl rfl rfl rfl) ?_
        refine RW.new rfl rfl (eff_allocK (k := 6) (id := 7) rfl rfl tz29 rfl rfl) ?_
        refine RW.store rfl rfl (eff_storeW (v := .t _) (els := [_]) (els' := [_]) rfl rfl ti29 rfl rfl rfl rfl rfl rfl rfl rfl rfl) ?_
        refine RW.op rfl rfl (eff_assign (v := .t _) rfl rfl rfl) ?_
        refine RW.nil ?_
        refine awp_seq ?_
        refine awp_rw rfl ?_
        refine RW.op rfl rfl (eff_move (v := .t _) rfl rfl rfl) ?_
        refine RW.op rfl rfl (eff_unop rfl rfl rfl rfl) ?_
        refine RW.op rfl rfl (eff_move (v := .t _) rfl rfl rfl) ?_
        refine RW.split 34 rfl (fun h4 => ?_) (fun h4 => ?_)
        · try simp only [decide_eq_true_eq, decide_eq_false_iff_not, beq_iff_eq, bne_iff_ne, bne_eq_false_iff_eq, beq_eq_false_iff_ne, Bool.not_eq_true, Bool.not_eq_false, Bool.not_eq_true', Bool.not_eq_false', ne_eq] at h4
          refine RW.gskip rfl rfl rfl rfl rfl (by decide) ?_
          refine RW.gskip rfl rfl rfl rfl rfl (by decide) ?_
          refine RW.gskip rfl rfl rfl rfl rfl (by decide) ?_
          refine RW.gskip rfl rfl rfl rfl rfl (by decide) ?_
          refine RW.gskip rfl rfl rfl rfl rfl (by decide) ?_
          refine RW.op rfl rfl (eff_pick (v := .t _) rfl rfl rfl rfl) ?_
          refine RW.nil ?_
          refine awp_cond rfl (fun _ => ?_) (fun h => nomatch h)
          refine awp_seq ?_
          refine awp_rw rfl ?_
          refine RW.op rfl rfl (eff_assign (v := .t _) rfl rfl rfl) ?_
          refine RW.nil ?_
          refine awp_ret ?_
          first
            | (rw [show errF (atB t) l = 2 from if_pos (by omega)]; exact ⟨Or.inr rfl, [_], ⟨.tmp (.t _), trivial⟩, .refl _⟩)
            | (rw [show errF (atB t) l = 5 from by unfold errF; rw [if_neg (by omega), errG_at hil ha, if_neg (by rw [(by assumption : validB (l[i]'hil) = false)]; decide)]]; exact ⟨Or.inr rfl, [_], ⟨.tmp (.t _), trivial⟩, .refl _⟩)
            | (rw [show errF (atB t) l = 32 from by unfold errF; rw [if_neg (by omega), errG_at hil ha, if_pos (by assumption), if_neg (by first | (rw [(by assumption : atB t (l[i]'hil) = false)]; decide) | exact hnf (by assumption) | (unfold atB; simp_all))]]; exact ⟨Or.inr rfl, [_], ⟨.tmp (.t _), trivial⟩, .refl _⟩)
            | (obtain rfl : i = l.length := by omega
               rw [show errF (atB t) l = 0 from by unfold errF; rw [if_neg (by omega), errG_drop hi ha, List.drop_length]; rfl]; exact ⟨Or.inr rfl, [_], ⟨.tmp (.t _), trivial⟩, .refl _⟩)
        · try simp only [decide_eq_true_eq, decide_eq_false_iff_not, beq_iff_eq, bne_iff_ne, bne_eq_false_iff_eq, beq_eq_false_iff_ne, Bool.not_eq_true, Bool.not_eq_false, Bool.not_eq_true', Bool.not_eq_false', ne_eq] at h4
          refine RW.gop rfl rfl rfl rfl rfl rfl (eff_fieldAddr rfl rfl tf29_4 (by decide) rfl rfl rfl (Nat.le_of_ble_eq_true rfl)) ?_
          refine RW.gop rfl rfl rfl rfl rfl rfl (eff_load (y := .t _) rfl rfl ti3 rfl (.one rfl rfl rfl rfl)) ?_
          refine RW.gop rfl rfl rfl rfl rfl rfl (eff_fieldAddr rfl rfl tf42_3 (by decide) rfl rfl rfl (Nat.le_of_ble_eq_true rfl)) ?_
          refine RW.gop rfl rfl rfl rfl rfl rfl (eff_load (y := .t _) rfl rfl ti3 rfl (.one rfl rfl rfl rfl)) ?_
          refine RW.gop rfl rfl rfl rfl rfl rfl (eff_iop rfl rfl rfl rfl rfl) ?_
          refine RW.op rfl rfl (eff_pick (v := .t _) rfl rfl rfl rfl) ?_
          refine RW.nil ?_
          refine awp_cond rfl (fun h5 => ?_) (fun h5 => ?_)
          · try simp only [decide_eq_true_eq, decide_eq_false_iff_not, beq_iff_eq, bne_iff_ne, bne_eq_false_iff_eq, beq_eq_false_iff_ne, Bool.not_eq_true, Bool.not_eq_false, Bool.not_eq_true', Bool.not_eq_false', ne_eq] at h5
            refine awp_seq ?_
            refine awp_rw rfl ?_
            refine RW.op rfl rfl (eff_assign (v := .t _) rfl rfl rfl) ?_
            refine RW.nil ?_
            refine awp_ret ?_
            first
              | (rw [show errF (atB t) l = 2 from if_pos (by omega)]; exact ⟨Or.inr rfl, [_], ⟨.tmp (.t _), trivial⟩, .refl _⟩)
              | (rw [show errF (atB t) l = 5 from by unfold errF; rw [if_neg (by omega), errG_at hil ha, if_neg (by rw [(by assumption : validB (l[i]'hil) = false)]; decide)]]; exact ⟨Or.inr rfl, [_], ⟨.tmp (.t _), trivial⟩, .refl _⟩)
              | (rw [show errF (atB t) l = 32 from by unfold errF; rw [if_neg (by omega), errG_at hil ha, if_pos (by assumption), if_neg (by first | (rw [(by assumption : atB t (l[i]'hil) = false)]; decide) | exact hnf (by assumption) | (unfold atB; simp_all))]]; exact ⟨Or.inr rfl, [_], ⟨.tmp (.t _), trivial⟩, .refl _⟩)
              | (obtain rfl : i = l.length := by omega
                 rw [show errF (atB t) l = 0 from by unfold errF; rw [if_neg (by omega), errG_drop hi ha, List.drop_length]; rfl]; exact ⟨Or.inr rfl, [_], ⟨.tmp (.t _), trivial⟩, .refl _⟩)
          · try simp only [decide_eq_true_eq, decide_eq_false_iff_not, beq_iff_eq, bne_iff_ne, bne_eq_false_iff_eq, beq_eq_false_iff_ne, Bool.not_eq_true, Bool.not_eq_false, Bool.not_eq_true', Bool.not_eq_false', ne_eq] at h5
            refine awp_skip ?_
            refine awp_rw rfl ?_
            refine RW.op rfl rfl (eff_iop rfl rfl rfl rfl (iadd (by omega))) ?_
            refine RW.op rfl rfl (eff_move (v := .t _) rfl rfl rfl) ?_
            refine RW.nil ?_
            refine ⟨_, ?_, _, weak_keep (n := 42) (fr' := [(0, .t (.sl (t.map encW) false)), (12, .t (.sl (l.map encB) false)), (13, .t (encI l.length)), (14, .t (encI ((i + 1) : Nat)))]) (st' := []) ⟨rfl, rfl, rfl, rfl, rfl, rfl, rfl, rfl, trivial⟩ trivial, i + 1, (by omega), (by intro b hb; rcases (mem_take_succ hil).1 hb with h | h; exact ha b h; rw [h]; exact ⟨by assumption, decide_eq_true ⟨by first | assumption | simp_all, by first | assumption | omega⟩⟩), rfl, rfl⟩
            omega
    · try simp only [decide_eq_true_eq, decide_eq_false_iff_not, beq_iff_eq, bne_iff_ne, bne_eq_false_iff_eq, beq_eq_false_iff_ne, Bool.not_eq_true, Bool.not_eq_false, Bool.not_eq_true', Bool.not_eq_false', ne_eq] at h2
      refine awp_exit ?_
      refine awp_seq ?_
      refine awp_rw rfl ?_
      refine RW.op rfl rfl (eff_assign (v := .t _) rfl rfl rfl) ?_
      refine RW.nil ?_
      refine awp_ret ?_
      first
        | (rw [show errF (atB t) l = 2 from if_pos (by omega)]; exact ⟨Or.inr rfl, [_], ⟨.tmp (.t _), trivial⟩, .refl _⟩)
        | (rw [show errF (atB t) l = 5 from by unfold errF; rw [if_neg (by omega), errG_at hil ha, if_neg (by rw [(by assumption : validB (l[i]'hil) = false)]; decide)]]; exact ⟨Or.inr rfl, [_], ⟨.tmp (.t _), trivial⟩, .refl _⟩)
        | (rw [show errF (atB t) l = 32 from by unfold errF; rw [if_neg (by omega), errG_at hil ha, if_pos (by assumption), if_neg (by first | (rw [(by assumption : atB t (l[i]'hil) = false)]; decide) | exact hnf (by assumption) | (unfold atB; simp_all))]]; exact ⟨Or.inr rfl, [_], ⟨.tmp (.t _), trivial⟩, .refl _⟩)
        | (obtain rfl : i = l.length := by omega
           rw [show errF (atB t) l = 0 from by unfold errF; rw [if_neg (by omega), errG_drop hi ha, List.drop_length]; rfl]; exact ⟨Or.inr rfl, [_], ⟨.tmp (.t _), trivial⟩, .refl _⟩)

end Go.Tv.C35

end
section
open Go Go.Tv Go.Proofs
namespace Go.Tv.C35
set_option linter.unusedVariables false

structure Rep where
  next : Int
  have_ : Int
  key : Int
  locked : Bool
  deriving DecidableEq, Inhabited
def encR (r : Rep) : Tr := .agg [encI r.next, encI r.have_, encI r.key, .bool r.locked]
def RepOK (r : Rep) : Prop := (0 ≤ r.next ∧ r.next ≤ 1000000) ∧ (0 ≤ r.have_ ∧ r.have_ < 4294967296)
def bitN (h k : Nat) : Nat := h / 2 ^ (min k 64) % 2
def hasB (r : Rep) (n : Int) : Bool := if n ≤ r.next then decide (n < r.next) else decide (bitN r.have_.toNat (n - r.next - 1).toNat = 1)
theorem has_low {r : Rep} {n : Int} (h : n ≤ r.next) : hasB r n = decide (n < r.next) := if_pos h
theorem has_bit {r : Rep} {n : Int} (h : ¬ n ≤ r.next) : hasB r n = decide (bitN r.have_.toNat (n - r.next - 1).toNat = 1) := if_neg h
theorem has_lowN {nx ky n : Int} {h : Nat} {lk : Bool} (hn : n ≤ nx) : hasB ⟨nx, ((h : Nat) : Int), ky, lk⟩ n = decide (n < nx) := has_low (r := ⟨nx, ((h : Nat) : Int), ky, lk⟩) (n := n) hn
theorem has_bitN {nx ky n : Int} {h : Nat} {lk : Bool} (hn : ¬ n ≤ nx) : hasB ⟨nx, ((h : Nat) : Int), ky, lk⟩ n = decide (bitN h (n - nx - 1).toNat = 1) := by
  have := has_bit (r := ⟨nx, ((h : Nat) : Int), ky, lk⟩) (n := n) hn
  rw [this, Int.toNat_natCast]
theorem shr_nat {ik : IntKind} (hb : ik.bits = 64) (h : Nat) {n : Int} (h0 : 0 ≤ n) : ((h : Nat) : Int).fdiv (2 ^ (min n.toNat ik.bits)) = ((h / 2 ^ (min n.toNat 64) : Nat) : Int) := by
  have hc : ∀ m : Nat, (2 : Int) ^ m = ((2 ^ m : Nat) : Int) := fun m => by simp
  rw [hb, hc, Int.fdiv_eq_ediv_of_nonneg _ (Int.natCast_nonneg _), ← Int.natCast_ediv]
theorem ofInt_nat (x : Nat) : BitVec.ofInt 64 (x : Int) = BitVec.ofNat 64 x := by
  apply BitVec.eq_of_toNat_eq
  simp
theorem and_one {x : Nat} (hx : x < 18446744073709551616) : iop .and .u64 (x : Int) 1 = some (.int .u64 ((x % 2 : Nat) : Int)) := by
  have h2 : (BitVec.ofInt 64 (x : Int) &&& BitVec.ofInt 64 ((1 : Nat) : Int)).toNat = x &&& 1 := by
    rw [ofInt_nat, ofInt_nat, BitVec.toNat_and, BitVec.toNat_ofNat, BitVec.toNat_ofNat, Nat.mod_eq_of_lt hx, Nat.mod_eq_of_lt (by decide)]
  show some (Tr.int .u64 (IntKind.u64.wrap ((BitVec.ofInt 64 (x : Int) &&& BitVec.ofInt 64 ((1 : Nat) : Int)).toNat : Int))) = _
  rw [h2, wu64, Nat.and_one_is_mod, show ((x % 2 : Nat) : Int) % 18446744073709551616 = ((x % 2 : Nat) : Int) from by omega]
def lackN (l : List Rep) (n : Nat) : Bool := l.any fun r => !hasB r (n : Int)
def neededN (l : List Rep) (q : Nat) : List Nat := (List.range q).filter (lackN l)
theorem needed_yes {l : List Rep} {i : Nat} (h : lackN l i = true) : neededN l (i + 1) = neededN l i ++ [i] := by
  unfold neededN; rw [List.range_succ, List.filter_append, List.filter_cons, if_pos h]; rfl
theorem needed_no {l : List Rep} {i : Nat} (h : lackN l i = false) : neededN l (i + 1) = neededN l i := by
  unfold neededN; rw [List.range_succ, List.filter_append, List.filter_cons, if_neg (by rw [h]; decide)]; simp
theorem needed_len (l : List Rep) (q : Nat) : (neededN l q).length ≤ q := by
  have := List.length_filter_le (lackN l) (List.range q)
  rw [List.length_range] at this
  exact this
def minR (m x : Rep) : Rep := if x.next < m.next then x else m
def settledF : List Rep → Int
  | [] => 0
  | r :: l => (l.foldl minR r).next
theorem foldl_snoc {α β : Type} (f : α → β → α) (a : α) (l : List β) (x : β) : (l ++ [x]).foldl f a = f (l.foldl f a) x := by rw [List.foldl_append]; rfl
/-- The least of some states. -/
def leastR (l : List Rep) (d : Rep) : Rep := l.foldl minR d
theorem least_step {l : List Rep} {d : Rep} {i : Nat} (h : i < l.length) : leastR (l.take (i + 1)) d = minR (leastR (l.take i) d) l[i] := by
  unfold leastR; rw [take_succ_get h, foldl_snoc]
theorem minR_self (d : Rep) : minR d d = d := by unfold minR; rw [if_neg (by omega)]
theorem settled_is {l : List Rep} (h : 0 < l.length) : settledF l = (leastR l l[0]).next := by
  cases l with
  | nil => simp at h
  | cons r l =>
    show (l.foldl minR r).next = (l.foldl minR (minR r r)).next
    rw [minR_self]
end Go.Tv.C35

end
