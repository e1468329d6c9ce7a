/- Part of the proof that the laws of this seat return true for every input. No condition. -/
import Derived.Test.YtgicknpbpdfadaaT2
import Derived.Test.YtgicknpbpdfadaaT1
section
open Go Go.Tv Go.Proofs
namespace Go.Tv.C27
set_option maxRecDepth 20000
set_option linter.unusedSimpArgs false
set_option linter.unusedVariables false
theorem isNaN62_ret (n : Int) : Ret Try.prog 62 [encI n] (.bool false) := by
  refine ret_of_awp Try.func62 rfl (Nat.le_of_ble_eq_true rfl) ?_
  refine awp_seq ?_
  refine awp_rw rfl ?_
  refine RW.op rfl rfl (eff_assign (v := .t _) rfl rfl rfl) ?_
  refine RW.nil ?_
  refine awp_seq ?_
  refine awp_rw rfl ?_
  refine RW.op rfl rfl (eff_move (v := .t _) rfl rfl rfl) ?_
  refine RW.op rfl rfl (eff_move (v := .t _) rfl rfl rfl) ?_
  refine RW.op rfl rfl (eff_iop (r := .bool false) rfl rfl rfl rfl (by simp [iop])) ?_
  refine RW.op rfl rfl (eff_assign (v := .t _) rfl rfl rfl) ?_
  refine RW.nil ?_
  refine awp_ret ?_
  first
    | exact ⟨Or.inr rfl, [_], ⟨.tmp (.t _), trivial⟩, .refl _⟩
    | exact ⟨Or.inr rfl, [_], ⟨.tmp (.t _), trivial⟩, (by repeat' first | exact trivial | exact Wk.refl _ | exact Wk.sl _ | refine And.intro ?_ ?_ | refine Wk.tupP ?_ | refine Wk.aggP ?_)⟩
    | exact ⟨Or.inr rfl, [_], ⟨.tmp (Res.ownT rfl rfl rfl rfl), trivial⟩, .refl _⟩
    | exact ⟨Or.inr rfl, [_], ⟨.tmp (Res.ownT rfl rfl rfl rfl), trivial⟩, (by repeat' first | exact trivial | exact Wk.refl _ | exact Wk.sl _ | refine And.intro ?_ ?_ | refine Wk.tupP ?_ | refine Wk.aggP ?_)⟩

theorem isNaN65_ret (n : Int) : Ret Try.prog 65 [encI n] (.bool false) := by
  refine ret_of_awp Try.func65 rfl (Nat.le_of_ble_eq_true rfl) ?_
  refine awp_seq ?_
  refine awp_rw rfl ?_
  refine RW.op rfl rfl (eff_assign (v := .t _) rfl rfl rfl) ?_
  refine RW.nil ?_
  refine awp_seq ?_
  refine awp_rw rfl ?_
  refine RW.op rfl rfl (eff_move (v := .t _) rfl rfl rfl) ?_
  refine RW.op rfl rfl (eff_move (v := .t _) rfl rfl rfl) ?_
  refine RW.op rfl rfl (eff_iop (r := .bool false) rfl rfl rfl rfl (by simp [iop])) ?_
  refine RW.op rfl rfl (eff_assign (v := .t _) rfl rfl rfl) ?_
  refine RW.nil ?_
  refine awp_ret ?_
  first
    | exact ⟨Or.inr rfl, [_], ⟨.tmp (.t _), trivial⟩, .refl _⟩
    | exact ⟨Or.inr rfl, [_], ⟨.tmp (.t _), trivial⟩, (by repeat' first | exact trivial | exact Wk.refl _ | exact Wk.sl _ | refine And.intro ?_ ?_ | refine Wk.tupP ?_ | refine Wk.aggP ?_)⟩
    | exact ⟨Or.inr rfl, [_], ⟨.tmp (Res.ownT rfl rfl rfl rfl), trivial⟩, .refl _⟩
    | exact ⟨Or.inr rfl, [_], ⟨.tmp (Res.ownT rfl rfl rfl rfl), trivial⟩, (by repeat' first | exact trivial | exact Wk.refl _ | exact Wk.sl _ | refine And.intro ?_ ?_ | refine Wk.tupP ?_ | refine Wk.aggP ?_)⟩

theorem less_ret (a b : Int) : Ret Try.prog 61 [encI a, encI b] (.bool (decide (a < b))) := by
  refine ret_of_awp Try.func61 rfl (Nat.le_of_ble_eq_true rfl) ?_
  refine awp_seq ?_
  refine awp_rw rfl ?_
  refine RW.op rfl rfl (eff_assign (v := .t _) rfl rfl rfl) ?_
  refine RW.nil ?_
  refine awp_seq ?_
  refine awp_rw rfl ?_
  refine RW.op rfl rfl (eff_move (v := .t _) rfl rfl rfl) ?_
  refine RW.op rfl rfl (eff_callT (isNaN65_ret _) co65 rfl rfl rfl rfl) ?_
  refine RW.op rfl rfl (eff_move (v := .t _) rfl rfl rfl) ?_
  refine RW.gskip rfl rfl rfl rfl rfl (by decide) ?_
  refine RW.gskip rfl rfl rfl rfl rfl (by decide) ?_
  refine RW.gskip rfl rfl rfl rfl rfl (by decide) ?_
  refine RW.op rfl rfl (eff_pick (v := .t _) rfl rfl rfl rfl) ?_
  refine RW.op rfl rfl (eff_move (v := .t _) rfl rfl rfl) ?_
  refine RW.gop rfl rfl rfl rfl rfl rfl (eff_move (v := .t _) rfl rfl rfl) ?_
  refine RW.gop rfl rfl rfl rfl rfl rfl (eff_move (v := .t _) rfl rfl rfl) ?_
  refine RW.gop rfl rfl rfl rfl rfl rfl (eff_iop rfl rfl rfl rfl rfl) ?_
  refine RW.op rfl rfl (eff_pick (v := .t _) rfl rfl rfl rfl) ?_
  refine RW.op rfl rfl (eff_assign (v := .t _) rfl rfl rfl) ?_
  refine RW.nil ?_
  refine awp_ret ?_
  first
    | exact ⟨Or.inr rfl, [_], ⟨.tmp (.t _), trivial⟩, .refl _⟩
    | exact ⟨Or.inr rfl, [_], ⟨.tmp (.t _), trivial⟩, (by repeat' first | exact trivial | exact Wk.refl _ | exact Wk.sl _ | refine And.intro ?_ ?_ | refine Wk.tupP ?_ | refine Wk.aggP ?_)⟩
    | exact ⟨Or.inr rfl, [_], ⟨.tmp (Res.ownT rfl rfl rfl rfl), trivial⟩, .refl _⟩
    | exact ⟨Or.inr rfl, [_], ⟨.tmp (Res.ownT rfl rfl rfl rfl), trivial⟩, (by repeat' first | exact trivial | exact Wk.refl _ | exact Wk.sl _ | refine And.intro ?_ ?_ | refine Wk.tupP ?_ | refine Wk.aggP ?_)⟩

theorem search_ret (l : List Int) (x : Int) (hl : l.length ≤ 1000000) (hp : l.Pairwise (· < ·)) : Ret Try.prog 58 [encIs l, encI x] (.tup [encI (lowerB x l : Nat), .bool (decide (x ∈ l))]) := by
  refine ret_of_awp Try.func58 rfl (Nat.le_of_ble_eq_true rfl) ?_
  refine awp_seq ?_
  refine awp_rw rfl ?_
  refine RW.op rfl rfl (eff_assign (v := .t _) rfl rfl rfl) ?_
  refine RW.op rfl rfl (eff_assign (v := .t _) rfl rfl rfl) ?_
  refine RW.nil ?_
  refine awp_seq ?_
  refine awp_rw rfl ?_
  refine RW.op rfl rfl (eff_move (v := .t _) rfl rfl rfl) ?_
  refine RW.op rfl rfl (eff_lenM rfl rfl te27 rfl) ?_
  refine RW.op rfl rfl (eff_assign (v := .t _) rfl rfl rfl) ?_
  refine RW.nil ?_
  refine awp_seq ?_
  refine awp_rw rfl ?_
  refine RW.op rfl rfl (eff_move (v := .t _) rfl rfl rfl) ?_
  refine RW.op rfl rfl (eff_assign (v := .t _) rfl rfl rfl) ?_
  refine RW.op rfl rfl (eff_assign (v := .t _) rfl rfl rfl) ?_
  refine RW.nil ?_
  refine awp_seq ?_
  refine awp_block ?_
  refine awp_loopW (fun m s => ∃ (lo : Nat) (hi : Nat), (lo ≤ hi) ∧ (hi ≤ l.length) ∧ (∀ y, y ∈ l.take lo → y < x) ∧ (∀ h : hi < l.length, ¬ l[hi] < x) ∧ m = hi - lo ∧ s = ⟨54, [(0, .t (encIs l)), (1, .t (encI x)), (6, .t (encI l.length)), (7, .t (encI (lo : Nat))), (8, .t (encI (hi : Nat)))], []⟩) (_) (⟨_, weak_keep (n := 54) (fr' := [(0, .t (encIs l)), (1, .t (encI x)), (6, .t (encI l.length)), (7, .t (encI (0 : Nat))), (8, .t (encI ((l.length) : Nat)))]) (st' := []) ⟨rfl, rfl, rfl, rfl, rfl, rfl, rfl, rfl, rfl, rfl, trivial⟩ trivial, 0, l.length, (by omega), (by omega), (by simp), (by intro h; omega), rfl, rfl⟩) ?_
  rintro m s ⟨lo, hi, hlh, hhi, hy, hz, rfl, rfl⟩
  refine awp_seq ?_
  refine awp_seq ?_
  refine awp_rw rfl ?_
  refine RW.op rfl rfl (eff_move (v := .t _) rfl rfl rfl) ?_
  refine RW.op rfl rfl (eff_move (v := .t _) rfl rfl rfl) ?_
  refine RW.op rfl rfl (eff_iop rfl rfl rfl rfl rfl) ?_
  refine RW.nil ?_
  refine awp_cond rfl (fun h1 => ?_) (fun h1 => ?_)
  · try simp only [decide_eq_true_eq, decide_eq_false_iff_not, beq_iff_eq, bne_iff_ne, bne_eq_false_iff_eq, beq_eq_false_iff_ne, Bool.not_eq_true, Bool.not_eq_false, Bool.not_eq_true', Bool.not_eq_false', ne_eq] at h1
    refine awp_skip ?_
    refine awp_block ?_
    refine awp_seq ?_
    refine awp_rw rfl ?_
    refine RW.op rfl rfl (eff_move (v := .t _) rfl rfl rfl) ?_
    refine RW.op rfl rfl (eff_move (v := .t _) rfl rfl rfl) ?_
    refine RW.op rfl rfl (eff_iop rfl rfl rfl rfl (iadd (by omega))) ?_
    refine RW.op rfl rfl (eff_convIntE (m := ((lo + hi : Nat) : Int)) rfl rfl (by rw [tu3]; rfl) tu85 rfl (wrapU64 (by omega) (by omega))) ?_
    refine RW.op rfl rfl (eff_shrE (r := ((((lo + hi) / 2) : Nat) : Int)) rfl rfl rfl rfl (by decide) (shr1 _)) ?_
    refine RW.op rfl rfl (eff_convIntE (m := ((((lo + hi) / 2) : Nat) : Int)) rfl rfl (by rw [tu85]; rfl) tu3 rfl (wrap64 (by omega) (by omega))) ?_
    refine RW.op rfl rfl (eff_assign (v := .t _) rfl rfl rfl) ?_
    refine RW.nil ?_
    refine awp_seq ?_
    refine awp_rw rfl ?_
    refine RW.op rfl rfl (eff_move (v := .t _) rfl rfl rfl) ?_
    refine RW.op rfl rfl (eff_move (v := .t _) rfl rfl rfl) ?_
    refine RW.op rfl rfl (eff_indexM rfl rfl te27 rfl rfl rfl (by first | assumption | exact List.getElem?_eq_getElem (by omega)) rfl (by decide)) ?_
    refine RW.op rfl rfl (eff_loadW1 rfl rfl ti3 rfl rfl) ?_
    refine RW.op rfl rfl (eff_move (v := .t _) rfl rfl rfl) ?_
    refine RW.op rfl rfl (eff_callT (less_ret _ _) co61 rfl rfl rfl rfl) ?_
    refine RW.nil ?_
    refine awp_cond rfl (fun h2 => ?_) (fun h2 => ?_)
    · try simp only [decide_eq_true_eq, decide_eq_false_iff_not, beq_iff_eq, bne_iff_ne, bne_eq_false_iff_eq, beq_eq_false_iff_ne, Bool.not_eq_true, Bool.not_eq_false, Bool.not_eq_true', Bool.not_eq_false', ne_eq] at h2
      refine awp_rw rfl ?_
      refine RW.op rfl rfl (eff_move (v := .t _) rfl rfl rfl) ?_
      refine RW.op rfl rfl (eff_iop rfl rfl rfl rfl (iadd (by omega))) ?_
      refine RW.op rfl rfl (eff_assign (v := .t _) rfl rfl rfl) ?_
      refine RW.nil ?_
      first
        | exact ⟨_, (by omega : hi - (((lo + hi) / 2) + 1) < hi - lo), _, weak_keep (n := 54) (fr' := [(0, .t (encIs l)), (1, .t (encI x)), (6, .t (encI l.length)), (7, .t (encI (((((lo + hi) / 2) + 1) : Nat) : Int))), (8, .t (encI ((hi : Nat) : Int)))]) (st' := []) ⟨rfl, rfl, rfl, rfl, rfl, rfl, rfl, rfl, rfl, rfl, trivial⟩ trivial, (((lo + hi) / 2) + 1), hi, by omega, by omega, take_lt hp (by omega) h2, hz, rfl, rfl⟩
        | exact ⟨_, (by omega : ((lo + hi) / 2) - lo < hi - lo), _, weak_keep (n := 54) (fr' := [(0, .t (encIs l)), (1, .t (encI x)), (6, .t (encI l.length)), (7, .t (encI ((lo : Nat) : Int))), (8, .t (encI ((((lo + hi) / 2) : Nat) : Int)))]) (st' := []) ⟨rfl, rfl, rfl, rfl, rfl, rfl, rfl, rfl, rfl, rfl, trivial⟩ trivial, lo, ((lo + hi) / 2), by omega, by omega, hy, (fun _ => h2), rfl, rfl⟩
    · try simp only [decide_eq_true_eq, decide_eq_false_iff_not, beq_iff_eq, bne_iff_ne, bne_eq_false_iff_eq, beq_eq_false_iff_ne, Bool.not_eq_true, Bool.not_eq_false, Bool.not_eq_true', Bool.not_eq_false', ne_eq] at h2
      refine awp_rw rfl ?_
      refine RW.op rfl rfl (eff_move (v := .t _) rfl rfl rfl) ?_
      refine RW.op rfl rfl (eff_assign (v := .t _) rfl rfl rfl) ?_
      refine RW.nil ?_
      first
        | exact ⟨_, (by omega : hi - (((lo + hi) / 2) + 1) < hi - lo), _, weak_keep (n := 54) (fr' := [(0, .t (encIs l)), (1, .t (encI x)), (6, .t (encI l.length)), (7, .t (encI (((((lo + hi) / 2) + 1) : Nat) : Int))), (8, .t (encI ((hi : Nat) : Int)))]) (st' := []) ⟨rfl, rfl, rfl, rfl, rfl, rfl, rfl, rfl, rfl, rfl, trivial⟩ trivial, (((lo + hi) / 2) + 1), hi, by omega, by omega, take_lt hp (by omega) h2, hz, rfl, rfl⟩
        | exact ⟨_, (by omega : ((lo + hi) / 2) - lo < hi - lo), _, weak_keep (n := 54) (fr' := [(0, .t (encIs l)), (1, .t (encI x)), (6, .t (encI l.length)), (7, .t (encI ((lo : Nat) : Int))), (8, .t (encI ((((lo + hi) / 2) : Nat) : Int)))]) (st' := []) ⟨rfl, rfl, rfl, rfl, rfl, rfl, rfl, rfl, rfl, rfl, trivial⟩ trivial, lo, ((lo + hi) / 2), by omega, by omega, hy, (fun _ => h2), rfl, rfl⟩
  · try simp only [decide_eq_true_eq, decide_eq_false_iff_not, beq_iff_eq, bne_iff_ne, bne_eq_false_iff_eq, beq_eq_false_iff_ne, Bool.not_eq_true, Bool.not_eq_false, Bool.not_eq_true', Bool.not_eq_false', ne_eq] at h1
    refine awp_exit ?_
    refine awp_seq ?_
    refine awp_rw rfl ?_
    refine RW.op rfl rfl (eff_move (v := .t _) rfl rfl rfl) ?_
    refine RW.op rfl rfl (eff_move (v := .t _) rfl rfl rfl) ?_
    refine RW.op rfl rfl (eff_move (v := .t _) rfl rfl rfl) ?_
    refine RW.op rfl rfl (eff_iop rfl rfl rfl rfl rfl) ?_
    refine RW.op rfl rfl (eff_move (v := .t _) rfl rfl rfl) ?_
    refine RW.split 35 rfl (fun h3 => ?_) (fun h3 => ?_)
    · try simp only [decide_eq_true_eq, decide_eq_false_iff_not, beq_iff_eq, bne_iff_ne, bne_eq_false_iff_eq, beq_eq_false_iff_ne, Bool.not_eq_true, Bool.not_eq_false, Bool.not_eq_true', Bool.not_eq_false', ne_eq] at h3
      refine RW.gop rfl rfl rfl rfl rfl rfl (eff_move (v := .t _) rfl rfl rfl) ?_
      refine RW.gop rfl rfl rfl rfl rfl rfl (eff_move (v := .t _) rfl rfl rfl) ?_
      refine RW.gop rfl rfl rfl rfl rfl rfl (eff_indexM rfl rfl te27 rfl rfl rfl (by first | assumption | exact List.getElem?_eq_getElem (by omega)) rfl (by decide)) ?_
      refine RW.gop rfl rfl rfl rfl rfl rfl (eff_loadW1 rfl rfl ti3 rfl rfl) ?_
      refine RW.gop rfl rfl rfl rfl rfl rfl (eff_move (v := .t _) rfl rfl rfl) ?_
      refine RW.gop rfl rfl rfl rfl rfl rfl (eff_iop rfl rfl rfl rfl rfl) ?_
      refine RW.gop rfl rfl rfl rfl rfl rfl (eff_move (v := .t _) rfl rfl rfl) ?_
      refine RW.split 42 rfl (fun h4 => ?_) (fun h4 => ?_)
      · try simp only [decide_eq_true_eq, decide_eq_false_iff_not, beq_iff_eq, bne_iff_ne, bne_eq_false_iff_eq, beq_eq_false_iff_ne, Bool.not_eq_true, Bool.not_eq_false, Bool.not_eq_true', Bool.not_eq_false', ne_eq] at h4
        refine RW.gskip rfl rfl rfl rfl rfl (by decide) ?_
        refine RW.gskip rfl rfl rfl rfl rfl (by decide) ?_
        refine RW.gskip rfl rfl rfl rfl rfl (by decide) ?_
        refine RW.gskip rfl rfl rfl rfl rfl (by decide) ?_
        refine RW.gskip rfl rfl rfl rfl rfl (by decide) ?_
        refine RW.gskip rfl rfl rfl rfl rfl (by decide) ?_
        refine RW.gundef rfl rfl rfl rfl rfl ?_
        refine RW.gundef rfl rfl rfl rfl rfl ?_
        refine RW.gskip rfl rfl rfl rfl rfl (by decide) ?_
        refine RW.gop rfl rfl rfl rfl rfl rfl (eff_pick (v := .t _) rfl rfl rfl rfl) ?_
        refine RW.op rfl rfl (eff_pick (v := .t _) rfl rfl rfl rfl) ?_
        refine RW.op rfl rfl (eff_assign (v := .t _) rfl rfl rfl) ?_
        refine RW.op rfl rfl (eff_assign (v := .t _) rfl rfl rfl) ?_
        refine RW.nil ?_
        refine awp_ret ?_
        have h4p : lo = hi → ∀ h : lo < l.length, ¬ l[lo] < x := fun e => by subst e; exact hz
        rw [lowerB_eq x l lo (by omega) hy (fun h => h4p (by omega) h)]
        rw [show decide (x ∈ l) = true from decide_eq_true (h4 ▸ List.getElem_mem _)]
        exact ⟨Or.inr rfl, [_, _], ⟨.tmp (.t _), .tmp (.t _), trivial⟩, .refl _⟩
      · try simp only [decide_eq_true_eq, decide_eq_false_iff_not, beq_iff_eq, bne_iff_ne, bne_eq_false_iff_eq, beq_eq_false_iff_ne, Bool.not_eq_true, Bool.not_eq_false, Bool.not_eq_true', Bool.not_eq_false', ne_eq] at h4
        refine RW.gop rfl rfl rfl rfl rfl rfl (eff_move (v := .t _) rfl rfl rfl) ?_
        refine RW.gop rfl rfl rfl rfl rfl rfl (eff_move (v := .t _) rfl rfl rfl) ?_
        refine RW.gop rfl rfl rfl rfl rfl rfl (eff_indexM rfl rfl te27 rfl rfl rfl (by first | assumption | exact List.getElem?_eq_getElem (by omega)) rfl (by decide)) ?_
        refine RW.gop rfl rfl rfl rfl rfl rfl (eff_loadW1 rfl rfl ti3 rfl rfl) ?_
        refine RW.gop rfl rfl rfl rfl rfl rfl (eff_callT (isNaN62_ret _) co62 rfl rfl rfl rfl) ?_
        refine RW.gop rfl rfl rfl rfl rfl rfl (eff_move (v := .t _) rfl rfl rfl) ?_
        refine RW.gskip rfl rfl rfl rfl rfl (by decide) ?_
        refine RW.gskip rfl rfl rfl rfl rfl (by decide) ?_
        refine RW.gop rfl rfl rfl rfl rfl rfl (eff_pick (v := .t _) rfl rfl rfl rfl) ?_
        refine RW.gop rfl rfl rfl rfl rfl rfl (eff_pick (v := .t _) rfl rfl rfl rfl) ?_
        refine RW.op rfl rfl (eff_pick (v := .t _) rfl rfl rfl rfl) ?_
        refine RW.op rfl rfl (eff_assign (v := .t _) rfl rfl rfl) ?_
        refine RW.op rfl rfl (eff_assign (v := .t _) rfl rfl rfl) ?_
        refine RW.nil ?_
        refine awp_ret ?_
        have h4p : lo = hi → ∀ h : lo < l.length, ¬ l[lo] < x := fun e => by subst e; exact hz
        rw [lowerB_eq x l lo (by omega) hy (fun h => h4p (by omega) h)]
        rw [show decide (x ∈ l) = false from decide_eq_false (not_mem_of hp hy (fun h => by have := h4p (by omega) h; omega))]
        exact ⟨Or.inr rfl, [_, _], ⟨.tmp (.t _), .tmp (.t _), trivial⟩, .refl _⟩
    · try simp only [decide_eq_true_eq, decide_eq_false_iff_not, beq_iff_eq, bne_iff_ne, bne_eq_false_iff_eq, beq_eq_false_iff_ne, Bool.not_eq_true, Bool.not_eq_false, Bool.not_eq_true', Bool.not_eq_false', ne_eq] at h3
      refine RW.gskip rfl rfl rfl rfl rfl (by decide) ?_
      refine RW.gskip rfl rfl rfl rfl rfl (by decide) ?_
      refine RW.gskip rfl rfl rfl rfl rfl (by decide) ?_
      refine RW.gskip rfl rfl rfl rfl rfl (by decide) ?_
      refine RW.gskip rfl rfl rfl rfl rfl (by decide) ?_
      refine RW.gskip rfl rfl rfl rfl rfl (by decide) ?_
      refine RW.gskip rfl rfl rfl rfl rfl (by decide) ?_
      refine RW.gundef rfl rfl rfl rfl rfl ?_
      refine RW.gundef rfl rfl rfl rfl rfl ?_
      refine RW.gundef rfl rfl rfl rfl rfl ?_
      refine RW.gundef rfl rfl rfl rfl rfl ?_
      refine RW.gundef rfl rfl rfl rfl rfl ?_
      refine RW.gundef rfl rfl rfl rfl rfl ?_
      refine RW.gundef rfl rfl rfl rfl rfl ?_
      refine RW.gundef rfl rfl rfl rfl rfl ?_
      refine RW.gundef rfl rfl rfl rfl rfl ?_
      refine RW.gskip rfl rfl rfl rfl rfl (by decide) ?_
      refine RW.op rfl rfl (eff_pick (v := .t _) rfl rfl rfl rfl) ?_
      refine RW.op rfl rfl (eff_assign (v := .t _) rfl rfl rfl) ?_
      refine RW.op rfl rfl (eff_assign (v := .t _) rfl rfl rfl) ?_
      refine RW.nil ?_
      refine awp_ret ?_
      have h4p : lo = hi → ∀ h : lo < l.length, ¬ l[lo] < x := fun e => by subst e; exact hz
      rw [lowerB_eq x l lo (by omega) hy (fun h => h4p (by omega) h)]
      rw [show decide (x ∈ l) = false from decide_eq_false (not_mem_of hp hy (fun h => by omega))]
      exact ⟨Or.inr rfl, [_, _], ⟨.tmp (.t _), .tmp (.t _), trivial⟩, .refl _⟩

end Go.Tv.C27

end
section
open Go Go.Tv Go.Proofs
namespace Go.Tv.C27
set_option maxRecDepth 20000
set_option linter.unusedSimpArgs false
set_option linter.unusedVariables false
theorem has48_ret (l : List Int) (x : Int) (hl : l.length ≤ 1000000) (hp : l.Pairwise (· < ·)) : Ret Try.prog 48 [encIs l, encI x] (.bool (decide (x ∈ l))) := by
  refine ret_of_awp Try.func48 rfl (Nat.le_of_ble_eq_true rfl) ?_
  refine awp_seq ?_
  refine awp_rw rfl ?_
  refine RW.op rfl rfl (eff_assign (v := .t _) rfl rfl rfl) ?_
  refine RW.nil ?_
  refine awp_seq ?_
  refine awp_rw rfl ?_
  refine RW.op rfl rfl (eff_move (v := .t _) rfl rfl rfl) ?_
  refine RW.op rfl rfl (eff_move (v := .t _) rfl rfl rfl) ?_
  refine RW.op rfl rfl (eff_callT (search_ret l x hl hp) co58 rfl rfl rfl rfl) ?_
  refine RW.op rfl rfl (eff_move (v := .t _) rfl rfl rfl) ?_
  refine RW.op rfl rfl (eff_extract rfl rfl rfl rfl) ?_
  refine RW.op rfl rfl (eff_extract rfl rfl rfl rfl) ?_
  refine RW.op rfl rfl (eff_assign (v := .t _) rfl rfl rfl) ?_
  refine RW.op rfl rfl (eff_assign (v := .t _) rfl rfl rfl) ?_
  refine RW.nil ?_
  refine awp_seq ?_
  refine awp_rw rfl ?_
  refine RW.op rfl rfl (eff_move (v := .t _) rfl rfl rfl) ?_
  refine RW.op rfl rfl (eff_assign (v := .t _) rfl rfl rfl) ?_
  refine RW.nil ?_
  refine awp_ret ?_
  first
    | exact ⟨Or.inr rfl, [_], ⟨.tmp (.t _), trivial⟩, .refl _⟩
    | exact ⟨Or.inr rfl, [_], ⟨.tmp (.t _), trivial⟩, (by repeat' first | exact trivial | exact Wk.refl _ | exact Wk.sl _ | refine And.intro ?_ ?_ | refine Wk.tupP ?_ | refine Wk.aggP ?_)⟩
    | exact ⟨Or.inr rfl, [_], ⟨.tmp (Res.ownT rfl rfl rfl rfl), trivial⟩, .refl _⟩
    | exact ⟨Or.inr rfl, [_], ⟨.tmp (Res.ownT rfl rfl rfl rfl), trivial⟩, (by repeat' first | exact trivial | exact Wk.refl _ | exact Wk.sl _ | refine And.intro ?_ ?_ | refine Wk.tupP ?_ | refine Wk.aggP ?_)⟩

theorem closure57_ret (b : Bundle) (n : Int) : Ret Try.prog 57 [encB b, .ptr [encI n]] (.bool (b.id == n)) := by
  refine ret_of_awp Try.func57 rfl (Nat.le_of_ble_eq_true rfl) ?_
  refine awp_seq ?_
  refine awp_rw rfl ?_
  refine RW.new rfl rfl (eff_boxK (v := .t _) (k := 8) (id := 2) rfl rfl rfl rfl rfl rfl) ?_
  refine RW.op rfl rfl (eff_assign (v := .t _) rfl rfl rfl) ?_
  refine RW.nil ?_
  refine awp_seq ?_
  refine awp_rw rfl ?_
  refine RW.op rfl rfl (eff_fieldAddr rfl rfl tf38_0 (by decide) rfl rfl rfl (Nat.le_of_ble_eq_true rfl)) ?_
  refine RW.op rfl rfl (eff_load (y := .t _) rfl rfl ti3 rfl (.one rfl rfl rfl rfl)) ?_
  refine RW.op rfl rfl (eff_loadT1 rfl rfl ti3 rfl rfl) ?_
  refine RW.op rfl rfl (eff_iop rfl rfl rfl rfl rfl) ?_
  refine RW.op rfl rfl (eff_assign (v := .t _) rfl rfl rfl) ?_
  refine RW.nil ?_
  refine awp_ret ?_
  first
    | exact ⟨Or.inr rfl, [_], ⟨.tmp (.t _), trivial⟩, .refl _⟩
    | exact ⟨Or.inr rfl, [_], ⟨.tmp (.t _), trivial⟩, (by repeat' first | exact trivial | exact Wk.refl _ | exact Wk.sl _ | refine And.intro ?_ ?_ | refine Wk.tupP ?_ | refine Wk.aggP ?_)⟩
    | exact ⟨Or.inr rfl, [_], ⟨.tmp (Res.ownT rfl rfl rfl rfl), trivial⟩, .refl _⟩
    | exact ⟨Or.inr rfl, [_], ⟨.tmp (Res.ownT rfl rfl rfl rfl), trivial⟩, (by repeat' first | exact trivial | exact Wk.refl _ | exact Wk.sl _ | refine And.intro ?_ ?_ | refine Wk.tupP ?_ | refine Wk.aggP ?_)⟩

theorem indexFunc_ret (l : List Bundle) (n : Int) (hl : l.length ≤ 1000000) : Ret Try.prog 56 [.sl (l.map encB) false, .fn 57 [.ptr [encI n]]] (encI (findIx l n)) := by
  refine ret_of_awp Try.func56 rfl (Nat.le_of_ble_eq_true rfl) ?_
  refine awp_seq ?_
  refine awp_rw rfl ?_
  refine RW.op rfl rfl (eff_assign (v := .t _) rfl rfl rfl) ?_
  refine RW.nil ?_
  refine awp_seq ?_
  refine awp_seq ?_
  refine awp_rw rfl ?_
  refine RW.op rfl rfl (eff_move (v := .t _) rfl rfl rfl) ?_
  refine RW.op rfl rfl (eff_lenM rfl rfl te26 rfl) ?_
  refine RW.op rfl rfl (eff_move (v := .t _) rfl rfl rfl) ?_
  refine RW.nil ?_
  refine awp_block ?_
  refine awp_loopW (fun m s => ∃ (i : Nat), (i ≤ l.length) ∧ (∀ b, b ∈ l.take i → b.id ≠ n) ∧ m = l.length - i ∧ s = ⟨19, [(0, .t (.sl (l.map encB) false)), (1, .t (.fn 57 [.ptr [encI n]])), (7, .t (encI l.length)), (8, .t (encI (i : Nat)))], []⟩) (_) (⟨_, weak_keep (n := 19) (fr' := [(0, .t (.sl (l.map encB) false)), (1, .t (.fn 57 [.ptr [encI n]])), (7, .t (encI l.length)), (8, .t (encI (0 : Nat)))]) (st' := []) ⟨rfl, rfl, rfl, rfl, rfl, rfl, rfl, rfl, trivial⟩ trivial, 0, (by omega), (by simp), rfl, rfl⟩) ?_
  rintro m s ⟨i, hi, ha, rfl, rfl⟩
  refine awp_seq ?_
  refine awp_rw rfl ?_
  refine RW.op rfl rfl (eff_iop rfl rfl rfl rfl rfl) ?_
  refine RW.nil ?_
  refine awp_seq ?_
  refine awp_cond rfl (fun h1 => ?_) (fun h1 => ?_)
  · try simp only [decide_eq_true_eq, decide_eq_false_iff_not, beq_iff_eq, bne_iff_ne, bne_eq_false_iff_eq, beq_eq_false_iff_ne, Bool.not_eq_true, Bool.not_eq_false, Bool.not_eq_true', Bool.not_eq_false', ne_eq] at h1
    refine awp_skip ?_
    refine awp_seq ?_
    refine awp_block ?_
    refine awp_seq ?_
    refine awp_rw rfl ?_
    refine RW.op rfl rfl (eff_move (v := .t _) rfl rfl rfl) ?_
    refine RW.op rfl rfl (eff_assign (v := .t _) rfl rfl rfl) ?_
    refine RW.nil ?_
    refine awp_seq ?_
    refine awp_rw rfl ?_
    refine RW.op rfl rfl (eff_move (v := .t _) rfl rfl rfl) ?_
    refine RW.op rfl rfl (eff_move (v := .t _) rfl rfl rfl) ?_
    refine RW.op rfl rfl (eff_move (v := .t _) rfl rfl rfl) ?_
    refine RW.op rfl rfl (eff_indexM rfl rfl te26 rfl rfl rfl (by first | assumption | exact List.getElem?_eq_getElem (by omega)) rfl (by decide)) ?_
    refine RW.op rfl rfl (eff_loadW rfl rfl ti38 rfl rfl rfl) ?_
    refine RW.op rfl rfl (eff_call (f := 57) (xs := [_]) (ys := [_]) (caps := [.ptr [encI n]]) rfl rfl rfl co57 rfl (WkL.cons (.refl _) .nil) (closure57_ret _ _)) ?_
    refine RW.nil ?_
    refine awp_cond rfl (fun h2 => ?_) (fun h2 => ?_)
    · try simp only [decide_eq_true_eq, decide_eq_false_iff_not, beq_iff_eq, bne_iff_ne, bne_eq_false_iff_eq, beq_eq_false_iff_ne, Bool.not_eq_true, Bool.not_eq_false, Bool.not_eq_true', Bool.not_eq_false', ne_eq] at h2
      refine awp_seq ?_
      refine awp_rw rfl ?_
      refine RW.op rfl rfl (eff_move (v := .t _) rfl rfl rfl) ?_
      refine RW.op rfl rfl (eff_assign (v := .t _) rfl rfl rfl) ?_
      refine RW.nil ?_
      refine awp_ret ?_
      rw [findIx_hit (by omega) ha h2]
      exact ⟨Or.inr rfl, [_], ⟨.tmp (.t _), trivial⟩, .refl _⟩
    · try simp only [decide_eq_true_eq, decide_eq_false_iff_not, beq_iff_eq, bne_iff_ne, bne_eq_false_iff_eq, beq_eq_false_iff_ne, Bool.not_eq_true, Bool.not_eq_false, Bool.not_eq_true', Bool.not_eq_false', ne_eq] at h2
      refine awp_skip ?_
      refine awp_rw rfl ?_
      refine RW.op rfl rfl (eff_iop rfl rfl rfl rfl (iadd (by omega))) ?_
      refine RW.op rfl rfl (eff_move (v := .t _) rfl rfl rfl) ?_
      refine RW.nil ?_
      refine ⟨_, ?_, _, weak_keep (n := 19) (fr' := [(0, .t (.sl (l.map encB) false)), (1, .t (.fn 57 [.ptr [encI n]])), (7, .t (encI l.length)), (8, .t (encI ((i + 1) : Nat)))]) (st' := []) ⟨rfl, rfl, rfl, rfl, rfl, rfl, rfl, rfl, trivial⟩ trivial, i + 1, (by omega), (by intro b hb; rcases (mem_take_succ (by omega)).1 hb with h | h; exact ha b h; rw [h]; exact h2), rfl, rfl⟩
      omega
  · try simp only [decide_eq_true_eq, decide_eq_false_iff_not, beq_iff_eq, bne_iff_ne, bne_eq_false_iff_eq, beq_eq_false_iff_ne, Bool.not_eq_true, Bool.not_eq_false, Bool.not_eq_true', Bool.not_eq_false', ne_eq] at h1
    refine awp_exit ?_
    refine awp_seq ?_
    refine awp_rw rfl ?_
    refine RW.op rfl rfl (eff_assign (v := .t _) rfl rfl rfl) ?_
    refine RW.nil ?_
    refine awp_ret ?_
    have hi2 : i = l.length := by omega
    subst hi2
    rw [List.take_length] at ha
    rw [findIx_none ha]
    exact ⟨Or.inr rfl, [_], ⟨.tmp (.t _), trivial⟩, .refl _⟩

theorem find44_ret (S : Store) (n : Int) (hS : SOK S) : Ret Try.prog 44 [encS S, encI n] (encI (findIx S.bundles n)) := by
  refine ret_of_awp Try.func44 rfl (Nat.le_of_ble_eq_true rfl) ?_
  refine awp_seq ?_
  refine awp_rw rfl ?_
  refine RW.new rfl rfl (eff_boxK (v := .t _) (k := 4) (id := 2) rfl rfl rfl rfl rfl rfl) ?_
  refine RW.new rfl rfl (eff_boxK (v := .t _) (k := 1) (id := 3) rfl rfl rfl rfl rfl rfl) ?_
  refine RW.op rfl rfl (eff_assign (v := .t _) rfl rfl rfl) ?_
  refine RW.nil ?_
  refine awp_seq ?_
  refine awp_rw rfl ?_
  refine RW.op rfl rfl (eff_fieldAddr rfl rfl tf29_1 (by decide) rfl rfl rfl (Nat.le_of_ble_eq_true rfl)) ?_
  refine RW.op rfl rfl (eff_load (y := .t _) rfl rfl ti26 rfl (.one rfl rfl rfl rfl)) ?_
  refine RW.op rfl rfl (eff_makeFunc rfl rfl rfl rfl) ?_
  refine RW.op rfl rfl (eff_callB (ys := [_, _]) (caps := []) rfl rfl rfl (.t _) co56 (ResL.cons (.t _) (.refl _) (ResL.cons (.fn 57 [_] [.ptr [encI n]] rfl (ResP.get _ _ ⟨.ptr 3 0 0 0 _ _ [encI n] rfl rfl rfl (Nat.le_refl _) (fun m e x h1 h2 => by cases m with | zero => (simp at h2; subst h2; cases h1; exact .t _) | succ m => simp at h2), trivial⟩)) (.refl _) .nil)) (by rw [List.append_nil]; exact indexFunc_ret S.bundles n (by have := hS.1; omega)) rfl) ?_
  refine RW.op rfl rfl (eff_assign (v := .t _) rfl rfl rfl) ?_
  refine RW.nil ?_
  refine awp_ret ?_
  first
    | exact ⟨Or.inr rfl, [_], ⟨.tmp (.t _), trivial⟩, .refl _⟩
    | exact ⟨Or.inr rfl, [_], ⟨.tmp (.t _), trivial⟩, (by repeat' first | exact trivial | exact Wk.refl _ | exact Wk.sl _ | refine And.intro ?_ ?_ | refine Wk.tupP ?_ | refine Wk.aggP ?_)⟩
    | exact ⟨Or.inr rfl, [_], ⟨.tmp (Res.ownT rfl rfl rfl rfl), trivial⟩, .refl _⟩
    | exact ⟨Or.inr rfl, [_], ⟨.tmp (Res.ownT rfl rfl rfl rfl), trivial⟩, (by repeat' first | exact trivial | exact Wk.refl _ | exact Wk.sl _ | refine And.intro ?_ ?_ | refine Wk.tupP ?_ | refine Wk.aggP ?_)⟩

end Go.Tv.C27

end
section
open Go Go.Tv Go.Proofs
namespace Go.Tv.C27
set_option maxRecDepth 20000
set_option linter.unusedSimpArgs false
set_option linter.unusedVariables false
theorem del_els (L : List Tr) (z : Tr) (i : Nat) (hi : i < L.length) :
    (((L.map AV.t).take i ++ (L.drop (i + 1)).map AV.t ++ (L.map AV.t).drop (i + ((L.drop (i + 1)).map AV.t).length)).take (0 + (L.length - 1)) ++ List.replicate (L.length - (L.length - 1)) (AV.t z) ++
      ((L.map AV.t).take i ++ (L.drop (i + 1)).map AV.t ++ (L.map AV.t).drop (i + ((L.drop (i + 1)).map AV.t).length)).drop (0 + (L.length - 1) + (L.length - (L.length - 1)))) = (L.take i ++ L.drop (i + 1) ++ [z]).map AV.t := by
  have e1 : L.length - (L.length - 1) = 1 := by omega
  have hA : ((L.map AV.t).take i ++ (L.drop (i + 1)).map AV.t).length = L.length - 1 := by simp; omega
  have hB : ((L.map AV.t).take i ++ (L.drop (i + 1)).map AV.t ++ (L.map AV.t).drop (i + ((L.drop (i + 1)).map AV.t).length)).length = L.length := by simp; omega
  have t1 : ((L.map AV.t).take i ++ (L.drop (i + 1)).map AV.t ++ (L.map AV.t).drop (i + ((L.drop (i + 1)).map AV.t).length)).take (0 + (L.length - 1)) = (L.map AV.t).take i ++ (L.drop (i + 1)).map AV.t := by
    rw [Nat.zero_add, ← hA]; exact List.take_left
  have t2 : ((L.map AV.t).take i ++ (L.drop (i + 1)).map AV.t ++ (L.map AV.t).drop (i + ((L.drop (i + 1)).map AV.t).length)).drop (0 + (L.length - 1) + (L.length - (L.length - 1))) = [] := List.drop_eq_nil_of_le (by rw [hB]; omega)
  rw [t1, t2, e1]
  simp [List.map_take]

theorem delete59_retG (L : List Tr) (g i : Nat) (hl : L.length ≤ 1000000) (hi : i < L.length) : RetG Try.prog 59 [(0, some ⟨1, 3, g, L.map .t⟩)] [.own 0 g 0 L.length, .t (.int .i64 (i : Nat)), .t (.int .i64 ((i + 1 : Nat) : Int))] [(0, some ⟨1, 3, g + 1, (L.take i ++ L.drop (i + 1) ++ [z3]).map AV.t⟩)] (.own 0 (g + 1) 0 (L.length - 1)) := by
  refine retG_of_awp Try.func59 rfl (Nat.le_of_ble_eq_true rfl) ?_
  refine awp_seq ?_
  refine awp_rw rfl ?_
  refine RW.op rfl rfl (eff_assign (v := .t _) rfl rfl rfl) ?_
  refine RW.nil ?_
  refine awp_seq ?_
  refine awp_rw rfl ?_
  refine RW.op rfl rfl (eff_move (v := .own _ _ _ _) rfl rfl rfl) ?_
  refine RW.op rfl rfl (eff_move (v := .t _) rfl rfl rfl) ?_
  refine RW.op rfl rfl (eff_move (v := .t _) rfl rfl rfl) ?_
  refine RW.op rfl rfl (eff_move (v := .own _ _ _ _) rfl rfl rfl) ?_
  refine RW.op rfl rfl (eff_len rfl rfl te27 rfl rfl rfl) ?_
  refine RW.op rfl rfl (eff_slice3 (l := some i) (h := i + 1) (m := L.length) rfl rfl te27 rfl rfl rfl rfl (.yes rfl rfl) (.yes rfl rfl) (.yes rfl rfl) (Nat.le_succ _) (by omega) (by simp)) ?_
  refine RW.nil ?_
  refine awp_seq ?_
  refine awp_seq ?_
  refine awp_rw rfl ?_
  refine RW.op rfl rfl (eff_move (v := .t _) rfl rfl rfl) ?_
  refine RW.op rfl rfl (eff_move (v := .t _) rfl rfl rfl) ?_
  refine RW.op rfl rfl (eff_iop (r := .bool false) rfl rfl rfl rfl (by simp [iop]; omega)) ?_
  refine RW.nil ?_
  refine awp_cond rfl (fun h => nomatch h) (fun _ => ?_)
  refine awp_skip ?_
  refine awp_seq ?_
  refine awp_rw rfl ?_
  refine RW.op rfl rfl (eff_move (v := .own _ _ _ _) rfl rfl rfl) ?_
  refine RW.op rfl rfl (eff_len rfl rfl te27 rfl rfl rfl) ?_
  refine RW.op rfl rfl (eff_assign (v := .t _) rfl rfl rfl) ?_
  refine RW.nil ?_
  refine awp_seq ?_
  refine awp_rd [(some 20, []), (some 21, []), (some 22, []), (some 23, []), (some 24, []), (some 25, []), (some 26, [0]), (some 0, [])] [[], [], [0, 1], [], [], [3, 4], [0, 1, 2, 3, 4, 5], [0, 1, 2, 3, 4, 5, 6]] tm rfl rfl rfl rfl ?_
  refine RD.op rfl rfl rfl (eff_move (v := .own _ _ _ _) rfl rfl rfl) ?_
  refine RD.op rfl rfl rfl (eff_move (v := .t _) rfl rfl rfl) ?_
  refine RD.op rfl rfl rfl (eff_slice (l := none) (h := some i) rfl rfl te27 rfl rfl rfl rfl .no (.yes rfl rfl) (Nat.zero_le _) (by simp; omega)) ?_
  refine RD.op rfl rfl rfl (eff_move (v := .own _ _ _ _) rfl rfl rfl) ?_
  refine RD.op rfl rfl rfl (eff_move (v := .t _) rfl rfl rfl) ?_
  refine RD.op rfl rfl rfl (eff_slice (l := some (i + 1)) (h := none) rfl rfl te27 rfl rfl rfl rfl (.yes rfl rfl) .no (by simp; omega) (by simp)) ?_
  refine RD.new rfl rfl rfl (eff_appendIn (id := 0) (g := g) (i := i) (ys := (L.drop (i + 1)).map AV.t) rfl rfl ta27 rfl rfl rfl rfl (srcOwn' rfl rfl rfl rfl (by simp; omega) (by rw [List.take_of_length_le (by simp)]; simp [List.map_drop])) (by simp; omega) (by simp; omega) (by simp; omega)) ?_
  refine RD.op rfl rfl rfl (eff_assign (v := .own _ _ _ _) rfl rfl rfl) ?_
  refine RD.nil ?_
  refine awp_seq ?_
  refine awp_rw rfl ?_
  refine RW.op rfl rfl (eff_move (v := .own _ _ _ _) rfl rfl rfl) ?_
  refine RW.op rfl rfl (eff_move (v := .own _ _ _ _) rfl rfl rfl) ?_
  refine RW.op rfl rfl (eff_len rfl rfl te27 rfl rfl rfl) ?_
  refine RW.op rfl rfl (eff_move (v := .t _) rfl rfl rfl) ?_
  refine RW.op rfl rfl (eff_slice (l := some (L.length - 1)) (h := some L.length) rfl rfl te27 rfl rfl rfl rfl (.yes rfl (by simp; omega)) (.yes rfl rfl) (by simp) (by simp; omega)) ?_
  refine RW.store rfl rfl (eff_clear (id := 0) rfl rfl te27 tz3 rfl (by decide) rfl rfl rfl rfl (by simp; omega)) ?_
  refine RW.nil ?_
  refine awp_seq ?_
  refine awp_rw rfl ?_
  refine RW.op rfl rfl (eff_move (v := .own _ _ _ _) rfl rfl rfl) ?_
  refine RW.op rfl rfl (eff_assign (v := .own _ _ _ _) rfl rfl rfl) ?_
  refine RW.nil ?_
  refine awp_ret ?_
  refine ⟨Or.inr rfl, [_], [.own 0 (g + 1) 0 (L.length - 1)], ⟨.tmp rfl, trivial⟩, rfl, Weak.trans (s1 := ⟨1, [(0, .own 0 g 0 (L.length - 1))], [(0, some ⟨1, 3, g, (L.take i ++ L.drop (i + 1) ++ [z3]).map AV.t⟩)]⟩) ?_ weak_bump, rfl⟩
  exact weak_keep ⟨(by show AV.own 0 g 0 _ = AV.own 0 g 0 (L.length - 1); congr 1; simp; omega), rfl, trivial⟩ ⟨congrArg (fun e => some (Ob.mk 1 3 g e)) (del_els L z3 i hi), okE_t, trivial⟩

theorem delete45_retG (L : List Tr) (g i : Nat) (hl : L.length ≤ 1000000) (hi : i < L.length) : RetG Try.prog 45 [(0, some ⟨8, 38, g, L.map .t⟩)] [.own 0 g 0 L.length, .t (.int .i64 (i : Nat)), .t (.int .i64 ((i + 1 : Nat) : Int))] [(0, some ⟨8, 38, g + 1, (L.take i ++ L.drop (i + 1) ++ [z38]).map AV.t⟩)] (.own 0 (g + 1) 0 (L.length - 1)) := by
  refine retG_of_awp Try.func45 rfl (Nat.le_of_ble_eq_true rfl) ?_
  refine awp_seq ?_
  refine awp_rw rfl ?_
  refine RW.op rfl rfl (eff_assign (v := .t _) rfl rfl rfl) ?_
  refine RW.nil ?_
  refine awp_seq ?_
  refine awp_rw rfl ?_
  refine RW.op rfl rfl (eff_move (v := .own _ _ _ _) rfl rfl rfl) ?_
  refine RW.op rfl rfl (eff_move (v := .t _) rfl rfl rfl) ?_
  refine RW.op rfl rfl (eff_move (v := .t _) rfl rfl rfl) ?_
  refine RW.op rfl rfl (eff_move (v := .own _ _ _ _) rfl rfl rfl) ?_
  refine RW.op rfl rfl (eff_len rfl rfl te26 rfl rfl rfl) ?_
  refine RW.op rfl rfl (eff_slice3 (l := some i) (h := i + 1) (m := L.length) rfl rfl te26 rfl rfl rfl rfl (.yes rfl rfl) (.yes rfl rfl) (.yes rfl rfl) (Nat.le_succ _) (by omega) (by simp)) ?_
  refine RW.nil ?_
  refine awp_seq ?_
  refine awp_seq ?_
  refine awp_rw rfl ?_
  refine RW.op rfl rfl (eff_move (v := .t _) rfl rfl rfl) ?_
  refine RW.op rfl rfl (eff_move (v := .t _) rfl rfl rfl) ?_
  refine RW.op rfl rfl (eff_iop (r := .bool false) rfl rfl rfl rfl (by simp [iop]; omega)) ?_
  refine RW.nil ?_
  refine awp_cond rfl (fun h => nomatch h) (fun _ => ?_)
  refine awp_skip ?_
  refine awp_seq ?_
  refine awp_rw rfl ?_
  refine RW.op rfl rfl (eff_move (v := .own _ _ _ _) rfl rfl rfl) ?_
  refine RW.op rfl rfl (eff_len rfl rfl te26 rfl rfl rfl) ?_
  refine RW.op rfl rfl (eff_assign (v := .t _) rfl rfl rfl) ?_
  refine RW.nil ?_
  refine awp_seq ?_
  refine awp_rd [(some 20, []), (some 21, []), (some 22, []), (some 23, []), (some 24, []), (some 25, []), (some 26, [0]), (some 0, [])] [[], [], [0, 1], [], [], [3, 4], [0, 1, 2, 3, 4, 5], [0, 1, 2, 3, 4, 5, 6]] tm rfl rfl rfl rfl ?_
  refine RD.op rfl rfl rfl (eff_move (v := .own _ _ _ _) rfl rfl rfl) ?_
  refine RD.op rfl rfl rfl (eff_move (v := .t _) rfl rfl rfl) ?_
  refine RD.op rfl rfl rfl (eff_slice (l := none) (h := some i) rfl rfl te26 rfl rfl rfl rfl .no (.yes rfl rfl) (Nat.zero_le _) (by simp; omega)) ?_
  refine RD.op rfl rfl rfl (eff_move (v := .own _ _ _ _) rfl rfl rfl) ?_
  refine RD.op rfl rfl rfl (eff_move (v := .t _) rfl rfl rfl) ?_
  refine RD.op rfl rfl rfl (eff_slice (l := some (i + 1)) (h := none) rfl rfl te26 rfl rfl rfl rfl (.yes rfl rfl) .no (by simp; omega) (by simp)) ?_
  refine RD.new rfl rfl rfl (eff_appendIn (id := 0) (g := g) (i := i) (ys := (L.drop (i + 1)).map AV.t) rfl rfl ta26 rfl rfl rfl rfl (srcOwn' rfl rfl rfl rfl (by simp; omega) (by rw [List.take_of_length_le (by simp)]; simp [List.map_drop])) (by simp; omega) (by simp; omega) (by simp; omega)) ?_
  refine RD.op rfl rfl rfl (eff_assign (v := .own _ _ _ _) rfl rfl rfl) ?_
  refine RD.nil ?_
  refine awp_seq ?_
  refine awp_rw rfl ?_
  refine RW.op rfl rfl (eff_move (v := .own _ _ _ _) rfl rfl rfl) ?_
  refine RW.op rfl rfl (eff_move (v := .own _ _ _ _) rfl rfl rfl) ?_
  refine RW.op rfl rfl (eff_len rfl rfl te26 rfl rfl rfl) ?_
  refine RW.op rfl rfl (eff_move (v := .t _) rfl rfl rfl) ?_
  refine RW.op rfl rfl (eff_slice (l := some (L.length - 1)) (h := some L.length) rfl rfl te26 rfl rfl rfl rfl (.yes rfl (by simp; omega)) (.yes rfl rfl) (by simp) (by simp; omega)) ?_
  refine RW.store rfl rfl (eff_clear (id := 0) rfl rfl te26 tz38 rfl (by decide) rfl rfl rfl rfl (by simp; omega)) ?_
  refine RW.nil ?_
  refine awp_seq ?_
  refine awp_rw rfl ?_
  refine RW.op rfl rfl (eff_move (v := .own _ _ _ _) rfl rfl rfl) ?_
  refine RW.op rfl rfl (eff_assign (v := .own _ _ _ _) rfl rfl rfl) ?_
  refine RW.nil ?_
  refine awp_ret ?_
  refine ⟨Or.inr rfl, [_], [.own 0 (g + 1) 0 (L.length - 1)], ⟨.tmp rfl, trivial⟩, rfl, Weak.trans (s1 := ⟨1, [(0, .own 0 g 0 (L.length - 1))], [(0, some ⟨8, 38, g, (L.take i ++ L.drop (i + 1) ++ [z38]).map AV.t⟩)]⟩) ?_ weak_bump, rfl⟩
  exact weak_keep ⟨(by show AV.own 0 g 0 _ = AV.own 0 g 0 (L.length - 1); congr 1; simp; omega), rfl, trivial⟩ ⟨congrArg (fun e => some (Ob.mk 8 38 g e)) (del_els L z38 i hi), okE_t, trivial⟩

end Go.Tv.C27

end
section
open Go Go.Tv Go.Proofs
namespace Go.Tv.C27
set_option maxRecDepth 20000
set_option linter.unusedSimpArgs false
set_option linter.unusedVariables false
theorem retry27_ret (S : Store) (hS : SOK S) : Ret Try.prog 27 [encS S] (encS (retry S)) := by
  refine ret_of_awp Try.func27 rfl (Nat.le_of_ble_eq_true rfl) ?_
  refine awp_seq ?_
  refine awp_rw rfl ?_
  refine RW.new rfl rfl (eff_boxK (v := .t _) (k := 4) (id := 1) rfl rfl rfl rfl rfl rfl) ?_
  refine RW.new rfl rfl (eff_allocK (k := 4) (id := 2) rfl rfl tz29 rfl rfl) ?_
  refine RW.nil ?_
  refine awp_seq ?_
  refine awp_rw rfl ?_
  refine RW.op rfl rfl (eff_load rfl rfl ti29 rfl (.whole rfl rfl rfl rfl rfl rfl)) ?_
  refine RW.new3 rfl rfl (eff_callG (copied_retG S hS) co43 (fun id => id + 10000) rfl rfl rfl ⟨.t _, trivial⟩ (RenA.aggL (ds := [_, _, _, _]) ⟨.t _, .own _ _ _ _ rfl rfl, .own _ _ _ _ rfl rfl, .own _ _ _ _ rfl rfl, trivial⟩) rfl trivial ⟨⟨treeEls_t, .inr rfl⟩, ⟨treeEls_t, .inr rfl⟩, ⟨treeEls_t, .inr rfl⟩, trivial⟩) ?_
  refine RW.new rfl rfl (eff_allocK (k := 4) (id := 3) rfl rfl tz29 rfl rfl) ?_
  refine RW.store rfl rfl (eff_storeW (v := .agg _) (els := [_]) (els' := [_]) rfl rfl ti29 rfl rfl rfl rfl rfl rfl rfl rfl rfl) ?_
  refine RW.nil ?_
  refine awp_seq ?_
  refine awp_rw rfl ?_
  refine RW.op rfl rfl (eff_fieldAddr rfl rfl tf29_2 (by decide) rfl rfl rfl (Nat.le_of_ble_eq_true rfl)) ?_
  refine RW.store rfl rfl (eff_storeA (v := .t _) (ys := [_, _, _, _]) (els := [_]) (els' := [_]) rfl rfl ti27 rfl rfl rfl rfl rfl rfl rfl (Nat.le_of_ble_eq_true rfl) rfl rfl rfl) ?_
  refine RW.nil ?_
  refine awp_seq ?_
  refine awp_rw rfl ?_
  refine RW.op rfl rfl (eff_load rfl rfl ti29 rfl (.whole rfl rfl rfl rfl rfl rfl)) ?_
  refine RW.store rfl rfl (eff_storeW (v := .agg _) (els := [_]) (els' := [_]) rfl rfl ti29 rfl rfl rfl rfl rfl rfl rfl rfl rfl) ?_
  refine RW.nil ?_
  refine awp_ret ?_
  exact ⟨Or.inr rfl, [_], ⟨.cell rfl ti29 (.whole rfl rfl rfl rfl rfl rfl) (Res.aggP (xs := [_, _, _, _]) ⟨.t _, Res.ownT (xs := S.bundles.map encB) rfl rfl rfl (by simp), .t _, Res.ownT (xs := S.seen.map encI) rfl rfl rfl (by simp), trivial⟩), trivial⟩, (by repeat' first | exact trivial | exact Wk.refl _ | exact Wk.sl _ | refine And.intro ?_ ?_ | refine Wk.tupP ?_ | refine Wk.aggP ?_)⟩

theorem lowerB_mem (x : Int) : ∀ (l : List Int), l.Pairwise (· < ·) → x ∈ l → lowerB x l < l.length ∧ l.filter (· != x) = l.take (lowerB x l) ++ l.drop (lowerB x l + 1)
  | [], _, h => by simp at h
  | y :: l, hp, h => by
    rw [List.pairwise_cons] at hp
    by_cases hy : y < x
    · have hm : x ∈ l := by
        rcases List.mem_cons.1 h with e | e
        · omega
        · exact e
      obtain ⟨h1, h2⟩ := lowerB_mem x l hp.2 hm
      have e : lowerB x (y :: l) = lowerB x l + 1 := by unfold lowerB; simp [hy]
      rw [e]
      refine ⟨by simpa using h1, ?_⟩
      have hne : (y != x) = true := by simp; omega
      rw [List.filter_cons_of_pos (by simpa using hne), h2]
      simp
    · have hxy : x = y := by
        rcases List.mem_cons.1 h with e | e
        · exact e
        · have := hp.1 x e; omega
      subst hxy
      have e : lowerB x (x :: l) = 0 := by unfold lowerB; simp
      rw [e]
      refine ⟨by simp, ?_⟩
      have hf : l.filter (· != x) = l := by
        rw [List.filter_eq_self]
        intro z hz
        have := hp.1 z hz
        simp; omega
      simp [hf]

theorem delete59M (l : List Int) (g i : Nat) (hl : l.length ≤ 1000000) (hi : i < l.length) : RetG Try.prog 59 [(0, some ⟨1, 3, g, (l.map encI).map .t⟩)]
    [.own 0 g 0 l.length, .t (.int .i64 (i : Nat)), .t (.int .i64 ((i + 1 : Nat) : Int))] [(0, some ⟨1, 3, g + 1, ((l.map encI).take i ++ (l.map encI).drop (i + 1) ++ [z3]).map .t⟩)] (.own 0 (g + 1) 0 (l.length - 1)) := by
  have h := delete59_retG (l.map encI) g i (by simpa using hl) (by simpa using hi)
  rw [List.length_map] at h
  exact h

theorem delete45M (l : List Bundle) (g i : Nat) (hl : l.length ≤ 1000000) (hi : i < l.length) : RetG Try.prog 45 [(0, some ⟨8, 38, g, (l.map encB).map .t⟩)]
    [.own 0 g 0 l.length, .t (.int .i64 (i : Nat)), .t (.int .i64 ((i + 1 : Nat) : Int))] [(0, some ⟨8, 38, g + 1, ((l.map encB).take i ++ (l.map encB).drop (i + 1) ++ [z38]).map .t⟩)] (.own 0 (g + 1) 0 (l.length - 1)) := by
  have h := delete45_retG (l.map encB) g i (by simpa using hl) (by simpa using hi)
  rw [List.length_map] at h
  exact h

theorem remove46_retG (l : List Int) (x : Int) (g : Nat) (hl : l.length ≤ 1000000) (hp : l.Pairwise (· < ·)) : RetG Try.prog 46 [(0, some ⟨1, 3, g, (l.map encI).map .t⟩)] [.own 0 g 0 l.length, .t (encI x)] [(0, some ⟨1, 3, g + 1, ((if x ∈ l then l.filter (· != x) ++ [0] else l).map encI).map AV.t⟩)] (.own 0 (g + 1) 0 (l.filter (· != x)).length) := by
  refine retG_of_awp Try.func46 rfl (Nat.le_of_ble_eq_true rfl) ?_
  refine awp_seq ?_
  refine awp_rw rfl ?_
  refine RW.op rfl rfl (eff_assign (v := .t _) rfl rfl rfl) ?_
  refine RW.nil ?_
  refine awp_seq ?_
  refine awp_seq ?_
  refine awp_rw rfl ?_
  refine RW.op rfl rfl (eff_move (v := .own _ _ _ _) rfl rfl rfl) ?_
  refine RW.op rfl rfl (eff_move (v := .t _) rfl rfl rfl) ?_
  refine RW.op rfl rfl (eff_callB (ys := [encIs l, encI x]) (caps := []) rfl rfl rfl (.t _) co58 (ResL.cons (Res.ownM (xs := l.map encI) rfl (by simp)) (.refl _) (ResL.cons (.t _) (.refl _) .nil)) (by rw [List.append_nil]; exact search_ret l x hl hp) rfl) ?_
  refine RW.op rfl rfl (eff_move (v := .t _) rfl rfl rfl) ?_
  refine RW.op rfl rfl (eff_extract rfl rfl rfl rfl) ?_
  refine RW.op rfl rfl (eff_extract rfl rfl rfl rfl) ?_
  refine RW.op rfl rfl (eff_assign (v := .t _) rfl rfl rfl) ?_
  refine RW.op rfl rfl (eff_assign (v := .t _) rfl rfl rfl) ?_
  refine RW.nil ?_
  refine awp_seq ?_
  refine awp_rw rfl ?_
  refine RW.op rfl rfl (eff_move (v := .t _) rfl rfl rfl) ?_
  refine RW.nil ?_
  refine awp_cond rfl (fun h1 => ?_) (fun h1 => ?_)
  · try simp only [decide_eq_true_eq, decide_eq_false_iff_not, beq_iff_eq, bne_iff_ne, bne_eq_false_iff_eq, beq_eq_false_iff_ne, Bool.not_eq_true, Bool.not_eq_false, Bool.not_eq_true', Bool.not_eq_false', ne_eq] at h1
    refine awp_seq ?_
    refine awp_rw rfl ?_
    obtain ⟨hk, hflt⟩ := lowerB_mem x l hp h1
    refine RW.op rfl rfl (eff_move (v := .own _ _ _ _) rfl rfl rfl) ?_
    refine RW.op rfl rfl (eff_move (v := .t _) rfl rfl rfl) ?_
    refine RW.op rfl rfl (eff_move (v := .t _) rfl rfl rfl) ?_
    refine RW.op rfl rfl (eff_iop rfl rfl rfl rfl (iadd (by omega))) ?_
    refine RW.new rfl rfl (eff_callG (delete59M l g (lowerB x l) hl hk) co59 (fun id => id) rfl rfl rfl ⟨.own 0 _ _ _ rfl rfl, .t _, .t _, trivial⟩ (.own _ _ _ _ rfl rfl) rfl ⟨⟨rfl, treeEls_t, ⟨_, rfl, Nat.lt_succ_self _⟩⟩, trivial⟩ ⟨⟨treeEls_t, .inl rfl⟩, trivial⟩) ?_
    refine RW.op rfl rfl (eff_assign (v := .own _ _ _ _) rfl rfl rfl) ?_
    refine RW.nil ?_
    refine awp_ret ?_
    have hel : ((l.map encI).take (lowerB x l) ++ (l.map encI).drop (lowerB x l + 1) ++ [z3]).map AV.t = ((if x ∈ l then l.filter (· != x) ++ [0] else l).map encI).map AV.t := by rw [if_pos h1, hflt]; simp [List.map_take, List.map_drop, encI]
    have hln : l.length - 1 = (l.filter (· != x)).length := by rw [hflt]; simp; omega
    exact ⟨Or.inr rfl, [_], [.own 0 (g + 1) 0 (l.filter (· != x)).length], ⟨.tmp rfl, trivial⟩, rfl, weak_keep ⟨(congrArg (AV.own 0 (g + 1) 0) hln), rfl, trivial⟩ ⟨congrArg (fun e => some (Ob.mk 1 3 (g + 1) e)) hel, okE_t, trivial⟩, rfl⟩
  · try simp only [decide_eq_true_eq, decide_eq_false_iff_not, beq_iff_eq, bne_iff_ne, bne_eq_false_iff_eq, beq_eq_false_iff_ne, Bool.not_eq_true, Bool.not_eq_false, Bool.not_eq_true', Bool.not_eq_false', ne_eq] at h1
    refine awp_skip ?_
    refine awp_seq ?_
    refine awp_rw rfl ?_
    refine RW.op rfl rfl (eff_move (v := .own _ _ _ _) rfl rfl rfl) ?_
    refine RW.op rfl rfl (eff_assign (v := .own _ _ _ _) rfl rfl rfl) ?_
    refine RW.nil ?_
    refine awp_ret ?_
    have hfl : l.filter (· != x) = l := by
      rw [List.filter_eq_self]
      intro z hz
      have : z ≠ x := fun e => h1 (e ▸ hz)
      simpa using this
    refine ⟨Or.inr rfl, [_], [.own 0 (g + 1) 0 (l.filter (· != x)).length], ⟨.tmp rfl, trivial⟩, rfl, Weak.trans (s1 := ⟨1, [(0, .own 0 g 0 (l.filter (· != x)).length)], [(0, some ⟨1, 3, g, ((if x ∈ l then l.filter (· != x) ++ [0] else l).map encI).map AV.t⟩)]⟩) ?_ weak_bump, rfl⟩
    rw [hfl, if_neg h1]
    exact weak_keep ⟨rfl, rfl, trivial⟩ ⟨rfl, okE_t, trivial⟩

end Go.Tv.C27

end
section
open Go Go.Tv Go.Proofs
namespace Go.Tv.C27
set_option maxRecDepth 20000
set_option linter.unusedSimpArgs false
set_option linter.unusedVariables false
theorem confirm24_ret (S : Store) (n : Int) (hS : SOK S) (hp : S.passed.Pairwise (· < ·)) : Ret Try.prog 24 [encS S, encI n] (.tup [encS (confirm S n).1, encI (confirm S n).2]) := by
  refine ret_of_awp Try.func24 rfl (Nat.le_of_ble_eq_true rfl) ?_
  refine awp_seq ?_
  refine awp_rw rfl ?_
  refine RW.new rfl rfl (eff_boxK (v := .t _) (k := 4) (id := 2) rfl rfl rfl rfl rfl rfl) ?_
  refine RW.new rfl rfl (eff_allocK (k := 4) (id := 4) rfl rfl tz29 rfl rfl) ?_
  refine RW.op rfl rfl (eff_assign (v := .t _) rfl rfl rfl) ?_
  refine RW.nil ?_
  refine awp_seq ?_
  refine awp_rw rfl ?_
  refine RW.op rfl rfl (eff_load rfl rfl ti29 rfl (.whole rfl rfl rfl rfl rfl rfl)) ?_
  refine RW.op rfl rfl (eff_move (v := .t _) rfl rfl rfl) ?_
  refine RW.op rfl rfl (eff_callT (find44_ret S n hS) co44 rfl rfl rfl rfl) ?_
  refine RW.op rfl rfl (eff_assign (v := .t _) rfl rfl rfl) ?_
  refine RW.nil ?_
  refine awp_seq ?_
  refine awp_seq ?_
  refine awp_rw rfl ?_
  refine RW.op rfl rfl (eff_move (v := .t _) rfl rfl rfl) ?_
  refine RW.op rfl rfl (eff_iop rfl rfl rfl rfl rfl) ?_
  refine RW.nil ?_
  refine awp_cond rfl (fun h1 => ?_) (fun h1 => ?_)
  · try simp only [decide_eq_true_eq, decide_eq_false_iff_not, beq_iff_eq, bne_iff_ne, bne_eq_false_iff_eq, beq_eq_false_iff_ne, Bool.not_eq_true, Bool.not_eq_false, Bool.not_eq_true', Bool.not_eq_false', ne_eq] at h1
    refine awp_seq ?_
    refine awp_rw rfl ?_
    refine RW.op rfl rfl (eff_buildT (ys := [_, _, _, _]) rfl rfl tz29 tg29 rfl) ?_
    refine RW.store rfl rfl (eff_storeW (v := .t _) (els := [_]) (els' := [_]) rfl rfl ti29 rfl rfl rfl rfl rfl rfl rfl rfl rfl) ?_
    refine RW.op rfl rfl (eff_assign (v := .t _) rfl rfl rfl) ?_
    refine RW.nil ?_
    refine awp_ret ?_
    rw [show confirm S n = (zs, 3) from by unfold confirm; rw [if_pos h1]]
    exact ⟨Or.inr rfl, [_, _], ⟨.cell rfl ti29 (.whole rfl rfl rfl rfl rfl rfl) (.t _), .tmp (.t _), trivial⟩, (by repeat' first | exact trivial | exact Wk.refl _ | exact Wk.sl _ | refine And.intro ?_ ?_ | refine Wk.tupP ?_ | refine Wk.aggP ?_)⟩
  · try simp only [decide_eq_true_eq, decide_eq_false_iff_not, beq_iff_eq, bne_iff_ne, bne_eq_false_iff_eq, beq_eq_false_iff_ne, Bool.not_eq_true, Bool.not_eq_false, Bool.not_eq_true', Bool.not_eq_false', ne_eq] at h1
    refine awp_skip ?_
    refine awp_seq ?_
    refine awp_rw rfl ?_
    obtain ⟨ix, hix, hfx⟩ := findIx_nat h1
    have hL := hS.1
    have hfx2 : confirm S n = (⟨S.quota, (S.bundles.take ix ++ S.bundles.drop (ix + 1)), S.passed.filter (· != n), S.seen⟩, 0) := by unfold confirm; rw [if_neg h1, hfx]; rfl
    rw [hfx]
    refine RW.op rfl rfl (eff_load rfl rfl ti29 rfl (.whole rfl rfl rfl rfl rfl rfl)) ?_
    refine RW.new3 rfl rfl (eff_callG (copied_retG S hS) co43 (fun id => id + 10000) rfl rfl rfl ⟨.t _, trivial⟩ (RenA.aggL (ds := [_, _, _, _]) ⟨.t _, .own _ _ _ _ rfl rfl, .own _ _ _ _ rfl rfl, .own _ _ _ _ rfl rfl, trivial⟩) rfl trivial ⟨⟨treeEls_t, .inr rfl⟩, ⟨treeEls_t, .inr rfl⟩, ⟨treeEls_t, .inr rfl⟩, trivial⟩) ?_
    refine RW.new rfl rfl (eff_allocK (k := 4) (id := 7) rfl rfl tz29 rfl rfl) ?_
    refine RW.store rfl rfl (eff_storeW (v := .agg _) (els := [_]) (els' := [_]) rfl rfl ti29 rfl rfl rfl rfl rfl rfl rfl rfl rfl) ?_
    refine RW.nil ?_
    refine awp_seq ?_
    refine awp_rw rfl ?_
    refine RW.op rfl rfl (eff_fieldAddr rfl rfl tf29_1 (by decide) rfl rfl rfl (Nat.le_of_ble_eq_true rfl)) ?_
    refine RW.op rfl rfl (eff_load (y := .own _ _ _ _) rfl rfl ti26 rfl (.one rfl rfl rfl rfl)) ?_
    refine RW.op rfl rfl (eff_move (v := .t _) rfl rfl rfl) ?_
    refine RW.op rfl rfl (eff_move (v := .t _) rfl rfl rfl) ?_
    refine RW.op rfl rfl (eff_iop rfl rfl rfl rfl (iadd (by omega))) ?_
    refine RW.new rfl rfl (eff_callG (delete45M S.bundles S.bundles.length ix (by omega) hix) co45 (fun id => id + 10027) rfl rfl rfl ⟨.own 0 _ _ _ rfl rfl, .t _, .t _, trivial⟩ (.own _ _ _ _ rfl rfl) rfl ⟨⟨rfl, treeEls_t, ⟨_, rfl, Nat.lt_succ_self _⟩⟩, trivial⟩ ⟨⟨treeEls_t, .inl rfl⟩, trivial⟩) ?_
    refine RW.op rfl rfl (eff_fieldAddr rfl rfl tf29_1 (by decide) rfl rfl rfl (Nat.le_of_ble_eq_true rfl)) ?_
    refine RW.store rfl rfl (eff_storeA (v := .own _ _ _ _) (ys := [_, _, _, _]) (els := [_]) (els' := [_]) rfl rfl ti26 rfl rfl rfl rfl rfl rfl rfl (Nat.le_of_ble_eq_true rfl) rfl rfl rfl) ?_
    refine RW.nil ?_
    refine awp_seq ?_
    refine awp_rw rfl ?_
    refine RW.op rfl rfl (eff_fieldAddr rfl rfl tf29_2 (by decide) rfl rfl rfl (Nat.le_of_ble_eq_true rfl)) ?_
    refine RW.op rfl rfl (eff_load (y := .own _ _ _ _) rfl rfl ti27 rfl (.one rfl rfl rfl rfl)) ?_
    refine RW.op rfl rfl (eff_move (v := .t _) rfl rfl rfl) ?_
    refine RW.new rfl rfl (eff_callG (remove46_retG S.passed n 1 (by have h := hS.2.1; omega) hp) co46 (fun id => id + 11005) rfl rfl rfl ⟨.own 0 _ _ _ rfl rfl, .t _, trivial⟩ (.own _ _ _ _ rfl rfl) rfl ⟨⟨rfl, treeEls_t, ⟨_, rfl, Nat.lt_succ_self _⟩⟩, trivial⟩ ⟨⟨treeEls_t, .inl rfl⟩, trivial⟩) ?_
    refine RW.op rfl rfl (eff_fieldAddr rfl rfl tf29_2 (by decide) rfl rfl rfl (Nat.le_of_ble_eq_true rfl)) ?_
    refine RW.store rfl rfl (eff_storeA (v := .own _ _ _ _) (ys := [_, _, _, _]) (els := [_]) (els' := [_]) rfl rfl ti27 rfl rfl rfl rfl rfl rfl rfl (Nat.le_of_ble_eq_true rfl) rfl rfl rfl) ?_
    refine RW.nil ?_
    refine awp_seq ?_
    refine awp_rw rfl ?_
    refine RW.op rfl rfl (eff_load rfl rfl ti29 rfl (.whole rfl rfl rfl rfl rfl rfl)) ?_
    refine RW.store rfl rfl (eff_storeW (v := .agg _) (els := [_]) (els' := [_]) rfl rfl ti29 rfl rfl rfl rfl rfl rfl rfl rfl rfl) ?_
    refine RW.op rfl rfl (eff_assign (v := .t _) rfl rfl rfl) ?_
    refine RW.nil ?_
    refine awp_ret ?_
    have he1 : ((S.bundles.map encB).take ix ++ (S.bundles.map encB).drop (ix + 1) ++ [z38]).map AV.t = ((S.bundles.take ix ++ S.bundles.drop (ix + 1)).map encB).map AV.t ++ [AV.t z38] := by simp [List.map_take, List.map_drop]
    have he2 : ∃ rest, ((if n ∈ S.passed then S.passed.filter (· != n) ++ [0] else S.passed).map encI).map AV.t = ((S.passed.filter (· != n)).map encI).map AV.t ++ rest := by
      by_cases h : n ∈ S.passed
      · rw [if_pos h]; exact ⟨[.t (encI 0)], by simp⟩
      · rw [if_neg h]
        refine ⟨[], ?_⟩
        rw [show S.passed.filter (· != n) = S.passed from by
          rw [List.filter_eq_self]
          intro z hz
          have : z ≠ n := fun e => h (e ▸ hz)
          simpa using this]
        simp
    obtain ⟨rest, he2⟩ := he2
    rw [hfx2]
    exact ⟨Or.inr rfl, [_, _], ⟨.cell rfl ti29 (.whole rfl rfl rfl rfl rfl rfl) (Res.aggP (xs := [_, _, _, _]) ⟨.t _, Res.ownPre (xs := (S.bundles.take ix ++ S.bundles.drop (ix + 1)).map encB) [AV.t z38] rfl rfl he1 (by simp; omega), Res.ownPre (xs := (S.passed.filter (· != n)).map encI) rest rfl rfl he2 (by simp), Res.ownT (xs := S.seen.map encI) rfl rfl rfl (by simp), trivial⟩), .tmp (.t _), trivial⟩, (by repeat' first | exact trivial | exact Wk.refl _ | exact Wk.sl _ | refine And.intro ?_ ?_ | refine Wk.tupP ?_ | refine Wk.aggP ?_)⟩

end Go.Tv.C27

end
section
open Go Go.Tv Go.Proofs
namespace Go.Tv.C27
set_option maxRecDepth 20000
set_option linter.unusedSimpArgs false
set_option linter.unusedVariables false
/-- The contract of slices.Insert at one new element (not proved yet: a hypothesis of what follows). -/
def InsC : Prop := ∀ (l : List Int) (g i : Nat) (x : Int), l.length ≤ 1000000 → i ≤ l.length → RetG Try.prog 60 [(0, some ⟨1, 3, g, (l.map encI).map .t⟩), (1, some ⟨1, 3, 0, [.t (encI x)]⟩)]
    [.own 0 g 0 l.length, .t (.int .i64 (i : Nat)), .own 1 0 0 1] [(0, some ⟨1, 3, g + 1, ((l.take i ++ [x] ++ l.drop i).map encI).map .t⟩), (1, some ⟨1, 3, 1, [.t (encI x)]⟩)] (.own 0 (g + 1) 0 (l.length + 1))

theorem lowerB_spec (x : Int) : ∀ (l : List Int), lowerB x l ≤ l.length ∧ (∀ y, y ∈ l.take (lowerB x l) → y < x) ∧ ∀ h : lowerB x l < l.length, ¬ l[lowerB x l] < x
  | [] => ⟨Nat.le_refl _, fun y h => by simp at h, fun h => by simp at h⟩
  | y :: l => by
    obtain ⟨h1, h2, h3⟩ := lowerB_spec x l
    by_cases hy : y < x
    · have e : lowerB x (y :: l) = lowerB x l + 1 := by unfold lowerB; simp [hy]
      refine ⟨by rw [e]; simpa using h1, fun z hz => ?_, fun h => ?_⟩
      · rw [e, List.take_succ_cons] at hz
        rcases List.mem_cons.1 hz with rfl | hz
        · exact hy
        · exact h2 z hz
      · have h4 := h3 (by rw [e] at h; simpa using h)
        simpa [e] using h4
    · have e : lowerB x (y :: l) = 0 := by unfold lowerB; simp [hy]
      refine ⟨by rw [e]; exact Nat.zero_le _, fun z hz => by rw [e] at hz; simp at hz, fun h => by simpa [e] using hy⟩

theorem ins_lowerB (x : Int) (l : List Int) : ins x l = l.take (lowerB x l) ++ [x] ++ l.drop (lowerB x l) := by
  obtain ⟨h1, h2, h3⟩ := lowerB_spec x l
  exact ins_split x l _ h1 h2 h3

theorem insert47_retG (hI : InsC) (l : List Int) (x : Int) (g : Nat) (hl : l.length ≤ 1000000) (hp : l.Pairwise (· < ·)) : RetG Try.prog 47 [(0, some ⟨1, 3, g, (l.map encI).map .t⟩)] [.own 0 g 0 l.length, .t (encI x)] [(0, some ⟨1, 3, g + 1, ((if x ∈ l then l else ins x l).map encI).map AV.t⟩)] (.tup [.own 0 (g + 1) 0 (if x ∈ l then l else ins x l).length, .t (.bool (decide (x ∉ l)))]) := by
  refine retG_of_awp Try.func47 rfl (Nat.le_of_ble_eq_true rfl) ?_
  refine awp_seq ?_
  refine awp_rw rfl ?_
  refine RW.op rfl rfl (eff_assign (v := .t _) rfl rfl rfl) ?_
  refine RW.op rfl rfl (eff_assign (v := .t _) rfl rfl rfl) ?_
  refine RW.nil ?_
  refine awp_seq ?_
  refine awp_rw rfl ?_
  refine RW.op rfl rfl (eff_move (v := .own _ _ _ _) rfl rfl rfl) ?_
  refine RW.op rfl rfl (eff_move (v := .t _) rfl rfl rfl) ?_
  refine RW.op rfl rfl (eff_callB (ys := [encIs l, encI x]) (caps := []) rfl rfl rfl (.t _) co58 (ResL.cons (Res.ownM (xs := l.map encI) rfl (by simp)) (.refl _) (ResL.cons (.t _) (.refl _) .nil)) (by rw [List.append_nil]; exact search_ret l x hl hp) rfl) ?_
  refine RW.op rfl rfl (eff_move (v := .t _) rfl rfl rfl) ?_
  refine RW.op rfl rfl (eff_extract rfl rfl rfl rfl) ?_
  refine RW.op rfl rfl (eff_extract rfl rfl rfl rfl) ?_
  refine RW.op rfl rfl (eff_assign (v := .t _) rfl rfl rfl) ?_
  refine RW.op rfl rfl (eff_assign (v := .t _) rfl rfl rfl) ?_
  refine RW.nil ?_
  refine awp_seq ?_
  refine awp_seq ?_
  refine awp_rw rfl ?_
  refine RW.op rfl rfl (eff_move (v := .t _) rfl rfl rfl) ?_
  refine RW.nil ?_
  refine awp_cond rfl (fun h1 => ?_) (fun h1 => ?_)
  · try simp only [decide_eq_true_eq, decide_eq_false_iff_not, beq_iff_eq, bne_iff_ne, bne_eq_false_iff_eq, beq_eq_false_iff_ne, Bool.not_eq_true, Bool.not_eq_false, Bool.not_eq_true', Bool.not_eq_false', ne_eq] at h1
    refine awp_seq ?_
    refine awp_rw rfl ?_
    refine RW.op rfl rfl (eff_move (v := .own _ _ _ _) rfl rfl rfl) ?_
    refine RW.op rfl rfl (eff_assign (v := .own _ _ _ _) rfl rfl rfl) ?_
    refine RW.op rfl rfl (eff_assign (v := .t _) rfl rfl rfl) ?_
    refine RW.nil ?_
    refine awp_ret ?_
    rw [if_pos h1, show decide (x ∉ l) = false from by simp [h1]]
    refine ⟨Or.inr rfl, [_, _], [.own 0 (g + 1) 0 l.length, .t (.bool false)], ⟨.tmp rfl, .tmp rfl, trivial⟩, rfl, ?_, rfl⟩
    exact ((weak_keep (fr' := [(0, .own 0 g 0 l.length), (1, .t (.bool false))]) (st' := [(0, some ⟨1, 3, g, (l.map encI).map .t⟩)]) ⟨rfl, rfl, rfl, rfl, trivial⟩ ⟨rfl, okE_t, trivial⟩).trans (weak_bumpS (d := 0) (g + 1) rfl rfl (Nat.lt_succ_self _))).trans (weak_keep ⟨rfl, rfl, rfl, rfl, trivial⟩ ⟨rfl, okE_t, trivial⟩)
  · try simp only [decide_eq_true_eq, decide_eq_false_iff_not, beq_iff_eq, bne_iff_ne, bne_eq_false_iff_eq, beq_eq_false_iff_ne, Bool.not_eq_true, Bool.not_eq_false, Bool.not_eq_true', Bool.not_eq_false', ne_eq] at h1
    refine awp_skip ?_
    refine awp_seq ?_
    refine awp_rw rfl ?_
    refine RW.op rfl rfl (eff_move (v := .own _ _ _ _) rfl rfl rfl) ?_
    refine RW.op rfl rfl (eff_move (v := .t _) rfl rfl rfl) ?_
    refine RW.op rfl rfl (eff_move (v := .t _) rfl rfl rfl) ?_
    refine RW.new rfl rfl (eff_buildSlice1 (id := 19) (els := [_]) rfl rfl te27 tz3 rfl (by decide) rfl rfl rfl rfl) ?_
    refine RW.new2 rfl rfl (eff_callG (hI l g (lowerB x l) x hl (lowerB_spec x l).1) co60 (fun id => id * 19) rfl rfl rfl ⟨.own 0 _ _ _ rfl rfl, .t _, .own 1 _ _ _ rfl rfl, trivial⟩ (.own _ _ _ _ rfl rfl) rfl ⟨⟨rfl, treeEls_t, ⟨_, rfl, Nat.lt_succ_self _⟩⟩, ⟨rfl, treeEls_t (xs := [encI x]), ⟨_, rfl, Nat.lt_succ_self _⟩⟩, trivial⟩ ⟨⟨treeEls_t, .inl rfl⟩, ⟨treeEls_t (xs := [encI x]), .inl rfl⟩, trivial⟩) ?_
    refine RW.op rfl rfl (eff_assign (v := .own _ _ _ _) rfl rfl rfl) ?_
    refine RW.op rfl rfl (eff_assign (v := .t _) rfl rfl rfl) ?_
    refine RW.nil ?_
    refine awp_ret ?_
    rw [if_neg h1, show decide (x ∉ l) = true from by simp [h1], ins_lowerB]
    refine ⟨Or.inr rfl, [_, _], [.own 0 (g + 1) 0 (l.take (lowerB x l) ++ [x] ++ l.drop (lowerB x l)).length, .t (.bool true)], ⟨.tmp rfl, .tmp rfl, trivial⟩, rfl, ?_, rfl⟩
    exact weak_keep ⟨congrArg (AV.own 0 (g + 1) 0) (by have := (lowerB_spec x l).1; simp; omega), rfl, rfl, rfl, trivial⟩ ⟨rfl, okE_t, trivial⟩

end Go.Tv.C27

end
section
open Go Go.Tv Go.Proofs
namespace Go.Tv.C27
set_option maxRecDepth 20000
set_option linter.unusedSimpArgs false
set_option linter.unusedVariables false
theorem ins_last (x : Int) : ∀ (o : List Int), (∀ y, y ∈ o → y < x) → ins x o = o ++ [x]
  | [], _ => rfl
  | y :: o, h => by
    unfold ins
    rw [if_pos (h y List.mem_cons_self), ins_last x o (fun z hz => h z (List.mem_cons_of_mem _ hz))]
    rfl

theorem foldl_ins : ∀ (l o : List Int), (o ++ l).Pairwise (· < ·) → l.foldl (fun o x => ins x o) o = o ++ l
  | [], o, _ => by simp
  | x :: l, o, h => by
    have h2 := (List.pairwise_append.1 h).2.2
    rw [List.foldl_cons, ins_last x o (fun y hy => h2 y hy x List.mem_cons_self), foldl_ins l (o ++ [x]) (by simpa using h)]
    simp

theorem sortl_id {l : List Int} (h : l.Pairwise (· < ·)) : sortl l = l := by
  unfold sortl
  rw [foldl_ins l [] (by simpa using h)]; rfl

theorem sortl_ins {l : List Int} {x : Int} (h : l.Pairwise (· < ·)) : sortl (l ++ [x]) = ins x l := by
  rw [sortl_snoc, sortl_id h]

theorem create28_ret (hI : InsC) (S : Store) (b : Bundle) (hS : SOK S) (hb : BOK b) (hsn : S.seen.Pairwise (· < ·)) : Ret Try.prog 28 [encS S, encB b] (.tup [encS (create S b).1, encI (create S b).2]) := by
  refine ret_of_awp Try.func28 rfl (Nat.le_of_ble_eq_true rfl) ?_
  refine awp_seq ?_
  refine awp_rw rfl ?_
  refine RW.new rfl rfl (eff_boxK (v := .t _) (k := 4) (id := 2) rfl rfl rfl rfl rfl rfl) ?_
  refine RW.new rfl rfl (eff_boxK (v := .t _) (k := 8) (id := 3) rfl rfl rfl rfl rfl rfl) ?_
  refine RW.new rfl rfl (eff_allocK (k := 4) (id := 4) rfl rfl tz29 rfl rfl) ?_
  refine RW.op rfl rfl (eff_assign (v := .t _) rfl rfl rfl) ?_
  refine RW.nil ?_
  refine awp_seq ?_
  refine awp_block ?_
  refine awp_seq ?_
  refine awp_rw rfl ?_
  refine RW.op rfl rfl (eff_fieldAddr rfl rfl tf38_3 (by decide) rfl rfl rfl (Nat.le_of_ble_eq_true rfl)) ?_
  refine RW.op rfl rfl (eff_fieldAddr rfl rfl tf36_4 (by decide) rfl rfl rfl (Nat.le_of_ble_eq_true rfl)) ?_
  refine RW.op rfl rfl (eff_load (y := .t _) rfl rfl ti34 rfl (.one rfl rfl rfl rfl)) ?_
  refine RW.op rfl rfl (eff_lenM rfl rfl te34 rfl) ?_
  refine RW.op rfl rfl (eff_iop rfl rfl rfl rfl rfl) ?_
  refine RW.op rfl rfl (eff_assign (v := .t _) rfl rfl rfl) ?_
  refine RW.nil ?_
  refine awp_cond rfl (fun h1 => ?_) (fun h1 => ?_)
  · try simp only [decide_eq_true_eq, decide_eq_false_iff_not, beq_iff_eq, bne_iff_ne, bne_eq_false_iff_eq, beq_eq_false_iff_ne, Bool.not_eq_true, Bool.not_eq_false, Bool.not_eq_true', Bool.not_eq_false', ne_eq] at h1
    refine awp_seq ?_
    refine awp_rw rfl ?_
    refine RW.op rfl rfl (eff_buildT (ys := [_, _, _, _]) rfl rfl tz29 tg29 rfl) ?_
    refine RW.store rfl rfl (eff_storeW (v := .t _) (els := [_]) (els' := [_]) rfl rfl ti29 rfl rfl rfl rfl rfl rfl rfl rfl rfl) ?_
    refine RW.op rfl rfl (eff_assign (v := .t _) rfl rfl rfl) ?_
    refine RW.nil ?_
    refine awp_ret ?_
    rw [show create S b = (zs, 2) from by unfold create; rw [if_pos (by omega)]]
    exact ⟨Or.inr rfl, [_, _], ⟨.cell rfl ti29 (.whole rfl rfl rfl rfl rfl rfl) (.t _), .tmp (.t _), trivial⟩, (by repeat' first | exact trivial | exact Wk.refl _ | exact Wk.sl _ | refine And.intro ?_ ?_ | refine Wk.tupP ?_ | refine Wk.aggP ?_)⟩
  · try simp only [decide_eq_true_eq, decide_eq_false_iff_not, beq_iff_eq, bne_iff_ne, bne_eq_false_iff_eq, beq_eq_false_iff_ne, Bool.not_eq_true, Bool.not_eq_false, Bool.not_eq_true', Bool.not_eq_false', ne_eq] at h1
    refine awp_seq ?_
    refine awp_rw rfl ?_
    refine RW.op rfl rfl (eff_fieldAddr rfl rfl tf29_3 (by decide) rfl rfl rfl (Nat.le_of_ble_eq_true rfl)) ?_
    refine RW.op rfl rfl (eff_load (y := .t _) rfl rfl ti27 rfl (.one rfl rfl rfl rfl)) ?_
    refine RW.op rfl rfl (eff_fieldAddr rfl rfl tf38_0 (by decide) rfl rfl rfl (Nat.le_of_ble_eq_true rfl)) ?_
    refine RW.op rfl rfl (eff_load (y := .t _) rfl rfl ti3 rfl (.one rfl rfl rfl rfl)) ?_
    refine RW.op rfl rfl (eff_callT (has48_ret S.seen b.id (by have h2 := hS.2.2.1; omega) hsn) co48 rfl rfl rfl rfl) ?_
    refine RW.op rfl rfl (eff_assign (v := .t _) rfl rfl rfl) ?_
    refine RW.nil ?_
    refine awp_cond rfl (fun h2 => ?_) (fun h2 => ?_)
    · try simp only [decide_eq_true_eq, decide_eq_false_iff_not, beq_iff_eq, bne_iff_ne, bne_eq_false_iff_eq, beq_eq_false_iff_ne, Bool.not_eq_true, Bool.not_eq_false, Bool.not_eq_true', Bool.not_eq_false', ne_eq] at h2
      refine awp_seq ?_
      refine awp_rw rfl ?_
      refine RW.op rfl rfl (eff_buildT (ys := [_, _, _, _]) rfl rfl tz29 tg29 rfl) ?_
      refine RW.store rfl rfl (eff_storeW (v := .t _) (els := [_]) (els' := [_]) rfl rfl ti29 rfl rfl rfl rfl rfl rfl rfl rfl rfl) ?_
      refine RW.op rfl rfl (eff_assign (v := .t _) rfl rfl rfl) ?_
      refine RW.nil ?_
      refine awp_ret ?_
      rw [show create S b = (zs, 4) from by unfold create; rw [if_neg (by omega), if_pos h2]]
      exact ⟨Or.inr rfl, [_, _], ⟨.cell rfl ti29 (.whole rfl rfl rfl rfl rfl rfl) (.t _), .tmp (.t _), trivial⟩, (by repeat' first | exact trivial | exact Wk.refl _ | exact Wk.sl _ | refine And.intro ?_ ?_ | refine Wk.tupP ?_ | refine Wk.aggP ?_)⟩
    · try simp only [decide_eq_true_eq, decide_eq_false_iff_not, beq_iff_eq, bne_iff_ne, bne_eq_false_iff_eq, beq_eq_false_iff_ne, Bool.not_eq_true, Bool.not_eq_false, Bool.not_eq_true', Bool.not_eq_false', ne_eq] at h2
      refine awp_seq ?_
      refine awp_rw rfl ?_
      refine RW.op rfl rfl (eff_fieldAddr rfl rfl tf29_1 (by decide) rfl rfl rfl (Nat.le_of_ble_eq_true rfl)) ?_
      refine RW.op rfl rfl (eff_load (y := .t _) rfl rfl ti26 rfl (.one rfl rfl rfl rfl)) ?_
      refine RW.op rfl rfl (eff_lenM rfl rfl te26 rfl) ?_
      refine RW.op rfl rfl (eff_iop rfl rfl rfl rfl rfl) ?_
      refine RW.op rfl rfl (eff_assign (v := .t _) rfl rfl rfl) ?_
      refine RW.nil ?_
      refine awp_cond rfl (fun h3 => ?_) (fun h3 => ?_)
      · try simp only [decide_eq_true_eq, decide_eq_false_iff_not, beq_iff_eq, bne_iff_ne, bne_eq_false_iff_eq, beq_eq_false_iff_ne, Bool.not_eq_true, Bool.not_eq_false, Bool.not_eq_true', Bool.not_eq_false', ne_eq] at h3
        refine awp_seq ?_
        refine awp_rw rfl ?_
        refine RW.op rfl rfl (eff_buildT (ys := [_, _, _, _]) rfl rfl tz29 tg29 rfl) ?_
        refine RW.store rfl rfl (eff_storeW (v := .t _) (els := [_]) (els' := [_]) rfl rfl ti29 rfl rfl rfl rfl rfl rfl rfl rfl rfl) ?_
        refine RW.op rfl rfl (eff_assign (v := .t _) rfl rfl rfl) ?_
        refine RW.nil ?_
        refine awp_ret ?_
        rw [show create S b = (zs, 9) from by unfold create; rw [if_neg (by omega), if_neg h2, if_pos (by omega)]]
        exact ⟨Or.inr rfl, [_, _], ⟨.cell rfl ti29 (.whole rfl rfl rfl rfl rfl rfl) (.t _), .tmp (.t _), trivial⟩, (by repeat' first | exact trivial | exact Wk.refl _ | exact Wk.sl _ | refine And.intro ?_ ?_ | refine Wk.tupP ?_ | refine Wk.aggP ?_)⟩
      · try simp only [decide_eq_true_eq, decide_eq_false_iff_not, beq_iff_eq, bne_iff_ne, bne_eq_false_iff_eq, beq_eq_false_iff_ne, Bool.not_eq_true, Bool.not_eq_false, Bool.not_eq_true', Bool.not_eq_false', ne_eq] at h3
        refine awp_seq ?_
        have hu := used_bd hS
        have hsz := size_bd hb
        refine awp_rd [(some 28, []), (some 29, []), (some 30, []), (some 31, []), (some 32, []), (some 33, []), (some 34, []), (some 35, []), (some 27, [])] [[], [0], [], [0, 1, 2], [0, 1, 2, 3], [], [5], [0, 1, 2, 3, 4, 5, 6], [0, 1, 2, 3, 4, 5, 6, 7]] tm rfl rfl rfl rfl ?_
        refine RD.op rfl rfl rfl (eff_load rfl rfl ti29 rfl (.whole rfl rfl rfl rfl rfl rfl)) ?_
        refine RD.op rfl rfl rfl (eff_callT (used_ret S hS) co14 rfl rfl rfl rfl) ?_
        refine RD.op rfl rfl rfl (eff_load rfl rfl ti38 rfl (.whole rfl rfl rfl rfl rfl rfl)) ?_
        refine RD.op rfl rfl rfl (eff_callT (size_ret b hb) co16 rfl rfl rfl rfl) ?_
        refine RD.op rfl rfl rfl (eff_iop rfl rfl rfl rfl (iadd (by omega))) ?_
        refine RD.op rfl rfl rfl (eff_fieldAddr rfl rfl tf29_0 (by decide) rfl rfl rfl (Nat.le_of_ble_eq_true rfl)) ?_
        refine RD.op rfl rfl rfl (eff_load (y := .t _) rfl rfl ti3 rfl (.one rfl rfl rfl rfl)) ?_
        refine RD.op rfl rfl rfl (eff_iop rfl rfl rfl rfl rfl) ?_
        refine RD.op rfl rfl rfl (eff_assign (v := .t _) rfl rfl rfl) ?_
        refine RD.nil ?_
        refine awp_cond rfl (fun h4 => ?_) (fun h4 => ?_)
        · try simp only [decide_eq_true_eq, decide_eq_false_iff_not, beq_iff_eq, bne_iff_ne, bne_eq_false_iff_eq, beq_eq_false_iff_ne, Bool.not_eq_true, Bool.not_eq_false, Bool.not_eq_true', Bool.not_eq_false', ne_eq] at h4
          refine awp_seq ?_
          refine awp_rw rfl ?_
          refine RW.op rfl rfl (eff_buildT (ys := [_, _, _, _]) rfl rfl tz29 tg29 rfl) ?_
          refine RW.store rfl rfl (eff_storeW (v := .t _) (els := [_]) (els' := [_]) rfl rfl ti29 rfl rfl rfl rfl rfl rfl rfl rfl rfl) ?_
          refine RW.op rfl rfl (eff_assign (v := .t _) rfl rfl rfl) ?_
          refine RW.nil ?_
          refine awp_ret ?_
          rw [show create S b = (zs, 42) from by unfold create; rw [if_neg (by omega), if_neg h2, if_neg (by omega), if_pos (by omega)]]
          exact ⟨Or.inr rfl, [_, _], ⟨.cell rfl ti29 (.whole rfl rfl rfl rfl rfl rfl) (.t _), .tmp (.t _), trivial⟩, (by repeat' first | exact trivial | exact Wk.refl _ | exact Wk.sl _ | refine And.intro ?_ ?_ | refine Wk.tupP ?_ | refine Wk.aggP ?_)⟩
        · try simp only [decide_eq_true_eq, decide_eq_false_iff_not, beq_iff_eq, bne_iff_ne, bne_eq_false_iff_eq, beq_eq_false_iff_ne, Bool.not_eq_true, Bool.not_eq_false, Bool.not_eq_true', Bool.not_eq_false', ne_eq] at h4
          refine awp_skip ?_
          refine awp_seq ?_
          refine awp_rw rfl ?_
          refine RW.op rfl rfl (eff_load rfl rfl ti29 rfl (.whole rfl rfl rfl rfl rfl rfl)) ?_
          refine RW.new3 rfl rfl (eff_callG (copied_retG S hS) co43 (fun id => id + 10000) rfl rfl rfl ⟨.t _, trivial⟩ (RenA.aggL (ds := [_, _, _, _]) ⟨.t _, .own _ _ _ _ rfl rfl, .own _ _ _ _ rfl rfl, .own _ _ _ _ rfl rfl, trivial⟩) rfl trivial ⟨⟨treeEls_t, .inr rfl⟩, ⟨treeEls_t, .inr rfl⟩, ⟨treeEls_t, .inr rfl⟩, trivial⟩) ?_
          refine RW.new rfl rfl (eff_allocK (k := 4) (id := 6) rfl rfl tz29 rfl rfl) ?_
          refine RW.store rfl rfl (eff_storeW (v := .agg _) (els := [_]) (els' := [_]) rfl rfl ti29 rfl rfl rfl rfl rfl rfl rfl rfl rfl) ?_
          refine RW.nil ?_
          refine awp_seq ?_
          refine awp_rd [(some 39, []), (some 40, []), (some 41, []), (some 42, []), (some 43, [43]), (some 44, [10027]), (some 45, []), (none, [6])] [[], [0], [], [2], [2, 3], [0, 1, 2, 3, 4], [0, 1, 2, 3, 4, 5], [0, 1, 2, 3, 4, 5, 6]] tm rfl rfl rfl rfl ?_
          refine RD.op rfl rfl rfl (eff_fieldAddr rfl rfl tf29_1 (by decide) rfl rfl rfl (Nat.le_of_ble_eq_true rfl)) ?_
          refine RD.op rfl rfl rfl (eff_load (y := .own _ _ _ _) rfl rfl ti26 rfl (.one rfl rfl rfl rfl)) ?_
          refine RD.op rfl rfl rfl (eff_load rfl rfl ti38 rfl (.whole rfl rfl rfl rfl rfl rfl)) ?_
          refine RD.op rfl rfl rfl (eff_callT (clone39_ret b hb) co39 rfl rfl rfl rfl) ?_
          refine RD.new rfl rfl rfl (eff_buildSliceL (id := 43) (els := [.t (.agg [_, _, _, _, _, _, _, _])]) rfl rfl te26 tz38 rfl (by decide) (by decide) rfl rfl rfl rfl) ?_
          refine RD.new rfl rfl rfl (eff_append (id := 10027) (ys := [_]) rfl rfl ta26 rfl rfl rfl (by simp) rfl rfl (srcOwn rfl rfl rfl rfl rfl rfl) (by simp) (by have h1 := hS.1; have h2 := hS.2.1; have h3 := hS.2.2.1; simp; omega) (by have h1 := hS.1; have h2 := hS.2.1; have h3 := hS.2.2.1; simp; omega)) ?_
          refine RD.op rfl rfl rfl (eff_fieldAddr rfl rfl tf29_1 (by decide) rfl rfl rfl (Nat.le_of_ble_eq_true rfl)) ?_
          refine RD.store rfl rfl rfl (eff_storeA (v := .own _ _ _ _) (ys := [_, _, _, _]) (els := [_]) (els' := [_]) rfl rfl ti26 rfl rfl rfl rfl rfl rfl rfl (Nat.le_of_ble_eq_true rfl) rfl rfl rfl) ?_
          refine RD.nil ?_
          refine awp_seq ?_
          refine awp_rw rfl ?_
          refine RW.op rfl rfl (eff_fieldAddr rfl rfl tf29_3 (by decide) rfl rfl rfl (Nat.le_of_ble_eq_true rfl)) ?_
          refine RW.op rfl rfl (eff_load (y := .own _ _ _ _) rfl rfl ti27 rfl (.one rfl rfl rfl rfl)) ?_
          refine RW.op rfl rfl (eff_fieldAddr rfl rfl tf38_0 (by decide) rfl rfl rfl (Nat.le_of_ble_eq_true rfl)) ?_
          refine RW.op rfl rfl (eff_load (y := .t _) rfl rfl ti3 rfl (.one rfl rfl rfl rfl)) ?_
          refine RW.new rfl rfl (eff_callG (insert47_retG hI S.seen b.id 1 (by have h1 := hS.2.1; have h2 := hS.2.2.1; omega) hsn) co47 (fun id => id + 12005) rfl rfl rfl ⟨.own 0 _ _ _ rfl rfl, .t _, trivial⟩ (RenA.tupL (ds := [_, _]) ⟨.own _ _ _ _ rfl rfl, .t _, trivial⟩) rfl ⟨⟨rfl, treeEls_t, ⟨_, rfl, Nat.lt_succ_self _⟩⟩, trivial⟩ ⟨⟨treeEls_t, .inl rfl⟩, trivial⟩) ?_
          refine RW.op rfl rfl (eff_move (v := .tup _) rfl rfl rfl) ?_
          refine RW.op rfl rfl (eff_extractA rfl rfl rfl rfl) ?_
          refine RW.op rfl rfl (eff_extractA rfl rfl rfl rfl) ?_
          refine RW.op rfl rfl (eff_fieldAddr rfl rfl tf29_3 (by decide) rfl rfl rfl (Nat.le_of_ble_eq_true rfl)) ?_
          refine RW.store rfl rfl (eff_storeA (v := .own _ _ _ _) (ys := [_, _, _, _]) (els := [_]) (els' := [_]) rfl rfl ti27 rfl rfl rfl rfl rfl rfl rfl (Nat.le_of_ble_eq_true rfl) rfl rfl rfl) ?_
          refine RW.nil ?_
          refine awp_seq ?_
          refine awp_rw rfl ?_
          refine RW.op rfl rfl (eff_load rfl rfl ti29 rfl (.whole rfl rfl rfl rfl rfl rfl)) ?_
          refine RW.store rfl rfl (eff_storeW (v := .agg _) (els := [_]) (els' := [_]) rfl rfl ti29 rfl rfl rfl rfl rfl rfl rfl rfl rfl) ?_
          refine RW.op rfl rfl (eff_assign (v := .t _) rfl rfl rfl) ?_
          refine RW.nil ?_
          refine awp_ret ?_
          rw [show create S b = (⟨S.quota, S.bundles ++ [b], S.passed, sortl (S.seen ++ [b.id])⟩, 0) from by unfold create; rw [if_neg (by omega), if_neg h2, if_neg (by omega), if_neg (by omega)]]
          exact ⟨Or.inr rfl, [_, _], ⟨.cell rfl ti29 (.whole rfl rfl rfl rfl rfl rfl) (Res.aggP (xs := [_, _, _, _]) ⟨.t _, Res.ownT (xs := (S.bundles ++ [b]).map encB) rfl rfl (by simp <;> rfl) (by simp), Res.ownT (xs := S.passed.map encI) rfl rfl rfl (by simp), Res.ownT (xs := (sortl (S.seen ++ [b.id])).map encI) rfl rfl (by show List.map AV.t (List.map encI _) = _; rw [if_neg h2, sortl_ins hsn]) (by rw [if_neg h2, sortl_ins hsn]; simp), trivial⟩), .tmp (.t _), trivial⟩, (by repeat' first | exact trivial | exact Wk.refl _ | exact Wk.sl _ | refine And.intro ?_ ?_ | refine Wk.tupP ?_ | refine Wk.aggP ?_)⟩

end Go.Tv.C27

end
section
open Go Go.Tv Go.Proofs
namespace Go.Tv.C27
set_option maxRecDepth 20000
set_option linter.unusedSimpArgs false
set_option linter.unusedVariables false
theorem create_dup {s : Store} {b : Bundle} : (create s b).2 = 4 ↔ b.data.length ≤ 256 ∧ b.id ∈ s.seen := by
  unfold create
  by_cases h1 : 256 < b.data.length
  · rw [if_pos h1]; constructor
    · intro h; simp at h
    · intro h; omega
  · rw [if_neg h1]
    by_cases h2 : b.id ∈ s.seen
    · rw [if_pos h2]; exact ⟨fun _ => ⟨by omega, h2⟩, fun _ => rfl⟩
    · rw [if_neg h2]
      constructor
      · intro h
        split at h
        · simp at h
        · split at h <;> simp at h
      · intro h; exact absurd h.2 h2

theorem accept23_ret (hI : InsC) (S : Store) (b : Bundle) (hS : SOK S) (hb : BOK b) (hsn : S.seen.Pairwise (· < ·)) : Ret Try.prog 23 [encS S, encB b] (.tup [encS (accept S b).1, .bool (accept S b).2.1, encI (accept S b).2.2]) := by
  refine ret_of_awp Try.func23 rfl (Nat.le_of_ble_eq_true rfl) ?_
  refine awp_seq ?_
  refine awp_rw rfl ?_
  refine RW.new rfl rfl (eff_boxK (v := .t _) (k := 4) (id := 2) rfl rfl rfl rfl rfl rfl) ?_
  refine RW.new rfl rfl (eff_boxK (v := .t _) (k := 8) (id := 3) rfl rfl rfl rfl rfl rfl) ?_
  refine RW.new rfl rfl (eff_allocK (k := 4) (id := 4) rfl rfl tz29 rfl rfl) ?_
  refine RW.op rfl rfl (eff_assign (v := .t _) rfl rfl rfl) ?_
  refine RW.op rfl rfl (eff_assign (v := .t _) rfl rfl rfl) ?_
  refine RW.nil ?_
  refine awp_seq ?_
  refine awp_rw rfl ?_
  refine RW.op rfl rfl (eff_load rfl rfl ti29 rfl (.whole rfl rfl rfl rfl rfl rfl)) ?_
  refine RW.op rfl rfl (eff_load rfl rfl ti38 rfl (.whole rfl rfl rfl rfl rfl rfl)) ?_
  refine RW.op rfl rfl (eff_callT (create28_ret hI S b hS hb hsn) co28 rfl rfl rfl rfl) ?_
  refine RW.op rfl rfl (eff_move (v := .t _) rfl rfl rfl) ?_
  refine RW.op rfl rfl (eff_extract rfl rfl rfl rfl) ?_
  refine RW.op rfl rfl (eff_extract rfl rfl rfl rfl) ?_
  refine RW.new rfl rfl (eff_allocK (k := 4) (id := 7) rfl rfl tz29 rfl rfl) ?_
  refine RW.store rfl rfl (eff_storeW (v := .t _) (els := [_]) (els' := [_]) rfl rfl ti29 rfl rfl rfl rfl rfl rfl rfl rfl rfl) ?_
  refine RW.op rfl rfl (eff_assign (v := .t _) rfl rfl rfl) ?_
  refine RW.nil ?_
  refine awp_seq ?_
  refine awp_seq ?_
  refine awp_rw rfl ?_
  refine RW.op rfl rfl (eff_move (v := .t _) rfl rfl rfl) ?_
  refine RW.op rfl rfl (eff_iop rfl rfl rfl rfl rfl) ?_
  refine RW.nil ?_
  refine awp_cond rfl (fun h1 => ?_) (fun h1 => ?_)
  · try simp only [decide_eq_true_eq, decide_eq_false_iff_not, beq_iff_eq, bne_iff_ne, bne_eq_false_iff_eq, beq_eq_false_iff_ne, Bool.not_eq_true, Bool.not_eq_false, Bool.not_eq_true', Bool.not_eq_false', ne_eq] at h1
    refine awp_seq ?_
    refine awp_rw rfl ?_
    refine RW.op rfl rfl (eff_load rfl rfl ti29 rfl (.whole rfl rfl rfl rfl rfl rfl)) ?_
    refine RW.new3 rfl rfl (eff_callG (copied_retG S hS) co43 (fun id => id + 10000) rfl rfl rfl ⟨.t _, trivial⟩ (RenA.aggL (ds := [_, _, _, _]) ⟨.t _, .own _ _ _ _ rfl rfl, .own _ _ _ _ rfl rfl, .own _ _ _ _ rfl rfl, trivial⟩) rfl trivial ⟨⟨treeEls_t, .inr rfl⟩, ⟨treeEls_t, .inr rfl⟩, ⟨treeEls_t, .inr rfl⟩, trivial⟩) ?_
    refine RW.store rfl rfl (eff_storeW (v := .agg _) (els := [_]) (els' := [_]) rfl rfl ti29 rfl rfl rfl rfl rfl rfl rfl rfl rfl) ?_
    refine RW.op rfl rfl (eff_assign (v := .t _) rfl rfl rfl) ?_
    refine RW.op rfl rfl (eff_assign (v := .t _) rfl rfl rfl) ?_
    refine RW.nil ?_
    refine awp_ret ?_
    rw [show accept S b = (S, true, 0) from by unfold accept; rw [if_pos (create_dup.1 h1)]]
    exact ⟨Or.inr rfl, [_, _, _], ⟨.cell rfl ti29 (.whole rfl rfl rfl rfl rfl rfl) (Res.aggP (xs := [_, _, _, _]) ⟨.t _, Res.ownT (xs := S.bundles.map encB) rfl rfl rfl (by simp), Res.ownT (xs := S.passed.map encI) rfl rfl rfl (by simp), Res.ownT (xs := S.seen.map encI) rfl rfl rfl (by simp), trivial⟩), .tmp (.t _), .tmp (.t _), trivial⟩, (by repeat' first | exact trivial | exact Wk.refl _ | exact Wk.sl _ | refine And.intro ?_ ?_ | refine Wk.tupP ?_ | refine Wk.aggP ?_)⟩
  · try simp only [decide_eq_true_eq, decide_eq_false_iff_not, beq_iff_eq, bne_iff_ne, bne_eq_false_iff_eq, beq_eq_false_iff_ne, Bool.not_eq_true, Bool.not_eq_false, Bool.not_eq_true', Bool.not_eq_false', ne_eq] at h1
    refine awp_skip ?_
    refine awp_seq ?_
    refine awp_rw rfl ?_
    refine RW.op rfl rfl (eff_load rfl rfl ti29 rfl (.whole rfl rfl rfl rfl rfl rfl)) ?_
    refine RW.op rfl rfl (eff_move (v := .t _) rfl rfl rfl) ?_
    refine RW.op rfl rfl (eff_iop rfl rfl rfl rfl rfl) ?_
    refine RW.op rfl rfl (eff_move (v := .t _) rfl rfl rfl) ?_
    refine RW.store rfl rfl (eff_storeW (v := .t _) (els := [_]) (els' := [_]) rfl rfl ti29 rfl rfl rfl rfl rfl rfl rfl rfl rfl) ?_
    refine RW.op rfl rfl (eff_assign (v := .t _) rfl rfl rfl) ?_
    refine RW.op rfl rfl (eff_assign (v := .t _) rfl rfl rfl) ?_
    refine RW.nil ?_
    refine awp_ret ?_
    rw [show accept S b = ((create S b).1, decide ((create S b).2 = 0), (create S b).2) from by unfold accept; rw [if_neg (fun h => h1 (create_dup.2 h))]]
    exact ⟨Or.inr rfl, [_, _, _], ⟨.cell rfl ti29 (.whole rfl rfl rfl rfl rfl rfl) (.t _), .tmp (.t _), .tmp (.t _), trivial⟩, (by repeat' first | exact trivial | exact Wk.refl _ | exact Wk.sl _ | refine And.intro ?_ ?_ | refine Wk.tupP ?_ | refine Wk.aggP ?_)⟩

theorem pass26_ret (hI : InsC) (S : Store) (n : Int) (hS : SOK S) (hp : S.passed.Pairwise (· < ·)) : Ret Try.prog 26 [encS S, encI n] (.tup [encS (pass S n).1, encI (pass S n).2]) := by
  refine ret_of_awp Try.func26 rfl (Nat.le_of_ble_eq_true rfl) ?_
  refine awp_seq ?_
  refine awp_rw rfl ?_
  refine RW.new rfl rfl (eff_boxK (v := .t _) (k := 4) (id := 2) rfl rfl rfl rfl rfl rfl) ?_
  refine RW.new rfl rfl (eff_allocK (k := 4) (id := 4) rfl rfl tz29 rfl rfl) ?_
  refine RW.op rfl rfl (eff_assign (v := .t _) rfl rfl rfl) ?_
  refine RW.nil ?_
  refine awp_seq ?_
  refine awp_seq ?_
  refine awp_rw rfl ?_
  refine RW.op rfl rfl (eff_load rfl rfl ti29 rfl (.whole rfl rfl rfl rfl rfl rfl)) ?_
  refine RW.op rfl rfl (eff_move (v := .t _) rfl rfl rfl) ?_
  refine RW.op rfl rfl (eff_callT (find44_ret S n hS) co44 rfl rfl rfl rfl) ?_
  refine RW.op rfl rfl (eff_iop rfl rfl rfl rfl rfl) ?_
  refine RW.nil ?_
  refine awp_cond rfl (fun h1 => ?_) (fun h1 => ?_)
  · try simp only [decide_eq_true_eq, decide_eq_false_iff_not, beq_iff_eq, bne_iff_ne, bne_eq_false_iff_eq, beq_eq_false_iff_ne, Bool.not_eq_true, Bool.not_eq_false, Bool.not_eq_true', Bool.not_eq_false', ne_eq] at h1
    refine awp_seq ?_
    refine awp_rw rfl ?_
    refine RW.op rfl rfl (eff_buildT (ys := [_, _, _, _]) rfl rfl tz29 tg29 rfl) ?_
    refine RW.store rfl rfl (eff_storeW (v := .t _) (els := [_]) (els' := [_]) rfl rfl ti29 rfl rfl rfl rfl rfl rfl rfl rfl rfl) ?_
    refine RW.op rfl rfl (eff_assign (v := .t _) rfl rfl rfl) ?_
    refine RW.nil ?_
    refine awp_ret ?_
    rw [show pass S n = (zs, 3) from by unfold pass; rw [if_pos h1]]
    exact ⟨Or.inr rfl, [_, _], ⟨.cell rfl ti29 (.whole rfl rfl rfl rfl rfl rfl) (.t _), .tmp (.t _), trivial⟩, (by repeat' first | exact trivial | exact Wk.refl _ | exact Wk.sl _ | refine And.intro ?_ ?_ | refine Wk.tupP ?_ | refine Wk.aggP ?_)⟩
  · try simp only [decide_eq_true_eq, decide_eq_false_iff_not, beq_iff_eq, bne_iff_ne, bne_eq_false_iff_eq, beq_eq_false_iff_ne, Bool.not_eq_true, Bool.not_eq_false, Bool.not_eq_true', Bool.not_eq_false', ne_eq] at h1
    refine awp_skip ?_
    refine awp_seq ?_
    refine awp_rw rfl ?_
    refine RW.op rfl rfl (eff_load rfl rfl ti29 rfl (.whole rfl rfl rfl rfl rfl rfl)) ?_
    refine RW.new3 rfl rfl (eff_callG (copied_retG S hS) co43 (fun id => id + 10000) rfl rfl rfl ⟨.t _, trivial⟩ (RenA.aggL (ds := [_, _, _, _]) ⟨.t _, .own _ _ _ _ rfl rfl, .own _ _ _ _ rfl rfl, .own _ _ _ _ rfl rfl, trivial⟩) rfl trivial ⟨⟨treeEls_t, .inr rfl⟩, ⟨treeEls_t, .inr rfl⟩, ⟨treeEls_t, .inr rfl⟩, trivial⟩) ?_
    refine RW.new rfl rfl (eff_allocK (k := 4) (id := 6) rfl rfl tz29 rfl rfl) ?_
    refine RW.store rfl rfl (eff_storeW (v := .agg _) (els := [_]) (els' := [_]) rfl rfl ti29 rfl rfl rfl rfl rfl rfl rfl rfl rfl) ?_
    refine RW.nil ?_
    refine awp_seq ?_
    refine awp_rw rfl ?_
    refine RW.op rfl rfl (eff_assign (v := .t _) rfl rfl rfl) ?_
    refine RW.nil ?_
    refine awp_seq ?_
    refine awp_seq ?_
    refine awp_rw rfl ?_
    refine RW.op rfl rfl (eff_fieldAddr rfl rfl tf29_2 (by decide) rfl rfl rfl (Nat.le_of_ble_eq_true rfl)) ?_
    refine RW.op rfl rfl (eff_load (y := .own _ _ _ _) rfl rfl ti27 rfl (.one rfl rfl rfl rfl)) ?_
    refine RW.op rfl rfl (eff_move (v := .t _) rfl rfl rfl) ?_
    refine RW.new rfl rfl (eff_callG (insert47_retG hI S.passed n 1 (by have h1 := hS.2.1; have h2 := hS.2.2.1; omega) hp) co47 (fun id => id + 11005) rfl rfl rfl ⟨.own 0 _ _ _ rfl rfl, .t _, trivial⟩ (RenA.tupL (ds := [_, _]) ⟨.own _ _ _ _ rfl rfl, .t _, trivial⟩) rfl ⟨⟨rfl, treeEls_t, ⟨_, rfl, Nat.lt_succ_self _⟩⟩, trivial⟩ ⟨⟨treeEls_t, .inl rfl⟩, trivial⟩) ?_
    refine RW.op rfl rfl (eff_move (v := .tup _) rfl rfl rfl) ?_
    refine RW.op rfl rfl (eff_extractA rfl rfl rfl rfl) ?_
    refine RW.op rfl rfl (eff_extractA rfl rfl rfl rfl) ?_
    refine RW.op rfl rfl (eff_fieldAddr rfl rfl tf29_2 (by decide) rfl rfl rfl (Nat.le_of_ble_eq_true rfl)) ?_
    refine RW.store rfl rfl (eff_storeA (v := .own _ _ _ _) (ys := [_, _, _, _]) (els := [_]) (els' := [_]) rfl rfl ti27 rfl rfl rfl rfl rfl rfl rfl (Nat.le_of_ble_eq_true rfl) rfl rfl rfl) ?_
    refine RW.op rfl rfl (eff_assign (v := .t _) rfl rfl rfl) ?_
    refine RW.nil ?_
    refine awp_seq ?_
    refine awp_rw rfl ?_
    refine RW.op rfl rfl (eff_move (v := .t _) rfl rfl rfl) ?_
    refine RW.op rfl rfl (eff_unop rfl rfl rfl rfl) ?_
    refine RW.nil ?_
    refine awp_cond rfl (fun h2 => ?_) (fun h2 => ?_)
    · try simp only [decide_eq_true_eq, decide_eq_false_iff_not, beq_iff_eq, bne_iff_ne, bne_eq_false_iff_eq, beq_eq_false_iff_ne, Bool.not_eq_true, Bool.not_eq_false, Bool.not_eq_true', Bool.not_eq_false', ne_eq] at h2
      refine awp_seq ?_
      refine awp_rw rfl ?_
      refine RW.op rfl rfl (eff_buildT (ys := [_, _, _, _]) rfl rfl tz29 tg29 rfl) ?_
      refine RW.store rfl rfl (eff_storeW (v := .t _) (els := [_]) (els' := [_]) rfl rfl ti29 rfl rfl rfl rfl rfl rfl rfl rfl rfl) ?_
      refine RW.op rfl rfl (eff_assign (v := .t _) rfl rfl rfl) ?_
      refine RW.nil ?_
      refine awp_ret ?_
      rw [show pass S n = (zs, 44) from by unfold pass; rw [if_neg h1, if_pos (by simpa using h2)]]
      exact ⟨Or.inr rfl, [_, _], ⟨.cell rfl ti29 (.whole rfl rfl rfl rfl rfl rfl) (.t _), .tmp (.t _), trivial⟩, (by repeat' first | exact trivial | exact Wk.refl _ | exact Wk.sl _ | refine And.intro ?_ ?_ | refine Wk.tupP ?_ | refine Wk.aggP ?_)⟩
    · try simp only [decide_eq_true_eq, decide_eq_false_iff_not, beq_iff_eq, bne_iff_ne, bne_eq_false_iff_eq, beq_eq_false_iff_ne, Bool.not_eq_true, Bool.not_eq_false, Bool.not_eq_true', Bool.not_eq_false', ne_eq] at h2
      refine awp_skip ?_
      refine awp_seq ?_
      refine awp_rw rfl ?_
      refine RW.op rfl rfl (eff_load rfl rfl ti29 rfl (.whole rfl rfl rfl rfl rfl rfl)) ?_
      refine RW.store rfl rfl (eff_storeW (v := .agg _) (els := [_]) (els' := [_]) rfl rfl ti29 rfl rfl rfl rfl rfl rfl rfl rfl rfl) ?_
      refine RW.op rfl rfl (eff_assign (v := .t _) rfl rfl rfl) ?_
      refine RW.nil ?_
      refine awp_ret ?_
      have hx : n ∉ S.passed := by simpa using h2
      rw [show pass S n = (⟨S.quota, S.bundles, sortl (S.passed ++ [n]), S.seen⟩, 0) from by unfold pass; rw [if_neg h1, if_neg hx]]
      exact ⟨Or.inr rfl, [_, _], ⟨.cell rfl ti29 (.whole rfl rfl rfl rfl rfl rfl) (Res.aggP (xs := [_, _, _, _]) ⟨.t _, Res.ownT (xs := S.bundles.map encB) rfl rfl rfl (by simp), Res.ownT (xs := (sortl (S.passed ++ [n])).map encI) rfl rfl (by show List.map AV.t (List.map encI _) = _; rw [if_neg hx, sortl_ins hp]) (by rw [if_neg hx, sortl_ins hp]; simp), Res.ownT (xs := S.seen.map encI) rfl rfl rfl (by simp), trivial⟩), .tmp (.t _), trivial⟩, (by repeat' first | exact trivial | exact Wk.refl _ | exact Wk.sl _ | refine And.intro ?_ ?_ | refine Wk.tupP ?_ | refine Wk.aggP ?_)⟩

end Go.Tv.C27

end
section
open Go Go.Tv Go.Proofs
namespace Go.Tv.C27
set_option linter.unusedSimpArgs false
set_option linter.unusedVariables false

set_option maxHeartbeats 4000000 in
set_option maxRecDepth 100000 in
theorem ins_shift (b n c i vb vc : Nat) (ca cv : Array Value) (vs : List Value) (w : World) (hi : i < n) (hroom : n + 1 ≤ c) (hn63 : n + 1 ≤ 9223372036854775807) (hvb : vb ≠ b)
    (hB : w.heap[b]? = some (.cells ca 3 (0, 0))) (hV : w.heap[vb]? = some (.cells cv 3 (0, 0))) (hcs : c * 1 ≤ ca.size) (hvl : vs.length = 1)
    (hvs : ∀ (j : Nat) v, vs[j]? = some v → w.cell? ⟨vb, 0 + j, none⟩ = some v)
    (h1c : ∀ (j : Nat) v, j < n * 1 → ca[j]? = some v → v.oneCell' = true) (h1v : ∀ v, v ∈ vs → v.oneCell' = true) :
    Calls Try.prog 60 #[.slice (some ⟨b, 0, none⟩) n c, .int .i64 i, .slice (some ⟨vb, 0, none⟩) 1 vc] w fun e w' =>
      e = .returned (.slice (some ⟨b, 0, none⟩) (n + 1) c) ∧
      w' = setB w.drew b (.cells (writeAt (writeAt ca ((i + 1) * 1) ((ca.toList.drop (i * 1)).take ((n - i) * 1))) (i * 1) vs) 3 (0, 0)) := by
  have hk : elemOf Try.prog 27 = some (3, 1, false) := te27
  have hz1 : ¬ ((i : Int) = (n : Int)) := by omega
  have hzz : ¬ (n = i) := by omega
  have hov : ∀ lb cb, (callFunc 63 #[.slice (some ⟨vb, 0, none⟩) 1 vc, .slice (some ⟨b, (i + 1), none⟩) lb cb]).run Try.prog w = .ok (.value (.bool false)) w := fun lb cb => by
    rw [run_callFunc_extern (f := 63) (fn := Try.f63) (by kernel_rfl) (by kernel_rfl) (by kernel_rfl) (by kernel_rfl) (e := Extern.SlicesOverlaps.overlaps #[27, 27] #[4]) (by kernel_rfl),
      Lib.run_overlaps_apart w 27 4 3 Try.underlying27 1 Try.sizeOf3 ⟨vb, 0, none⟩ ⟨b, (i + 1), none⟩ 1 vc lb cb hvb 3 3 cv.size ca.size (by simp [World.shape?, hV]) (by simp [World.shape?, hB]) (by omega) (by simp [World.frozen?, hV]) (by simp [World.frozen?, hV])]
    rfl
  have mixed : Try.prog.follows .mixedOrders = true := tm
  have hw1 : IntKind.i64.wrap ((i : Int) + 1) = (i : Int) + 1 := by rw [IntKind.wrap_i64]; omega
  have hb1 : (0 : Int) ≤ (i : Int) + 1 := by omega
  have hin : i ≤ n := by omega
  have htn : ((i : Int) + 1).toNat = i + 1 := by omega
  have hb2 : ¬ (c = i + 1) := by omega
  have hb3 : (i : Int) ≤ (n : Int) + 1 := by omega
  have hb4 : ¬ (c = i) := by omega
  have hd1 : w.drew.heap[b]? = some (.cells ca 3 (0, 0)) := hB
  obtain ⟨vs1, hvs1⟩ : ∃ vs1, vs1 = (ca.toList.drop (i * 1)).take ((n - i) * 1) := ⟨_, rfl⟩
  have hl1 : vs1.length = (n - i) * 1 := by rw [hvs1, List.length_take, List.length_drop, Array.length_toList]; omega
  have hg1 : ∀ (j : Nat) v, vs1[j]? = some v → ca[i * 1 + j]? = some v ∧ j < (n - i) * 1 := by
    intro j v hj
    have hjl : j < (n - i) * 1 := by rw [← hl1]; exact (List.getElem?_eq_some_iff.1 hj).1
    rw [hvs1, List.getElem?_take, if_pos hjl, List.getElem?_drop, Array.getElem?_toList] at hj
    exact ⟨hj, hjl⟩
  have hcp1 : ∀ ty dc sc, (Builtin.copy_ #[27, 27] ty #[.slice (some ⟨b, (i + 1), none⟩) (n - i) dc, .slice (some ⟨b, i, none⟩) (n + 1 - i) sc]).run Try.prog w.drew =
      .ok (goInt (n - i : Nat)) (setB w.drew b (.cells (writeAt ca ((i + 1)) vs1) 3 (0, 0))) := fun ty dc sc =>
    run_copyK hk hd1 vs1 (by simp only [Nat.min_def]; split <;> omega) hl1
      (fun j v hj => by rw [cell_of_heap hd1]; have h := (hg1 j v hj).1; simpa using h) (fun v hv => by
        obtain ⟨j, hj⟩ := List.mem_iff_getElem?.1 hv
        obtain ⟨h1, h2⟩ := hg1 j v hj
        exact h1c _ v (by omega) h1) (by rw [hl1]; omega)
  obtain ⟨W1, hW1⟩ : ∃ W1, W1 = setB w.drew b (.cells (writeAt ca ((i + 1)) vs1) 3 (0, 0)) := ⟨_, rfl⟩
  have hH1 : W1.heap[b]? = some (.cells (writeAt ca ((i + 1)) vs1) 3 (0, 0)) := by rw [hW1]; exact setB_same _ (lt_of_heap hd1)
  have hcp2 : ∀ ty dc, (Builtin.copy_ #[27, 27] ty #[.slice (some ⟨b, i, none⟩) (n + 1 - i) dc, .slice (some ⟨vb, 0, none⟩) 1 vc]).run Try.prog W1 =
      .ok (goInt (1 : Nat)) (setB W1 b (.cells (writeAt (writeAt ca ((i + 1)) vs1) (i) vs) 3 (0, 0))) := fun ty dc =>
    run_copyK hk hH1 vs (by simp only [Nat.min_def]; split <;> omega) (by rw [hvl])
      (fun j v hj => by
        have h := hvs j v hj
        rw [cell_of_heap hV] at h
        rw [cell_of_heap (w := W1) (c := cv) (ty := 3) (fz := (0, 0)) (by rw [hW1, setB_ne _ hvb]; exact hV)]
        exact h)
      h1v (by rw [writeAt_size, hvl]; omega)
  rw [hW1] at hcp2
  have hfin : setB W1 b (.cells (writeAt (writeAt ca ((i + 1)) vs1) (i) vs) 3 (0, 0)) = setB w.drew b (.cells (writeAt (writeAt ca ((i + 1) * 1) ((ca.toList.drop (i * 1)).take ((n - i) * 1))) (i * 1) vs) 3 (0, 0)) := by
    rw [hW1, setB_setB, hvs1]
    simp only [Nat.mul_one]
  rw [← hfin]
  rw [hW1]
  clear hW1 hfin hvs1 hl1 hg1 hd1 hH1 hk hB hV hvs h1c h1v
  go_enter Try.func60, Try.ntmps60
  go_wp2_with (simp only [hov])
  go_region_law_o (refine step_copy_runI rfl _ _ 27 27 rfl _ _ (by simp [Act.eval, Act.put]) (by simp [Act.eval, Act.put]) (hcp1 _ _ _) ?_)
  go_wp2_with (at_builtin; refine wpList_copy_runI _ rfl _ _ 27 27 rfl _ _ rfl rfl (hcp2 _ _) ?_)
  go_ret
  exact ⟨rfl, rfl⟩
set_option maxHeartbeats 4000000 in
set_option maxRecDepth 100000 in
theorem ins_grow (b n c i vb vc : Nat) (ca cv : Array Value) (vs : List Value) (w : World) (hi : i < n) (hnc : n ≤ c) (hroom : c < n + 1) (hvb : vb ≠ b) (hbig : (n + 1) * 8 ≤ 140737488355328)
    (hB : w.heap[b]? = some (.cells ca 3 (0, 0))) (hV : w.heap[vb]? = some (.cells cv 3 (0, 0))) (hcs : n * 1 ≤ ca.size) (hvl : vs.length = 1)
    (hvs : ∀ (j : Nat) v, vs[j]? = some v → w.cell? ⟨vb, 0 + j, none⟩ = some v)
    (h1c : ∀ (j : Nat) v, j < n * 1 → ca[j]? = some v → v.oneCell' = true) (h1v : ∀ v, v ∈ vs → v.oneCell' = true) :
    Calls Try.prog 60 #[.slice (some ⟨b, 0, none⟩) n c, .int .i64 i, .slice (some ⟨vb, 0, none⟩) 1 vc] w fun e w' => ∃ G rest, n + 1 ≤ G ∧ rest.size = (G - (n + 1)) * 1 ∧
      e = .returned (.slice (some ⟨w.heap.size, 0, none⟩) (n + 1) G) ∧
      w' = w.drew.drew.alloc (.cells ((ca.toList.take (i * 1)).toArray ++ vs.toArray ++ ((ca.toList.drop (i * 1)).take ((n - i) * 1)).toArray ++ rest) 3) := by
  have hk : elemOf Try.prog 27 = some (3, 1, false) := te27
  have hz1 : ¬ ((i : Int) = (n : Int)) := by omega
  have hzz : ¬ (n = i) := by omega
  have hz3 : (c : Int) < (n : Int) + 1 := by omega
  have hkk : (n : Int) + 1 - (i : Int) = ((n + 1 - i : Nat) : Int) := by omega
  have hik : i + (n + 1 - i) = n + 1 := by omega
  have mixed : Try.prog.follows .mixedOrders = true := tm
  have hbw : b < w.heap.size := lt_of_heap hB
  have hvw : vb < w.heap.size := lt_of_heap hV
  obtain ⟨i0, z, hi0, hz0, hzs, hzb, hzz0⟩ := ins_info tz3 ti3 tb3
  obtain ⟨vs0, hvs0⟩ : ∃ vs0, vs0 = ca.toList.take (i * 1) := ⟨_, rfl⟩
  have hl0 : vs0.length = i * 1 := by rw [hvs0, List.length_take, Array.length_toList]; omega
  obtain ⟨vs1, hvs1⟩ : ∃ vs1, vs1 = (ca.toList.drop (i * 1)).take ((n - i) * 1) := ⟨_, rfl⟩
  have hl1 : vs1.length = (n - i) * 1 := by rw [hvs1, List.length_take, List.length_drop, Array.length_toList]; omega
  have hg0 : ∀ (j : Nat) v, vs0[j]? = some v → ca[j]? = some v := by
    intro j v hj
    have hjl : j < i * 1 := by rw [← hl0]; exact (List.getElem?_eq_some_iff.1 hj).1
    rw [hvs0, List.getElem?_take, if_pos hjl, Array.getElem?_toList] at hj
    exact hj
  have hg1 : ∀ (j : Nat) v, vs1[j]? = some v → ca[i * 1 + j]? = some v ∧ j < (n - i) * 1 := by
    intro j v hj
    have hjl : j < (n - i) * 1 := by rw [← hl1]; exact (List.getElem?_eq_some_iff.1 hj).1
    rw [hvs1, List.getElem?_take, if_pos hjl, List.getElem?_drop, Array.getElem?_toList] at hj
    exact ⟨hj, hjl⟩
  have hd1 : w.drew.heap[b]? = some (.cells ca 3 (0, 0)) := hB
  have hold : (Builtin.firstCells i0.size i (.slice (some ⟨b, 0, none⟩) i c)).run Try.prog w.drew = .ok vs0.toArray w.drew := by
    rw [hzs]
    have := run_loadCells_list (P := Try.prog) (w := w.drew) (b := b) (o := 0) vs0 (fun j v hj => by rw [cell_of_heap hd1]; simpa using hg0 j v hj)
    rw [hl0] at this
    exact this
  obtain ⟨G, hG⟩ : ∃ G, G = grownCap w (n + 1) c 3 := ⟨_, rfl⟩
  obtain ⟨Z, hZ⟩ : ∃ Z, Z = Builtin.zeroCells z.cells (n + 1 - i) := ⟨_, rfl⟩
  obtain ⟨R, hR⟩ : ∃ R, R = Builtin.zeroCells z.cells (G - (n + 1)) := ⟨_, rfl⟩
  obtain ⟨row, hrow⟩ : ∃ row, row = vs0.toArray ++ Z ++ R := ⟨_, rfl⟩
  have hZs : Z.size = (n + 1 - i) * 1 := by rw [hZ]; simp [Builtin.zeroCells, hzb]
  have hRs : R.size = (G - (n + 1)) * 1 := by rw [hR]; simp [Builtin.zeroCells, hzb]
  have hrz : ∀ ty, (Builtin.append_ #[27, 3] ty #[.slice (some ⟨b, 0, none⟩) i c, .int .i64 ((n : Int) + 1 - (i : Int))]).run Try.prog w =
      .ok (.slice (some ⟨w.heap.size, 0, none⟩) (n + 1) G) (w.drew.alloc (.cells row 3)) := fun ty => by
    have h := Lib.run_append_grow_zeros w 27 3 ty 3 i0 z .i64 .i64 Try.underlying27 Try.underlying3 hi0 hz0 (some ⟨b, 0, none⟩) i c vs0 hold (n + 1 - i) (by omega) (by omega) (by omega) (by omega) (by rw [hzz0]; omega) (by rw [hzz0, hik]; exact growslice_fits hroom hbig)
    rw [hik] at h
    rw [hkk]
    rw [h, hrow, hZ, hR, hG]
  have hGn : n + 1 ≤ G := by rw [hG]; exact grownCap_ge w _ _ _
  have hG63 : G ≤ 9223372036854775807 := by
    have := grownCap_le_maxLen w (n + 1) c 3 (by unfold maxLen; omega)
    rw [← hG] at this
    unfold maxLen at this
    omega
  have hrs : row.size = i * 1 + (n + 1 - i) * 1 + (G - (n + 1)) * 1 := by rw [hrow, Array.size_append, Array.size_append, hZs, hRs, List.size_toArray, hl0]
  obtain ⟨N, hN⟩ : ∃ N, N = w.heap.size := ⟨_, rfl⟩
  have hA : (w.drew.alloc (.cells row 3)).heap[N]? = some (.cells row 3 (0, 0)) := by rw [hN]; show (w.heap.push _)[w.heap.size]? = _; exact Array.getElem?_push_size
  have hbN : b ≠ N := by omega
  have hvN : vb ≠ N := by omega
  have hold2 : ∀ (r : Array Value) (x : Nat), x < w.heap.size → (setB (w.drew.alloc (.cells row 3)) N (.cells r 3 (0, 0))).drew.heap[x]? = w.heap[x]? := fun r x hx => by
    show (setB (w.drew.alloc (.cells row 3)) N (.cells r 3 (0, 0))).heap[x]? = w.heap[x]?
    rw [setB_ne _ (by omega)]
    exact Array.getElem?_push_lt hx |>.trans (Array.getElem?_eq_getElem hx).symm
  have hcpA : ∀ ty dc, (Builtin.copy_ #[27, 27] ty #[.slice (some ⟨N, i, none⟩) (n + 1 - i) dc, .slice (some ⟨vb, 0, none⟩) 1 vc]).run Try.prog (w.drew.alloc (.cells row 3)) =
      .ok (goInt (1 : Nat)) (setB (w.drew.alloc (.cells row 3)) N (.cells (writeAt row (i) vs) 3 (0, 0))) := fun ty dc =>
    run_copyK hk hA vs (by simp only [Nat.min_def]; split <;> omega) (by rw [hvl])
      (fun j v hj => by
        have h := hvs j v hj
        rw [cell_of_heap hV] at h
        rw [cell_of_heap (c := cv) (ty := 3) (fz := (0, 0)) ((Array.getElem?_push_lt hvw).trans ((Array.getElem?_eq_getElem hvw).symm.trans hV))]
        exact h)
      h1v (by rw [hvl]; omega)
  have hH1 : (setB (w.drew.alloc (.cells row 3)) N (.cells (writeAt row (i) vs) 3 (0, 0))).drew.heap[N]? = some (.cells (writeAt row (i) vs) 3 (0, 0)) := setB_same _ (lt_of_heap hA)
  have hcpB : ∀ ty dc sc, (Builtin.copy_ #[27, 27] ty #[.slice (some ⟨N, (i + 1), none⟩) (n - i) dc, .slice (some ⟨b, i, none⟩) (n - i) sc]).run Try.prog (setB (w.drew.alloc (.cells row 3)) N (.cells (writeAt row (i) vs) 3 (0, 0))).drew =
      .ok (goInt (n - i : Nat)) (setB (setB (w.drew.alloc (.cells row 3)) N (.cells (writeAt row (i) vs) 3 (0, 0))).drew N (.cells (writeAt (writeAt row (i) vs) ((i + 1)) vs1) 3 (0, 0))) := fun ty dc sc =>
    run_copyK hk hH1 vs1 (by simp only [Nat.min_def]; split <;> omega) hl1
      (fun j v hj => by
        rw [cell_of_heap (c := ca) (ty := 3) (fz := (0, 0)) ((hold2 _ b hbw).trans hB)]
        have h := (hg1 j v hj).1; simpa using h)
      (fun v hv => by
        obtain ⟨j, hj⟩ := List.mem_iff_getElem?.1 hv
        obtain ⟨h1, h2⟩ := hg1 j v hj
        exact h1c _ v (by omega) h1) (by rw [writeAt_size, hl1, hrs]; omega)
  have hfin : setB (setB (w.drew.alloc (.cells row 3)) N (.cells (writeAt row (i) vs) 3 (0, 0))).drew N (.cells (writeAt (writeAt row (i) vs) ((i + 1)) vs1) 3 (0, 0)) =
      w.drew.drew.alloc (.cells (vs0.toArray ++ vs.toArray ++ vs1.toArray ++ R) 3) := by
    rw [hrow, hN]
    exact ins_world w 3 vs0 vs vs1 Z R (by omega) (by omega) (by rw [hZs, hvl, hl1]; omega)
  have hpost : ∀ (e : Ending) (w' : World), (e = .returned (.slice (some ⟨N, 0, none⟩) (n + 1) G) ∧ w' = setB (setB (w.drew.alloc (.cells row 3)) N (.cells (writeAt row (i) vs) 3 (0, 0))).drew N (.cells (writeAt (writeAt row (i) vs) ((i + 1)) vs1) 3 (0, 0))) →
      ∃ G rest, n + 1 ≤ G ∧ rest.size = (G - (n + 1)) * 1 ∧ e = .returned (.slice (some ⟨w.heap.size, 0, none⟩) (n + 1) G) ∧
      w' = w.drew.drew.alloc (.cells ((ca.toList.take (i * 1)).toArray ++ vs.toArray ++ ((ca.toList.drop (i * 1)).take ((n - i) * 1)).toArray ++ rest) 3) := by
    rintro e w' ⟨rfl, rfl⟩
    exact ⟨G, R, hGn, hRs, by rw [hN], by rw [hfin, hvs0, hvs1]⟩
  refine Calls.mono ?_ hpost
  rw [← hN] at hrz
  have hGi : ¬ (G = i) := by omega
  have hGim : ¬ (G = i + 1) := by omega
  have hci : ¬ (c = i) := by omega
  have hw1 : IntKind.i64.wrap ((i : Int) + 1) = (i : Int) + 1 := by rw [IntKind.wrap_i64]; omega
  have hb1 : (0 : Int) ≤ (i : Int) + 1 := by omega
  have hin : i ≤ n := by omega
  have htn : ((i : Int) + 1).toNat = i + 1 := by omega
  have hb3 : (i : Int) ≤ (n : Int) := by omega
  have hcpA2 : ∀ ty dc, (Builtin.copy_ #[27, 27] ty #[.slice (some ⟨N, i, none⟩) (n + 1 - i) dc, .slice (some ⟨vb, 0, none⟩) 1 vc]).run Try.prog (w.alloc (.cells row 3)).drew =
      .ok (goInt (1 : Nat)) (setB (w.alloc (.cells row 3)).drew N (.cells (writeAt row (i) vs) 3 (0, 0))) := hcpA
  have hcpB2 : ∀ ty dc sc, (Builtin.copy_ #[27, 27] ty #[.slice (some ⟨N, (i + 1), none⟩) (n - i) dc, .slice (some ⟨b, i, none⟩) (n - i) sc]).run Try.prog (setB (w.alloc (.cells row 3)).drew N (.cells (writeAt row (i) vs) 3 (0, 0))).drew =
      .ok (goInt (n - i : Nat)) (setB (setB (w.alloc (.cells row 3)).drew N (.cells (writeAt row (i) vs) 3 (0, 0))).drew N (.cells (writeAt (writeAt row (i) vs) ((i + 1)) vs1) 3 (0, 0))) := hcpB
  clear hcpA hcpB hpost hfin hold2 hH1 hbN hvN hA hN hrs hRs hZs hrow hR hZ hG hold hd1 hg1 hg0 hl1 hvs1 hl0 hvs0 hzz0 hzb hzs hz0 hi0 hkk hik hk hB hV hvs h1c h1v hbw hvw hcs hvl hvb
  go_enter Try.func60, Try.ntmps60
  go_wp2_with (first
    | (at_builtin; refine Lib.wpList_append_run _ rfl _ _ _ _ rfl _ _ rfl rfl _ _ (hrz _) ?_)
    | (at_builtin; refine wpList_copy_runI _ rfl _ _ 27 27 rfl _ _ rfl rfl (hcpA2 _ _) ?_))
  go_region_law_o (refine step_copy_runI rfl _ _ 27 27 rfl _ _ (by simp [Act.eval, Act.put]) (by simp [Act.eval, Act.put]) (hcpB2 _ _ _) ?_)
  go_wp2
  go_ret
  exact ⟨rfl, rfl⟩
end Go.Tv.C27

end
section
open Go Go.Tv Go.Proofs
namespace Go.Tv.C27
set_option maxRecDepth 20000
set_option linter.unusedSimpArgs false
set_option linter.unusedVariables false
theorem insEnd_retG (l : List Int) (g : Nat) (x : Int) (hl : l.length ≤ 1000000) : RetG Try.prog 60 [(0, some ⟨1, 3, g, (l.map encI).map .t⟩), (1, some ⟨1, 3, 0, [.t (encI x)]⟩)] [.own 0 g 0 l.length, .t (.int .i64 (l.length : Nat)), .own 1 0 0 1] [(0, some ⟨1, 3, g + 1, ((l ++ [x]).map encI).map .t⟩), (1, some ⟨1, 3, 1, [.t (encI x)]⟩)] (.own 0 (g + 1) 0 (l.length + 1)) := by
  refine retG_of_awp Try.func60 rfl (Nat.le_of_ble_eq_true rfl) ?_
  refine awp_seq ?_
  refine awp_rw rfl ?_
  refine RW.op rfl rfl (eff_assign (v := .t _) rfl rfl rfl) ?_
  refine RW.nil ?_
  refine awp_seq ?_
  refine awp_rw rfl ?_
  refine RW.op rfl rfl (eff_move (v := .own _ _ _ _) rfl rfl rfl) ?_
  refine RW.op rfl rfl (eff_move (v := .t _) rfl rfl rfl) ?_
  refine RW.op rfl rfl (eff_slice (l := some l.length) (h := none) rfl rfl te27 rfl rfl rfl rfl (.yes rfl rfl) .no (by simp) (by simp)) ?_
  refine RW.nil ?_
  refine awp_seq ?_
  refine awp_rw rfl ?_
  refine RW.op rfl rfl (eff_move (v := .own _ _ _ _) rfl rfl rfl) ?_
  refine RW.op rfl rfl (eff_len rfl rfl te27 rfl rfl rfl) ?_
  refine RW.op rfl rfl (eff_assign (v := .t _) rfl rfl rfl) ?_
  refine RW.nil ?_
  refine awp_seq ?_
  refine awp_seq ?_
  refine awp_rw rfl ?_
  refine RW.op rfl rfl (eff_move (v := .t _) rfl rfl rfl) ?_
  refine RW.op rfl rfl (eff_iop (r := .bool false) rfl rfl rfl rfl (by rfl)) ?_
  refine RW.nil ?_
  refine awp_cond rfl (fun h => nomatch h) (fun _ => ?_)
  refine awp_skip ?_
  refine awp_seq ?_
  refine awp_rw rfl ?_
  refine RW.op rfl rfl (eff_move (v := .own _ _ _ _) rfl rfl rfl) ?_
  refine RW.op rfl rfl (eff_len rfl rfl te27 rfl rfl rfl) ?_
  refine RW.op rfl rfl (eff_assign (v := .t _) rfl rfl rfl) ?_
  refine RW.nil ?_
  refine awp_seq ?_
  refine awp_seq ?_
  refine awp_rw rfl ?_
  refine RW.op rfl rfl (eff_move (v := .t _) rfl rfl rfl) ?_
  refine RW.op rfl rfl (eff_move (v := .t _) rfl rfl rfl) ?_
  refine RW.op rfl rfl (eff_iop (r := .bool true) rfl rfl rfl rfl (by simp [iop])) ?_
  refine RW.nil ?_
  refine awp_cond rfl (fun _ => ?_) (fun h => nomatch h)
  refine awp_seq ?_
  refine awp_rw rfl ?_
  refine RW.op rfl rfl (eff_move (v := .own _ _ _ _) rfl rfl rfl) ?_
  refine RW.op rfl rfl (eff_move (v := .own _ _ _ _) rfl rfl rfl) ?_
  refine RW.new rfl rfl (eff_appendAny (id := 0) (ys := [.t (encI x)]) rfl rfl ta27 rfl rfl rfl (by simp) rfl rfl (srcOwn rfl rfl rfl rfl rfl rfl) (by simp; omega) (by simp; omega)) ?_
  refine RW.op rfl rfl (eff_assign (v := .own _ _ _ _) rfl rfl rfl) ?_
  refine RW.nil ?_
  show AWP _ _ _ _
  refine awp_weak (weak_bumpS (d := 2) (id := 1) (off := 0) (len := 1) 1 rfl rfl (by decide)) ?_
  refine awp_ret ?_
  exact ⟨Or.inr rfl, [_], [.own 0 (g + 1) 0 (l.length + 1)], ⟨.tmp rfl, trivial⟩, rfl, weak_keep ⟨rfl, rfl, trivial⟩ ⟨by simp [sget]; rfl, okE_t, rfl, okE_one rfl, trivial⟩, rfl⟩

theorem insC : InsC := by
  intro l g i x hl hi
  rcases Nat.lt_or_ge i l.length with h | h
  · have := insert_retG (P := Try.prog) (F := 60) (tE := 3) (k := 1) (bytes := 8)
      (fun b n c i vb vc ca cv vs w h1 h2 h3 h4 h5 h6 h7 h8 h9 h10 h11 => ins_shift b n c i vb vc ca cv vs w h1 h2 h3 h4 h5 h6 h7 h8 h9 h10 h11)
      (fun b n c i vb vc ca cv vs w h1 h2 h3 h4 h5 h6 h7 h8 h9 h10 h11 h12 => ins_grow b n c i vb vc ca cv vs w h1 h2 h3 h4 h5 h6 h7 h8 h9 h10 h11 h12)
      (l.map encI) (encI x) g i (by simpa using h) (by simp; omega) (by simp; omega)
    simpa [List.map_take, List.map_drop] using this
  · obtain rfl : i = l.length := by omega
    have := insEnd_retG l g x hl
    rw [List.take_of_length_le (by omega), List.drop_of_length_le (by omega), List.append_nil]
    exact this

end Go.Tv.C27

end
section
open Go Go.Tv Go.Proofs
namespace Go.Tv.C27
set_option maxRecDepth 20000
set_option linter.unusedSimpArgs false
set_option linter.unusedVariables false
theorem closure52_ret (S : Store) (b : Bundle) (hS : SOK S) (hp : S.passed.Pairwise (· < ·)) : Ret Try.prog 52 [encB b, .ptr (encS S).cells] (.bool (decide (b.id ∈ S.passed))) := by
  refine ret_of_awp Try.func52 rfl (Nat.le_of_ble_eq_true rfl) ?_
  refine awp_seq ?_
  refine awp_rw rfl ?_
  refine RW.new rfl rfl (eff_boxK (v := .t _) (k := 8) (id := 2) rfl rfl rfl rfl rfl rfl) ?_
  refine RW.op rfl rfl (eff_assign (v := .t _) rfl rfl rfl) ?_
  refine RW.nil ?_
  refine awp_seq ?_
  refine awp_rw rfl ?_
  refine RW.op rfl rfl (eff_fieldAddrT rfl rfl tf29_2 (by decide) rfl) ?_
  refine RW.op rfl rfl (eff_loadT1 rfl rfl ti27 rfl rfl) ?_
  refine RW.op rfl rfl (eff_fieldAddr rfl rfl tf38_0 (by decide) rfl rfl rfl (Nat.le_of_ble_eq_true rfl)) ?_
  refine RW.op rfl rfl (eff_load (y := .t _) rfl rfl ti3 rfl (.one rfl rfl rfl rfl)) ?_
  refine RW.op rfl rfl (eff_callT (has48_ret _ _ (by have h := hS.2.1; omega) hp) co48 rfl rfl rfl rfl) ?_
  refine RW.op rfl rfl (eff_assign (v := .t _) rfl rfl rfl) ?_
  refine RW.nil ?_
  refine awp_ret ?_
  first
    | exact ⟨Or.inr rfl, [_], ⟨.tmp (.t _), trivial⟩, .refl _⟩
    | exact ⟨Or.inr rfl, [_], ⟨.tmp (.t _), trivial⟩, (by repeat' first | exact trivial | exact Wk.refl _ | exact Wk.sl _ | refine And.intro ?_ ?_ | refine Wk.tupP ?_ | refine Wk.aggP ?_)⟩
    | exact ⟨Or.inr rfl, [_], ⟨.tmp (Res.ownT rfl rfl rfl rfl), trivial⟩, .refl _⟩
    | exact ⟨Or.inr rfl, [_], ⟨.tmp (Res.ownT rfl rfl rfl rfl), trivial⟩, (by repeat' first | exact trivial | exact Wk.refl _ | exact Wk.sl _ | refine And.intro ?_ ?_ | refine Wk.tupP ?_ | refine Wk.aggP ?_)⟩

theorem tz78 : zeroOf Try.prog 78 = some .nilf := by kernel_rfl
theorem ti78 : tinf Try.prog 78 = some (1, false) := by kernel_rfl

theorem waiting_ret (S : Store) (hS : SOK S) : Ret Try.prog 38 [encS S] (.fn 53 [.ptr (encS S).cells, .ptr [.fn 52 [.ptr (encS S).cells]]]) := by
  refine ret_of_awp Try.func38 rfl (Nat.le_of_ble_eq_true rfl) ?_
  refine awp_seq ?_
  refine awp_rw rfl ?_
  refine RW.new rfl rfl (eff_boxK (v := .t _) (k := 4) (id := 1) rfl rfl rfl rfl rfl rfl) ?_
  refine RW.op rfl rfl (eff_assign (v := .t _) rfl rfl rfl) ?_
  refine RW.nil ?_
  refine awp_seq ?_
  refine awp_rw rfl ?_
  refine RW.op rfl rfl (eff_makeFunc rfl rfl rfl rfl) ?_
  refine RW.new rfl rfl (eff_allocK (k := 1) (id := 3) rfl rfl tz78 rfl rfl) ?_
  refine RW.store rfl rfl (eff_storeW (v := .fn _ _) (els := [_]) (els' := [_]) rfl rfl ti78 rfl rfl rfl rfl rfl rfl rfl rfl rfl) ?_
  refine RW.nil ?_
  refine awp_seq ?_
  refine awp_rw rfl ?_
  refine RW.op rfl rfl (eff_makeFunc rfl rfl rfl rfl) ?_
  refine RW.op rfl rfl (eff_assign (v := .fn _ _) rfl rfl rfl) ?_
  refine RW.nil ?_
  refine awp_ret ?_
  first
    | exact ⟨Or.inr rfl, [_], ⟨.tmp (Res.fnP (xs := [_, _]) ⟨Res.ptrT (x := encS S) rfl rfl rfl, Res.ptrO rfl rfl rfl rfl (Res.fnP (xs := [_]) ⟨Res.ptrT (x := encS S) rfl rfl rfl, trivial⟩), trivial⟩), trivial⟩, .refl _⟩
    | exact ⟨Or.inr rfl, [_], ⟨.tmp (Res.fnP (xs := [_, _]) ⟨Res.ptrT (x := encS S) rfl rfl rfl, Res.ptrO rfl rfl rfl rfl (Res.fnP (xs := [_]) ⟨Res.ptrT (x := encS S) rfl rfl rfl, trivial⟩), trivial⟩), trivial⟩, (by repeat' first | exact trivial | exact Wk.refl _ | exact Wk.sl _ | refine And.intro ?_ ?_ | refine Wk.tupP ?_ | refine Wk.aggP ?_)⟩

end Go.Tv.C27

end
section
open Go Go.Tv Go.Proofs
namespace Go.Tv.C27
set_option maxRecDepth 20000
set_option linter.unusedSimpArgs false
set_option linter.unusedVariables false
def wt (S : Store) (b : Bundle) : Bool := decide (b.id ∉ S.passed)

theorem offer_wt (S : Store) (room : Int) : S.bundles.find? (fits S room) = (S.bundles.filter (wt S)).find? (fun b => decide (size b ≤ room)) := by
  rw [List.find?_filter]
  congr 1
  funext b
  unfold fits wt
  by_cases h1 : b.id ∉ S.passed <;> by_cases h2 : size b ≤ room <;> simp [h1, h2]

theorem offer_first {S : Store} {room : Int} {i : Nat} {b : Bundle} (hb : (S.bundles.filter (wt S))[i]? = some b) (h : ∀ c, c ∈ (S.bundles.filter (wt S)).take i → room < size c) (hf : size b ≤ room) : offer S room = (b, true) := by
  unfold offer
  rw [offer_wt]
  have : (S.bundles.filter (wt S)).find? (fun b => decide (size b ≤ room)) = some b := by
    obtain ⟨hi, he⟩ := List.getElem?_eq_some_iff.1 hb
    rw [List.find?_eq_some_iff_append]
    refine ⟨by simpa using hf, (S.bundles.filter (wt S)).take i, (S.bundles.filter (wt S)).drop (i + 1), ?_, fun a ha => by have := h a ha; simp; omega⟩
    rw [← he, List.getElem_cons_drop, List.take_append_drop]
  rw [this]

theorem offer_never {S : Store} {room : Int} (h : ∀ c, c ∈ S.bundles.filter (wt S) → room < size c) : offer S room = (zb, false) := by
  unfold offer
  rw [offer_wt]
  have : (S.bundles.filter (wt S)).find? (fun b => decide (size b ≤ room)) = none := by
    rw [List.find?_eq_none]
    intro b hb
    have := h b hb
    simp; omega
  rw [this]

theorem waiting_iter (S : Store) (hS : SOK S) (hp : S.passed.Pairwise (· < ·)) : Iter Try.prog 53 [.ptr (encS S).cells, .ptr [.fn 52 [.ptr (encS S).cells]]] ((S.bundles.filter (wt S)).map encB) := by
  refine iter_of_awj Try.func53 rfl (Nat.le_of_ble_eq_true rfl) rfl ?_
  intro γ X hds At Stop yl hy g0 hAt
  refine awj_seq ?_
  refine awj_rj rfl ?_
  refine RJ.op rfl rfl (eff_fieldAddrT rfl rfl tf29_1 (by decide) rfl) ?_
  refine RJ.op rfl rfl (eff_loadT1 rfl rfl ti26 rfl rfl) ?_
  refine RJ.op rfl rfl (eff_lenM rfl rfl te26 rfl) ?_
  refine RJ.op rfl rfl (eff_move (v := .t _) rfl rfl rfl) ?_
  refine RJ.nil ?_
  refine awj_block ?_
  refine awj_loopW (fun m s g => ∃ (i : Nat), (i ≤ S.bundles.length) ∧ (At ((S.bundles.take i).filter (wt S)).length g) ∧ m = S.bundles.length - i ∧ s = ⟨24, [(0, .t (.yld yl)), (1, .t (.ptr (encS S).cells)), (2, .t (.ptr [.fn 52 [.ptr (encS S).cells]])), (7, .t (.sl (S.bundles.map encB) false)), (8, .t (encI S.bundles.length)), (9, .t (encI (i : Nat)))], []⟩) (_) (⟨_, weak_keep (n := 24) (fr' := [(0, .t (.yld yl)), (1, .t (.ptr (encS S).cells)), (2, .t (.ptr [.fn 52 [.ptr (encS S).cells]])), (7, .t (.sl (S.bundles.map encB) false)), (8, .t (encI S.bundles.length)), (9, .t (encI (0 : Nat)))]) (st' := []) ⟨rfl, rfl, rfl, rfl, rfl, rfl, rfl, rfl, rfl, rfl, rfl, rfl, trivial⟩ trivial, 0, (by omega), (by exact hAt), rfl, rfl⟩) ?_
  rintro m s g ⟨i, hi, hA, rfl, rfl⟩
  have hL := hS.1
  refine awj_seq ?_
  refine awj_rj rfl ?_
  refine RJ.op rfl rfl (eff_iop rfl rfl rfl rfl rfl) ?_
  refine RJ.nil ?_
  refine awj_seq ?_
  refine awj_cond rfl (fun h1 => ?_) (fun h1 => ?_)
  · try simp only [decide_eq_true_eq, decide_eq_false_iff_not, beq_iff_eq, bne_iff_ne, bne_eq_false_iff_eq, beq_eq_false_iff_ne, Bool.not_eq_true, Bool.not_eq_false, Bool.not_eq_true', Bool.not_eq_false', ne_eq] at h1
    refine awj_skip ?_
    refine awj_seq ?_
    refine awj_block ?_
    refine awj_seq ?_
    refine awj_rj rfl ?_
    refine RJ.op rfl rfl (eff_indexM rfl rfl te26 rfl rfl rfl (by first | assumption | exact List.getElem?_eq_getElem (by omega)) rfl (by decide)) ?_
    refine RJ.op rfl rfl (eff_loadW rfl rfl ti38 rfl rfl rfl) ?_
    refine RJ.new rfl rfl (eff_allocK (k := 8) (id := 5) rfl rfl tz38 rfl rfl) ?_
    refine RJ.store rfl rfl (eff_storeW (v := .t _) (els := [_]) (els' := [_]) rfl rfl ti38 rfl rfl rfl rfl rfl rfl rfl rfl rfl) ?_
    refine RJ.nil ?_
    refine awj_seq ?_
    refine awj_rj rfl ?_
    refine RJ.op rfl rfl (eff_loadT1 rfl rfl ti78 rfl rfl) ?_
    refine RJ.op rfl rfl (eff_load rfl rfl ti38 rfl (.whole rfl rfl rfl rfl rfl rfl)) ?_
    refine RJ.op rfl rfl (eff_call (f := 52) (xs := [_]) (ys := [_]) (caps := [.ptr (encS S).cells]) rfl rfl rfl co52 rfl (WkL.cons (.refl _) .nil) (closure52_ret S _ hS hp)) ?_
    refine RJ.op rfl rfl (eff_unop rfl rfl rfl rfl) ?_
    refine RJ.op rfl rfl (eff_move (v := .t _) rfl rfl rfl) ?_
    refine RJ.split 17 rfl (fun h2 => ?_) (fun h2 => ?_)
    · try simp only [decide_eq_true_eq, decide_eq_false_iff_not, beq_iff_eq, bne_iff_ne, bne_eq_false_iff_eq, beq_eq_false_iff_ne, Bool.not_eq_true, Bool.not_eq_false, Bool.not_eq_true', Bool.not_eq_false', ne_eq] at h2
      refine RJ.gop rfl rfl rfl rfl rfl rfl (eff_move (v := .t _) rfl rfl rfl) ?_
      refine RJ.gop rfl rfl rfl rfl rfl rfl (eff_load rfl rfl ti38 rfl (.whole rfl rfl rfl rfl rfl rfl)) ?_
      have hpos : ((S.bundles.filter (wt S)).map encB)[((S.bundles.take i).filter (wt S)).length]? = some (encB (S.bundles[i]'(by omega))) := by
        rw [List.getElem?_map, filter_get (by omega) (by unfold wt; simpa using h2)]; rfl
      refine RJ.many (.inr ⟨_, _, _, _, _, rfl, rfl, rfl, rfl, rfl⟩) (eff_yield rfl rfl rfl rfl hds (hy _ _ _ hpos hA)) ?_
      rintro e g2 ⟨yb, rfl, hyb⟩
      show RJ _ _ _ _ _ ⟨_, (20, .t (.bool yb)) :: _, _⟩ _ _
      refine RJ.gop rfl rfl rfl rfl rfl rfl (eff_unop rfl rfl rfl rfl) ?_
      refine RJ.op rfl rfl (eff_pick (v := .t _) rfl rfl rfl rfl) ?_
      refine RJ.nil ?_
      refine awj_cond rfl (fun h3 => ?_) (fun h3 => ?_)
      · try simp only [decide_eq_true_eq, decide_eq_false_iff_not, beq_iff_eq, bne_iff_ne, bne_eq_false_iff_eq, beq_eq_false_iff_ne, Bool.not_eq_true, Bool.not_eq_false, Bool.not_eq_true', Bool.not_eq_false', ne_eq] at h3
        refine awj_ret ?_
        rcases hyb with ⟨h, _⟩ | ⟨_, h⟩
        · rw [h] at h3; simp at h3
        · exact ⟨Or.inr rfl, Or.inr h⟩
      · try simp only [decide_eq_true_eq, decide_eq_false_iff_not, beq_iff_eq, bne_iff_ne, bne_eq_false_iff_eq, beq_eq_false_iff_ne, Bool.not_eq_true, Bool.not_eq_false, Bool.not_eq_true', Bool.not_eq_false', ne_eq] at h3
        refine awj_skip ?_
        refine awj_rj rfl ?_
        refine RJ.op rfl rfl (eff_iop rfl rfl rfl rfl (iadd (by omega))) ?_
        refine RJ.op rfl rfl (eff_move (v := .t _) rfl rfl rfl) ?_
        refine RJ.nil ?_
        refine ⟨_, ?_, _, weak_keep (n := 24) (fr' := [(0, .t (.yld yl)), (1, .t (.ptr (encS S).cells)), (2, .t (.ptr [.fn 52 [.ptr (encS S).cells]])), (7, .t (.sl (S.bundles.map encB) false)), (8, .t (encI S.bundles.length)), (9, .t (encI ((i + 1) : Nat)))]) (st' := []) ⟨rfl, rfl, rfl, rfl, rfl, rfl, rfl, rfl, rfl, rfl, rfl, rfl, trivial⟩ trivial, i + 1, (by omega), (by first | (rw [filter_take_succ (by omega), if_neg (by unfold wt; simpa using h2), List.append_nil]; exact hA) | (rcases hyb with ⟨_, h⟩ | ⟨h, _⟩ <;> first | (rw [filter_take_succ (by omega), if_pos (by unfold wt; simpa using h2), List.length_append]; exact h) | (rw [h] at h3; simp at h3))), rfl, rfl⟩
        omega
    · try simp only [decide_eq_true_eq, decide_eq_false_iff_not, beq_iff_eq, bne_iff_ne, bne_eq_false_iff_eq, beq_eq_false_iff_ne, Bool.not_eq_true, Bool.not_eq_false, Bool.not_eq_true', Bool.not_eq_false', ne_eq] at h2
      refine RJ.gskip rfl rfl rfl rfl rfl (by decide) ?_
      refine RJ.gskip rfl rfl rfl rfl rfl (by decide) ?_
      refine RJ.gskip rfl rfl rfl rfl rfl (by decide) ?_
      refine RJ.gskip rfl rfl rfl rfl rfl (by decide) ?_
      refine RJ.op rfl rfl (eff_pick (v := .t _) rfl rfl rfl rfl) ?_
      refine RJ.nil ?_
      refine awj_cond rfl (fun h => nomatch h) (fun _ => ?_)
      refine awj_skip ?_
      refine awj_rj rfl ?_
      refine RJ.op rfl rfl (eff_iop rfl rfl rfl rfl (iadd (by omega))) ?_
      refine RJ.op rfl rfl (eff_move (v := .t _) rfl rfl rfl) ?_
      refine RJ.nil ?_
      refine ⟨_, ?_, _, weak_keep (n := 24) (fr' := [(0, .t (.yld yl)), (1, .t (.ptr (encS S).cells)), (2, .t (.ptr [.fn 52 [.ptr (encS S).cells]])), (7, .t (.sl (S.bundles.map encB) false)), (8, .t (encI S.bundles.length)), (9, .t (encI ((i + 1) : Nat)))]) (st' := []) ⟨rfl, rfl, rfl, rfl, rfl, rfl, rfl, rfl, rfl, rfl, rfl, rfl, trivial⟩ trivial, i + 1, (by omega), (by first | (rw [filter_take_succ (by omega), if_neg (by unfold wt; simpa using h2), List.append_nil]; exact hA) | (rcases hyb with ⟨_, h⟩ | ⟨h, _⟩ <;> first | (rw [filter_take_succ (by omega), if_pos (by unfold wt; simpa using h2), List.length_append]; exact h) | (rw [h] at h3; simp at h3))), rfl, rfl⟩
      omega
  · try simp only [decide_eq_true_eq, decide_eq_false_iff_not, beq_iff_eq, bne_iff_ne, bne_eq_false_iff_eq, beq_eq_false_iff_ne, Bool.not_eq_true, Bool.not_eq_false, Bool.not_eq_true', Bool.not_eq_false', ne_eq] at h1
    refine awj_exit ?_
    have hi2 : i = S.bundles.length := by omega
    subst hi2
    rw [List.take_length] at hA
    exact ⟨Or.inl rfl, Or.inl (by rw [List.length_map]; exact hA)⟩

theorem offer18_ret (S : Store) (room : Int) (hS : SOK S) (hp : S.passed.Pairwise (· < ·)) : Ret Try.prog 18 [encS S, encI room] (.tup [encB (offer S room).1, .bool (offer S room).2]) := by
  refine ret_of_awj Try.func18 rfl (Nat.le_of_ble_eq_true rfl) ?_
  intro F0 w0
  refine awj_seq ?_
  refine awj_rj rfl ?_
  refine RJ.new rfl rfl (eff_boxK (v := .t _) (k := 4) (id := 2) rfl rfl rfl rfl rfl rfl) ?_
  refine RJ.new rfl rfl (eff_boxK (v := .t _) (k := 1) (id := 3) rfl rfl rfl rfl rfl rfl) ?_
  refine RJ.new rfl rfl (eff_allocK (k := 8) (id := 4) rfl rfl tz38 rfl rfl) ?_
  refine RJ.new rfl rfl (eff_allocK (k := 1) (id := 5) rfl rfl tz4 rfl rfl) ?_
  refine RJ.nil ?_
  refine awj_seq ?_
  refine awj_seq ?_
  refine awj_rj rfl ?_
  refine RJ.op rfl rfl (eff_load rfl rfl ti29 rfl (.whole rfl rfl rfl rfl rfl rfl)) ?_
  refine RJ.op rfl rfl (eff_callT (waiting_ret S hS) co38 rfl rfl rfl rfl) ?_
  refine RJ.nil ?_
  refine awj_block ?_
  refine awj_rangeFunc (kp' := fun j => [2, 3, 4, 5].elem j) (f := 53) rfl co53 (waiting_iter S hS hp) rfl rfl rfl (fun i s => (∀ b, b ∈ (S.bundles.filter (wt S)).take i → room < size b) ∧ s = ⟨17, [(2, .ptr 2 0 0 0), (3, .ptr 3 0 0 0), (4, .ptr 4 0 0 0), (5, .ptr 5 0 0 0)], [(2, some ⟨4, 29, 0, [.t (encS S)]⟩), (3, some ⟨1, 3, 0, [.t (encI room)]⟩), (4, some ⟨8, 38, 0, [.t z38]⟩), (5, some ⟨1, 4, 0, [.t (.bool false)]⟩)]⟩) (fun c s => c = .ret ∧ ∃ b, offer S room = (b, true) ∧ s = ⟨17, [(4, .ptr 4 0 0 0), (5, .ptr 5 0 0 0)], [(4, some ⟨8, 38, 0, [.t (encB b)]⟩), (5, some ⟨1, 4, 0, [.t (.bool true)]⟩)]⟩) (⟨_, weak_keep (n := 17) (fr' := [(2, .ptr 2 0 0 0), (3, .ptr 3 0 0 0), (4, .ptr 4 0 0 0), (5, .ptr 5 0 0 0)]) (st' := [(2, some ⟨4, 29, 0, [.t (encS S)]⟩), (3, some ⟨1, 3, 0, [.t (encI room)]⟩), (4, some ⟨8, 38, 0, [.t z38]⟩), (5, some ⟨1, 4, 0, [.t (.bool false)]⟩)]) ⟨rfl, rfl, rfl, rfl, rfl, rfl, rfl, rfl, trivial⟩ ⟨rfl, okE_one rfl, rfl, okE_one rfl, rfl, okE_one rfl, rfl, okE_one rfl, trivial⟩, by simp, rfl⟩) (fun i s1 hI => by obtain ⟨_, rfl⟩ := hI; exact ⟨rfl, kept_of rfl⟩) (fun c s1 hI => by obtain ⟨_, b, _, rfl⟩ := hI; exact ⟨rfl, kept_of rfl⟩) ?_ ?_ ?_
  · intro l i x s1 hI hx F1 w1
    obtain ⟨hlt, rfl⟩ := hI
    rw [List.getElem?_map] at hx
    obtain ⟨b, hb, rfl⟩ := Option.map_eq_some_iff.1 hx
    have hbk := hS.2.2.2 b (List.mem_filter.1 (List.mem_of_getElem? hb)).1
    show AWJ _ _ _ _ _ ⟨17, _, _⟩ _ _
    refine awj_rj rfl ?_
    refine RJ.new rfl rfl (eff_allocK (k := 8) (id := 6) rfl rfl tz38 rfl rfl) ?_
    refine RJ.store rfl rfl (eff_storeW (v := .t _) (els := [_]) (els' := [_]) rfl rfl ti38 rfl rfl rfl rfl rfl rfl rfl rfl rfl) ?_
    refine RJ.nil ?_
    refine ⟨rfl, rfl, fun F2 w2 => ?_⟩
    refine awj_block ?_
    refine awj_seq ?_
    refine awj_rd [(some 10, []), (some 11, []), (some 12, []), (some 13, [])] [[], [0], [], [0, 1, 2]] tm rfl rfl rfl rfl ?_
    refine RD.op rfl rfl rfl (eff_load rfl rfl ti38 rfl (.whole rfl rfl rfl rfl rfl rfl)) ?_
    refine RD.op rfl rfl rfl (eff_callT (size_ret b hbk) co16 rfl rfl rfl rfl) ?_
    refine RD.op rfl rfl rfl (eff_load (y := .t _) rfl rfl ti3 rfl (.one rfl rfl rfl rfl)) ?_
    refine RD.op rfl rfl rfl (eff_iop rfl rfl rfl rfl rfl) ?_
    refine RD.nil ?_
    refine awj_cond rfl (fun h1 => ?_) (fun h1 => ?_)
    · try simp only [decide_eq_true_eq, decide_eq_false_iff_not, beq_iff_eq, bne_iff_ne, bne_eq_false_iff_eq, beq_eq_false_iff_ne, Bool.not_eq_true, Bool.not_eq_false, Bool.not_eq_true', Bool.not_eq_false', ne_eq] at h1
      refine awj_seq ?_
      refine awj_rj rfl ?_
      refine RJ.op rfl rfl (eff_load rfl rfl ti38 rfl (.whole rfl rfl rfl rfl rfl rfl)) ?_
      refine RJ.op rfl rfl (eff_callT (clone39_ret b hbk) co39 rfl rfl rfl rfl) ?_
      refine RJ.store rfl rfl (eff_storeW (v := .t _) (els := [_]) (els' := [_]) rfl rfl ti38 rfl rfl rfl rfl rfl rfl rfl rfl rfl) ?_
      refine RJ.store rfl rfl (eff_storeW (v := .t _) (els := [_]) (els' := [_]) rfl rfl ti4 rfl rfl rfl rfl rfl rfl rfl rfl rfl) ?_
      refine RJ.nil ?_
      refine awj_ret ?_
      exact ⟨rfl, _, weak_keep (n := 17) (fr' := [(4, .ptr 4 0 0 0), (5, .ptr 5 0 0 0)]) (st' := [(4, some ⟨8, 38, 0, [.t (encB b)]⟩), (5, some ⟨1, 4, 0, [.t (.bool true)]⟩)]) ⟨rfl, rfl, rfl, rfl, trivial⟩ ⟨rfl, okE_one rfl, rfl, okE_one rfl, trivial⟩, rfl, b, offer_first hb hlt (by omega), rfl⟩
    · try simp only [decide_eq_true_eq, decide_eq_false_iff_not, beq_iff_eq, bne_iff_ne, bne_eq_false_iff_eq, beq_eq_false_iff_ne, Bool.not_eq_true, Bool.not_eq_false, Bool.not_eq_true', Bool.not_eq_false', ne_eq] at h1
      refine awj_skip ?_
      refine ⟨rfl, _, weak_keep (n := 17) (fr' := [(2, .ptr 2 0 0 0), (3, .ptr 3 0 0 0), (4, .ptr 4 0 0 0), (5, .ptr 5 0 0 0)]) (st' := [(2, some ⟨4, 29, 0, [.t (encS S)]⟩), (3, some ⟨1, 3, 0, [.t (encI room)]⟩), (4, some ⟨8, 38, 0, [.t z38]⟩), (5, some ⟨1, 4, 0, [.t (.bool false)]⟩)]) ⟨rfl, rfl, rfl, rfl, rfl, rfl, rfl, rfl, trivial⟩ ⟨rfl, okE_one rfl, rfl, okE_one rfl, rfl, okE_one rfl, rfl, okE_one rfl, trivial⟩, fun c hc => ?_, rfl⟩
      obtain ⟨hi, he⟩ := List.getElem?_eq_some_iff.1 hb
      rcases (mem_take_succ hi).1 hc with h | h
      · exact hlt c h
      · rw [h, he]; omega
  · intro D s1 hI
    obtain ⟨hlt, rfl⟩ := hI
    rw [List.length_map, List.take_length] at hlt
    refine awj_seq ?_
    refine awj_rj rfl ?_
    refine RJ.op rfl rfl (eff_buildT (ys := [_, _, _, _, _, _, _, _]) rfl rfl tz38 tg38 rfl) ?_
    refine RJ.store rfl rfl (eff_storeW (v := .t _) (els := [_]) (els' := [_]) rfl rfl ti38 rfl rfl rfl rfl rfl rfl rfl rfl rfl) ?_
    refine RJ.store rfl rfl (eff_storeW (v := .t _) (els := [_]) (els' := [_]) rfl rfl ti4 rfl rfl rfl rfl rfl rfl rfl rfl rfl) ?_
    refine RJ.nil ?_
    refine awj_ret ?_
    rw [offer_never hlt]
    exact ⟨Or.inr rfl, [_, _], ⟨.cell rfl ti38 (.whole rfl rfl rfl rfl rfl rfl) (.t _), .cell (y := .t _) rfl ti4 (.one rfl rfl rfl rfl) (.t _), trivial⟩, (by repeat' first | exact trivial | exact Wk.refl _ | exact Wk.sl _ | refine And.intro ?_ ?_ | refine Wk.tupP ?_ | refine Wk.aggP ?_)⟩
  · intro D c s1 hI
    obtain ⟨rfl, b, hb, rfl⟩ := hI
    refine awj_ret ?_
    rw [hb]
    exact ⟨Or.inr rfl, [_, _], ⟨.cell rfl ti38 (.whole rfl rfl rfl rfl rfl rfl) (.t _), .cell (y := .t _) rfl ti4 (.one rfl rfl rfl rfl) (.t _), trivial⟩, .refl _⟩

end Go.Tv.C27

end
section
open Go Go.Tv Go.Proofs
namespace Go.Tv.C27

/-- What an operation yields before errors are looked at. -/
def rawS (s : Store) (o : Opn) : Store × Bool × Int :=
  if o.kind = 0 then ((create s o.bundle).1, false, (create s o.bundle).2)
  else if o.kind = 1 then accept s o.bundle
  else if o.kind = 2 then ((pass s o.id).1, false, (pass s o.id).2)
  else if o.kind = 3 then ((confirm s o.id).1, false, (confirm s o.id).2)
  else if o.kind = 4 then (retry s, false, 0)
  else (s, (offer s o.room).2, 0)
def doS (s : Store) (o : Opn) : Store × Bool × Int := (if (rawS s o).2.2 = 0 then (rawS s o).1 else s, (rawS s o).2.1, (rawS s o).2.2)

def ids (s : Store) : List Int := s.bundles.map (·.id)

structure VInv (n : Nat) (s : Store) : Prop where
  q0 : 0 ≤ s.quota
  q1 : s.quota ≤ 2147483647
  len : s.bundles.length ≤ 64
  usd : used s.bundles ≤ s.quota
  ps : s.passed.Pairwise (· < ·)
  ss : s.seen.Pairwise (· < ·)
  bs : ∀ b, b ∈ s.bundles → b.data.length ≤ 256 ∧ Bytes b.data ∧ b.id ∈ s.seen
  nd : (ids s).Nodup
  pi : ∀ p, p ∈ s.passed → p ∈ ids s
  pn : s.passed.length ≤ n
  sn : s.seen.length ≤ n

theorem VInv.sok {n : Nat} {s : Store} (h : VInv n s) (hn : n ≤ 100000) : SOK s :=
  ⟨Nat.le_trans h.len (by omega), Nat.le_trans h.pn hn, Nat.le_trans h.sn hn, fun b hb => by have := (h.bs b hb).1; unfold BOK; omega⟩

theorem VInv.mono {n m : Nat} {s : Store} (h : VInv n s) (hm : n ≤ m) : VInv m s := { h with pn := Nat.le_trans h.pn hm, sn := Nat.le_trans h.sn hm }

theorem VInv.empty (q : Int) (h0 : 0 ≤ q) (h1 : q ≤ 2147483647) : VInv 0 ⟨q, [], [], []⟩ :=
  ⟨h0, h1, by simp, by simpa [used] using h0, by simp, by simp, by simp, by simp [ids], by simp, by simp, by simp⟩

theorem ins_mem {x y : Int} : ∀ {l : List Int}, y ∈ ins x l ↔ y = x ∨ y ∈ l
  | [] => by simp [ins]
  | z :: l => by
    unfold ins
    split
    · simp only [List.mem_cons, ins_mem (l := l)]
      constructor
      · rintro (h | h | h)
        · exact .inr (.inl h)
        · exact .inl h
        · exact .inr (.inr h)
      · rintro (h | h | h)
        · exact .inr (.inl h)
        · exact .inl h
        · exact .inr (.inr h)
    · simp

theorem ins_sorted {x : Int} : ∀ {l : List Int}, l.Pairwise (· < ·) → x ∉ l → (ins x l).Pairwise (· < ·)
  | [], _, _ => by simp [ins]
  | z :: l, hp, hx => by
    obtain ⟨h1, h2⟩ := List.pairwise_cons.1 hp
    unfold ins
    split
    · rename_i hz
      refine List.pairwise_cons.2 ⟨fun y hy => ?_, ins_sorted h2 (fun h => hx (List.mem_cons_of_mem _ h))⟩
      rcases ins_mem.1 hy with rfl | hy
      · exact hz
      · exact h1 y hy
    · rename_i hz
      have hxz : x ≠ z := fun e => hx (by rw [e]; exact List.mem_cons_self)
      refine List.pairwise_cons.2 ⟨fun y hy => ?_, hp⟩
      rcases List.mem_cons.1 hy with rfl | hy
      · omega
      · have := h1 y hy; omega

theorem findIx_neg {l : List Bundle} {n : Int} : findIx l n < 0 ↔ n ∉ l.map (·.id) := by
  constructor
  · intro h hm
    obtain ⟨b, hb, rfl⟩ := List.mem_map.1 hm
    unfold findIx at h
    cases hf : l.findIdx? (fun c => c.id == b.id) with
    | none =>
      rw [List.findIdx?_eq_none_iff] at hf
      have := hf b hb
      simp at this
    | some i => rw [hf] at h; simp at h; omega
  · intro h
    rw [findIx_none (fun b hb e => h (List.mem_map.2 ⟨b, hb, e⟩))]
    omega

/-- The place of an element that is there. -/
theorem findIx_at {l : List Bundle} {n : Int} (h : ¬ findIx l n < 0) : ∃ (i : Nat) (hi : i < l.length), findIx l n = (i : Int) ∧ (l[i]).id = n ∧ ∀ b, b ∈ l.take i → b.id ≠ n := by
  unfold findIx at h ⊢
  cases hf : l.findIdx? (fun b => b.id == n) with
  | none => rw [hf] at h; simp at h
  | some i =>
    rw [List.findIdx?_eq_some_iff_getElem] at hf
    obtain ⟨hi, h1, h2⟩ := hf
    refine ⟨i, hi, rfl, by simpa using h1, fun b hb => ?_⟩
    obtain ⟨j, hj, rfl⟩ := List.mem_iff_getElem.1 hb
    simp only [List.length_take] at hj
    have := h2 j (by omega)
    simpa using this

/-- With distinct ids, the element at the place found is taken out by filtering. -/
theorem cut_filter {l : List Bundle} {n : Int} (hnd : (l.map (·.id)).Nodup) (h : ¬ findIx l n < 0) :
    l.take (findIx l n).toNat ++ l.drop ((findIx l n).toNat + 1) = l.filter (fun b => decide (b.id ≠ n)) := by
  obtain ⟨i, hi, he, hid, hbef⟩ := findIx_at h
  rw [he, Int.toNat_natCast]
  have e : l = l.take i ++ (l[i] :: l.drop (i + 1)) := by rw [List.getElem_cons_drop, List.take_append_drop]
  have haft : ∀ b, b ∈ l.drop (i + 1) → b.id ≠ n := by
    intro b hb hbn
    rw [e, List.map_append, List.map_cons] at hnd
    have := (List.nodup_append.1 hnd).2.1
    have := (List.nodup_cons.1 this).1
    exact this (by rw [hid]; exact List.mem_map.2 ⟨b, hb, hbn⟩)
  conv => rhs; rw [e]
  rw [List.filter_append, List.filter_cons, if_neg (by simp [hid])]
  rw [List.filter_eq_self.2 (fun b hb => by simpa using hbef b hb), List.filter_eq_self.2 (fun b hb => by simpa using haft b hb)]

theorem used_filter (p : Bundle → Bool) : ∀ (l : List Bundle), used (l.filter p) ≤ used l ∧ 0 ≤ used (l.filter p)
  | [] => by simp [used]
  | b :: l => by
    have h := used_filter p l
    have hs : 0 ≤ size b := by unfold size; omega
    rw [List.filter_cons]
    split
    · simp only [used]; omega
    · simp only [used]; omega

theorem inv_create {n : Nat} {s : Store} {b : Bundle} (h : VInv n s) (hb : Bytes b.data) (he : (create s b).2 = 0) :
    VInv (n + 1) (create s b).1 ∧ (create s b).1 = ⟨s.quota, s.bundles ++ [b], s.passed, ins b.id s.seen⟩ ∧ b.id ∉ s.seen := by
  unfold create at he ⊢
  split at he
  · simp at he
  · rename_i h1
    split at he
    · simp at he
    · rename_i h2
      split at he
      · simp at he
      · rename_i h3
        split at he
        · simp at he
        · rename_i h4
          rw [if_neg h1, if_neg h2, if_neg h3, if_neg h4, sortl_ins h.ss]
          refine ⟨⟨h.q0, h.q1, by simp; omega, ?_, h.ps, ins_sorted h.ss h2, ?_, ?_, ?_, Nat.le_succ_of_le h.pn, by rw [ins_length]; have := h.sn; omega⟩, rfl, h2⟩
          · rw [used_append]; simp only [used]; omega
          · intro c hc
            rcases List.mem_append.1 hc with hc | hc
            · obtain ⟨g1, g2, g3⟩ := h.bs c hc
              exact ⟨g1, g2, ins_mem.2 (.inr g3)⟩
            · rw [List.mem_singleton.1 hc]
              exact ⟨by omega, hb, ins_mem.2 (.inl rfl)⟩
          · show ((s.bundles ++ [b]).map (·.id)).Nodup
            rw [List.map_append, List.nodup_append]
            refine ⟨h.nd, by simp, fun x hx y hy => ?_⟩
            simp only [List.map_cons, List.map_nil, List.mem_singleton] at hy
            obtain ⟨c, hc, rfl⟩ := List.mem_map.1 hx
            intro e
            have := (h.bs c hc).2.2
            rw [e, hy] at this
            exact h2 this
          · intro p hp
            show p ∈ (s.bundles ++ [b]).map (·.id)
            rw [List.map_append]
            exact List.mem_append_left _ (h.pi p hp)

theorem inv_pass {n : Nat} {s : Store} {k : Int} (h : VInv n s) (he : (pass s k).2 = 0) :
    VInv (n + 1) (pass s k).1 ∧ (pass s k).1 = ⟨s.quota, s.bundles, ins k s.passed, s.seen⟩ ∧ k ∈ ids s ∧ k ∉ s.passed := by
  unfold pass at he ⊢
  split at he
  · simp at he
  · rename_i h1
    split at he
    · simp at he
    · rename_i h2
      rw [if_neg h1, if_neg h2, sortl_ins h.ps]
      have hk : k ∈ ids s := by
        rw [findIx_neg, Classical.not_not] at h1
        exact h1
      exact ⟨⟨h.q0, h.q1, h.len, h.usd, ins_sorted h.ps h2, h.ss, h.bs, h.nd, fun p hp => (ins_mem.1 hp).elim (fun e => by rw [e]; exact hk) (h.pi p), by rw [ins_length]; have := h.pn; omega, Nat.le_succ_of_le h.sn⟩, rfl, hk, h2⟩

theorem inv_confirm {n : Nat} {s : Store} {k : Int} (h : VInv n s) (he : (confirm s k).2 = 0) :
    VInv n (confirm s k).1 ∧ (confirm s k).1 = ⟨s.quota, s.bundles.filter (fun b => decide (b.id ≠ k)), s.passed.filter (· != k), s.seen⟩ ∧ k ∈ ids s := by
  unfold confirm at he ⊢
  split at he
  · simp at he
  · rename_i h1
    rw [if_neg h1, cut_filter h.nd h1]
    have hk : k ∈ ids s := by
      rw [findIx_neg, Classical.not_not] at h1
      exact h1
    refine ⟨⟨h.q0, h.q1, Nat.le_trans (List.length_filter_le _ _) h.len, Int.le_trans (used_filter _ _).1 h.usd, h.ps.filter _, h.ss, fun b hb => h.bs b (List.mem_filter.1 hb).1, ?_, ?_, Nat.le_trans (List.length_filter_le _ _) h.pn, h.sn⟩, rfl, hk⟩
    · exact List.Nodup.sublist (List.Sublist.map _ List.filter_sublist) h.nd
    · intro p hp
      obtain ⟨hp1, hp2⟩ := List.mem_filter.1 hp
      obtain ⟨b, hb, rfl⟩ := List.mem_map.1 (h.pi p hp1)
      exact List.mem_map.2 ⟨b, List.mem_filter.2 ⟨hb, by simpa using hp2⟩, rfl⟩

theorem inv_retry {n : Nat} {s : Store} (h : VInv n s) : VInv n (retry s) :=
  ⟨h.q0, h.q1, h.len, h.usd, by simp [retry], h.ss, h.bs, h.nd, by simp [retry], by simp [retry], h.sn⟩

theorem accept_eq {s : Store} {b : Bundle} : accept s b = if b.data.length ≤ 256 ∧ b.id ∈ s.seen then (s, true, 0) else ((create s b).1, decide ((create s b).2 = 0), (create s b).2) := rfl

theorem inv_accept {n : Nat} {s : Store} {b : Bundle} (h : VInv n s) (hb : Bytes b.data) (he : (accept s b).2.2 = 0) : VInv (n + 1) (accept s b).1 := by
  rw [accept_eq] at he ⊢
  split
  · exact h.mono (by omega)
  · rename_i h1
    rw [if_neg h1] at he
    exact (inv_create h hb he).1

theorem inv_do {n : Nat} {s : Store} {o : Opn} (h : VInv n s) (hb : Bytes o.bundle.data) : VInv (n + 1) (doS s o).1 := by
  unfold doS
  simp only
  split
  · rename_i he
    unfold rawS at he ⊢
    split
    · rename_i h1; rw [if_pos h1] at he; exact (inv_create h hb he).1
    · rename_i h1; rw [if_neg h1] at he
      split
      · rename_i h2; rw [if_pos h2] at he; exact inv_accept h hb he
      · rename_i h2; rw [if_neg h2] at he
        split
        · rename_i h3; rw [if_pos h3] at he; exact (inv_pass h he).1
        · rename_i h3; rw [if_neg h3] at he
          split
          · rename_i h4; rw [if_pos h4] at he; exact (inv_confirm h he).1.mono (by omega)
          · split
            · exact (inv_retry h).mono (by omega)
            · exact h.mono (by omega)
  · exact h.mono (by omega)

theorem do_ok {s t : Store} {o : Opn} {b : Bool} {e : Int} (h : rawS s o = (t, b, e)) (he : e = 0) : doS s o = (t, b, e) := by
  unfold doS; rw [h]; simp [he]
theorem do_err {s t : Store} {o : Opn} {b : Bool} {e : Int} (h : rawS s o = (t, b, e)) (he : ¬ e = 0) : doS s o = (s, b, e) := by
  unfold doS; rw [h]; simp [he]
theorem raw0 {s : Store} {o : Opn} (h : o.kind = 0) : rawS s o = ((create s o.bundle).1, false, (create s o.bundle).2) := by unfold rawS; rw [if_pos h]
theorem raw1 {s : Store} {o : Opn} (h : o.kind = 1) : rawS s o = ((accept s o.bundle).1, (accept s o.bundle).2.1, (accept s o.bundle).2.2) := by
  unfold rawS; rw [if_neg (by omega), if_pos h]
theorem raw2 {s : Store} {o : Opn} (h : o.kind = 2) : rawS s o = ((pass s o.id).1, false, (pass s o.id).2) := by
  unfold rawS; rw [if_neg (by omega), if_neg (by omega), if_pos h]
theorem raw3 {s : Store} {o : Opn} (h : o.kind = 3) : rawS s o = ((confirm s o.id).1, false, (confirm s o.id).2) := by
  unfold rawS; rw [if_neg (by omega), if_neg (by omega), if_neg (by omega), if_pos h]
theorem raw4 {s : Store} {o : Opn} (h : o.kind = 4) : rawS s o = (retry s, false, 0) := by
  unfold rawS; rw [if_neg (by omega), if_neg (by omega), if_neg (by omega), if_neg (by omega), if_pos h]
theorem raw5 {s : Store} {o : Opn} (h0 : ¬ o.kind = 0) (h1 : ¬ o.kind = 1) (h2 : ¬ o.kind = 2) (h3 : ¬ o.kind = 3) (h4 : ¬ o.kind = 4) : rawS s o = (s, (offer s o.room).2, 0) := by
  unfold rawS; rw [if_neg h0, if_neg h1, if_neg h2, if_neg h3, if_neg h4]

/-- The stores behind i operations. -/
def runS (s : Store) (l : List Opn) : Store := l.foldl (fun s o => (doS s o).1) s

theorem runS_step {s : Store} {l : List Opn} {i : Nat} (h : i < l.length) : runS s (l.take (i + 1)) = (doS (runS s (l.take i)) l[i]).1 := by
  rw [take_succ_get h]
  unfold runS
  rw [List.foldl_append]
  rfl

end Go.Tv.C27

end
section
open Go Go.Tv Go.Proofs
namespace Go.Tv.C27
set_option maxRecDepth 20000
set_option maxHeartbeats 2000000
set_option linter.unusedSimpArgs false
set_option linter.unusedVariables false
theorem do_ret (n : Nat) (S : Store) (o : Opn) (hn : n ≤ 1000) (hV : VInv n S) (hb : BOK o.bundle) : Ret Try.prog 11 [encS S, encO o] (.tup [encS (doS S o).1, .bool (doS S o).2.1, encI (doS S o).2.2]) := by
  have hS := hV.sok (by omega)
  refine ret_of_awp Try.func11 rfl (Nat.le_of_ble_eq_true rfl) ?_
  refine awp_seq ?_
  refine awp_rw rfl ?_
  refine RW.new rfl rfl (eff_boxK (v := .t _) (k := 4) (id := 2) rfl rfl rfl rfl rfl rfl) ?_
  refine RW.new rfl rfl (eff_boxK (v := .t _) (k := 11) (id := 3) rfl rfl rfl rfl rfl rfl) ?_
  refine RW.new rfl rfl (eff_allocK (k := 4) (id := 4) rfl rfl tz29 rfl rfl) ?_
  refine RW.op rfl rfl (eff_assign (v := .t _) rfl rfl rfl) ?_
  refine RW.op rfl rfl (eff_assign (v := .t _) rfl rfl rfl) ?_
  refine RW.nil ?_
  refine awp_seq ?_
  refine awp_rw rfl ?_
  refine RW.new rfl rfl (eff_allocK (k := 4) (id := 7) rfl rfl tz29 rfl rfl) ?_
  refine RW.nil ?_
  refine awp_seq ?_
  refine awp_rw rfl ?_
  refine RW.op rfl rfl (eff_assign (v := .t _) rfl rfl rfl) ?_
  refine RW.nil ?_
  refine awp_seq ?_
  refine awp_rw rfl ?_
  refine RW.op rfl rfl (eff_assign (v := .t _) rfl rfl rfl) ?_
  refine RW.nil ?_
  refine awp_seq ?_
  refine awp_seq ?_
  refine awp_rw rfl ?_
  refine RW.op rfl rfl (eff_fieldAddr rfl rfl tf40_0 (by decide) rfl rfl rfl (Nat.le_of_ble_eq_true rfl)) ?_
  refine RW.op rfl rfl (eff_load (y := .t _) rfl rfl ti3 rfl (.one rfl rfl rfl rfl)) ?_
  refine RW.nil ?_
  refine awp_block ?_
  refine awp_seq ?_
  refine awp_rw rfl ?_
  refine RW.op rfl rfl (eff_iop rfl rfl rfl rfl rfl) ?_
  refine RW.op rfl rfl (eff_assign (v := .t _) rfl rfl rfl) ?_
  refine RW.nil ?_
  refine awp_cond rfl (fun h1 => ?_) (fun h1 => ?_)
  · try simp only [decide_eq_true_eq, decide_eq_false_iff_not, beq_iff_eq, bne_iff_ne, bne_eq_false_iff_eq, beq_eq_false_iff_ne, Bool.not_eq_true, Bool.not_eq_false, Bool.not_eq_true', Bool.not_eq_false', ne_eq] at h1
    refine awp_rw rfl ?_
    refine RW.op rfl rfl (eff_load rfl rfl ti29 rfl (.whole rfl rfl rfl rfl rfl rfl)) ?_
    refine RW.op rfl rfl (eff_fieldAddr rfl rfl tf40_3 (by decide) rfl rfl rfl (Nat.le_of_ble_eq_true rfl)) ?_
    refine RW.op rfl rfl (eff_loadS (ys := [_, _, _, _, _, _, _, _]) rfl rfl ti38 rfl rfl rfl rfl rfl rfl) ?_
    refine RW.op rfl rfl (eff_callT (create28_ret insC S o.bundle hS hb hV.ss) co28 rfl rfl rfl rfl) ?_
    refine RW.op rfl rfl (eff_move (v := .t _) rfl rfl rfl) ?_
    refine RW.op rfl rfl (eff_extract rfl rfl rfl rfl) ?_
    refine RW.op rfl rfl (eff_extract rfl rfl rfl rfl) ?_
    refine RW.store rfl rfl (eff_storeW (v := .t _) (els := [_]) (els' := [_]) rfl rfl ti29 rfl rfl rfl rfl rfl rfl rfl rfl rfl) ?_
    refine RW.op rfl rfl (eff_assign (v := .t _) rfl rfl rfl) ?_
    refine RW.nil ?_
    refine awp_seq ?_
    refine awp_seq ?_
    refine awp_rw rfl ?_
    refine RW.op rfl rfl (eff_move (v := .t _) rfl rfl rfl) ?_
    refine RW.op rfl rfl (eff_iop rfl rfl rfl rfl rfl) ?_
    refine RW.nil ?_
    refine awp_cond rfl (fun h2 => ?_) (fun h2 => ?_)
    · try simp only [decide_eq_true_eq, decide_eq_false_iff_not, beq_iff_eq, bne_iff_ne, bne_eq_false_iff_eq, beq_eq_false_iff_ne, Bool.not_eq_true, Bool.not_eq_false, Bool.not_eq_true', Bool.not_eq_false', ne_eq] at h2
      refine awp_rw rfl ?_
      refine RW.op rfl rfl (eff_load rfl rfl ti29 rfl (.whole rfl rfl rfl rfl rfl rfl)) ?_
      refine RW.store rfl rfl (eff_storeW (v := .t _) (els := [_]) (els' := [_]) rfl rfl ti29 rfl rfl rfl rfl rfl rfl rfl rfl rfl) ?_
      refine RW.nil ?_
      refine awp_seq ?_
      refine awp_rw rfl ?_
      refine RW.op rfl rfl (eff_load rfl rfl ti29 rfl (.whole rfl rfl rfl rfl rfl rfl)) ?_
      refine RW.op rfl rfl (eff_move (v := .t _) rfl rfl rfl) ?_
      refine RW.op rfl rfl (eff_move (v := .t _) rfl rfl rfl) ?_
      refine RW.store rfl rfl (eff_storeW (v := .t _) (els := [_]) (els' := [_]) rfl rfl ti29 rfl rfl rfl rfl rfl rfl rfl rfl rfl) ?_
      refine RW.op rfl rfl (eff_assign (v := .t _) rfl rfl rfl) ?_
      refine RW.op rfl rfl (eff_assign (v := .t _) rfl rfl rfl) ?_
      refine RW.nil ?_
      refine awp_ret ?_
      first
        | omega
        | exact absurd trivial (by assumption : ¬ True)
        | rw [do_ok (raw0 (by assumption)) (by assumption)]
        | rw [do_err (raw0 (by assumption)) (by assumption)]
        | rw [do_ok (raw1 (by assumption)) (by assumption)]
        | rw [do_err (raw1 (by assumption)) (by assumption)]
        | rw [do_ok (raw2 (by assumption)) (by assumption)]
        | rw [do_err (raw2 (by assumption)) (by assumption)]
        | rw [do_ok (raw3 (by assumption)) (by assumption)]
        | rw [do_err (raw3 (by assumption)) (by assumption)]
        | rw [do_ok (raw4 (by assumption)) rfl]
        | rw [do_ok (raw5 (by assumption) (by assumption) (by assumption) (by assumption) (by assumption)) rfl]
      all_goals exact ⟨Or.inr rfl, [_, _, _], ⟨.cell rfl ti29 (.whole rfl rfl rfl rfl rfl rfl) (.t _), .tmp (.t _), .tmp (.t _), trivial⟩, (by repeat' first | exact trivial | exact Wk.refl _ | exact Wk.sl _ | refine And.intro ?_ ?_ | refine Wk.tupP ?_ | refine Wk.aggP ?_)⟩
    · try simp only [decide_eq_true_eq, decide_eq_false_iff_not, beq_iff_eq, bne_iff_ne, bne_eq_false_iff_eq, beq_eq_false_iff_ne, Bool.not_eq_true, Bool.not_eq_false, Bool.not_eq_true', Bool.not_eq_false', ne_eq] at h2
      refine awp_skip ?_
      refine awp_seq ?_
      refine awp_rw rfl ?_
      refine RW.op rfl rfl (eff_load rfl rfl ti29 rfl (.whole rfl rfl rfl rfl rfl rfl)) ?_
      refine RW.op rfl rfl (eff_move (v := .t _) rfl rfl rfl) ?_
      refine RW.op rfl rfl (eff_move (v := .t _) rfl rfl rfl) ?_
      refine RW.store rfl rfl (eff_storeW (v := .t _) (els := [_]) (els' := [_]) rfl rfl ti29 rfl rfl rfl rfl rfl rfl rfl rfl rfl) ?_
      refine RW.op rfl rfl (eff_assign (v := .t _) rfl rfl rfl) ?_
      refine RW.op rfl rfl (eff_assign (v := .t _) rfl rfl rfl) ?_
      refine RW.nil ?_
      refine awp_ret ?_
      first
        | omega
        | exact absurd trivial (by assumption : ¬ True)
        | rw [do_ok (raw0 (by assumption)) (by assumption)]
        | rw [do_err (raw0 (by assumption)) (by assumption)]
        | rw [do_ok (raw1 (by assumption)) (by assumption)]
        | rw [do_err (raw1 (by assumption)) (by assumption)]
        | rw [do_ok (raw2 (by assumption)) (by assumption)]
        | rw [do_err (raw2 (by assumption)) (by assumption)]
        | rw [do_ok (raw3 (by assumption)) (by assumption)]
        | rw [do_err (raw3 (by assumption)) (by assumption)]
        | rw [do_ok (raw4 (by assumption)) rfl]
        | rw [do_ok (raw5 (by assumption) (by assumption) (by assumption) (by assumption) (by assumption)) rfl]
      all_goals exact ⟨Or.inr rfl, [_, _, _], ⟨.cell rfl ti29 (.whole rfl rfl rfl rfl rfl rfl) (.t _), .tmp (.t _), .tmp (.t _), trivial⟩, (by repeat' first | exact trivial | exact Wk.refl _ | exact Wk.sl _ | refine And.intro ?_ ?_ | refine Wk.tupP ?_ | refine Wk.aggP ?_)⟩
  · try simp only [decide_eq_true_eq, decide_eq_false_iff_not, beq_iff_eq, bne_iff_ne, bne_eq_false_iff_eq, beq_eq_false_iff_ne, Bool.not_eq_true, Bool.not_eq_false, Bool.not_eq_true', Bool.not_eq_false', ne_eq] at h1
    refine awp_seq ?_
    refine awp_rw rfl ?_
    refine RW.op rfl rfl (eff_iop rfl rfl rfl rfl rfl) ?_
    refine RW.op rfl rfl (eff_assign (v := .t _) rfl rfl rfl) ?_
    refine RW.nil ?_
    refine awp_cond rfl (fun h3 => ?_) (fun h3 => ?_)
    · try simp only [decide_eq_true_eq, decide_eq_false_iff_not, beq_iff_eq, bne_iff_ne, bne_eq_false_iff_eq, beq_eq_false_iff_ne, Bool.not_eq_true, Bool.not_eq_false, Bool.not_eq_true', Bool.not_eq_false', ne_eq] at h3
      refine awp_rw rfl ?_
      refine RW.op rfl rfl (eff_load rfl rfl ti29 rfl (.whole rfl rfl rfl rfl rfl rfl)) ?_
      refine RW.op rfl rfl (eff_fieldAddr rfl rfl tf40_3 (by decide) rfl rfl rfl (Nat.le_of_ble_eq_true rfl)) ?_
      refine RW.op rfl rfl (eff_loadS (ys := [_, _, _, _, _, _, _, _]) rfl rfl ti38 rfl rfl rfl rfl rfl rfl) ?_
      refine RW.op rfl rfl (eff_callT (accept23_ret insC S o.bundle hS hb hV.ss) co23 rfl rfl rfl rfl) ?_
      refine RW.op rfl rfl (eff_move (v := .t _) rfl rfl rfl) ?_
      refine RW.op rfl rfl (eff_extract rfl rfl rfl rfl) ?_
      refine RW.op rfl rfl (eff_extract rfl rfl rfl rfl) ?_
      refine RW.op rfl rfl (eff_extract rfl rfl rfl rfl) ?_
      refine RW.store rfl rfl (eff_storeW (v := .t _) (els := [_]) (els' := [_]) rfl rfl ti29 rfl rfl rfl rfl rfl rfl rfl rfl rfl) ?_
      refine RW.op rfl rfl (eff_assign (v := .t _) rfl rfl rfl) ?_
      refine RW.op rfl rfl (eff_assign (v := .t _) rfl rfl rfl) ?_
      refine RW.nil ?_
      refine awp_seq ?_
      refine awp_seq ?_
      refine awp_rw rfl ?_
      refine RW.op rfl rfl (eff_move (v := .t _) rfl rfl rfl) ?_
      refine RW.op rfl rfl (eff_iop rfl rfl rfl rfl rfl) ?_
      refine RW.nil ?_
      refine awp_cond rfl (fun h4 => ?_) (fun h4 => ?_)
      · try simp only [decide_eq_true_eq, decide_eq_false_iff_not, beq_iff_eq, bne_iff_ne, bne_eq_false_iff_eq, beq_eq_false_iff_ne, Bool.not_eq_true, Bool.not_eq_false, Bool.not_eq_true', Bool.not_eq_false', ne_eq] at h4
        refine awp_rw rfl ?_
        refine RW.op rfl rfl (eff_load rfl rfl ti29 rfl (.whole rfl rfl rfl rfl rfl rfl)) ?_
        refine RW.store rfl rfl (eff_storeW (v := .t _) (els := [_]) (els' := [_]) rfl rfl ti29 rfl rfl rfl rfl rfl rfl rfl rfl rfl) ?_
        refine RW.nil ?_
        refine awp_seq ?_
        refine awp_rw rfl ?_
        refine RW.op rfl rfl (eff_load rfl rfl ti29 rfl (.whole rfl rfl rfl rfl rfl rfl)) ?_
        refine RW.op rfl rfl (eff_move (v := .t _) rfl rfl rfl) ?_
        refine RW.op rfl rfl (eff_move (v := .t _) rfl rfl rfl) ?_
        refine RW.store rfl rfl (eff_storeW (v := .t _) (els := [_]) (els' := [_]) rfl rfl ti29 rfl rfl rfl rfl rfl rfl rfl rfl rfl) ?_
        refine RW.op rfl rfl (eff_assign (v := .t _) rfl rfl rfl) ?_
        refine RW.op rfl rfl (eff_assign (v := .t _) rfl rfl rfl) ?_
        refine RW.nil ?_
        refine awp_ret ?_
        first
          | omega
          | exact absurd trivial (by assumption : ¬ True)
          | rw [do_ok (raw0 (by assumption)) (by assumption)]
          | rw [do_err (raw0 (by assumption)) (by assumption)]
          | rw [do_ok (raw1 (by assumption)) (by assumption)]
          | rw [do_err (raw1 (by assumption)) (by assumption)]
          | rw [do_ok (raw2 (by assumption)) (by assumption)]
          | rw [do_err (raw2 (by assumption)) (by assumption)]
          | rw [do_ok (raw3 (by assumption)) (by assumption)]
          | rw [do_err (raw3 (by assumption)) (by assumption)]
          | rw [do_ok (raw4 (by assumption)) rfl]
          | rw [do_ok (raw5 (by assumption) (by assumption) (by assumption) (by assumption) (by assumption)) rfl]
        all_goals exact ⟨Or.inr rfl, [_, _, _], ⟨.cell rfl ti29 (.whole rfl rfl rfl rfl rfl rfl) (.t _), .tmp (.t _), .tmp (.t _), trivial⟩, (by repeat' first | exact trivial | exact Wk.refl _ | exact Wk.sl _ | refine And.intro ?_ ?_ | refine Wk.tupP ?_ | refine Wk.aggP ?_)⟩
      · try simp only [decide_eq_true_eq, decide_eq_false_iff_not, beq_iff_eq, bne_iff_ne, bne_eq_false_iff_eq, beq_eq_false_iff_ne, Bool.not_eq_true, Bool.not_eq_false, Bool.not_eq_true', Bool.not_eq_false', ne_eq] at h4
        refine awp_skip ?_
        refine awp_seq ?_
        refine awp_rw rfl ?_
        refine RW.op rfl rfl (eff_load rfl rfl ti29 rfl (.whole rfl rfl rfl rfl rfl rfl)) ?_
        refine RW.op rfl rfl (eff_move (v := .t _) rfl rfl rfl) ?_
        refine RW.op rfl rfl (eff_move (v := .t _) rfl rfl rfl) ?_
        refine RW.store rfl rfl (eff_storeW (v := .t _) (els := [_]) (els' := [_]) rfl rfl ti29 rfl rfl rfl rfl rfl rfl rfl rfl rfl) ?_
        refine RW.op rfl rfl (eff_assign (v := .t _) rfl rfl rfl) ?_
        refine RW.op rfl rfl (eff_assign (v := .t _) rfl rfl rfl) ?_
        refine RW.nil ?_
        refine awp_ret ?_
        first
          | omega
          | exact absurd trivial (by assumption : ¬ True)
          | rw [do_ok (raw0 (by assumption)) (by assumption)]
          | rw [do_err (raw0 (by assumption)) (by assumption)]
          | rw [do_ok (raw1 (by assumption)) (by assumption)]
          | rw [do_err (raw1 (by assumption)) (by assumption)]
          | rw [do_ok (raw2 (by assumption)) (by assumption)]
          | rw [do_err (raw2 (by assumption)) (by assumption)]
          | rw [do_ok (raw3 (by assumption)) (by assumption)]
          | rw [do_err (raw3 (by assumption)) (by assumption)]
          | rw [do_ok (raw4 (by assumption)) rfl]
          | rw [do_ok (raw5 (by assumption) (by assumption) (by assumption) (by assumption) (by assumption)) rfl]
        all_goals exact ⟨Or.inr rfl, [_, _, _], ⟨.cell rfl ti29 (.whole rfl rfl rfl rfl rfl rfl) (.t _), .tmp (.t _), .tmp (.t _), trivial⟩, (by repeat' first | exact trivial | exact Wk.refl _ | exact Wk.sl _ | refine And.intro ?_ ?_ | refine Wk.tupP ?_ | refine Wk.aggP ?_)⟩
    · try simp only [decide_eq_true_eq, decide_eq_false_iff_not, beq_iff_eq, bne_iff_ne, bne_eq_false_iff_eq, beq_eq_false_iff_ne, Bool.not_eq_true, Bool.not_eq_false, Bool.not_eq_true', Bool.not_eq_false', ne_eq] at h3
      refine awp_seq ?_
      refine awp_rw rfl ?_
      refine RW.op rfl rfl (eff_iop rfl rfl rfl rfl rfl) ?_
      refine RW.op rfl rfl (eff_assign (v := .t _) rfl rfl rfl) ?_
      refine RW.nil ?_
      refine awp_cond rfl (fun h5 => ?_) (fun h5 => ?_)
      · try simp only [decide_eq_true_eq, decide_eq_false_iff_not, beq_iff_eq, bne_iff_ne, bne_eq_false_iff_eq, beq_eq_false_iff_ne, Bool.not_eq_true, Bool.not_eq_false, Bool.not_eq_true', Bool.not_eq_false', ne_eq] at h5
        refine awp_rw rfl ?_
        refine RW.op rfl rfl (eff_load rfl rfl ti29 rfl (.whole rfl rfl rfl rfl rfl rfl)) ?_
        refine RW.op rfl rfl (eff_fieldAddr rfl rfl tf40_1 (by decide) rfl rfl rfl (Nat.le_of_ble_eq_true rfl)) ?_
        refine RW.op rfl rfl (eff_load (y := .t _) rfl rfl ti3 rfl (.one rfl rfl rfl rfl)) ?_
        refine RW.op rfl rfl (eff_callT (pass26_ret insC S o.id hS hV.ps) co26 rfl rfl rfl rfl) ?_
        refine RW.op rfl rfl (eff_move (v := .t _) rfl rfl rfl) ?_
        refine RW.op rfl rfl (eff_extract rfl rfl rfl rfl) ?_
        refine RW.op rfl rfl (eff_extract rfl rfl rfl rfl) ?_
        refine RW.store rfl rfl (eff_storeW (v := .t _) (els := [_]) (els' := [_]) rfl rfl ti29 rfl rfl rfl rfl rfl rfl rfl rfl rfl) ?_
        refine RW.op rfl rfl (eff_assign (v := .t _) rfl rfl rfl) ?_
        refine RW.nil ?_
        refine awp_seq ?_
        refine awp_seq ?_
        refine awp_rw rfl ?_
        refine RW.op rfl rfl (eff_move (v := .t _) rfl rfl rfl) ?_
        refine RW.op rfl rfl (eff_iop rfl rfl rfl rfl rfl) ?_
        refine RW.nil ?_
        refine awp_cond rfl (fun h6 => ?_) (fun h6 => ?_)
        · try simp only [decide_eq_true_eq, decide_eq_false_iff_not, beq_iff_eq, bne_iff_ne, bne_eq_false_iff_eq, beq_eq_false_iff_ne, Bool.not_eq_true, Bool.not_eq_false, Bool.not_eq_true', Bool.not_eq_false', ne_eq] at h6
          refine awp_rw rfl ?_
          refine RW.op rfl rfl (eff_load rfl rfl ti29 rfl (.whole rfl rfl rfl rfl rfl rfl)) ?_
          refine RW.store rfl rfl (eff_storeW (v := .t _) (els := [_]) (els' := [_]) rfl rfl ti29 rfl rfl rfl rfl rfl rfl rfl rfl rfl) ?_
          refine RW.nil ?_
          refine awp_seq ?_
          refine awp_rw rfl ?_
          refine RW.op rfl rfl (eff_load rfl rfl ti29 rfl (.whole rfl rfl rfl rfl rfl rfl)) ?_
          refine RW.op rfl rfl (eff_move (v := .t _) rfl rfl rfl) ?_
          refine RW.op rfl rfl (eff_move (v := .t _) rfl rfl rfl) ?_
          refine RW.store rfl rfl (eff_storeW (v := .t _) (els := [_]) (els' := [_]) rfl rfl ti29 rfl rfl rfl rfl rfl rfl rfl rfl rfl) ?_
          refine RW.op rfl rfl (eff_assign (v := .t _) rfl rfl rfl) ?_
          refine RW.op rfl rfl (eff_assign (v := .t _) rfl rfl rfl) ?_
          refine RW.nil ?_
          refine awp_ret ?_
          first
            | omega
            | exact absurd trivial (by assumption : ¬ True)
            | rw [do_ok (raw0 (by assumption)) (by assumption)]
            | rw [do_err (raw0 (by assumption)) (by assumption)]
            | rw [do_ok (raw1 (by assumption)) (by assumption)]
            | rw [do_err (raw1 (by assumption)) (by assumption)]
            | rw [do_ok (raw2 (by assumption)) (by assumption)]
            | rw [do_err (raw2 (by assumption)) (by assumption)]
            | rw [do_ok (raw3 (by assumption)) (by assumption)]
            | rw [do_err (raw3 (by assumption)) (by assumption)]
            | rw [do_ok (raw4 (by assumption)) rfl]
            | rw [do_ok (raw5 (by assumption) (by assumption) (by assumption) (by assumption) (by assumption)) rfl]
          all_goals exact ⟨Or.inr rfl, [_, _, _], ⟨.cell rfl ti29 (.whole rfl rfl rfl rfl rfl rfl) (.t _), .tmp (.t _), .tmp (.t _), trivial⟩, (by repeat' first | exact trivial | exact Wk.refl _ | exact Wk.sl _ | refine And.intro ?_ ?_ | refine Wk.tupP ?_ | refine Wk.aggP ?_)⟩
        · try simp only [decide_eq_true_eq, decide_eq_false_iff_not, beq_iff_eq, bne_iff_ne, bne_eq_false_iff_eq, beq_eq_false_iff_ne, Bool.not_eq_true, Bool.not_eq_false, Bool.not_eq_true', Bool.not_eq_false', ne_eq] at h6
          refine awp_skip ?_
          refine awp_seq ?_
          refine awp_rw rfl ?_
          refine RW.op rfl rfl (eff_load rfl rfl ti29 rfl (.whole rfl rfl rfl rfl rfl rfl)) ?_
          refine RW.op rfl rfl (eff_move (v := .t _) rfl rfl rfl) ?_
          refine RW.op rfl rfl (eff_move (v := .t _) rfl rfl rfl) ?_
          refine RW.store rfl rfl (eff_storeW (v := .t _) (els := [_]) (els' := [_]) rfl rfl ti29 rfl rfl rfl rfl rfl rfl rfl rfl rfl) ?_
          refine RW.op rfl rfl (eff_assign (v := .t _) rfl rfl rfl) ?_
          refine RW.op rfl rfl (eff_assign (v := .t _) rfl rfl rfl) ?_
          refine RW.nil ?_
          refine awp_ret ?_
          first
            | omega
            | exact absurd trivial (by assumption : ¬ True)
            | rw [do_ok (raw0 (by assumption)) (by assumption)]
            | rw [do_err (raw0 (by assumption)) (by assumption)]
            | rw [do_ok (raw1 (by assumption)) (by assumption)]
            | rw [do_err (raw1 (by assumption)) (by assumption)]
            | rw [do_ok (raw2 (by assumption)) (by assumption)]
            | rw [do_err (raw2 (by assumption)) (by assumption)]
            | rw [do_ok (raw3 (by assumption)) (by assumption)]
            | rw [do_err (raw3 (by assumption)) (by assumption)]
            | rw [do_ok (raw4 (by assumption)) rfl]
            | rw [do_ok (raw5 (by assumption) (by assumption) (by assumption) (by assumption) (by assumption)) rfl]
          all_goals exact ⟨Or.inr rfl, [_, _, _], ⟨.cell rfl ti29 (.whole rfl rfl rfl rfl rfl rfl) (.t _), .tmp (.t _), .tmp (.t _), trivial⟩, (by repeat' first | exact trivial | exact Wk.refl _ | exact Wk.sl _ | refine And.intro ?_ ?_ | refine Wk.tupP ?_ | refine Wk.aggP ?_)⟩
      · try simp only [decide_eq_true_eq, decide_eq_false_iff_not, beq_iff_eq, bne_iff_ne, bne_eq_false_iff_eq, beq_eq_false_iff_ne, Bool.not_eq_true, Bool.not_eq_false, Bool.not_eq_true', Bool.not_eq_false', ne_eq] at h5
        refine awp_seq ?_
        refine awp_rw rfl ?_
        refine RW.op rfl rfl (eff_iop rfl rfl rfl rfl rfl) ?_
        refine RW.op rfl rfl (eff_assign (v := .t _) rfl rfl rfl) ?_
        refine RW.nil ?_
        refine awp_cond rfl (fun h7 => ?_) (fun h7 => ?_)
        · try simp only [decide_eq_true_eq, decide_eq_false_iff_not, beq_iff_eq, bne_iff_ne, bne_eq_false_iff_eq, beq_eq_false_iff_ne, Bool.not_eq_true, Bool.not_eq_false, Bool.not_eq_true', Bool.not_eq_false', ne_eq] at h7
          refine awp_rw rfl ?_
          refine RW.op rfl rfl (eff_load rfl rfl ti29 rfl (.whole rfl rfl rfl rfl rfl rfl)) ?_
          refine RW.op rfl rfl (eff_fieldAddr rfl rfl tf40_1 (by decide) rfl rfl rfl (Nat.le_of_ble_eq_true rfl)) ?_
          refine RW.op rfl rfl (eff_load (y := .t _) rfl rfl ti3 rfl (.one rfl rfl rfl rfl)) ?_
          refine RW.op rfl rfl (eff_callT (confirm24_ret S o.id hS hV.ps) co24 rfl rfl rfl rfl) ?_
          refine RW.op rfl rfl (eff_move (v := .t _) rfl rfl rfl) ?_
          refine RW.op rfl rfl (eff_extract rfl rfl rfl rfl) ?_
          refine RW.op rfl rfl (eff_extract rfl rfl rfl rfl) ?_
          refine RW.store rfl rfl (eff_storeW (v := .t _) (els := [_]) (els' := [_]) rfl rfl ti29 rfl rfl rfl rfl rfl rfl rfl rfl rfl) ?_
          refine RW.op rfl rfl (eff_assign (v := .t _) rfl rfl rfl) ?_
          refine RW.nil ?_
          refine awp_seq ?_
          refine awp_seq ?_
          refine awp_rw rfl ?_
          refine RW.op rfl rfl (eff_move (v := .t _) rfl rfl rfl) ?_
          refine RW.op rfl rfl (eff_iop rfl rfl rfl rfl rfl) ?_
          refine RW.nil ?_
          refine awp_cond rfl (fun h8 => ?_) (fun h8 => ?_)
          · try simp only [decide_eq_true_eq, decide_eq_false_iff_not, beq_iff_eq, bne_iff_ne, bne_eq_false_iff_eq, beq_eq_false_iff_ne, Bool.not_eq_true, Bool.not_eq_false, Bool.not_eq_true', Bool.not_eq_false', ne_eq] at h8
            refine awp_rw rfl ?_
            refine RW.op rfl rfl (eff_load rfl rfl ti29 rfl (.whole rfl rfl rfl rfl rfl rfl)) ?_
            refine RW.store rfl rfl (eff_storeW (v := .t _) (els := [_]) (els' := [_]) rfl rfl ti29 rfl rfl rfl rfl rfl rfl rfl rfl rfl) ?_
            refine RW.nil ?_
            refine awp_seq ?_
            refine awp_rw rfl ?_
            refine RW.op rfl rfl (eff_load rfl rfl ti29 rfl (.whole rfl rfl rfl rfl rfl rfl)) ?_
            refine RW.op rfl rfl (eff_move (v := .t _) rfl rfl rfl) ?_
            refine RW.op rfl rfl (eff_move (v := .t _) rfl rfl rfl) ?_
            refine RW.store rfl rfl (eff_storeW (v := .t _) (els := [_]) (els' := [_]) rfl rfl ti29 rfl rfl rfl rfl rfl rfl rfl rfl rfl) ?_
            refine RW.op rfl rfl (eff_assign (v := .t _) rfl rfl rfl) ?_
            refine RW.op rfl rfl (eff_assign (v := .t _) rfl rfl rfl) ?_
            refine RW.nil ?_
            refine awp_ret ?_
            first
              | omega
              | exact absurd trivial (by assumption : ¬ True)
              | rw [do_ok (raw0 (by assumption)) (by assumption)]
              | rw [do_err (raw0 (by assumption)) (by assumption)]
              | rw [do_ok (raw1 (by assumption)) (by assumption)]
              | rw [do_err (raw1 (by assumption)) (by assumption)]
              | rw [do_ok (raw2 (by assumption)) (by assumption)]
              | rw [do_err (raw2 (by assumption)) (by assumption)]
              | rw [do_ok (raw3 (by assumption)) (by assumption)]
              | rw [do_err (raw3 (by assumption)) (by assumption)]
              | rw [do_ok (raw4 (by assumption)) rfl]
              | rw [do_ok (raw5 (by assumption) (by assumption) (by assumption) (by assumption) (by assumption)) rfl]
            all_goals exact ⟨Or.inr rfl, [_, _, _], ⟨.cell rfl ti29 (.whole rfl rfl rfl rfl rfl rfl) (.t _), .tmp (.t _), .tmp (.t _), trivial⟩, (by repeat' first | exact trivial | exact Wk.refl _ | exact Wk.sl _ | refine And.intro ?_ ?_ | refine Wk.tupP ?_ | refine Wk.aggP ?_)⟩
          · try simp only [decide_eq_true_eq, decide_eq_false_iff_not, beq_iff_eq, bne_iff_ne, bne_eq_false_iff_eq, beq_eq_false_iff_ne, Bool.not_eq_true, Bool.not_eq_false, Bool.not_eq_true', Bool.not_eq_false', ne_eq] at h8
            refine awp_skip ?_
            refine awp_seq ?_
            refine awp_rw rfl ?_
            refine RW.op rfl rfl (eff_load rfl rfl ti29 rfl (.whole rfl rfl rfl rfl rfl rfl)) ?_
            refine RW.op rfl rfl (eff_move (v := .t _) rfl rfl rfl) ?_
            refine RW.op rfl rfl (eff_move (v := .t _) rfl rfl rfl) ?_
            refine RW.store rfl rfl (eff_storeW (v := .t _) (els := [_]) (els' := [_]) rfl rfl ti29 rfl rfl rfl rfl rfl rfl rfl rfl rfl) ?_
            refine RW.op rfl rfl (eff_assign (v := .t _) rfl rfl rfl) ?_
            refine RW.op rfl rfl (eff_assign (v := .t _) rfl rfl rfl) ?_
            refine RW.nil ?_
            refine awp_ret ?_
            first
              | omega
              | exact absurd trivial (by assumption : ¬ True)
              | rw [do_ok (raw0 (by assumption)) (by assumption)]
              | rw [do_err (raw0 (by assumption)) (by assumption)]
              | rw [do_ok (raw1 (by assumption)) (by assumption)]
              | rw [do_err (raw1 (by assumption)) (by assumption)]
              | rw [do_ok (raw2 (by assumption)) (by assumption)]
              | rw [do_err (raw2 (by assumption)) (by assumption)]
              | rw [do_ok (raw3 (by assumption)) (by assumption)]
              | rw [do_err (raw3 (by assumption)) (by assumption)]
              | rw [do_ok (raw4 (by assumption)) rfl]
              | rw [do_ok (raw5 (by assumption) (by assumption) (by assumption) (by assumption) (by assumption)) rfl]
            all_goals exact ⟨Or.inr rfl, [_, _, _], ⟨.cell rfl ti29 (.whole rfl rfl rfl rfl rfl rfl) (.t _), .tmp (.t _), .tmp (.t _), trivial⟩, (by repeat' first | exact trivial | exact Wk.refl _ | exact Wk.sl _ | refine And.intro ?_ ?_ | refine Wk.tupP ?_ | refine Wk.aggP ?_)⟩
        · try simp only [decide_eq_true_eq, decide_eq_false_iff_not, beq_iff_eq, bne_iff_ne, bne_eq_false_iff_eq, beq_eq_false_iff_ne, Bool.not_eq_true, Bool.not_eq_false, Bool.not_eq_true', Bool.not_eq_false', ne_eq] at h7
          refine awp_seq ?_
          refine awp_rw rfl ?_
          refine RW.op rfl rfl (eff_iop rfl rfl rfl rfl rfl) ?_
          refine RW.op rfl rfl (eff_assign (v := .t _) rfl rfl rfl) ?_
          refine RW.nil ?_
          refine awp_cond rfl (fun h9 => ?_) (fun h9 => ?_)
          · try simp only [decide_eq_true_eq, decide_eq_false_iff_not, beq_iff_eq, bne_iff_ne, bne_eq_false_iff_eq, beq_eq_false_iff_ne, Bool.not_eq_true, Bool.not_eq_false, Bool.not_eq_true', Bool.not_eq_false', ne_eq] at h9
            refine awp_rw rfl ?_
            refine RW.op rfl rfl (eff_load rfl rfl ti29 rfl (.whole rfl rfl rfl rfl rfl rfl)) ?_
            refine RW.op rfl rfl (eff_callT (retry27_ret S hS) co27 rfl rfl rfl rfl) ?_
            refine RW.store rfl rfl (eff_storeW (v := .t _) (els := [_]) (els' := [_]) rfl rfl ti29 rfl rfl rfl rfl rfl rfl rfl rfl rfl) ?_
            refine RW.nil ?_
            refine awp_seq ?_
            refine awp_seq ?_
            refine awp_rw rfl ?_
            refine RW.op rfl rfl (eff_move (v := .t _) rfl rfl rfl) ?_
            refine RW.op rfl rfl (eff_iop rfl rfl rfl rfl rfl) ?_
            refine RW.nil ?_
            refine awp_cond rfl (fun h10 => ?_) (fun h10 => ?_)
            · try simp only [decide_eq_true_eq, decide_eq_false_iff_not, beq_iff_eq, bne_iff_ne, bne_eq_false_iff_eq, beq_eq_false_iff_ne, Bool.not_eq_true, Bool.not_eq_false, Bool.not_eq_true', Bool.not_eq_false', ne_eq] at h10
              refine awp_rw rfl ?_
              refine RW.op rfl rfl (eff_load rfl rfl ti29 rfl (.whole rfl rfl rfl rfl rfl rfl)) ?_
              refine RW.store rfl rfl (eff_storeW (v := .t _) (els := [_]) (els' := [_]) rfl rfl ti29 rfl rfl rfl rfl rfl rfl rfl rfl rfl) ?_
              refine RW.nil ?_
              refine awp_seq ?_
              refine awp_rw rfl ?_
              refine RW.op rfl rfl (eff_load rfl rfl ti29 rfl (.whole rfl rfl rfl rfl rfl rfl)) ?_
              refine RW.op rfl rfl (eff_move (v := .t _) rfl rfl rfl) ?_
              refine RW.op rfl rfl (eff_move (v := .t _) rfl rfl rfl) ?_
              refine RW.store rfl rfl (eff_storeW (v := .t _) (els := [_]) (els' := [_]) rfl rfl ti29 rfl rfl rfl rfl rfl rfl rfl rfl rfl) ?_
              refine RW.op rfl rfl (eff_assign (v := .t _) rfl rfl rfl) ?_
              refine RW.op rfl rfl (eff_assign (v := .t _) rfl rfl rfl) ?_
              refine RW.nil ?_
              refine awp_ret ?_
              first
                | omega
                | exact absurd trivial (by assumption : ¬ True)
                | rw [do_ok (raw0 (by assumption)) (by assumption)]
                | rw [do_err (raw0 (by assumption)) (by assumption)]
                | rw [do_ok (raw1 (by assumption)) (by assumption)]
                | rw [do_err (raw1 (by assumption)) (by assumption)]
                | rw [do_ok (raw2 (by assumption)) (by assumption)]
                | rw [do_err (raw2 (by assumption)) (by assumption)]
                | rw [do_ok (raw3 (by assumption)) (by assumption)]
                | rw [do_err (raw3 (by assumption)) (by assumption)]
                | rw [do_ok (raw4 (by assumption)) rfl]
                | rw [do_ok (raw5 (by assumption) (by assumption) (by assumption) (by assumption) (by assumption)) rfl]
              all_goals exact ⟨Or.inr rfl, [_, _, _], ⟨.cell rfl ti29 (.whole rfl rfl rfl rfl rfl rfl) (.t _), .tmp (.t _), .tmp (.t _), trivial⟩, (by repeat' first | exact trivial | exact Wk.refl _ | exact Wk.sl _ | refine And.intro ?_ ?_ | refine Wk.tupP ?_ | refine Wk.aggP ?_)⟩
            · try simp only [decide_eq_true_eq, decide_eq_false_iff_not, beq_iff_eq, bne_iff_ne, bne_eq_false_iff_eq, beq_eq_false_iff_ne, Bool.not_eq_true, Bool.not_eq_false, Bool.not_eq_true', Bool.not_eq_false', ne_eq] at h10
              refine awp_skip ?_
              refine awp_seq ?_
              refine awp_rw rfl ?_
              refine RW.op rfl rfl (eff_load rfl rfl ti29 rfl (.whole rfl rfl rfl rfl rfl rfl)) ?_
              refine RW.op rfl rfl (eff_move (v := .t _) rfl rfl rfl) ?_
              refine RW.op rfl rfl (eff_move (v := .t _) rfl rfl rfl) ?_
              refine RW.store rfl rfl (eff_storeW (v := .t _) (els := [_]) (els' := [_]) rfl rfl ti29 rfl rfl rfl rfl rfl rfl rfl rfl rfl) ?_
              refine RW.op rfl rfl (eff_assign (v := .t _) rfl rfl rfl) ?_
              refine RW.op rfl rfl (eff_assign (v := .t _) rfl rfl rfl) ?_
              refine RW.nil ?_
              refine awp_ret ?_
              first
                | omega
                | exact absurd trivial (by assumption : ¬ True)
                | rw [do_ok (raw0 (by assumption)) (by assumption)]
                | rw [do_err (raw0 (by assumption)) (by assumption)]
                | rw [do_ok (raw1 (by assumption)) (by assumption)]
                | rw [do_err (raw1 (by assumption)) (by assumption)]
                | rw [do_ok (raw2 (by assumption)) (by assumption)]
                | rw [do_err (raw2 (by assumption)) (by assumption)]
                | rw [do_ok (raw3 (by assumption)) (by assumption)]
                | rw [do_err (raw3 (by assumption)) (by assumption)]
                | rw [do_ok (raw4 (by assumption)) rfl]
                | rw [do_ok (raw5 (by assumption) (by assumption) (by assumption) (by assumption) (by assumption)) rfl]
              all_goals exact ⟨Or.inr rfl, [_, _, _], ⟨.cell rfl ti29 (.whole rfl rfl rfl rfl rfl rfl) (.t _), .tmp (.t _), .tmp (.t _), trivial⟩, (by repeat' first | exact trivial | exact Wk.refl _ | exact Wk.sl _ | refine And.intro ?_ ?_ | refine Wk.tupP ?_ | refine Wk.aggP ?_)⟩
          · try simp only [decide_eq_true_eq, decide_eq_false_iff_not, beq_iff_eq, bne_iff_ne, bne_eq_false_iff_eq, beq_eq_false_iff_ne, Bool.not_eq_true, Bool.not_eq_false, Bool.not_eq_true', Bool.not_eq_false', ne_eq] at h9
            refine awp_seq ?_
            refine awp_rw rfl ?_
            refine RW.op rfl rfl (eff_load rfl rfl ti29 rfl (.whole rfl rfl rfl rfl rfl rfl)) ?_
            refine RW.op rfl rfl (eff_fieldAddr rfl rfl tf40_2 (by decide) rfl rfl rfl (Nat.le_of_ble_eq_true rfl)) ?_
            refine RW.op rfl rfl (eff_load (y := .t _) rfl rfl ti3 rfl (.one rfl rfl rfl rfl)) ?_
            refine RW.op rfl rfl (eff_callT (offer18_ret S o.room hS hV.ps) co18 rfl rfl rfl rfl) ?_
            refine RW.op rfl rfl (eff_move (v := .t _) rfl rfl rfl) ?_
            refine RW.op rfl rfl (eff_extract rfl rfl rfl rfl) ?_
            refine RW.op rfl rfl (eff_extract rfl rfl rfl rfl) ?_
            refine RW.op rfl rfl (eff_assign (v := .t _) rfl rfl rfl) ?_
            refine RW.nil ?_
            refine awp_rw rfl ?_
            refine RW.op rfl rfl (eff_load rfl rfl ti29 rfl (.whole rfl rfl rfl rfl rfl rfl)) ?_
            refine RW.store rfl rfl (eff_storeW (v := .t _) (els := [_]) (els' := [_]) rfl rfl ti29 rfl rfl rfl rfl rfl rfl rfl rfl rfl) ?_
            refine RW.nil ?_
            refine awp_seq ?_
            refine awp_seq ?_
            refine awp_rw rfl ?_
            refine RW.op rfl rfl (eff_move (v := .t _) rfl rfl rfl) ?_
            refine RW.op rfl rfl (eff_iop rfl rfl rfl rfl rfl) ?_
            refine RW.nil ?_
            refine awp_cond rfl (fun h11 => ?_) (fun h11 => ?_)
            · try simp only [decide_eq_true_eq, decide_eq_false_iff_not, beq_iff_eq, bne_iff_ne, bne_eq_false_iff_eq, beq_eq_false_iff_ne, Bool.not_eq_true, Bool.not_eq_false, Bool.not_eq_true', Bool.not_eq_false', ne_eq] at h11
              refine awp_rw rfl ?_
              refine RW.op rfl rfl (eff_load rfl rfl ti29 rfl (.whole rfl rfl rfl rfl rfl rfl)) ?_
              refine RW.store rfl rfl (eff_storeW (v := .t _) (els := [_]) (els' := [_]) rfl rfl ti29 rfl rfl rfl rfl rfl rfl rfl rfl rfl) ?_
              refine RW.nil ?_
              refine awp_seq ?_
              refine awp_rw rfl ?_
              refine RW.op rfl rfl (eff_load rfl rfl ti29 rfl (.whole rfl rfl rfl rfl rfl rfl)) ?_
              refine RW.op rfl rfl (eff_move (v := .t _) rfl rfl rfl) ?_
              refine RW.op rfl rfl (eff_move (v := .t _) rfl rfl rfl) ?_
              refine RW.store rfl rfl (eff_storeW (v := .t _) (els := [_]) (els' := [_]) rfl rfl ti29 rfl rfl rfl rfl rfl rfl rfl rfl rfl) ?_
              refine RW.op rfl rfl (eff_assign (v := .t _) rfl rfl rfl) ?_
              refine RW.op rfl rfl (eff_assign (v := .t _) rfl rfl rfl) ?_
              refine RW.nil ?_
              refine awp_ret ?_
              first
                | omega
                | exact absurd trivial (by assumption : ¬ True)
                | rw [do_ok (raw0 (by assumption)) (by assumption)]
                | rw [do_err (raw0 (by assumption)) (by assumption)]
                | rw [do_ok (raw1 (by assumption)) (by assumption)]
                | rw [do_err (raw1 (by assumption)) (by assumption)]
                | rw [do_ok (raw2 (by assumption)) (by assumption)]
                | rw [do_err (raw2 (by assumption)) (by assumption)]
                | rw [do_ok (raw3 (by assumption)) (by assumption)]
                | rw [do_err (raw3 (by assumption)) (by assumption)]
                | rw [do_ok (raw4 (by assumption)) rfl]
                | rw [do_ok (raw5 (by assumption) (by assumption) (by assumption) (by assumption) (by assumption)) rfl]
              all_goals exact ⟨Or.inr rfl, [_, _, _], ⟨.cell rfl ti29 (.whole rfl rfl rfl rfl rfl rfl) (.t _), .tmp (.t _), .tmp (.t _), trivial⟩, (by repeat' first | exact trivial | exact Wk.refl _ | exact Wk.sl _ | refine And.intro ?_ ?_ | refine Wk.tupP ?_ | refine Wk.aggP ?_)⟩
            · try simp only [decide_eq_true_eq, decide_eq_false_iff_not, beq_iff_eq, bne_iff_ne, bne_eq_false_iff_eq, beq_eq_false_iff_ne, Bool.not_eq_true, Bool.not_eq_false, Bool.not_eq_true', Bool.not_eq_false', ne_eq] at h11
              refine awp_skip ?_
              refine awp_seq ?_
              refine awp_rw rfl ?_
              refine RW.op rfl rfl (eff_load rfl rfl ti29 rfl (.whole rfl rfl rfl rfl rfl rfl)) ?_
              refine RW.op rfl rfl (eff_move (v := .t _) rfl rfl rfl) ?_
              refine RW.op rfl rfl (eff_move (v := .t _) rfl rfl rfl) ?_
              refine RW.store rfl rfl (eff_storeW (v := .t _) (els := [_]) (els' := [_]) rfl rfl ti29 rfl rfl rfl rfl rfl rfl rfl rfl rfl) ?_
              refine RW.op rfl rfl (eff_assign (v := .t _) rfl rfl rfl) ?_
              refine RW.op rfl rfl (eff_assign (v := .t _) rfl rfl rfl) ?_
              refine RW.nil ?_
              refine awp_ret ?_
              first
                | omega
                | exact absurd trivial (by assumption : ¬ True)
                | rw [do_ok (raw0 (by assumption)) (by assumption)]
                | rw [do_err (raw0 (by assumption)) (by assumption)]
                | rw [do_ok (raw1 (by assumption)) (by assumption)]
                | rw [do_err (raw1 (by assumption)) (by assumption)]
                | rw [do_ok (raw2 (by assumption)) (by assumption)]
                | rw [do_err (raw2 (by assumption)) (by assumption)]
                | rw [do_ok (raw3 (by assumption)) (by assumption)]
                | rw [do_err (raw3 (by assumption)) (by assumption)]
                | rw [do_ok (raw4 (by assumption)) rfl]
                | rw [do_ok (raw5 (by assumption) (by assumption) (by assumption) (by assumption) (by assumption)) rfl]
              all_goals exact ⟨Or.inr rfl, [_, _, _], ⟨.cell rfl ti29 (.whole rfl rfl rfl rfl rfl rfl) (.t _), .tmp (.t _), .tmp (.t _), trivial⟩, (by repeat' first | exact trivial | exact Wk.refl _ | exact Wk.sl _ | refine And.intro ?_ ?_ | refine Wk.tupP ?_ | refine Wk.aggP ?_)⟩

theorem wanted_ret (n : Nat) (S : Store) (o : Opn) (hn : n ≤ 1000) (hV : VInv n S) (hb : BOK o.bundle) : Ret Try.prog 12 [encS S, encO o] (.tup [encS (doS S o).1, .bool (doS S o).2.1, encI (doS S o).2.2]) := by
  have hS := hV.sok (by omega)
  refine ret_of_awp Try.func12 rfl (Nat.le_of_ble_eq_true rfl) ?_
  refine awp_seq ?_
  refine awp_rw rfl ?_
  refine RW.new rfl rfl (eff_boxK (v := .t _) (k := 4) (id := 2) rfl rfl rfl rfl rfl rfl) ?_
  refine RW.new rfl rfl (eff_boxK (v := .t _) (k := 11) (id := 3) rfl rfl rfl rfl rfl rfl) ?_
  refine RW.new rfl rfl (eff_allocK (k := 4) (id := 4) rfl rfl tz29 rfl rfl) ?_
  refine RW.op rfl rfl (eff_assign (v := .t _) rfl rfl rfl) ?_
  refine RW.op rfl rfl (eff_assign (v := .t _) rfl rfl rfl) ?_
  refine RW.nil ?_
  refine awp_seq ?_
  refine awp_rw rfl ?_
  refine RW.new rfl rfl (eff_allocK (k := 4) (id := 7) rfl rfl tz29 rfl rfl) ?_
  refine RW.nil ?_
  refine awp_seq ?_
  refine awp_rw rfl ?_
  refine RW.op rfl rfl (eff_assign (v := .t _) rfl rfl rfl) ?_
  refine RW.nil ?_
  refine awp_seq ?_
  refine awp_rw rfl ?_
  refine RW.op rfl rfl (eff_assign (v := .t _) rfl rfl rfl) ?_
  refine RW.nil ?_
  refine awp_seq ?_
  refine awp_seq ?_
  refine awp_rw rfl ?_
  refine RW.op rfl rfl (eff_fieldAddr rfl rfl tf40_0 (by decide) rfl rfl rfl (Nat.le_of_ble_eq_true rfl)) ?_
  refine RW.op rfl rfl (eff_load (y := .t _) rfl rfl ti3 rfl (.one rfl rfl rfl rfl)) ?_
  refine RW.nil ?_
  refine awp_block ?_
  refine awp_seq ?_
  refine awp_rw rfl ?_
  refine RW.op rfl rfl (eff_iop rfl rfl rfl rfl rfl) ?_
  refine RW.op rfl rfl (eff_assign (v := .t _) rfl rfl rfl) ?_
  refine RW.nil ?_
  refine awp_cond rfl (fun h1 => ?_) (fun h1 => ?_)
  · try simp only [decide_eq_true_eq, decide_eq_false_iff_not, beq_iff_eq, bne_iff_ne, bne_eq_false_iff_eq, beq_eq_false_iff_ne, Bool.not_eq_true, Bool.not_eq_false, Bool.not_eq_true', Bool.not_eq_false', ne_eq] at h1
    refine awp_rw rfl ?_
    refine RW.op rfl rfl (eff_load rfl rfl ti29 rfl (.whole rfl rfl rfl rfl rfl rfl)) ?_
    refine RW.op rfl rfl (eff_fieldAddr rfl rfl tf40_3 (by decide) rfl rfl rfl (Nat.le_of_ble_eq_true rfl)) ?_
    refine RW.op rfl rfl (eff_loadS (ys := [_, _, _, _, _, _, _, _]) rfl rfl ti38 rfl rfl rfl rfl rfl rfl) ?_
    refine RW.op rfl rfl (eff_callT (create32_ret S o.bundle hS hb) co32 rfl rfl rfl rfl) ?_
    refine RW.op rfl rfl (eff_move (v := .t _) rfl rfl rfl) ?_
    refine RW.op rfl rfl (eff_extract rfl rfl rfl rfl) ?_
    refine RW.op rfl rfl (eff_extract rfl rfl rfl rfl) ?_
    refine RW.store rfl rfl (eff_storeW (v := .t _) (els := [_]) (els' := [_]) rfl rfl ti29 rfl rfl rfl rfl rfl rfl rfl rfl rfl) ?_
    refine RW.op rfl rfl (eff_assign (v := .t _) rfl rfl rfl) ?_
    refine RW.nil ?_
    refine awp_seq ?_
    refine awp_seq ?_
    refine awp_rw rfl ?_
    refine RW.op rfl rfl (eff_move (v := .t _) rfl rfl rfl) ?_
    refine RW.op rfl rfl (eff_iop rfl rfl rfl rfl rfl) ?_
    refine RW.nil ?_
    refine awp_cond rfl (fun h2 => ?_) (fun h2 => ?_)
    · try simp only [decide_eq_true_eq, decide_eq_false_iff_not, beq_iff_eq, bne_iff_ne, bne_eq_false_iff_eq, beq_eq_false_iff_ne, Bool.not_eq_true, Bool.not_eq_false, Bool.not_eq_true', Bool.not_eq_false', ne_eq] at h2
      refine awp_rw rfl ?_
      refine RW.op rfl rfl (eff_load rfl rfl ti29 rfl (.whole rfl rfl rfl rfl rfl rfl)) ?_
      refine RW.store rfl rfl (eff_storeW (v := .t _) (els := [_]) (els' := [_]) rfl rfl ti29 rfl rfl rfl rfl rfl rfl rfl rfl rfl) ?_
      refine RW.nil ?_
      refine awp_seq ?_
      refine awp_rw rfl ?_
      refine RW.op rfl rfl (eff_load rfl rfl ti29 rfl (.whole rfl rfl rfl rfl rfl rfl)) ?_
      refine RW.op rfl rfl (eff_move (v := .t _) rfl rfl rfl) ?_
      refine RW.op rfl rfl (eff_move (v := .t _) rfl rfl rfl) ?_
      refine RW.store rfl rfl (eff_storeW (v := .t _) (els := [_]) (els' := [_]) rfl rfl ti29 rfl rfl rfl rfl rfl rfl rfl rfl rfl) ?_
      refine RW.op rfl rfl (eff_assign (v := .t _) rfl rfl rfl) ?_
      refine RW.op rfl rfl (eff_assign (v := .t _) rfl rfl rfl) ?_
      refine RW.nil ?_
      refine awp_ret ?_
      first
        | omega
        | exact absurd trivial (by assumption : ¬ True)
        | rw [do_ok (raw0 (by assumption)) (by assumption)]
        | rw [do_err (raw0 (by assumption)) (by assumption)]
        | rw [do_ok (raw1 (by assumption)) (by assumption)]
        | rw [do_err (raw1 (by assumption)) (by assumption)]
        | rw [do_ok (raw2 (by assumption)) (by assumption)]
        | rw [do_err (raw2 (by assumption)) (by assumption)]
        | rw [do_ok (raw3 (by assumption)) (by assumption)]
        | rw [do_err (raw3 (by assumption)) (by assumption)]
        | rw [do_ok (raw4 (by assumption)) rfl]
        | rw [do_ok (raw5 (by assumption) (by assumption) (by assumption) (by assumption) (by assumption)) rfl]
      all_goals exact ⟨Or.inr rfl, [_, _, _], ⟨.cell rfl ti29 (.whole rfl rfl rfl rfl rfl rfl) (.t _), .tmp (.t _), .tmp (.t _), trivial⟩, (by repeat' first | exact trivial | exact Wk.refl _ | exact Wk.sl _ | refine And.intro ?_ ?_ | refine Wk.tupP ?_ | refine Wk.aggP ?_)⟩
    · try simp only [decide_eq_true_eq, decide_eq_false_iff_not, beq_iff_eq, bne_iff_ne, bne_eq_false_iff_eq, beq_eq_false_iff_ne, Bool.not_eq_true, Bool.not_eq_false, Bool.not_eq_true', Bool.not_eq_false', ne_eq] at h2
      refine awp_skip ?_
      refine awp_seq ?_
      refine awp_rw rfl ?_
      refine RW.op rfl rfl (eff_load rfl rfl ti29 rfl (.whole rfl rfl rfl rfl rfl rfl)) ?_
      refine RW.op rfl rfl (eff_move (v := .t _) rfl rfl rfl) ?_
      refine RW.op rfl rfl (eff_move (v := .t _) rfl rfl rfl) ?_
      refine RW.store rfl rfl (eff_storeW (v := .t _) (els := [_]) (els' := [_]) rfl rfl ti29 rfl rfl rfl rfl rfl rfl rfl rfl rfl) ?_
      refine RW.op rfl rfl (eff_assign (v := .t _) rfl rfl rfl) ?_
      refine RW.op rfl rfl (eff_assign (v := .t _) rfl rfl rfl) ?_
      refine RW.nil ?_
      refine awp_ret ?_
      first
        | omega
        | exact absurd trivial (by assumption : ¬ True)
        | rw [do_ok (raw0 (by assumption)) (by assumption)]
        | rw [do_err (raw0 (by assumption)) (by assumption)]
        | rw [do_ok (raw1 (by assumption)) (by assumption)]
        | rw [do_err (raw1 (by assumption)) (by assumption)]
        | rw [do_ok (raw2 (by assumption)) (by assumption)]
        | rw [do_err (raw2 (by assumption)) (by assumption)]
        | rw [do_ok (raw3 (by assumption)) (by assumption)]
        | rw [do_err (raw3 (by assumption)) (by assumption)]
        | rw [do_ok (raw4 (by assumption)) rfl]
        | rw [do_ok (raw5 (by assumption) (by assumption) (by assumption) (by assumption) (by assumption)) rfl]
      all_goals exact ⟨Or.inr rfl, [_, _, _], ⟨.cell rfl ti29 (.whole rfl rfl rfl rfl rfl rfl) (.t _), .tmp (.t _), .tmp (.t _), trivial⟩, (by repeat' first | exact trivial | exact Wk.refl _ | exact Wk.sl _ | refine And.intro ?_ ?_ | refine Wk.tupP ?_ | refine Wk.aggP ?_)⟩
  · try simp only [decide_eq_true_eq, decide_eq_false_iff_not, beq_iff_eq, bne_iff_ne, bne_eq_false_iff_eq, beq_eq_false_iff_ne, Bool.not_eq_true, Bool.not_eq_false, Bool.not_eq_true', Bool.not_eq_false', ne_eq] at h1
    refine awp_seq ?_
    refine awp_rw rfl ?_
    refine RW.op rfl rfl (eff_iop rfl rfl rfl rfl rfl) ?_
    refine RW.op rfl rfl (eff_assign (v := .t _) rfl rfl rfl) ?_
    refine RW.nil ?_
    refine awp_cond rfl (fun h3 => ?_) (fun h3 => ?_)
    · try simp only [decide_eq_true_eq, decide_eq_false_iff_not, beq_iff_eq, bne_iff_ne, bne_eq_false_iff_eq, beq_eq_false_iff_ne, Bool.not_eq_true, Bool.not_eq_false, Bool.not_eq_true', Bool.not_eq_false', ne_eq] at h3
      refine awp_rw rfl ?_
      refine RW.op rfl rfl (eff_load rfl rfl ti29 rfl (.whole rfl rfl rfl rfl rfl rfl)) ?_
      refine RW.op rfl rfl (eff_fieldAddr rfl rfl tf40_3 (by decide) rfl rfl rfl (Nat.le_of_ble_eq_true rfl)) ?_
      refine RW.op rfl rfl (eff_loadS (ys := [_, _, _, _, _, _, _, _]) rfl rfl ti38 rfl rfl rfl rfl rfl rfl) ?_
      refine RW.op rfl rfl (eff_callT (accept33_ret S o.bundle hS hb) co33 rfl rfl rfl rfl) ?_
      refine RW.op rfl rfl (eff_move (v := .t _) rfl rfl rfl) ?_
      refine RW.op rfl rfl (eff_extract rfl rfl rfl rfl) ?_
      refine RW.op rfl rfl (eff_extract rfl rfl rfl rfl) ?_
      refine RW.op rfl rfl (eff_extract rfl rfl rfl rfl) ?_
      refine RW.store rfl rfl (eff_storeW (v := .t _) (els := [_]) (els' := [_]) rfl rfl ti29 rfl rfl rfl rfl rfl rfl rfl rfl rfl) ?_
      refine RW.op rfl rfl (eff_assign (v := .t _) rfl rfl rfl) ?_
      refine RW.op rfl rfl (eff_assign (v := .t _) rfl rfl rfl) ?_
      refine RW.nil ?_
      refine awp_seq ?_
      refine awp_seq ?_
      refine awp_rw rfl ?_
      refine RW.op rfl rfl (eff_move (v := .t _) rfl rfl rfl) ?_
      refine RW.op rfl rfl (eff_iop rfl rfl rfl rfl rfl) ?_
      refine RW.nil ?_
      refine awp_cond rfl (fun h4 => ?_) (fun h4 => ?_)
      · try simp only [decide_eq_true_eq, decide_eq_false_iff_not, beq_iff_eq, bne_iff_ne, bne_eq_false_iff_eq, beq_eq_false_iff_ne, Bool.not_eq_true, Bool.not_eq_false, Bool.not_eq_true', Bool.not_eq_false', ne_eq] at h4
        refine awp_rw rfl ?_
        refine RW.op rfl rfl (eff_load rfl rfl ti29 rfl (.whole rfl rfl rfl rfl rfl rfl)) ?_
        refine RW.store rfl rfl (eff_storeW (v := .t _) (els := [_]) (els' := [_]) rfl rfl ti29 rfl rfl rfl rfl rfl rfl rfl rfl rfl) ?_
        refine RW.nil ?_
        refine awp_seq ?_
        refine awp_rw rfl ?_
        refine RW.op rfl rfl (eff_load rfl rfl ti29 rfl (.whole rfl rfl rfl rfl rfl rfl)) ?_
        refine RW.op rfl rfl (eff_move (v := .t _) rfl rfl rfl) ?_
        refine RW.op rfl rfl (eff_move (v := .t _) rfl rfl rfl) ?_
        refine RW.store rfl rfl (eff_storeW (v := .t _) (els := [_]) (els' := [_]) rfl rfl ti29 rfl rfl rfl rfl rfl rfl rfl rfl rfl) ?_
        refine RW.op rfl rfl (eff_assign (v := .t _) rfl rfl rfl) ?_
        refine RW.op rfl rfl (eff_assign (v := .t _) rfl rfl rfl) ?_
        refine RW.nil ?_
        refine awp_ret ?_
        first
          | omega
          | exact absurd trivial (by assumption : ¬ True)
          | rw [do_ok (raw0 (by assumption)) (by assumption)]
          | rw [do_err (raw0 (by assumption)) (by assumption)]
          | rw [do_ok (raw1 (by assumption)) (by assumption)]
          | rw [do_err (raw1 (by assumption)) (by assumption)]
          | rw [do_ok (raw2 (by assumption)) (by assumption)]
          | rw [do_err (raw2 (by assumption)) (by assumption)]
          | rw [do_ok (raw3 (by assumption)) (by assumption)]
          | rw [do_err (raw3 (by assumption)) (by assumption)]
          | rw [do_ok (raw4 (by assumption)) rfl]
          | rw [do_ok (raw5 (by assumption) (by assumption) (by assumption) (by assumption) (by assumption)) rfl]
        all_goals exact ⟨Or.inr rfl, [_, _, _], ⟨.cell rfl ti29 (.whole rfl rfl rfl rfl rfl rfl) (.t _), .tmp (.t _), .tmp (.t _), trivial⟩, (by repeat' first | exact trivial | exact Wk.refl _ | exact Wk.sl _ | refine And.intro ?_ ?_ | refine Wk.tupP ?_ | refine Wk.aggP ?_)⟩
      · try simp only [decide_eq_true_eq, decide_eq_false_iff_not, beq_iff_eq, bne_iff_ne, bne_eq_false_iff_eq, beq_eq_false_iff_ne, Bool.not_eq_true, Bool.not_eq_false, Bool.not_eq_true', Bool.not_eq_false', ne_eq] at h4
        refine awp_skip ?_
        refine awp_seq ?_
        refine awp_rw rfl ?_
        refine RW.op rfl rfl (eff_load rfl rfl ti29 rfl (.whole rfl rfl rfl rfl rfl rfl)) ?_
        refine RW.op rfl rfl (eff_move (v := .t _) rfl rfl rfl) ?_
        refine RW.op rfl rfl (eff_move (v := .t _) rfl rfl rfl) ?_
        refine RW.store rfl rfl (eff_storeW (v := .t _) (els := [_]) (els' := [_]) rfl rfl ti29 rfl rfl rfl rfl rfl rfl rfl rfl rfl) ?_
        refine RW.op rfl rfl (eff_assign (v := .t _) rfl rfl rfl) ?_
        refine RW.op rfl rfl (eff_assign (v := .t _) rfl rfl rfl) ?_
        refine RW.nil ?_
        refine awp_ret ?_
        first
          | omega
          | exact absurd trivial (by assumption : ¬ True)
          | rw [do_ok (raw0 (by assumption)) (by assumption)]
          | rw [do_err (raw0 (by assumption)) (by assumption)]
          | rw [do_ok (raw1 (by assumption)) (by assumption)]
          | rw [do_err (raw1 (by assumption)) (by assumption)]
          | rw [do_ok (raw2 (by assumption)) (by assumption)]
          | rw [do_err (raw2 (by assumption)) (by assumption)]
          | rw [do_ok (raw3 (by assumption)) (by assumption)]
          | rw [do_err (raw3 (by assumption)) (by assumption)]
          | rw [do_ok (raw4 (by assumption)) rfl]
          | rw [do_ok (raw5 (by assumption) (by assumption) (by assumption) (by assumption) (by assumption)) rfl]
        all_goals exact ⟨Or.inr rfl, [_, _, _], ⟨.cell rfl ti29 (.whole rfl rfl rfl rfl rfl rfl) (.t _), .tmp (.t _), .tmp (.t _), trivial⟩, (by repeat' first | exact trivial | exact Wk.refl _ | exact Wk.sl _ | refine And.intro ?_ ?_ | refine Wk.tupP ?_ | refine Wk.aggP ?_)⟩
    · try simp only [decide_eq_true_eq, decide_eq_false_iff_not, beq_iff_eq, bne_iff_ne, bne_eq_false_iff_eq, beq_eq_false_iff_ne, Bool.not_eq_true, Bool.not_eq_false, Bool.not_eq_true', Bool.not_eq_false', ne_eq] at h3
      refine awp_seq ?_
      refine awp_rw rfl ?_
      refine RW.op rfl rfl (eff_iop rfl rfl rfl rfl rfl) ?_
      refine RW.op rfl rfl (eff_assign (v := .t _) rfl rfl rfl) ?_
      refine RW.nil ?_
      refine awp_cond rfl (fun h5 => ?_) (fun h5 => ?_)
      · try simp only [decide_eq_true_eq, decide_eq_false_iff_not, beq_iff_eq, bne_iff_ne, bne_eq_false_iff_eq, beq_eq_false_iff_ne, Bool.not_eq_true, Bool.not_eq_false, Bool.not_eq_true', Bool.not_eq_false', ne_eq] at h5
        refine awp_rw rfl ?_
        refine RW.op rfl rfl (eff_load rfl rfl ti29 rfl (.whole rfl rfl rfl rfl rfl rfl)) ?_
        refine RW.op rfl rfl (eff_fieldAddr rfl rfl tf40_1 (by decide) rfl rfl rfl (Nat.le_of_ble_eq_true rfl)) ?_
        refine RW.op rfl rfl (eff_load (y := .t _) rfl rfl ti3 rfl (.one rfl rfl rfl rfl)) ?_
        refine RW.op rfl rfl (eff_callT (pass34_ret S o.id hS) co34 rfl rfl rfl rfl) ?_
        refine RW.op rfl rfl (eff_move (v := .t _) rfl rfl rfl) ?_
        refine RW.op rfl rfl (eff_extract rfl rfl rfl rfl) ?_
        refine RW.op rfl rfl (eff_extract rfl rfl rfl rfl) ?_
        refine RW.store rfl rfl (eff_storeW (v := .t _) (els := [_]) (els' := [_]) rfl rfl ti29 rfl rfl rfl rfl rfl rfl rfl rfl rfl) ?_
        refine RW.op rfl rfl (eff_assign (v := .t _) rfl rfl rfl) ?_
        refine RW.nil ?_
        refine awp_seq ?_
        refine awp_seq ?_
        refine awp_rw rfl ?_
        refine RW.op rfl rfl (eff_move (v := .t _) rfl rfl rfl) ?_
        refine RW.op rfl rfl (eff_iop rfl rfl rfl rfl rfl) ?_
        refine RW.nil ?_
        refine awp_cond rfl (fun h6 => ?_) (fun h6 => ?_)
        · try simp only [decide_eq_true_eq, decide_eq_false_iff_not, beq_iff_eq, bne_iff_ne, bne_eq_false_iff_eq, beq_eq_false_iff_ne, Bool.not_eq_true, Bool.not_eq_false, Bool.not_eq_true', Bool.not_eq_false', ne_eq] at h6
          refine awp_rw rfl ?_
          refine RW.op rfl rfl (eff_load rfl rfl ti29 rfl (.whole rfl rfl rfl rfl rfl rfl)) ?_
          refine RW.store rfl rfl (eff_storeW (v := .t _) (els := [_]) (els' := [_]) rfl rfl ti29 rfl rfl rfl rfl rfl rfl rfl rfl rfl) ?_
          refine RW.nil ?_
          refine awp_seq ?_
          refine awp_rw rfl ?_
          refine RW.op rfl rfl (eff_load rfl rfl ti29 rfl (.whole rfl rfl rfl rfl rfl rfl)) ?_
          refine RW.op rfl rfl (eff_move (v := .t _) rfl rfl rfl) ?_
          refine RW.op rfl rfl (eff_move (v := .t _) rfl rfl rfl) ?_
          refine RW.store rfl rfl (eff_storeW (v := .t _) (els := [_]) (els' := [_]) rfl rfl ti29 rfl rfl rfl rfl rfl rfl rfl rfl rfl) ?_
          refine RW.op rfl rfl (eff_assign (v := .t _) rfl rfl rfl) ?_
          refine RW.op rfl rfl (eff_assign (v := .t _) rfl rfl rfl) ?_
          refine RW.nil ?_
          refine awp_ret ?_
          first
            | omega
            | exact absurd trivial (by assumption : ¬ True)
            | rw [do_ok (raw0 (by assumption)) (by assumption)]
            | rw [do_err (raw0 (by assumption)) (by assumption)]
            | rw [do_ok (raw1 (by assumption)) (by assumption)]
            | rw [do_err (raw1 (by assumption)) (by assumption)]
            | rw [do_ok (raw2 (by assumption)) (by assumption)]
            | rw [do_err (raw2 (by assumption)) (by assumption)]
            | rw [do_ok (raw3 (by assumption)) (by assumption)]
            | rw [do_err (raw3 (by assumption)) (by assumption)]
            | rw [do_ok (raw4 (by assumption)) rfl]
            | rw [do_ok (raw5 (by assumption) (by assumption) (by assumption) (by assumption) (by assumption)) rfl]
          all_goals exact ⟨Or.inr rfl, [_, _, _], ⟨.cell rfl ti29 (.whole rfl rfl rfl rfl rfl rfl) (.t _), .tmp (.t _), .tmp (.t _), trivial⟩, (by repeat' first | exact trivial | exact Wk.refl _ | exact Wk.sl _ | refine And.intro ?_ ?_ | refine Wk.tupP ?_ | refine Wk.aggP ?_)⟩
        · try simp only [decide_eq_true_eq, decide_eq_false_iff_not, beq_iff_eq, bne_iff_ne, bne_eq_false_iff_eq, beq_eq_false_iff_ne, Bool.not_eq_true, Bool.not_eq_false, Bool.not_eq_true', Bool.not_eq_false', ne_eq] at h6
          refine awp_skip ?_
          refine awp_seq ?_
          refine awp_rw rfl ?_
          refine RW.op rfl rfl (eff_load rfl rfl ti29 rfl (.whole rfl rfl rfl rfl rfl rfl)) ?_
          refine RW.op rfl rfl (eff_move (v := .t _) rfl rfl rfl) ?_
          refine RW.op rfl rfl (eff_move (v := .t _) rfl rfl rfl) ?_
          refine RW.store rfl rfl (eff_storeW (v := .t _) (els := [_]) (els' := [_]) rfl rfl ti29 rfl rfl rfl rfl rfl rfl rfl rfl rfl) ?_
          refine RW.op rfl rfl (eff_assign (v := .t _) rfl rfl rfl) ?_
          refine RW.op rfl rfl (eff_assign (v := .t _) rfl rfl rfl) ?_
          refine RW.nil ?_
          refine awp_ret ?_
          first
            | omega
            | exact absurd trivial (by assumption : ¬ True)
            | rw [do_ok (raw0 (by assumption)) (by assumption)]
            | rw [do_err (raw0 (by assumption)) (by assumption)]
            | rw [do_ok (raw1 (by assumption)) (by assumption)]
            | rw [do_err (raw1 (by assumption)) (by assumption)]
            | rw [do_ok (raw2 (by assumption)) (by assumption)]
            | rw [do_err (raw2 (by assumption)) (by assumption)]
            | rw [do_ok (raw3 (by assumption)) (by assumption)]
            | rw [do_err (raw3 (by assumption)) (by assumption)]
            | rw [do_ok (raw4 (by assumption)) rfl]
            | rw [do_ok (raw5 (by assumption) (by assumption) (by assumption) (by assumption) (by assumption)) rfl]
          all_goals exact ⟨Or.inr rfl, [_, _, _], ⟨.cell rfl ti29 (.whole rfl rfl rfl rfl rfl rfl) (.t _), .tmp (.t _), .tmp (.t _), trivial⟩, (by repeat' first | exact trivial | exact Wk.refl _ | exact Wk.sl _ | refine And.intro ?_ ?_ | refine Wk.tupP ?_ | refine Wk.aggP ?_)⟩
      · try simp only [decide_eq_true_eq, decide_eq_false_iff_not, beq_iff_eq, bne_iff_ne, bne_eq_false_iff_eq, beq_eq_false_iff_ne, Bool.not_eq_true, Bool.not_eq_false, Bool.not_eq_true', Bool.not_eq_false', ne_eq] at h5
        refine awp_seq ?_
        refine awp_rw rfl ?_
        refine RW.op rfl rfl (eff_iop rfl rfl rfl rfl rfl) ?_
        refine RW.op rfl rfl (eff_assign (v := .t _) rfl rfl rfl) ?_
        refine RW.nil ?_
        refine awp_cond rfl (fun h7 => ?_) (fun h7 => ?_)
        · try simp only [decide_eq_true_eq, decide_eq_false_iff_not, beq_iff_eq, bne_iff_ne, bne_eq_false_iff_eq, beq_eq_false_iff_ne, Bool.not_eq_true, Bool.not_eq_false, Bool.not_eq_true', Bool.not_eq_false', ne_eq] at h7
          refine awp_rw rfl ?_
          refine RW.op rfl rfl (eff_load rfl rfl ti29 rfl (.whole rfl rfl rfl rfl rfl rfl)) ?_
          refine RW.op rfl rfl (eff_fieldAddr rfl rfl tf40_1 (by decide) rfl rfl rfl (Nat.le_of_ble_eq_true rfl)) ?_
          refine RW.op rfl rfl (eff_load (y := .t _) rfl rfl ti3 rfl (.one rfl rfl rfl rfl)) ?_
          refine RW.op rfl rfl (eff_callT (confirm35_ret S o.id hS) co35 rfl rfl rfl rfl) ?_
          refine RW.op rfl rfl (eff_move (v := .t _) rfl rfl rfl) ?_
          refine RW.op rfl rfl (eff_extract rfl rfl rfl rfl) ?_
          refine RW.op rfl rfl (eff_extract rfl rfl rfl rfl) ?_
          refine RW.store rfl rfl (eff_storeW (v := .t _) (els := [_]) (els' := [_]) rfl rfl ti29 rfl rfl rfl rfl rfl rfl rfl rfl rfl) ?_
          refine RW.op rfl rfl (eff_assign (v := .t _) rfl rfl rfl) ?_
          refine RW.nil ?_
          refine awp_seq ?_
          refine awp_seq ?_
          refine awp_rw rfl ?_
          refine RW.op rfl rfl (eff_move (v := .t _) rfl rfl rfl) ?_
          refine RW.op rfl rfl (eff_iop rfl rfl rfl rfl rfl) ?_
          refine RW.nil ?_
          refine awp_cond rfl (fun h8 => ?_) (fun h8 => ?_)
          · try simp only [decide_eq_true_eq, decide_eq_false_iff_not, beq_iff_eq, bne_iff_ne, bne_eq_false_iff_eq, beq_eq_false_iff_ne, Bool.not_eq_true, Bool.not_eq_false, Bool.not_eq_true', Bool.not_eq_false', ne_eq] at h8
            refine awp_rw rfl ?_
            refine RW.op rfl rfl (eff_load rfl rfl ti29 rfl (.whole rfl rfl rfl rfl rfl rfl)) ?_
            refine RW.store rfl rfl (eff_storeW (v := .t _) (els := [_]) (els' := [_]) rfl rfl ti29 rfl rfl rfl rfl rfl rfl rfl rfl rfl) ?_
            refine RW.nil ?_
            refine awp_seq ?_
            refine awp_rw rfl ?_
            refine RW.op rfl rfl (eff_load rfl rfl ti29 rfl (.whole rfl rfl rfl rfl rfl rfl)) ?_
            refine RW.op rfl rfl (eff_move (v := .t _) rfl rfl rfl) ?_
            refine RW.op rfl rfl (eff_move (v := .t _) rfl rfl rfl) ?_
            refine RW.store rfl rfl (eff_storeW (v := .t _) (els := [_]) (els' := [_]) rfl rfl ti29 rfl rfl rfl rfl rfl rfl rfl rfl rfl) ?_
            refine RW.op rfl rfl (eff_assign (v := .t _) rfl rfl rfl) ?_
            refine RW.op rfl rfl (eff_assign (v := .t _) rfl rfl rfl) ?_
            refine RW.nil ?_
            refine awp_ret ?_
            first
              | omega
              | exact absurd trivial (by assumption : ¬ True)
              | rw [do_ok (raw0 (by assumption)) (by assumption)]
              | rw [do_err (raw0 (by assumption)) (by assumption)]
              | rw [do_ok (raw1 (by assumption)) (by assumption)]
              | rw [do_err (raw1 (by assumption)) (by assumption)]
              | rw [do_ok (raw2 (by assumption)) (by assumption)]
              | rw [do_err (raw2 (by assumption)) (by assumption)]
              | rw [do_ok (raw3 (by assumption)) (by assumption)]
              | rw [do_err (raw3 (by assumption)) (by assumption)]
              | rw [do_ok (raw4 (by assumption)) rfl]
              | rw [do_ok (raw5 (by assumption) (by assumption) (by assumption) (by assumption) (by assumption)) rfl]
            all_goals exact ⟨Or.inr rfl, [_, _, _], ⟨.cell rfl ti29 (.whole rfl rfl rfl rfl rfl rfl) (.t _), .tmp (.t _), .tmp (.t _), trivial⟩, (by repeat' first | exact trivial | exact Wk.refl _ | exact Wk.sl _ | refine And.intro ?_ ?_ | refine Wk.tupP ?_ | refine Wk.aggP ?_)⟩
          · try simp only [decide_eq_true_eq, decide_eq_false_iff_not, beq_iff_eq, bne_iff_ne, bne_eq_false_iff_eq, beq_eq_false_iff_ne, Bool.not_eq_true, Bool.not_eq_false, Bool.not_eq_true', Bool.not_eq_false', ne_eq] at h8
            refine awp_skip ?_
            refine awp_seq ?_
            refine awp_rw rfl ?_
            refine RW.op rfl rfl (eff_load rfl rfl ti29 rfl (.whole rfl rfl rfl rfl rfl rfl)) ?_
            refine RW.op rfl rfl (eff_move (v := .t _) rfl rfl rfl) ?_
            refine RW.op rfl rfl (eff_move (v := .t _) rfl rfl rfl) ?_
            refine RW.store rfl rfl (eff_storeW (v := .t _) (els := [_]) (els' := [_]) rfl rfl ti29 rfl rfl rfl rfl rfl rfl rfl rfl rfl) ?_
            refine RW.op rfl rfl (eff_assign (v := .t _) rfl rfl rfl) ?_
            refine RW.op rfl rfl (eff_assign (v := .t _) rfl rfl rfl) ?_
            refine RW.nil ?_
            refine awp_ret ?_
            first
              | omega
              | exact absurd trivial (by assumption : ¬ True)
              | rw [do_ok (raw0 (by assumption)) (by assumption)]
              | rw [do_err (raw0 (by assumption)) (by assumption)]
              | rw [do_ok (raw1 (by assumption)) (by assumption)]
              | rw [do_err (raw1 (by assumption)) (by assumption)]
              | rw [do_ok (raw2 (by assumption)) (by assumption)]
              | rw [do_err (raw2 (by assumption)) (by assumption)]
              | rw [do_ok (raw3 (by assumption)) (by assumption)]
              | rw [do_err (raw3 (by assumption)) (by assumption)]
              | rw [do_ok (raw4 (by assumption)) rfl]
              | rw [do_ok (raw5 (by assumption) (by assumption) (by assumption) (by assumption) (by assumption)) rfl]
            all_goals exact ⟨Or.inr rfl, [_, _, _], ⟨.cell rfl ti29 (.whole rfl rfl rfl rfl rfl rfl) (.t _), .tmp (.t _), .tmp (.t _), trivial⟩, (by repeat' first | exact trivial | exact Wk.refl _ | exact Wk.sl _ | refine And.intro ?_ ?_ | refine Wk.tupP ?_ | refine Wk.aggP ?_)⟩
        · try simp only [decide_eq_true_eq, decide_eq_false_iff_not, beq_iff_eq, bne_iff_ne, bne_eq_false_iff_eq, beq_eq_false_iff_ne, Bool.not_eq_true, Bool.not_eq_false, Bool.not_eq_true', Bool.not_eq_false', ne_eq] at h7
          refine awp_seq ?_
          refine awp_rw rfl ?_
          refine RW.op rfl rfl (eff_iop rfl rfl rfl rfl rfl) ?_
          refine RW.op rfl rfl (eff_assign (v := .t _) rfl rfl rfl) ?_
          refine RW.nil ?_
          refine awp_cond rfl (fun h9 => ?_) (fun h9 => ?_)
          · try simp only [decide_eq_true_eq, decide_eq_false_iff_not, beq_iff_eq, bne_iff_ne, bne_eq_false_iff_eq, beq_eq_false_iff_ne, Bool.not_eq_true, Bool.not_eq_false, Bool.not_eq_true', Bool.not_eq_false', ne_eq] at h9
            refine awp_rw rfl ?_
            refine RW.op rfl rfl (eff_load rfl rfl ti29 rfl (.whole rfl rfl rfl rfl rfl rfl)) ?_
            refine RW.op rfl rfl (eff_callT (retry36_ret S hS) co36 rfl rfl rfl rfl) ?_
            refine RW.store rfl rfl (eff_storeW (v := .t _) (els := [_]) (els' := [_]) rfl rfl ti29 rfl rfl rfl rfl rfl rfl rfl rfl rfl) ?_
            refine RW.nil ?_
            refine awp_seq ?_
            refine awp_seq ?_
            refine awp_rw rfl ?_
            refine RW.op rfl rfl (eff_move (v := .t _) rfl rfl rfl) ?_
            refine RW.op rfl rfl (eff_iop rfl rfl rfl rfl rfl) ?_
            refine RW.nil ?_
            refine awp_cond rfl (fun h10 => ?_) (fun h10 => ?_)
            · try simp only [decide_eq_true_eq, decide_eq_false_iff_not, beq_iff_eq, bne_iff_ne, bne_eq_false_iff_eq, beq_eq_false_iff_ne, Bool.not_eq_true, Bool.not_eq_false, Bool.not_eq_true', Bool.not_eq_false', ne_eq] at h10
              refine awp_rw rfl ?_
              refine RW.op rfl rfl (eff_load rfl rfl ti29 rfl (.whole rfl rfl rfl rfl rfl rfl)) ?_
              refine RW.store rfl rfl (eff_storeW (v := .t _) (els := [_]) (els' := [_]) rfl rfl ti29 rfl rfl rfl rfl rfl rfl rfl rfl rfl) ?_
              refine RW.nil ?_
              refine awp_seq ?_
              refine awp_rw rfl ?_
              refine RW.op rfl rfl (eff_load rfl rfl ti29 rfl (.whole rfl rfl rfl rfl rfl rfl)) ?_
              refine RW.op rfl rfl (eff_move (v := .t _) rfl rfl rfl) ?_
              refine RW.op rfl rfl (eff_move (v := .t _) rfl rfl rfl) ?_
              refine RW.store rfl rfl (eff_storeW (v := .t _) (els := [_]) (els' := [_]) rfl rfl ti29 rfl rfl rfl rfl rfl rfl rfl rfl rfl) ?_
              refine RW.op rfl rfl (eff_assign (v := .t _) rfl rfl rfl) ?_
              refine RW.op rfl rfl (eff_assign (v := .t _) rfl rfl rfl) ?_
              refine RW.nil ?_
              refine awp_ret ?_
              first
                | omega
                | exact absurd trivial (by assumption : ¬ True)
                | rw [do_ok (raw0 (by assumption)) (by assumption)]
                | rw [do_err (raw0 (by assumption)) (by assumption)]
                | rw [do_ok (raw1 (by assumption)) (by assumption)]
                | rw [do_err (raw1 (by assumption)) (by assumption)]
                | rw [do_ok (raw2 (by assumption)) (by assumption)]
                | rw [do_err (raw2 (by assumption)) (by assumption)]
                | rw [do_ok (raw3 (by assumption)) (by assumption)]
                | rw [do_err (raw3 (by assumption)) (by assumption)]
                | rw [do_ok (raw4 (by assumption)) rfl]
                | rw [do_ok (raw5 (by assumption) (by assumption) (by assumption) (by assumption) (by assumption)) rfl]
              all_goals exact ⟨Or.inr rfl, [_, _, _], ⟨.cell rfl ti29 (.whole rfl rfl rfl rfl rfl rfl) (.t _), .tmp (.t _), .tmp (.t _), trivial⟩, (by repeat' first | exact trivial | exact Wk.refl _ | exact Wk.sl _ | refine And.intro ?_ ?_ | refine Wk.tupP ?_ | refine Wk.aggP ?_)⟩
            · try simp only [decide_eq_true_eq, decide_eq_false_iff_not, beq_iff_eq, bne_iff_ne, bne_eq_false_iff_eq, beq_eq_false_iff_ne, Bool.not_eq_true, Bool.not_eq_false, Bool.not_eq_true', Bool.not_eq_false', ne_eq] at h10
              refine awp_skip ?_
              refine awp_seq ?_
              refine awp_rw rfl ?_
              refine RW.op rfl rfl (eff_load rfl rfl ti29 rfl (.whole rfl rfl rfl rfl rfl rfl)) ?_
              refine RW.op rfl rfl (eff_move (v := .t _) rfl rfl rfl) ?_
              refine RW.op rfl rfl (eff_move (v := .t _) rfl rfl rfl) ?_
              refine RW.store rfl rfl (eff_storeW (v := .t _) (els := [_]) (els' := [_]) rfl rfl ti29 rfl rfl rfl rfl rfl rfl rfl rfl rfl) ?_
              refine RW.op rfl rfl (eff_assign (v := .t _) rfl rfl rfl) ?_
              refine RW.op rfl rfl (eff_assign (v := .t _) rfl rfl rfl) ?_
              refine RW.nil ?_
              refine awp_ret ?_
              first
                | omega
                | exact absurd trivial (by assumption : ¬ True)
                | rw [do_ok (raw0 (by assumption)) (by assumption)]
                | rw [do_err (raw0 (by assumption)) (by assumption)]
                | rw [do_ok (raw1 (by assumption)) (by assumption)]
                | rw [do_err (raw1 (by assumption)) (by assumption)]
                | rw [do_ok (raw2 (by assumption)) (by assumption)]
                | rw [do_err (raw2 (by assumption)) (by assumption)]
                | rw [do_ok (raw3 (by assumption)) (by assumption)]
                | rw [do_err (raw3 (by assumption)) (by assumption)]
                | rw [do_ok (raw4 (by assumption)) rfl]
                | rw [do_ok (raw5 (by assumption) (by assumption) (by assumption) (by assumption) (by assumption)) rfl]
              all_goals exact ⟨Or.inr rfl, [_, _, _], ⟨.cell rfl ti29 (.whole rfl rfl rfl rfl rfl rfl) (.t _), .tmp (.t _), .tmp (.t _), trivial⟩, (by repeat' first | exact trivial | exact Wk.refl _ | exact Wk.sl _ | refine And.intro ?_ ?_ | refine Wk.tupP ?_ | refine Wk.aggP ?_)⟩
          · try simp only [decide_eq_true_eq, decide_eq_false_iff_not, beq_iff_eq, bne_iff_ne, bne_eq_false_iff_eq, beq_eq_false_iff_ne, Bool.not_eq_true, Bool.not_eq_false, Bool.not_eq_true', Bool.not_eq_false', ne_eq] at h9
            refine awp_seq ?_
            refine awp_rw rfl ?_
            refine RW.op rfl rfl (eff_load rfl rfl ti29 rfl (.whole rfl rfl rfl rfl rfl rfl)) ?_
            refine RW.op rfl rfl (eff_fieldAddr rfl rfl tf40_2 (by decide) rfl rfl rfl (Nat.le_of_ble_eq_true rfl)) ?_
            refine RW.op rfl rfl (eff_load (y := .t _) rfl rfl ti3 rfl (.one rfl rfl rfl rfl)) ?_
            refine RW.op rfl rfl (eff_callT (offer19_ret S o.room hS) co19 rfl rfl rfl rfl) ?_
            refine RW.op rfl rfl (eff_move (v := .t _) rfl rfl rfl) ?_
            refine RW.op rfl rfl (eff_extract rfl rfl rfl rfl) ?_
            refine RW.op rfl rfl (eff_extract rfl rfl rfl rfl) ?_
            refine RW.op rfl rfl (eff_assign (v := .t _) rfl rfl rfl) ?_
            refine RW.nil ?_
            refine awp_rw rfl ?_
            refine RW.op rfl rfl (eff_load rfl rfl ti29 rfl (.whole rfl rfl rfl rfl rfl rfl)) ?_
            refine RW.store rfl rfl (eff_storeW (v := .t _) (els := [_]) (els' := [_]) rfl rfl ti29 rfl rfl rfl rfl rfl rfl rfl rfl rfl) ?_
            refine RW.nil ?_
            refine awp_seq ?_
            refine awp_seq ?_
            refine awp_rw rfl ?_
            refine RW.op rfl rfl (eff_move (v := .t _) rfl rfl rfl) ?_
            refine RW.op rfl rfl (eff_iop rfl rfl rfl rfl rfl) ?_
            refine RW.nil ?_
            refine awp_cond rfl (fun h11 => ?_) (fun h11 => ?_)
            · try simp only [decide_eq_true_eq, decide_eq_false_iff_not, beq_iff_eq, bne_iff_ne, bne_eq_false_iff_eq, beq_eq_false_iff_ne, Bool.not_eq_true, Bool.not_eq_false, Bool.not_eq_true', Bool.not_eq_false', ne_eq] at h11
              refine awp_rw rfl ?_
              refine RW.op rfl rfl (eff_load rfl rfl ti29 rfl (.whole rfl rfl rfl rfl rfl rfl)) ?_
              refine RW.store rfl rfl (eff_storeW (v := .t _) (els := [_]) (els' := [_]) rfl rfl ti29 rfl rfl rfl rfl rfl rfl rfl rfl rfl) ?_
              refine RW.nil ?_
              refine awp_seq ?_
              refine awp_rw rfl ?_
              refine RW.op rfl rfl (eff_load rfl rfl ti29 rfl (.whole rfl rfl rfl rfl rfl rfl)) ?_
              refine RW.op rfl rfl (eff_move (v := .t _) rfl rfl rfl) ?_
              refine RW.op rfl rfl (eff_move (v := .t _) rfl rfl rfl) ?_
              refine RW.store rfl rfl (eff_storeW (v := .t _) (els := [_]) (els' := [_]) rfl rfl ti29 rfl rfl rfl rfl rfl rfl rfl rfl rfl) ?_
              refine RW.op rfl rfl (eff_assign (v := .t _) rfl rfl rfl) ?_
              refine RW.op rfl rfl (eff_assign (v := .t _) rfl rfl rfl) ?_
              refine RW.nil ?_
              refine awp_ret ?_
              first
                | omega
                | exact absurd trivial (by assumption : ¬ True)
                | rw [do_ok (raw0 (by assumption)) (by assumption)]
                | rw [do_err (raw0 (by assumption)) (by assumption)]
                | rw [do_ok (raw1 (by assumption)) (by assumption)]
                | rw [do_err (raw1 (by assumption)) (by assumption)]
                | rw [do_ok (raw2 (by assumption)) (by assumption)]
                | rw [do_err (raw2 (by assumption)) (by assumption)]
                | rw [do_ok (raw3 (by assumption)) (by assumption)]
                | rw [do_err (raw3 (by assumption)) (by assumption)]
                | rw [do_ok (raw4 (by assumption)) rfl]
                | rw [do_ok (raw5 (by assumption) (by assumption) (by assumption) (by assumption) (by assumption)) rfl]
              all_goals exact ⟨Or.inr rfl, [_, _, _], ⟨.cell rfl ti29 (.whole rfl rfl rfl rfl rfl rfl) (.t _), .tmp (.t _), .tmp (.t _), trivial⟩, (by repeat' first | exact trivial | exact Wk.refl _ | exact Wk.sl _ | refine And.intro ?_ ?_ | refine Wk.tupP ?_ | refine Wk.aggP ?_)⟩
            · try simp only [decide_eq_true_eq, decide_eq_false_iff_not, beq_iff_eq, bne_iff_ne, bne_eq_false_iff_eq, beq_eq_false_iff_ne, Bool.not_eq_true, Bool.not_eq_false, Bool.not_eq_true', Bool.not_eq_false', ne_eq] at h11
              refine awp_skip ?_
              refine awp_seq ?_
              refine awp_rw rfl ?_
              refine RW.op rfl rfl (eff_load rfl rfl ti29 rfl (.whole rfl rfl rfl rfl rfl rfl)) ?_
              refine RW.op rfl rfl (eff_move (v := .t _) rfl rfl rfl) ?_
              refine RW.op rfl rfl (eff_move (v := .t _) rfl rfl rfl) ?_
              refine RW.store rfl rfl (eff_storeW (v := .t _) (els := [_]) (els' := [_]) rfl rfl ti29 rfl rfl rfl rfl rfl rfl rfl rfl rfl) ?_
              refine RW.op rfl rfl (eff_assign (v := .t _) rfl rfl rfl) ?_
              refine RW.op rfl rfl (eff_assign (v := .t _) rfl rfl rfl) ?_
              refine RW.nil ?_
              refine awp_ret ?_
              first
                | omega
                | exact absurd trivial (by assumption : ¬ True)
                | rw [do_ok (raw0 (by assumption)) (by assumption)]
                | rw [do_err (raw0 (by assumption)) (by assumption)]
                | rw [do_ok (raw1 (by assumption)) (by assumption)]
                | rw [do_err (raw1 (by assumption)) (by assumption)]
                | rw [do_ok (raw2 (by assumption)) (by assumption)]
                | rw [do_err (raw2 (by assumption)) (by assumption)]
                | rw [do_ok (raw3 (by assumption)) (by assumption)]
                | rw [do_err (raw3 (by assumption)) (by assumption)]
                | rw [do_ok (raw4 (by assumption)) rfl]
                | rw [do_ok (raw5 (by assumption) (by assumption) (by assumption) (by assumption) (by assumption)) rfl]
              all_goals exact ⟨Or.inr rfl, [_, _, _], ⟨.cell rfl ti29 (.whole rfl rfl rfl rfl rfl rfl) (.t _), .tmp (.t _), .tmp (.t _), trivial⟩, (by repeat' first | exact trivial | exact Wk.refl _ | exact Wk.sl _ | refine And.intro ?_ ?_ | refine Wk.tupP ?_ | refine Wk.aggP ?_)⟩

end Go.Tv.C27

end
section
open Go Go.Tv Go.Proofs
namespace Go.Tv.C27
set_option maxRecDepth 20000
set_option maxHeartbeats 2000000
set_option linter.unusedSimpArgs false
set_option linter.unusedVariables false
theorem findIx_own {n : Nat} {S : Store} (h : VInv n S) {i : Nat} (hi : i < S.bundles.length) : findIx S.bundles (S.bundles[i]).id = (i : Int) := by
  refine findIx_hit hi (fun b hb e => ?_) rfl
  obtain ⟨j, hj, rfl⟩ := List.mem_iff_getElem.1 hb
  simp only [List.length_take] at hj
  rw [List.getElem_take] at e
  have := List.pairwise_iff_getElem.1 h.nd j i (by unfold ids; simp; omega) (by unfold ids; simpa using hi) (by omega)
  simp only [ids, List.getElem_map] at this
  exact this e

theorem valid_ret (n : Nat) (S : Store) (hn : n ≤ 1000) (hV : VInv n S) : Ret Try.prog 21 [encS S] (.bool true) := by
  have hS := hV.sok (by omega)
  refine ret_of_awp Try.func21 rfl (Nat.le_of_ble_eq_true rfl) ?_
  refine awp_seq ?_
  refine awp_rw rfl ?_
  refine RW.new rfl rfl (eff_boxK (v := .t _) (k := 4) (id := 1) rfl rfl rfl rfl rfl rfl) ?_
  refine RW.op rfl rfl (eff_assign (v := .t _) rfl rfl rfl) ?_
  refine RW.nil ?_
  refine awp_seq ?_
  refine awp_seq ?_
  refine awp_rd [(some 6, []), (some 7, []), (some 8, []), (some 9, []), (some 10, []), (some 11, []), (some 12, []), (some 13, []), (some 14, []), (some 15, []), (some 16, []), (some 17, []), (some 18, []), (some 19, []), (some 20, []), (some 21, []), (some 22, []), (some 23, []), (some 24, []), (some 25, []), (some 26, []), (some 27, []), (some 28, []), (some 29, []), (some 30, []), (some 31, []), (some 32, []), (some 33, []), (some 34, []), (some 35, []), (some 36, []), (some 37, []), (some 38, [])] [[], [0], [0, 1], [0, 1, 2], [0, 1, 2, 3], [0, 1, 2, 3, 4], [0, 1, 2, 3, 4, 5], [0, 1, 2, 3, 4, 5, 6], [0, 1, 2, 3, 4, 5, 6, 7], [0, 1, 2, 3, 4, 5, 6, 7, 8], [0, 1, 2, 3, 4, 5, 6, 7, 8, 9], [0, 1, 2, 3, 4, 5, 6, 7, 8, 9, 10], [0, 1, 2, 3, 4, 5, 6, 7, 8, 9, 10, 11], [0, 1, 2, 3, 4, 5, 6, 7, 8, 9, 10, 11, 12], [0, 1, 2, 3, 4, 5, 6, 7, 8, 9, 10, 11, 12, 13], [0, 1, 2, 3, 4, 5, 6, 7, 8, 9, 10, 11, 12, 13, 14], [0, 1, 2, 3, 4, 5, 6, 7, 8, 9, 10, 11, 12, 13, 14, 15], [0, 1, 2, 3, 4, 5, 6, 7, 8, 9, 10, 11, 12, 13, 14], [0, 1, 2, 3, 4, 5, 6, 7, 8, 9, 10, 11, 12, 13, 14, 17], [0, 1, 2, 3, 4, 5, 6, 7, 8, 9, 10, 11, 12, 13, 14, 15, 16, 17, 18], [0, 1, 2, 3, 4, 5, 6, 7, 8, 9, 10, 11, 12, 13, 14, 15, 16, 17, 18, 19], [0, 1, 2, 3, 4, 5, 6, 7, 8, 9, 10, 11, 12, 13, 14, 15, 16, 17, 18, 19, 20], [0, 1, 2, 3, 4, 5, 6, 7, 8, 9, 10, 11, 12, 13, 14, 15, 16, 17, 18, 19, 20, 21], [0, 1, 2, 3, 4, 5, 6, 7, 8, 9, 10, 11, 12, 13, 14, 15, 16, 17, 18, 19, 20, 21, 22], [0, 1, 2, 3, 4, 5, 6, 7, 8, 9, 10, 11, 12, 13, 14, 15, 16, 17, 18, 19, 20, 21, 22, 23], [0, 1, 2, 3, 4, 5, 6, 7, 8, 9, 10, 11, 12, 13, 14, 15, 16, 17, 18, 19, 20, 21, 22, 23, 24], [0, 1, 2, 3, 4, 5, 6, 7, 8, 9, 10, 11, 12, 13, 14, 15, 16, 17, 18, 19, 20, 21, 22, 23, 24, 25], [0, 1, 2, 3, 4, 5, 6, 7, 8, 9, 10, 11, 12, 13, 14, 15, 16, 17, 18, 19, 20, 21, 22, 23, 24, 25, 26], [0, 1, 2, 3, 4, 5, 6, 7, 8, 9, 10, 11, 12, 13, 14, 15, 16, 17, 18, 19, 20, 21, 22, 23, 24, 25, 26, 27], [0, 1, 2, 3, 4, 5, 6, 7, 8, 9, 10, 11, 12, 13, 14, 15, 16, 17, 18, 19, 20, 21, 22, 23, 24, 25, 26, 27, 28], [0, 1, 2, 3, 4, 5, 6, 7, 8, 9, 10, 11, 12, 13, 14, 15, 16, 17, 18, 19, 20, 21, 22, 23, 24, 25, 26, 27, 28, 29], [0, 1, 2, 3, 4, 5, 6, 7, 8, 9, 10, 11, 12, 13, 14, 15, 16, 17, 18, 19, 20, 21, 22, 23, 24, 25, 26, 27, 28, 29, 30], [0, 1, 2, 3, 4, 5, 6, 7, 8, 9, 10, 11, 12, 13, 14, 15, 16, 17, 18, 19, 20, 21, 22, 23, 24, 25, 26, 27, 28, 29, 30, 31]] tm rfl rfl rfl rfl ?_
  refine RD.op rfl rfl rfl (eff_fieldAddr rfl rfl tf29_0 (by decide) rfl rfl rfl (Nat.le_of_ble_eq_true rfl)) ?_
  refine RD.op rfl rfl rfl (eff_load (y := .t _) rfl rfl ti3 rfl (.one rfl rfl rfl rfl)) ?_
  refine RD.op rfl rfl rfl (eff_iop (r := .bool false) rfl rfl rfl rfl (by exact iop_lss_f (by exact hV.q0))) ?_
  refine RD.op rfl rfl rfl (eff_move (v := .t _) rfl rfl rfl) ?_
  refine RD.gop rfl rfl rfl rfl rfl rfl rfl (eff_fieldAddr rfl rfl tf29_0 (by decide) rfl rfl rfl (Nat.le_of_ble_eq_true rfl)) ?_
  refine RD.gop rfl rfl rfl rfl rfl rfl rfl (eff_load (y := .t _) rfl rfl ti3 rfl (.one rfl rfl rfl rfl)) ?_
  refine RD.gop rfl rfl rfl rfl rfl rfl rfl (eff_iop (r := .bool false) rfl rfl rfl rfl (by exact iop_gtr_f (by exact hV.q1))) ?_
  refine RD.op rfl rfl rfl (eff_pick (v := .t _) rfl rfl rfl rfl) ?_
  refine RD.op rfl rfl rfl (eff_move (v := .t _) rfl rfl rfl) ?_
  refine RD.gop rfl rfl rfl rfl rfl rfl rfl (eff_fieldAddr rfl rfl tf29_1 (by decide) rfl rfl rfl (Nat.le_of_ble_eq_true rfl)) ?_
  refine RD.gop rfl rfl rfl rfl rfl rfl rfl (eff_load (y := .t _) rfl rfl ti26 rfl (.one rfl rfl rfl rfl)) ?_
  refine RD.gop rfl rfl rfl rfl rfl rfl rfl (eff_lenM rfl rfl te26 rfl) ?_
  refine RD.gop rfl rfl rfl rfl rfl rfl rfl (eff_iop (r := .bool false) rfl rfl rfl rfl (by exact iop_gtr_f (by have := hV.len; omega))) ?_
  refine RD.op rfl rfl rfl (eff_pick (v := .t _) rfl rfl rfl rfl) ?_
  refine RD.op rfl rfl rfl (eff_move (v := .t _) rfl rfl rfl) ?_
  refine RD.gop rfl rfl rfl rfl rfl rfl rfl (eff_load rfl rfl ti29 rfl (.whole rfl rfl rfl rfl rfl rfl)) ?_
  refine RD.gop rfl rfl rfl rfl rfl rfl rfl (eff_callT (used15_ret S hS) co15 rfl rfl rfl rfl) ?_
  refine RD.gop rfl rfl rfl rfl rfl rfl rfl (eff_fieldAddr rfl rfl tf29_0 (by decide) rfl rfl rfl (Nat.le_of_ble_eq_true rfl)) ?_
  refine RD.gop rfl rfl rfl rfl rfl rfl rfl (eff_load (y := .t _) rfl rfl ti3 rfl (.one rfl rfl rfl rfl)) ?_
  refine RD.gop rfl rfl rfl rfl rfl rfl rfl (eff_iop (r := .bool false) rfl rfl rfl rfl (by exact iop_gtr_f (by exact hV.usd))) ?_
  refine RD.op rfl rfl rfl (eff_pick (v := .t _) rfl rfl rfl rfl) ?_
  refine RD.op rfl rfl rfl (eff_move (v := .t _) rfl rfl rfl) ?_
  refine RD.gop rfl rfl rfl rfl rfl rfl rfl (eff_fieldAddr rfl rfl tf29_2 (by decide) rfl rfl rfl (Nat.le_of_ble_eq_true rfl)) ?_
  refine RD.gop rfl rfl rfl rfl rfl rfl rfl (eff_load (y := .t _) rfl rfl ti27 rfl (.one rfl rfl rfl rfl)) ?_
  refine RD.gop rfl rfl rfl rfl rfl rfl rfl (eff_callT ((by have h := incr_ret S.passed (by have := hS.2.1; omega); rw [decide_eq_true hV.ps] at h; exact h)) co41 rfl rfl rfl rfl) ?_
  refine RD.gop rfl rfl rfl rfl rfl rfl rfl (eff_unop rfl rfl rfl rfl) ?_
  refine RD.op rfl rfl rfl (eff_pick (v := .t _) rfl rfl rfl rfl) ?_
  refine RD.op rfl rfl rfl (eff_move (v := .t _) rfl rfl rfl) ?_
  refine RD.gop rfl rfl rfl rfl rfl rfl rfl (eff_fieldAddr rfl rfl tf29_3 (by decide) rfl rfl rfl (Nat.le_of_ble_eq_true rfl)) ?_
  refine RD.gop rfl rfl rfl rfl rfl rfl rfl (eff_load (y := .t _) rfl rfl ti27 rfl (.one rfl rfl rfl rfl)) ?_
  refine RD.gop rfl rfl rfl rfl rfl rfl rfl (eff_callT ((by have h := incr_ret S.seen (by have := hS.2.2.1; omega); rw [decide_eq_true hV.ss] at h; exact h)) co41 rfl rfl rfl rfl) ?_
  refine RD.gop rfl rfl rfl rfl rfl rfl rfl (eff_unop rfl rfl rfl rfl) ?_
  refine RD.op rfl rfl rfl (eff_pick (v := .t _) rfl rfl rfl rfl) ?_
  refine RD.nil ?_
  refine awp_cond rfl (fun h => nomatch h) (fun _ => ?_)
  refine awp_skip ?_
  refine awp_seq ?_
  refine awp_seq ?_
  refine awp_rw rfl ?_
  refine RW.op rfl rfl (eff_assign (v := .t _) rfl rfl rfl) ?_
  refine RW.nil ?_
  refine awp_block ?_
  refine awp_loopW (fun m s => ∃ (i : Nat), (i ≤ S.bundles.length) ∧ m = S.bundles.length - i ∧ s = ⟨90, [(1, .ptr 1 0 0 0), (3, .t (encI (i : Nat)))], [(1, some ⟨4, 29, 0, [.t (encS S)]⟩)]⟩) (_) (⟨_, weak_keep (n := 90) (fr' := [(1, .ptr 1 0 0 0), (3, .t (encI (0 : Nat)))]) (st' := [(1, some ⟨4, 29, 0, [.t (encS S)]⟩)]) ⟨rfl, rfl, rfl, rfl, trivial⟩ ⟨rfl, okE_one rfl, trivial⟩, 0, (by omega), rfl, rfl⟩) ?_
  rintro m s ⟨i, hi, rfl, rfl⟩
  have hL := hS.1
  refine awp_seq ?_
  refine awp_seq ?_
  refine awp_rw rfl ?_
  refine RW.op rfl rfl (eff_move (v := .t _) rfl rfl rfl) ?_
  refine RW.op rfl rfl (eff_fieldAddr rfl rfl tf29_1 (by decide) rfl rfl rfl (Nat.le_of_ble_eq_true rfl)) ?_
  refine RW.op rfl rfl (eff_load (y := .t _) rfl rfl ti26 rfl (.one rfl rfl rfl rfl)) ?_
  refine RW.op rfl rfl (eff_lenM rfl rfl te26 rfl) ?_
  refine RW.op rfl rfl (eff_iop rfl rfl rfl rfl rfl) ?_
  refine RW.nil ?_
  refine awp_cond rfl (fun h1 => ?_) (fun h1 => ?_)
  · try simp only [decide_eq_true_eq, decide_eq_false_iff_not, beq_iff_eq, bne_iff_ne, bne_eq_false_iff_eq, beq_eq_false_iff_ne, Bool.not_eq_true, Bool.not_eq_false, Bool.not_eq_true', Bool.not_eq_false', ne_eq] at h1
    refine awp_skip ?_
    refine awp_seq ?_
    refine awp_block ?_
    refine awp_seq ?_
    refine awp_rw rfl ?_
    refine RW.op rfl rfl (eff_fieldAddr rfl rfl tf29_1 (by decide) rfl rfl rfl (Nat.le_of_ble_eq_true rfl)) ?_
    refine RW.op rfl rfl (eff_load (y := .t _) rfl rfl ti26 rfl (.one rfl rfl rfl rfl)) ?_
    refine RW.op rfl rfl (eff_move (v := .t _) rfl rfl rfl) ?_
    refine RW.op rfl rfl (eff_indexM rfl rfl te26 rfl rfl rfl (by first | assumption | exact List.getElem?_eq_getElem (by omega)) rfl (by decide)) ?_
    refine RW.op rfl rfl (eff_fieldAddrT rfl rfl tf38_0 (by decide) rfl) ?_
    refine RW.op rfl rfl (eff_loadT1 rfl rfl ti3 rfl rfl) ?_
    refine RW.op rfl rfl (eff_assign (v := .t _) rfl rfl rfl) ?_
    refine RW.nil ?_
    refine awp_seq ?_
    refine awp_rw rfl ?_
    refine RW.op rfl rfl (eff_fieldAddr rfl rfl tf29_1 (by decide) rfl rfl rfl (Nat.le_of_ble_eq_true rfl)) ?_
    refine RW.op rfl rfl (eff_load (y := .t _) rfl rfl ti26 rfl (.one rfl rfl rfl rfl)) ?_
    refine RW.op rfl rfl (eff_move (v := .t _) rfl rfl rfl) ?_
    refine RW.op rfl rfl (eff_indexM rfl rfl te26 rfl rfl rfl (by first | assumption | exact List.getElem?_eq_getElem (by omega)) rfl (by decide)) ?_
    refine RW.op rfl rfl (eff_fieldAddrT rfl rfl tf38_3 (by decide) rfl) ?_
    refine RW.op rfl rfl (eff_fieldAddrT rfl rfl tf36_4 (by decide) rfl) ?_
    refine RW.op rfl rfl (eff_loadT1 rfl rfl ti34 rfl rfl) ?_
    refine RW.op rfl rfl (eff_lenM rfl rfl te34 rfl) ?_
    refine RW.op rfl rfl (eff_iop (r := .bool false) rfl rfl rfl rfl (by exact iop_gtr_f (by have := (hV.bs (S.bundles[i]'(by omega)) (List.getElem_mem _)).1; omega))) ?_
    refine RW.op rfl rfl (eff_move (v := .t _) rfl rfl rfl) ?_
    refine RW.gop rfl rfl rfl rfl rfl rfl (eff_load rfl rfl ti29 rfl (.whole rfl rfl rfl rfl rfl rfl)) ?_
    refine RW.gop rfl rfl rfl rfl rfl rfl (eff_move (v := .t _) rfl rfl rfl) ?_
    refine RW.gop rfl rfl rfl rfl rfl rfl (eff_callT ((by have h := find_ret S (S.bundles[i]'(by omega)).id hS; rw [findIx_own hV (by omega)] at h; exact h)) co42 rfl rfl rfl rfl) ?_
    refine RW.gop rfl rfl rfl rfl rfl rfl (eff_move (v := .t _) rfl rfl rfl) ?_
    refine RW.gop rfl rfl rfl rfl rfl rfl (eff_iop (r := .bool false) rfl rfl rfl rfl (by exact iop_neq_f (by rfl))) ?_
    refine RW.op rfl rfl (eff_pick (v := .t _) rfl rfl rfl rfl) ?_
    refine RW.op rfl rfl (eff_move (v := .t _) rfl rfl rfl) ?_
    refine RW.gop rfl rfl rfl rfl rfl rfl (eff_fieldAddr rfl rfl tf29_3 (by decide) rfl rfl rfl (Nat.le_of_ble_eq_true rfl)) ?_
    refine RW.gop rfl rfl rfl rfl rfl rfl (eff_load (y := .t _) rfl rfl ti27 rfl (.one rfl rfl rfl rfl)) ?_
    refine RW.gop rfl rfl rfl rfl rfl rfl (eff_move (v := .t _) rfl rfl rfl) ?_
    refine RW.gop rfl rfl rfl rfl rfl rfl (eff_callT ((by have h := has_ret S.seen (S.bundles[i]'(by omega)).id (by have := hS.2.2.1; omega); rw [decide_eq_true (hV.bs (S.bundles[i]'(by omega)) (List.getElem_mem _)).2.2] at h; exact h)) co25 rfl rfl rfl rfl) ?_
    refine RW.gop rfl rfl rfl rfl rfl rfl (eff_unop rfl rfl rfl rfl) ?_
    refine RW.op rfl rfl (eff_pick (v := .t _) rfl rfl rfl rfl) ?_
    refine RW.nil ?_
    refine awp_cond rfl (fun h => nomatch h) (fun _ => ?_)
    refine awp_skip ?_
    refine awp_rw rfl ?_
    refine RW.op rfl rfl (eff_move (v := .t _) rfl rfl rfl) ?_
    refine RW.op rfl rfl (eff_iop rfl rfl rfl rfl (iadd (by omega))) ?_
    refine RW.op rfl rfl (eff_assign (v := .t _) rfl rfl rfl) ?_
    refine RW.nil ?_
    refine ⟨_, ?_, _, weak_keep (n := 90) (fr' := [(1, .ptr 1 0 0 0), (3, .t (encI ((i + 1) : Nat)))]) (st' := [(1, some ⟨4, 29, 0, [.t (encS S)]⟩)]) ⟨rfl, rfl, rfl, rfl, trivial⟩ ⟨rfl, okE_one rfl, trivial⟩, i + 1, (by omega), rfl, rfl⟩
    omega
  · try simp only [decide_eq_true_eq, decide_eq_false_iff_not, beq_iff_eq, bne_iff_ne, bne_eq_false_iff_eq, beq_eq_false_iff_ne, Bool.not_eq_true, Bool.not_eq_false, Bool.not_eq_true', Bool.not_eq_false', ne_eq] at h1
    refine awp_exit ?_
    refine awp_seq ?_
    refine awp_seq ?_
    refine awp_rw rfl ?_
    refine RW.op rfl rfl (eff_assign (v := .t _) rfl rfl rfl) ?_
    refine RW.nil ?_
    refine awp_block ?_
    refine awp_loopW (fun m s => ∃ (i : Nat), (i ≤ S.passed.length) ∧ m = S.passed.length - i ∧ s = ⟨90, [(1, .ptr 1 0 0 0), (5, .t (encI (i : Nat)))], [(1, some ⟨4, 29, 0, [.t (encS S)]⟩)]⟩) (_) (⟨_, weak_keep (n := 90) (fr' := [(1, .ptr 1 0 0 0), (5, .t (encI (0 : Nat)))]) (st' := [(1, some ⟨4, 29, 0, [.t (encS S)]⟩)]) ⟨rfl, rfl, rfl, rfl, trivial⟩ ⟨rfl, okE_one rfl, trivial⟩, 0, (by omega), rfl, rfl⟩) ?_
    rintro m s ⟨i, hi, rfl, rfl⟩
    have hL := hS.2.1
    refine awp_seq ?_
    refine awp_seq ?_
    refine awp_rw rfl ?_
    refine RW.op rfl rfl (eff_move (v := .t _) rfl rfl rfl) ?_
    refine RW.op rfl rfl (eff_fieldAddr rfl rfl tf29_2 (by decide) rfl rfl rfl (Nat.le_of_ble_eq_true rfl)) ?_
    refine RW.op rfl rfl (eff_load (y := .t _) rfl rfl ti27 rfl (.one rfl rfl rfl rfl)) ?_
    refine RW.op rfl rfl (eff_lenM rfl rfl te27 rfl) ?_
    refine RW.op rfl rfl (eff_iop rfl rfl rfl rfl rfl) ?_
    refine RW.nil ?_
    refine awp_cond rfl (fun h2 => ?_) (fun h2 => ?_)
    · try simp only [decide_eq_true_eq, decide_eq_false_iff_not, beq_iff_eq, bne_iff_ne, bne_eq_false_iff_eq, beq_eq_false_iff_ne, Bool.not_eq_true, Bool.not_eq_false, Bool.not_eq_true', Bool.not_eq_false', ne_eq] at h2
      refine awp_skip ?_
      refine awp_seq ?_
      refine awp_block ?_
      refine awp_seq ?_
      refine awp_rd [(some 82, []), (some 83, []), (some 84, []), (some 85, []), (some 86, []), (some 87, []), (some 88, []), (some 89, [])] [[], [], [1], [], [1, 2, 3], [1, 2, 3, 4], [0, 1, 2, 3, 4, 5], [0, 1, 2, 3, 4, 5, 6]] tm rfl rfl rfl rfl ?_
      refine RD.op rfl rfl rfl (eff_load rfl rfl ti29 rfl (.whole rfl rfl rfl rfl rfl rfl)) ?_
      refine RD.op rfl rfl rfl (eff_fieldAddr rfl rfl tf29_2 (by decide) rfl rfl rfl (Nat.le_of_ble_eq_true rfl)) ?_
      refine RD.op rfl rfl rfl (eff_load (y := .t _) rfl rfl ti27 rfl (.one rfl rfl rfl rfl)) ?_
      refine RD.op rfl rfl rfl (eff_move (v := .t _) rfl rfl rfl) ?_
      refine RD.op rfl rfl rfl (eff_indexM rfl rfl te27 rfl rfl rfl (by first | assumption | exact List.getElem?_eq_getElem (by omega)) rfl (by decide)) ?_
      refine RD.op rfl rfl rfl (eff_loadW1 rfl rfl ti3 rfl rfl) ?_
      refine RD.op rfl rfl rfl (eff_callT (find_ret S (S.passed[i]'(by omega)) hS) co42 rfl rfl rfl rfl) ?_
      refine RD.op rfl rfl rfl (eff_iop (r := .bool false) rfl rfl rfl rfl (by exact iop_lss_f (by have h9 := hV.pi (S.passed[i]'(by omega)) (List.getElem_mem _); have h8 : ¬ findIx S.bundles (S.passed[i]'(by omega)) < 0 := fun h => findIx_neg.1 h h9; omega))) ?_
      refine RD.nil ?_
      refine awp_cond rfl (fun h => nomatch h) (fun _ => ?_)
      refine awp_skip ?_
      refine awp_rw rfl ?_
      refine RW.op rfl rfl (eff_move (v := .t _) rfl rfl rfl) ?_
      refine RW.op rfl rfl (eff_iop rfl rfl rfl rfl (iadd (by omega))) ?_
      refine RW.op rfl rfl (eff_assign (v := .t _) rfl rfl rfl) ?_
      refine RW.nil ?_
      refine ⟨_, ?_, _, weak_keep (n := 90) (fr' := [(1, .ptr 1 0 0 0), (5, .t (encI ((i + 1) : Nat)))]) (st' := [(1, some ⟨4, 29, 0, [.t (encS S)]⟩)]) ⟨rfl, rfl, rfl, rfl, trivial⟩ ⟨rfl, okE_one rfl, trivial⟩, i + 1, (by omega), rfl, rfl⟩
      omega
    · try simp only [decide_eq_true_eq, decide_eq_false_iff_not, beq_iff_eq, bne_iff_ne, bne_eq_false_iff_eq, beq_eq_false_iff_ne, Bool.not_eq_true, Bool.not_eq_false, Bool.not_eq_true', Bool.not_eq_false', ne_eq] at h2
      refine awp_exit ?_
      refine awp_seq ?_
      refine awp_rw rfl ?_
      refine RW.op rfl rfl (eff_assign (v := .t _) rfl rfl rfl) ?_
      refine RW.nil ?_
      refine awp_ret ?_
      exact ⟨Or.inr rfl, [_], ⟨.tmp (.t _), trivial⟩, .refl _⟩

end Go.Tv.C27

end
section
open Go Go.Tv Go.Proofs
namespace Go.Tv.C27
set_option maxRecDepth 20000
set_option maxHeartbeats 2000000
set_option linter.unusedSimpArgs false
set_option linter.unusedVariables false
def bun (i : Int) (m : Nat) : Bundle := ⟨i, 0, 1, 0, 0, 0, 0, List.replicate m 0⟩
theorem bytes_rep (m : Nat) : Bytes (List.replicate m 0) := fun x hx => by rw [(List.mem_replicate.1 hx).2]; omega
def L0 : Store := ⟨100, [], [], []⟩
def L1 : Store := ⟨100, [bun 5 40], [], [5]⟩
def L2 : Store := ⟨100, [bun 5 40, bun 6 28], [], [5, 6]⟩
def L3 : Store := ⟨100, [bun 5 40, bun 6 28], [5], [5, 6]⟩
def L4 : Store := ⟨100, [bun 6 28], [], [5, 6]⟩
def L9 : Store := ⟨1000, [], [], []⟩
theorem lv1 : create L0 (bun 5 40) = (L1, 0) := by rfl
theorem lv2 : create L1 (bun 6 29) = (zs, 42) := by rfl
theorem lv3 : create L1 (bun 6 28) = (L2, 0) := by rfl
theorem lv4 : create L2 (bun 5 1) = (zs, 4) := by rfl
theorem lv5 : accept L2 (bun 5 40) = (L2, true, 0) := by rfl
theorem lv6 : offer L2 100 = (bun 5 40, true) := by rfl
theorem lv7 : pass L2 5 = (L3, 0) := by rfl
theorem lv8 : offer L3 100 = (bun 6 28, true) := by rfl
theorem lv9 : offer L3 43 = (zb, false) := by rfl
theorem lv10 : pass L3 5 = (zs, 44) := by rfl
theorem lv11 : confirm L3 5 = (L4, 0) := by rfl
theorem lv12 : accept L4 (bun 5 40) = (L4, true, 0) := by rfl
theorem lv13 : confirm L4 5 = (zs, 3) := by rfl
theorem lv14 : create L9 (bun 1 257) = (zs, 2) := by rfl
theorem V0 : VInv 0 L0 := VInv.empty 100 (by omega) (by omega)
theorem V9 : VInv 0 L9 := VInv.empty 1000 (by omega) (by omega)
theorem V1 : VInv 1 L1 := by have h := (inv_create V0 (bytes_rep 40) (b := bun 5 40) (by rw [lv1])).1; rw [lv1] at h; exact h
theorem V2 : VInv 2 L2 := by have h := (inv_create V1 (bytes_rep 28) (b := bun 6 28) (by rw [lv3])).1; rw [lv3] at h; exact h
theorem V3 : VInv 3 L3 := by have h := (inv_pass V2 (k := 5) (by rw [lv7])).1; rw [lv7] at h; exact h
theorem V4 : VInv 3 L4 := by have h := (inv_confirm V3 (k := 5) (by rw [lv11])).1; rw [lv11] at h; exact h
theorem bok_bun (i : Int) {m : Nat} (h : m ≤ 1000) : BOK (bun i m) := by unfold BOK bun; simp; omega
theorem same_refl (A : Store) : sameS A A = true := by unfold sameS; simp

theorem lives_ret  : Ret Try.prog 10 [] (.bool true) := by
  refine ret_of_awp Try.func10 rfl (Nat.le_of_ble_eq_true rfl) ?_
  refine awp_seq ?_
  refine awp_rw rfl ?_
  refine RW.op rfl rfl (eff_assign (v := .t _) rfl rfl rfl) ?_
  refine RW.nil ?_
  refine awp_seq ?_
  refine awp_rw rfl ?_
  refine RW.op rfl rfl (eff_buildT (ys := [_, _, _, _]) rfl rfl tz29 tg29 rfl) ?_
  refine RW.op rfl rfl (eff_callT (bundle_ret 5 40 (by omega)) co29 rfl rfl rfl rfl) ?_
  refine RW.op rfl rfl (eff_callW (xs := [_, _]) ((by have h := create28_ret insC L0 (bun 5 40) (V0.sok (by omega)) (bok_bun 5 (by omega)) V0.ss; rw [lv1] at h; exact h)) co28 rfl rfl rfl rfl (by repeat' first | exact trivial | exact Wk.refl _ | exact Wk.sl _ | refine And.intro ?_ ?_ | refine Wk.aggP ?_)) ?_
  refine RW.op rfl rfl (eff_move (v := .t _) rfl rfl rfl) ?_
  refine RW.op rfl rfl (eff_extract rfl rfl rfl rfl) ?_
  refine RW.op rfl rfl (eff_extract rfl rfl rfl rfl) ?_
  refine RW.new rfl rfl (eff_allocK (k := 4) (id := 1) rfl rfl tz29 rfl rfl) ?_
  refine RW.store rfl rfl (eff_storeW (v := .t _) (els := [_]) (els' := [_]) rfl rfl ti29 rfl rfl rfl rfl rfl rfl rfl rfl rfl) ?_
  refine RW.op rfl rfl (eff_assign (v := .t _) rfl rfl rfl) ?_
  refine RW.nil ?_
  refine awp_seq ?_
  refine awp_rd [(some 38, []), (some 39, []), (some 40, []), (some 37, []), (some 41, []), (some 42, []), (some 3, [3]), (none, [3]), (some 4, [])] [[], [], [0, 1], [0, 1, 2], [0, 1, 2, 3], [0, 1, 2, 3], [], [0, 1, 2, 3, 4, 6], [0, 1, 2, 3, 4, 5, 6, 7]] tm rfl rfl rfl rfl ?_
  refine RD.op rfl rfl rfl (eff_load rfl rfl ti29 rfl (.whole rfl rfl rfl rfl rfl rfl)) ?_
  refine RD.op rfl rfl rfl (eff_callT (bundle_ret 6 29 (by omega)) co29 rfl rfl rfl rfl) ?_
  refine RD.op rfl rfl rfl (eff_callT ((by have h := create28_ret insC L1 (bun 6 29) (V1.sok (by omega)) (bok_bun 6 (by omega)) V1.ss; rw [lv2] at h; exact h)) co28 rfl rfl rfl rfl) ?_
  refine RD.op rfl rfl rfl (eff_move (v := .t _) rfl rfl rfl) ?_
  refine RD.op rfl rfl rfl (eff_extract rfl rfl rfl rfl) ?_
  refine RD.op rfl rfl rfl (eff_extract rfl rfl rfl rfl) ?_
  refine RD.new rfl rfl rfl (eff_allocK (k := 4) (id := 3) rfl rfl tz29 rfl rfl) ?_
  refine RD.store rfl rfl rfl (eff_storeW (v := .t _) (els := [_]) (els' := [_]) rfl rfl ti29 rfl rfl rfl rfl rfl rfl rfl rfl rfl) ?_
  refine RD.op rfl rfl rfl (eff_assign (v := .t _) rfl rfl rfl) ?_
  refine RD.nil ?_
  refine awp_seq ?_
  refine awp_rd [(some 44, []), (some 45, []), (some 46, []), (some 43, []), (some 47, []), (some 48, []), (some 5, [5]), (none, [5]), (some 6, [])] [[], [], [0, 1], [0, 1, 2], [0, 1, 2, 3], [0, 1, 2, 3], [], [0, 1, 2, 3, 4, 6], [0, 1, 2, 3, 4, 5, 6, 7]] tm rfl rfl rfl rfl ?_
  refine RD.op rfl rfl rfl (eff_load rfl rfl ti29 rfl (.whole rfl rfl rfl rfl rfl rfl)) ?_
  refine RD.op rfl rfl rfl (eff_callT (bundle_ret 6 28 (by omega)) co29 rfl rfl rfl rfl) ?_
  refine RD.op rfl rfl rfl (eff_callT ((by have h := create28_ret insC L1 (bun 6 28) (V1.sok (by omega)) (bok_bun 6 (by omega)) V1.ss; rw [lv3] at h; exact h)) co28 rfl rfl rfl rfl) ?_
  refine RD.op rfl rfl rfl (eff_move (v := .t _) rfl rfl rfl) ?_
  refine RD.op rfl rfl rfl (eff_extract rfl rfl rfl rfl) ?_
  refine RD.op rfl rfl rfl (eff_extract rfl rfl rfl rfl) ?_
  refine RD.new rfl rfl rfl (eff_allocK (k := 4) (id := 5) rfl rfl tz29 rfl rfl) ?_
  refine RD.store rfl rfl rfl (eff_storeW (v := .t _) (els := [_]) (els' := [_]) rfl rfl ti29 rfl rfl rfl rfl rfl rfl rfl rfl rfl) ?_
  refine RD.op rfl rfl rfl (eff_assign (v := .t _) rfl rfl rfl) ?_
  refine RD.nil ?_
  refine awp_seq ?_
  refine awp_rd [(some 50, []), (some 51, []), (some 52, []), (some 49, []), (some 53, []), (some 54, []), (some 7, [7]), (none, [7]), (some 8, [])] [[], [], [0, 1], [0, 1, 2], [0, 1, 2, 3], [0, 1, 2, 3], [], [0, 1, 2, 3, 4, 6], [0, 1, 2, 3, 4, 5, 6, 7]] tm rfl rfl rfl rfl ?_
  refine RD.op rfl rfl rfl (eff_load rfl rfl ti29 rfl (.whole rfl rfl rfl rfl rfl rfl)) ?_
  refine RD.op rfl rfl rfl (eff_callT (bundle_ret 5 1 (by omega)) co29 rfl rfl rfl rfl) ?_
  refine RD.op rfl rfl rfl (eff_callT ((by have h := create28_ret insC L2 (bun 5 1) (V2.sok (by omega)) (bok_bun 5 (by omega)) V2.ss; rw [lv4] at h; exact h)) co28 rfl rfl rfl rfl) ?_
  refine RD.op rfl rfl rfl (eff_move (v := .t _) rfl rfl rfl) ?_
  refine RD.op rfl rfl rfl (eff_extract rfl rfl rfl rfl) ?_
  refine RD.op rfl rfl rfl (eff_extract rfl rfl rfl rfl) ?_
  refine RD.new rfl rfl rfl (eff_allocK (k := 4) (id := 7) rfl rfl tz29 rfl rfl) ?_
  refine RD.store rfl rfl rfl (eff_storeW (v := .t _) (els := [_]) (els' := [_]) rfl rfl ti29 rfl rfl rfl rfl rfl rfl rfl rfl rfl) ?_
  refine RD.op rfl rfl rfl (eff_assign (v := .t _) rfl rfl rfl) ?_
  refine RD.nil ?_
  refine awp_seq ?_
  refine awp_rd [(some 56, []), (some 57, []), (some 58, []), (some 55, []), (some 59, []), (some 60, []), (some 61, []), (some 9, [9]), (none, [9]), (some 10, []), (some 11, [])] [[], [], [0, 1], [0, 1, 2], [0, 1, 2, 3], [0, 1, 2, 3], [0, 1, 2, 3], [], [0, 1, 2, 3, 4, 7], [0, 1, 2, 3, 4, 5, 7, 8], [0, 1, 2, 3, 4, 5, 6, 7, 8, 9]] tm rfl rfl rfl rfl ?_
  refine RD.op rfl rfl rfl (eff_load rfl rfl ti29 rfl (.whole rfl rfl rfl rfl rfl rfl)) ?_
  refine RD.op rfl rfl rfl (eff_callT (bundle_ret 5 40 (by omega)) co29 rfl rfl rfl rfl) ?_
  refine RD.op rfl rfl rfl (eff_callT ((by have h := accept23_ret insC L2 (bun 5 40) (V2.sok (by omega)) (bok_bun 5 (by omega)) V2.ss; rw [lv5] at h; exact h)) co23 rfl rfl rfl rfl) ?_
  refine RD.op rfl rfl rfl (eff_move (v := .t _) rfl rfl rfl) ?_
  refine RD.op rfl rfl rfl (eff_extract rfl rfl rfl rfl) ?_
  refine RD.op rfl rfl rfl (eff_extract rfl rfl rfl rfl) ?_
  refine RD.op rfl rfl rfl (eff_extract rfl rfl rfl rfl) ?_
  refine RD.new rfl rfl rfl (eff_allocK (k := 4) (id := 9) rfl rfl tz29 rfl rfl) ?_
  refine RD.store rfl rfl rfl (eff_storeW (v := .t _) (els := [_]) (els' := [_]) rfl rfl ti29 rfl rfl rfl rfl rfl rfl rfl rfl rfl) ?_
  refine RD.op rfl rfl rfl (eff_assign (v := .t _) rfl rfl rfl) ?_
  refine RD.op rfl rfl rfl (eff_assign (v := .t _) rfl rfl rfl) ?_
  refine RD.nil ?_
  refine awp_seq ?_
  refine awp_rw rfl ?_
  refine RW.op rfl rfl (eff_load rfl rfl ti29 rfl (.whole rfl rfl rfl rfl rfl rfl)) ?_
  refine RW.op rfl rfl (eff_callT ((by have h := offer18_ret L2 100 (V2.sok (by omega)) V2.ps; rw [lv6] at h; exact h)) co18 rfl rfl rfl rfl) ?_
  refine RW.op rfl rfl (eff_move (v := .t _) rfl rfl rfl) ?_
  refine RW.op rfl rfl (eff_extract rfl rfl rfl rfl) ?_
  refine RW.op rfl rfl (eff_extract rfl rfl rfl rfl) ?_
  refine RW.new rfl rfl (eff_allocK (k := 8) (id := 12) rfl rfl tz38 rfl rfl) ?_
  refine RW.store rfl rfl (eff_storeW (v := .t _) (els := [_]) (els' := [_]) rfl rfl ti38 rfl rfl rfl rfl rfl rfl rfl rfl rfl) ?_
  refine RW.op rfl rfl (eff_assign (v := .t _) rfl rfl rfl) ?_
  refine RW.nil ?_
  refine awp_seq ?_
  refine awp_rw rfl ?_
  refine RW.op rfl rfl (eff_load rfl rfl ti29 rfl (.whole rfl rfl rfl rfl rfl rfl)) ?_
  refine RW.op rfl rfl (eff_callT ((by have h := pass26_ret insC L2 5 (V2.sok (by omega)) V2.ps; rw [lv7] at h; exact h)) co26 rfl rfl rfl rfl) ?_
  refine RW.op rfl rfl (eff_move (v := .t _) rfl rfl rfl) ?_
  refine RW.op rfl rfl (eff_extract rfl rfl rfl rfl) ?_
  refine RW.op rfl rfl (eff_extract rfl rfl rfl rfl) ?_
  refine RW.new rfl rfl (eff_allocK (k := 4) (id := 14) rfl rfl tz29 rfl rfl) ?_
  refine RW.store rfl rfl (eff_storeW (v := .t _) (els := [_]) (els' := [_]) rfl rfl ti29 rfl rfl rfl rfl rfl rfl rfl rfl rfl) ?_
  refine RW.op rfl rfl (eff_assign (v := .t _) rfl rfl rfl) ?_
  refine RW.nil ?_
  refine awp_seq ?_
  refine awp_rw rfl ?_
  refine RW.op rfl rfl (eff_load rfl rfl ti29 rfl (.whole rfl rfl rfl rfl rfl rfl)) ?_
  refine RW.op rfl rfl (eff_callT ((by have h := offer18_ret L3 100 (V3.sok (by omega)) V3.ps; rw [lv8] at h; exact h)) co18 rfl rfl rfl rfl) ?_
  refine RW.op rfl rfl (eff_move (v := .t _) rfl rfl rfl) ?_
  refine RW.op rfl rfl (eff_extract rfl rfl rfl rfl) ?_
  refine RW.op rfl rfl (eff_extract rfl rfl rfl rfl) ?_
  refine RW.new rfl rfl (eff_allocK (k := 8) (id := 16) rfl rfl tz38 rfl rfl) ?_
  refine RW.store rfl rfl (eff_storeW (v := .t _) (els := [_]) (els' := [_]) rfl rfl ti38 rfl rfl rfl rfl rfl rfl rfl rfl rfl) ?_
  refine RW.op rfl rfl (eff_assign (v := .t _) rfl rfl rfl) ?_
  refine RW.nil ?_
  refine awp_seq ?_
  refine awp_rw rfl ?_
  refine RW.op rfl rfl (eff_load rfl rfl ti29 rfl (.whole rfl rfl rfl rfl rfl rfl)) ?_
  refine RW.op rfl rfl (eff_callT ((by have h := offer18_ret L3 43 (V3.sok (by omega)) V3.ps; rw [lv9] at h; exact h)) co18 rfl rfl rfl rfl) ?_
  refine RW.op rfl rfl (eff_move (v := .t _) rfl rfl rfl) ?_
  refine RW.op rfl rfl (eff_extract rfl rfl rfl rfl) ?_
  refine RW.op rfl rfl (eff_extract rfl rfl rfl rfl) ?_
  refine RW.new rfl rfl (eff_allocK (k := 8) (id := 18) rfl rfl tz38 rfl rfl) ?_
  refine RW.store rfl rfl (eff_storeW (v := .t _) (els := [_]) (els' := [_]) rfl rfl ti38 rfl rfl rfl rfl rfl rfl rfl rfl rfl) ?_
  refine RW.op rfl rfl (eff_assign (v := .t _) rfl rfl rfl) ?_
  refine RW.nil ?_
  refine awp_seq ?_
  refine awp_rw rfl ?_
  refine RW.op rfl rfl (eff_load rfl rfl ti29 rfl (.whole rfl rfl rfl rfl rfl rfl)) ?_
  refine RW.op rfl rfl (eff_callT ((by have h := pass26_ret insC L3 5 (V3.sok (by omega)) V3.ps; rw [lv10] at h; exact h)) co26 rfl rfl rfl rfl) ?_
  refine RW.op rfl rfl (eff_move (v := .t _) rfl rfl rfl) ?_
  refine RW.op rfl rfl (eff_extract rfl rfl rfl rfl) ?_
  refine RW.op rfl rfl (eff_extract rfl rfl rfl rfl) ?_
  refine RW.new rfl rfl (eff_allocK (k := 4) (id := 20) rfl rfl tz29 rfl rfl) ?_
  refine RW.store rfl rfl (eff_storeW (v := .t _) (els := [_]) (els' := [_]) rfl rfl ti29 rfl rfl rfl rfl rfl rfl rfl rfl rfl) ?_
  refine RW.op rfl rfl (eff_assign (v := .t _) rfl rfl rfl) ?_
  refine RW.nil ?_
  refine awp_seq ?_
  refine awp_rw rfl ?_
  refine RW.op rfl rfl (eff_load rfl rfl ti29 rfl (.whole rfl rfl rfl rfl rfl rfl)) ?_
  refine RW.op rfl rfl (eff_callT ((by have h := confirm24_ret L3 5 (V3.sok (by omega)) V3.ps; rw [lv11] at h; exact h)) co24 rfl rfl rfl rfl) ?_
  refine RW.op rfl rfl (eff_move (v := .t _) rfl rfl rfl) ?_
  refine RW.op rfl rfl (eff_extract rfl rfl rfl rfl) ?_
  refine RW.op rfl rfl (eff_extract rfl rfl rfl rfl) ?_
  refine RW.new rfl rfl (eff_allocK (k := 4) (id := 22) rfl rfl tz29 rfl rfl) ?_
  refine RW.store rfl rfl (eff_storeW (v := .t _) (els := [_]) (els' := [_]) rfl rfl ti29 rfl rfl rfl rfl rfl rfl rfl rfl rfl) ?_
  refine RW.op rfl rfl (eff_assign (v := .t _) rfl rfl rfl) ?_
  refine RW.nil ?_
  refine awp_seq ?_
  refine awp_rd [(some 93, []), (some 94, []), (some 95, []), (some 92, []), (some 96, []), (some 97, []), (some 98, []), (some 24, [24]), (none, [24]), (some 25, []), (some 26, [])] [[], [], [0, 1], [0, 1, 2], [0, 1, 2, 3], [0, 1, 2, 3], [0, 1, 2, 3], [], [0, 1, 2, 3, 4, 7], [0, 1, 2, 3, 4, 5, 7, 8], [0, 1, 2, 3, 4, 5, 6, 7, 8, 9]] tm rfl rfl rfl rfl ?_
  refine RD.op rfl rfl rfl (eff_load rfl rfl ti29 rfl (.whole rfl rfl rfl rfl rfl rfl)) ?_
  refine RD.op rfl rfl rfl (eff_callT (bundle_ret 5 40 (by omega)) co29 rfl rfl rfl rfl) ?_
  refine RD.op rfl rfl rfl (eff_callT ((by have h := accept23_ret insC L4 (bun 5 40) (V4.sok (by omega)) (bok_bun 5 (by omega)) V4.ss; rw [lv12] at h; exact h)) co23 rfl rfl rfl rfl) ?_
  refine RD.op rfl rfl rfl (eff_move (v := .t _) rfl rfl rfl) ?_
  refine RD.op rfl rfl rfl (eff_extract rfl rfl rfl rfl) ?_
  refine RD.op rfl rfl rfl (eff_extract rfl rfl rfl rfl) ?_
  refine RD.op rfl rfl rfl (eff_extract rfl rfl rfl rfl) ?_
  refine RD.new rfl rfl rfl (eff_allocK (k := 4) (id := 24) rfl rfl tz29 rfl rfl) ?_
  refine RD.store rfl rfl rfl (eff_storeW (v := .t _) (els := [_]) (els' := [_]) rfl rfl ti29 rfl rfl rfl rfl rfl rfl rfl rfl rfl) ?_
  refine RD.op rfl rfl rfl (eff_assign (v := .t _) rfl rfl rfl) ?_
  refine RD.op rfl rfl rfl (eff_assign (v := .t _) rfl rfl rfl) ?_
  refine RD.nil ?_
  refine awp_seq ?_
  refine awp_rw rfl ?_
  refine RW.op rfl rfl (eff_load rfl rfl ti29 rfl (.whole rfl rfl rfl rfl rfl rfl)) ?_
  refine RW.op rfl rfl (eff_callT ((by have h := confirm24_ret L4 5 (V4.sok (by omega)) V4.ps; rw [lv13] at h; exact h)) co24 rfl rfl rfl rfl) ?_
  refine RW.op rfl rfl (eff_move (v := .t _) rfl rfl rfl) ?_
  refine RW.op rfl rfl (eff_extract rfl rfl rfl rfl) ?_
  refine RW.op rfl rfl (eff_extract rfl rfl rfl rfl) ?_
  refine RW.new rfl rfl (eff_allocK (k := 4) (id := 27) rfl rfl tz29 rfl rfl) ?_
  refine RW.store rfl rfl (eff_storeW (v := .t _) (els := [_]) (els' := [_]) rfl rfl ti29 rfl rfl rfl rfl rfl rfl rfl rfl rfl) ?_
  refine RW.op rfl rfl (eff_assign (v := .t _) rfl rfl rfl) ?_
  refine RW.nil ?_
  refine awp_seq ?_
  refine awp_rw rfl ?_
  refine RW.op rfl rfl (eff_buildT (ys := [_, _, _, _]) rfl rfl tz29 tg29 rfl) ?_
  refine RW.op rfl rfl (eff_callT (bundle_ret 1 257 (by omega)) co29 rfl rfl rfl rfl) ?_
  refine RW.op rfl rfl (eff_callW (xs := [_, _]) ((by have h := create28_ret insC L9 (bun 1 257) (V9.sok (by omega)) (bok_bun 1 (by omega)) V9.ss; rw [lv14] at h; exact h)) co28 rfl rfl rfl rfl (by repeat' first | exact trivial | exact Wk.refl _ | exact Wk.sl _ | refine And.intro ?_ ?_ | refine Wk.aggP ?_)) ?_
  refine RW.op rfl rfl (eff_move (v := .t _) rfl rfl rfl) ?_
  refine RW.op rfl rfl (eff_extract rfl rfl rfl rfl) ?_
  refine RW.op rfl rfl (eff_extract rfl rfl rfl rfl) ?_
  refine RW.new rfl rfl (eff_allocK (k := 4) (id := 29) rfl rfl tz29 rfl rfl) ?_
  refine RW.store rfl rfl (eff_storeW (v := .t _) (els := [_]) (els' := [_]) rfl rfl ti29 rfl rfl rfl rfl rfl rfl rfl rfl rfl) ?_
  refine RW.op rfl rfl (eff_assign (v := .t _) rfl rfl rfl) ?_
  refine RW.nil ?_
  refine awp_seq ?_
  refine awp_seq ?_
  refine awp_rw rfl ?_
  refine RW.op rfl rfl (eff_move (v := .t _) rfl rfl rfl) ?_
  refine RW.op rfl rfl (eff_iop (r := .bool false) rfl rfl rfl rfl (by exact iop_neq_f (by rfl))) ?_
  refine RW.op rfl rfl (eff_move (v := .t _) rfl rfl rfl) ?_
  refine RW.gop rfl rfl rfl rfl rfl rfl (eff_move (v := .t _) rfl rfl rfl) ?_
  refine RW.gop rfl rfl rfl rfl rfl rfl (eff_iop (r := .bool false) rfl rfl rfl rfl (by exact iop_neq_f (by rfl))) ?_
  refine RW.op rfl rfl (eff_pick (v := .t _) rfl rfl rfl rfl) ?_
  refine RW.op rfl rfl (eff_move (v := .t _) rfl rfl rfl) ?_
  refine RW.gop rfl rfl rfl rfl rfl rfl (eff_move (v := .t _) rfl rfl rfl) ?_
  refine RW.gop rfl rfl rfl rfl rfl rfl (eff_iop (r := .bool false) rfl rfl rfl rfl (by exact iop_neq_f (by rfl))) ?_
  refine RW.op rfl rfl (eff_pick (v := .t _) rfl rfl rfl rfl) ?_
  refine RW.op rfl rfl (eff_move (v := .t _) rfl rfl rfl) ?_
  refine RW.gop rfl rfl rfl rfl rfl rfl (eff_move (v := .t _) rfl rfl rfl) ?_
  refine RW.gop rfl rfl rfl rfl rfl rfl (eff_iop (r := .bool false) rfl rfl rfl rfl (by exact iop_neq_f (by rfl))) ?_
  refine RW.op rfl rfl (eff_pick (v := .t _) rfl rfl rfl rfl) ?_
  refine RW.op rfl rfl (eff_move (v := .t _) rfl rfl rfl) ?_
  refine RW.gop rfl rfl rfl rfl rfl rfl (eff_move (v := .t _) rfl rfl rfl) ?_
  refine RW.gop rfl rfl rfl rfl rfl rfl (eff_iop (r := .bool false) rfl rfl rfl rfl (by exact iop_neq_f (by rfl))) ?_
  refine RW.op rfl rfl (eff_pick (v := .t _) rfl rfl rfl rfl) ?_
  refine RW.op rfl rfl (eff_move (v := .t _) rfl rfl rfl) ?_
  refine RW.gop rfl rfl rfl rfl rfl rfl (eff_move (v := .t _) rfl rfl rfl) ?_
  refine RW.gop rfl rfl rfl rfl rfl rfl (eff_iop (r := .bool false) rfl rfl rfl rfl (by exact iop_neq_f (by rfl))) ?_
  refine RW.op rfl rfl (eff_pick (v := .t _) rfl rfl rfl rfl) ?_
  refine RW.op rfl rfl (eff_move (v := .t _) rfl rfl rfl) ?_
  refine RW.gop rfl rfl rfl rfl rfl rfl (eff_move (v := .t _) rfl rfl rfl) ?_
  refine RW.gop rfl rfl rfl rfl rfl rfl (eff_iop (r := .bool false) rfl rfl rfl rfl (by exact iop_neq_f (by rfl))) ?_
  refine RW.op rfl rfl (eff_pick (v := .t _) rfl rfl rfl rfl) ?_
  refine RW.op rfl rfl (eff_move (v := .t _) rfl rfl rfl) ?_
  refine RW.gop rfl rfl rfl rfl rfl rfl (eff_move (v := .t _) rfl rfl rfl) ?_
  refine RW.gop rfl rfl rfl rfl rfl rfl (eff_iop (r := .bool false) rfl rfl rfl rfl (by exact iop_neq_f (by rfl))) ?_
  refine RW.op rfl rfl (eff_pick (v := .t _) rfl rfl rfl rfl) ?_
  refine RW.op rfl rfl (eff_move (v := .t _) rfl rfl rfl) ?_
  refine RW.gop rfl rfl rfl rfl rfl rfl (eff_move (v := .t _) rfl rfl rfl) ?_
  refine RW.gop rfl rfl rfl rfl rfl rfl (eff_iop (r := .bool false) rfl rfl rfl rfl (by exact iop_neq_f (by rfl))) ?_
  refine RW.op rfl rfl (eff_pick (v := .t _) rfl rfl rfl rfl) ?_
  refine RW.op rfl rfl (eff_move (v := .t _) rfl rfl rfl) ?_
  refine RW.gop rfl rfl rfl rfl rfl rfl (eff_move (v := .t _) rfl rfl rfl) ?_
  refine RW.gop rfl rfl rfl rfl rfl rfl (eff_iop (r := .bool false) rfl rfl rfl rfl (by exact iop_neq_f (by rfl))) ?_
  refine RW.op rfl rfl (eff_pick (v := .t _) rfl rfl rfl rfl) ?_
  refine RW.op rfl rfl (eff_move (v := .t _) rfl rfl rfl) ?_
  refine RW.gop rfl rfl rfl rfl rfl rfl (eff_move (v := .t _) rfl rfl rfl) ?_
  refine RW.gop rfl rfl rfl rfl rfl rfl (eff_iop (r := .bool false) rfl rfl rfl rfl (by exact iop_neq_f (by rfl))) ?_
  refine RW.op rfl rfl (eff_pick (v := .t _) rfl rfl rfl rfl) ?_
  refine RW.nil ?_
  refine awp_cond rfl (fun h => nomatch h) (fun _ => ?_)
  refine awp_skip ?_
  refine awp_seq ?_
  refine awp_rw rfl ?_
  refine RW.op rfl rfl (eff_load rfl rfl ti29 rfl (.whole rfl rfl rfl rfl rfl rfl)) ?_
  refine RW.op rfl rfl (eff_callT (used_ret L1 (V1.sok (by omega))) co14 rfl rfl rfl rfl) ?_
  refine RW.op rfl rfl (eff_iop (r := .bool true) rfl rfl rfl rfl (by exact iop_eql_t (by rfl))) ?_
  refine RW.op rfl rfl (eff_move (v := .t _) rfl rfl rfl) ?_
  refine RW.gop rfl rfl rfl rfl rfl rfl (eff_callT (bundle_ret 1 4 (by omega)) co29 rfl rfl rfl rfl) ?_
  refine RW.gop rfl rfl rfl rfl rfl rfl (eff_callT (size_ret (bun 1 4) (bok_bun 1 (by omega))) co16 rfl rfl rfl rfl) ?_
  refine RW.gop rfl rfl rfl rfl rfl rfl (eff_iop (r := .bool true) rfl rfl rfl rfl (by exact iop_eql_t (by rfl))) ?_
  refine RW.op rfl rfl (eff_pick (v := .t _) rfl rfl rfl rfl) ?_
  refine RW.op rfl rfl (eff_move (v := .t _) rfl rfl rfl) ?_
  refine RW.gop rfl rfl rfl rfl rfl rfl (eff_move (v := .t _) rfl rfl rfl) ?_
  refine RW.op rfl rfl (eff_pick (v := .t _) rfl rfl rfl rfl) ?_
  refine RW.op rfl rfl (eff_move (v := .t _) rfl rfl rfl) ?_
  refine RW.gop rfl rfl rfl rfl rfl rfl (eff_load rfl rfl ti29 rfl (.whole rfl rfl rfl rfl rfl rfl)) ?_
  refine RW.gop rfl rfl rfl rfl rfl rfl (eff_load rfl rfl ti29 rfl (.whole rfl rfl rfl rfl rfl rfl)) ?_
  refine RW.gop rfl rfl rfl rfl rfl rfl (eff_callT ((by have h := same_ret L2 L2 (V2.sok (by omega)) (fun b hb => (V2.bs b hb).2.1) (fun b hb => (V2.bs b hb).2.1); rw [same_refl] at h; exact h)) co13 rfl rfl rfl rfl) ?_
  refine RW.op rfl rfl (eff_pick (v := .t _) rfl rfl rfl rfl) ?_
  refine RW.op rfl rfl (eff_move (v := .t _) rfl rfl rfl) ?_
  refine RW.gop rfl rfl rfl rfl rfl rfl (eff_move (v := .t _) rfl rfl rfl) ?_
  refine RW.op rfl rfl (eff_pick (v := .t _) rfl rfl rfl rfl) ?_
  refine RW.op rfl rfl (eff_move (v := .t _) rfl rfl rfl) ?_
  refine RW.gop rfl rfl rfl rfl rfl rfl (eff_fieldAddr rfl rfl tf38_0 (by decide) rfl rfl rfl (Nat.le_of_ble_eq_true rfl)) ?_
  refine RW.gop rfl rfl rfl rfl rfl rfl (eff_load (y := .t _) rfl rfl ti3 rfl (.one rfl rfl rfl rfl)) ?_
  refine RW.gop rfl rfl rfl rfl rfl rfl (eff_iop (r := .bool true) rfl rfl rfl rfl (by exact iop_eql_t (by rfl))) ?_
  refine RW.op rfl rfl (eff_pick (v := .t _) rfl rfl rfl rfl) ?_
  refine RW.op rfl rfl (eff_move (v := .t _) rfl rfl rfl) ?_
  refine RW.gop rfl rfl rfl rfl rfl rfl (eff_move (v := .t _) rfl rfl rfl) ?_
  refine RW.op rfl rfl (eff_pick (v := .t _) rfl rfl rfl rfl) ?_
  refine RW.op rfl rfl (eff_move (v := .t _) rfl rfl rfl) ?_
  refine RW.gop rfl rfl rfl rfl rfl rfl (eff_fieldAddr rfl rfl tf38_0 (by decide) rfl rfl rfl (Nat.le_of_ble_eq_true rfl)) ?_
  refine RW.gop rfl rfl rfl rfl rfl rfl (eff_load (y := .t _) rfl rfl ti3 rfl (.one rfl rfl rfl rfl)) ?_
  refine RW.gop rfl rfl rfl rfl rfl rfl (eff_iop (r := .bool true) rfl rfl rfl rfl (by exact iop_eql_t (by rfl))) ?_
  refine RW.op rfl rfl (eff_pick (v := .t _) rfl rfl rfl rfl) ?_
  refine RW.op rfl rfl (eff_move (v := .t _) rfl rfl rfl) ?_
  refine RW.gop rfl rfl rfl rfl rfl rfl (eff_move (v := .t _) rfl rfl rfl) ?_
  refine RW.gop rfl rfl rfl rfl rfl rfl (eff_unop rfl rfl rfl rfl) ?_
  refine RW.op rfl rfl (eff_pick (v := .t _) rfl rfl rfl rfl) ?_
  refine RW.op rfl rfl (eff_move (v := .t _) rfl rfl rfl) ?_
  refine RW.gop rfl rfl rfl rfl rfl rfl (eff_load rfl rfl ti29 rfl (.whole rfl rfl rfl rfl rfl rfl)) ?_
  refine RW.gop rfl rfl rfl rfl rfl rfl (eff_callT (used_ret L3 (V3.sok (by omega))) co14 rfl rfl rfl rfl) ?_
  refine RW.gop rfl rfl rfl rfl rfl rfl (eff_iop (r := .bool true) rfl rfl rfl rfl (by exact iop_eql_t (by rfl))) ?_
  refine RW.op rfl rfl (eff_pick (v := .t _) rfl rfl rfl rfl) ?_
  refine RW.op rfl rfl (eff_move (v := .t _) rfl rfl rfl) ?_
  refine RW.gop rfl rfl rfl rfl rfl rfl (eff_load rfl rfl ti29 rfl (.whole rfl rfl rfl rfl rfl rfl)) ?_
  refine RW.gop rfl rfl rfl rfl rfl rfl (eff_callT (used_ret L4 (V4.sok (by omega))) co14 rfl rfl rfl rfl) ?_
  refine RW.gop rfl rfl rfl rfl rfl rfl (eff_iop (r := .bool true) rfl rfl rfl rfl (by exact iop_eql_t (by rfl))) ?_
  refine RW.op rfl rfl (eff_pick (v := .t _) rfl rfl rfl rfl) ?_
  refine RW.op rfl rfl (eff_move (v := .t _) rfl rfl rfl) ?_
  refine RW.gop rfl rfl rfl rfl rfl rfl (eff_move (v := .t _) rfl rfl rfl) ?_
  refine RW.op rfl rfl (eff_pick (v := .t _) rfl rfl rfl rfl) ?_
  refine RW.op rfl rfl (eff_move (v := .t _) rfl rfl rfl) ?_
  refine RW.gop rfl rfl rfl rfl rfl rfl (eff_load rfl rfl ti29 rfl (.whole rfl rfl rfl rfl rfl rfl)) ?_
  refine RW.gop rfl rfl rfl rfl rfl rfl (eff_load rfl rfl ti29 rfl (.whole rfl rfl rfl rfl rfl rfl)) ?_
  refine RW.gop rfl rfl rfl rfl rfl rfl (eff_callT ((by have h := same_ret L4 L4 (V4.sok (by omega)) (fun b hb => (V4.bs b hb).2.1) (fun b hb => (V4.bs b hb).2.1); rw [same_refl] at h; exact h)) co13 rfl rfl rfl rfl) ?_
  refine RW.op rfl rfl (eff_pick (v := .t _) rfl rfl rfl rfl) ?_
  refine RW.op rfl rfl (eff_move (v := .t _) rfl rfl rfl) ?_
  refine RW.gop rfl rfl rfl rfl rfl rfl (eff_load rfl rfl ti29 rfl (.whole rfl rfl rfl rfl rfl rfl)) ?_
  refine RW.gop rfl rfl rfl rfl rfl rfl (eff_callT (retry27_ret L3 (V3.sok (by omega))) co27 rfl rfl rfl rfl) ?_
  refine RW.gop rfl rfl rfl rfl rfl rfl (eff_field rfl rfl tf29_2 rfl rfl) ?_
  refine RW.gop rfl rfl rfl rfl rfl rfl (eff_lenM rfl rfl te27 rfl) ?_
  refine RW.gop rfl rfl rfl rfl rfl rfl (eff_iop (r := .bool true) rfl rfl rfl rfl (by exact iop_eql_t (by rfl))) ?_
  refine RW.op rfl rfl (eff_pick (v := .t _) rfl rfl rfl rfl) ?_
  refine RW.op rfl rfl (eff_move (v := .t _) rfl rfl rfl) ?_
  refine RW.gop rfl rfl rfl rfl rfl rfl (eff_fieldAddr rfl rfl tf29_2 (by decide) rfl rfl rfl (Nat.le_of_ble_eq_true rfl)) ?_
  refine RW.gop rfl rfl rfl rfl rfl rfl (eff_load (y := .t _) rfl rfl ti27 rfl (.one rfl rfl rfl rfl)) ?_
  refine RW.gop rfl rfl rfl rfl rfl rfl (eff_lenM rfl rfl te27 rfl) ?_
  refine RW.gop rfl rfl rfl rfl rfl rfl (eff_iop (r := .bool true) rfl rfl rfl rfl (by exact iop_eql_t (by rfl))) ?_
  refine RW.op rfl rfl (eff_pick (v := .t _) rfl rfl rfl rfl) ?_
  refine RW.op rfl rfl (eff_assign (v := .t _) rfl rfl rfl) ?_
  refine RW.nil ?_
  refine awp_ret ?_
  exact ⟨Or.inr rfl, [_], ⟨.tmp (.t _), trivial⟩, .refl _⟩

end Go.Tv.C27

end
section
open Go Go.Tv Go.Proofs
namespace Go.Tv.C27
set_option maxRecDepth 20000
set_option maxHeartbeats 2000000
set_option linter.unusedSimpArgs false
set_option linter.unusedVariables false
def QS (q : Int) : Store := ⟨q % 2001, [], [], []⟩
theorem QS_inv {q : Int} (h : 0 ≤ q) : VInv 0 (QS q) := VInv.empty _ (by omega) (by omega)
/-- What is asked of the operations that come in. -/
def OpsOK (l : List Opn) : Prop := ∀ o, o ∈ l → Bytes o.bundle.data
theorem run_inv {q : Int} (h : 0 ≤ q) {l : List Opn} (hl : OpsOK l) : ∀ i, i ≤ l.length → VInv i (runS (QS q) (l.take i))
  | 0, _ => by simpa [runS] using QS_inv h
  | i + 1, hi => by
    rw [runS_step (by omega)]
    exact inv_do (run_inv h hl i (by omega)) (hl _ (List.getElem_mem _))
theorem short_bok {l : List Opn} (h : ∀ o, o ∈ l → o.bundle.data.length ≤ 300) {i : Nat} (hi : i < l.length) : BOK (l[i]).bundle := by
  have := h _ (List.getElem_mem hi); unfold BOK; omega
theorem offer_bytes {n : Nat} {s : Store} (h : VInv n s) (r : Int) : Bytes (offer s r).1.data := by
  unfold offer
  cases hf : s.bundles.find? (fits s r) with
  | none => intro x hx; simp [zb] at hx
  | some b => exact (h.bs b (List.mem_of_find?_eq_some hf)).2.1

abbrev QSc (q : Int) : List Tr := [encI (q % 2001), .sl ([].map encB) false, encIs [], encIs []]

theorem matches_ret (q : Int) (hq : 0 ≤ q ∧ q < 65536) (l : List Opn) (hl : l.length ≤ 9223372036854775807) (hB : OpsOK l) : Ret Try.prog 3 [.int .u16 q, .sl (l.map encO) false] (.bool true) := by
  refine ret_of_awp Try.func3 rfl (Nat.le_of_ble_eq_true rfl) ?_
  refine awp_seq ?_
  refine awp_rw rfl ?_
  refine RW.op rfl rfl (eff_assign (v := .t _) rfl rfl rfl) ?_
  refine RW.nil ?_
  refine awp_seq ?_
  refine awp_seq ?_
  refine awp_rw rfl ?_
  refine RW.op rfl rfl (eff_move (v := .t _) rfl rfl rfl) ?_
  refine RW.op rfl rfl (eff_callT (short_ret l 60 hl) co9 rfl rfl rfl rfl) ?_
  refine RW.op rfl rfl (eff_unop rfl rfl rfl rfl) ?_
  refine RW.nil ?_
  refine awp_cond rfl (fun h1 => ?_) (fun h1 => ?_)
  · try simp only [decide_eq_true_eq, decide_eq_false_iff_not, beq_iff_eq, bne_iff_ne, bne_eq_false_iff_eq, beq_eq_false_iff_ne, Bool.not_eq_true, Bool.not_eq_false, Bool.not_eq_true', Bool.not_eq_false', ne_eq] at h1
    refine awp_seq ?_
    refine awp_rw rfl ?_
    refine RW.op rfl rfl (eff_callT (lives_ret) co10 rfl rfl rfl rfl) ?_
    refine RW.op rfl rfl (eff_assign (v := .t _) rfl rfl rfl) ?_
    refine RW.nil ?_
    refine awp_ret ?_
    exact ⟨Or.inr rfl, [_], ⟨.tmp (.t _), trivial⟩, .refl _⟩
  · try simp only [decide_eq_true_eq, decide_eq_false_iff_not, beq_iff_eq, bne_iff_ne, bne_eq_false_iff_eq, beq_eq_false_iff_ne, Bool.not_eq_true, Bool.not_eq_false, Bool.not_eq_true', Bool.not_eq_false', ne_eq] at h1
    refine awp_skip ?_
    refine awp_seq ?_
    refine awp_rw rfl ?_
    have hsh := h1.1
    have hlen := h1.2
    refine RW.op rfl rfl (eff_move (v := .t _) rfl rfl rfl) ?_
    refine RW.op rfl rfl (eff_convIntE (m := q) rfl rfl (by rw [tu22]; rfl) tu3 rfl (wrap64 (by omega) (by omega))) ?_
    refine RW.op rfl rfl (eff_remE (r := q % 2001) rfl rfl rfl rfl (by decide) (tmod_pos hq.1)) ?_
    refine RW.op rfl rfl (eff_buildT (ys := [_, _, _, _]) rfl rfl tz29 tg29 rfl) ?_
    refine RW.new rfl rfl (eff_allocK (k := 4) (id := 5) rfl rfl tz29 rfl rfl) ?_
    refine RW.store rfl rfl (eff_storeW (v := .t _) (els := [_]) (els' := [_]) rfl rfl ti29 rfl rfl rfl rfl rfl rfl rfl rfl rfl) ?_
    refine RW.nil ?_
    refine awp_seq ?_
    refine awp_rw rfl ?_
    refine RW.op rfl rfl (eff_load rfl rfl ti29 rfl (.whole rfl rfl rfl rfl rfl rfl)) ?_
    refine RW.new rfl rfl (eff_allocK (k := 4) (id := 6) rfl rfl tz29 rfl rfl) ?_
    refine RW.store rfl rfl (eff_storeW (v := .t _) (els := [_]) (els' := [_]) rfl rfl ti29 rfl rfl rfl rfl rfl rfl rfl rfl rfl) ?_
    refine RW.nil ?_
    show AWP _ _ _ _
    refine awp_weak (weak_wkOb (id := 5) (QSc q) rfl ⟨.refl _, .sl _, .sl _, .sl _, trivial⟩) ?_
    refine awp_weak (weak_wkOb (id := 6) (QSc q) rfl ⟨.refl _, .sl _, .sl _, .sl _, trivial⟩) ?_
    refine awp_seq ?_
    refine awp_seq ?_
    refine awp_rw rfl ?_
    refine RW.op rfl rfl (eff_assign (v := .t _) rfl rfl rfl) ?_
    refine RW.nil ?_
    refine awp_block ?_
    refine awp_loopW (fun m s => ∃ (i : Nat), (i ≤ l.length) ∧ m = l.length - i ∧ s = ⟨121, [(1, .t (.sl (l.map encO) false)), (5, .ptr 5 0 0 0), (6, .ptr 6 0 0 0), (7, .t (encI (i : Nat)))], [(5, some ⟨4, 29, 0, [.t (encS (runS (QS q) (l.take i)))]⟩), (6, some ⟨4, 29, 0, [.t (encS (runS (QS q) (l.take i)))]⟩)]⟩) (_) (⟨_, weak_keep (n := 121) (fr' := [(1, .t (.sl (l.map encO) false)), (5, .ptr 5 0 0 0), (6, .ptr 6 0 0 0), (7, .t (encI (0 : Nat)))]) (st' := [(5, some ⟨4, 29, 0, [.t (encS (runS (QS q) (l.take 0)))]⟩), (6, some ⟨4, 29, 0, [.t (encS (runS (QS q) (l.take 0)))]⟩)]) ⟨rfl, rfl, rfl, rfl, rfl, rfl, rfl, rfl, trivial⟩ ⟨(by first | rfl | (rw [runS_step (by omega)]; rfl)), okE_one rfl, (by first | rfl | (rw [runS_step (by omega)]; rfl)), okE_one rfl, trivial⟩, 0, (by omega), rfl, rfl⟩) ?_
    rintro m s ⟨i, hi, rfl, rfl⟩
    have hi3 : (i : Int) < l.length ∨ ¬ (i : Int) < l.length := by omega
    refine awp_seq ?_
    refine awp_seq ?_
    refine awp_rw rfl ?_
    refine RW.op rfl rfl (eff_move (v := .t _) rfl rfl rfl) ?_
    refine RW.op rfl rfl (eff_move (v := .t _) rfl rfl rfl) ?_
    refine RW.op rfl rfl (eff_lenM rfl rfl te23 rfl) ?_
    refine RW.op rfl rfl (eff_iop rfl rfl rfl rfl rfl) ?_
    refine RW.nil ?_
    refine awp_cond rfl (fun h2 => ?_) (fun h2 => ?_)
    · try simp only [decide_eq_true_eq, decide_eq_false_iff_not, beq_iff_eq, bne_iff_ne, bne_eq_false_iff_eq, beq_eq_false_iff_ne, Bool.not_eq_true, Bool.not_eq_false, Bool.not_eq_true', Bool.not_eq_false', ne_eq] at h2
      refine awp_skip ?_
      refine awp_seq ?_
      refine awp_block ?_
      refine awp_seq ?_
      refine awp_rd [(some 34, []), (some 35, []), (some 36, []), (some 37, []), (some 38, []), (some 39, []), (some 33, []), (some 40, []), (some 41, []), (some 42, []), (some 8, [8]), (none, [8]), (some 9, []), (some 10, [])] [[], [], [], [1, 2], [1, 2, 3], [0, 1, 2, 3, 4], [0, 1, 2, 3, 4, 5], [0, 1, 2, 3, 4, 5, 6], [0, 1, 2, 3, 4, 5, 6], [0, 1, 2, 3, 4, 5, 6], [], [0, 1, 2, 3, 4, 5, 6, 7, 10], [0, 1, 2, 3, 4, 5, 6, 7, 8, 10, 11], [0, 1, 2, 3, 4, 5, 6, 7, 8, 9, 10, 11, 12]] tm rfl rfl rfl rfl ?_
      refine RD.op rfl rfl rfl (eff_load rfl rfl ti29 rfl (.whole rfl rfl rfl rfl rfl rfl)) ?_
      refine RD.op rfl rfl rfl (eff_move (v := .t _) rfl rfl rfl) ?_
      refine RD.op rfl rfl rfl (eff_move (v := .t _) rfl rfl rfl) ?_
      refine RD.op rfl rfl rfl (eff_indexM rfl rfl te23 rfl rfl rfl (by first | assumption | exact List.getElem?_eq_getElem (by omega)) rfl (by decide)) ?_
      refine RD.op rfl rfl rfl (eff_loadW rfl rfl ti40 rfl rfl rfl) ?_
      refine RD.op rfl rfl rfl (eff_callT (do_ret 60 (runS (QS q) (l.take i)) (l[i]'(by omega)) (by omega) ((run_inv hq.1 hB i (by omega)).mono (by omega)) (short_bok hsh (by omega))) co11 rfl rfl rfl rfl) ?_
      refine RD.op rfl rfl rfl (eff_move (v := .t _) rfl rfl rfl) ?_
      refine RD.op rfl rfl rfl (eff_extract rfl rfl rfl rfl) ?_
      refine RD.op rfl rfl rfl (eff_extract rfl rfl rfl rfl) ?_
      refine RD.op rfl rfl rfl (eff_extract rfl rfl rfl rfl) ?_
      refine RD.new rfl rfl rfl (eff_allocK (k := 4) (id := 8) rfl rfl tz29 rfl rfl) ?_
      refine RD.store rfl rfl rfl (eff_storeW (v := .t _) (els := [_]) (els' := [_]) rfl rfl ti29 rfl rfl rfl rfl rfl rfl rfl rfl rfl) ?_
      refine RD.op rfl rfl rfl (eff_assign (v := .t _) rfl rfl rfl) ?_
      refine RD.op rfl rfl rfl (eff_assign (v := .t _) rfl rfl rfl) ?_
      refine RD.nil ?_
      refine awp_seq ?_
      refine awp_rd [(some 44, []), (some 45, []), (some 46, []), (some 47, []), (some 48, []), (some 49, []), (some 43, []), (some 50, []), (some 51, []), (some 52, []), (some 11, [11]), (none, [11]), (some 12, []), (some 13, [])] [[], [], [], [1, 2], [1, 2, 3], [0, 1, 2, 3, 4], [0, 1, 2, 3, 4, 5], [0, 1, 2, 3, 4, 5, 6], [0, 1, 2, 3, 4, 5, 6], [0, 1, 2, 3, 4, 5, 6], [], [0, 1, 2, 3, 4, 5, 6, 7, 10], [0, 1, 2, 3, 4, 5, 6, 7, 8, 10, 11], [0, 1, 2, 3, 4, 5, 6, 7, 8, 9, 10, 11, 12]] tm rfl rfl rfl rfl ?_
      refine RD.op rfl rfl rfl (eff_load rfl rfl ti29 rfl (.whole rfl rfl rfl rfl rfl rfl)) ?_
      refine RD.op rfl rfl rfl (eff_move (v := .t _) rfl rfl rfl) ?_
      refine RD.op rfl rfl rfl (eff_move (v := .t _) rfl rfl rfl) ?_
      refine RD.op rfl rfl rfl (eff_indexM rfl rfl te23 rfl rfl rfl (by first | assumption | exact List.getElem?_eq_getElem (by omega)) rfl (by decide)) ?_
      refine RD.op rfl rfl rfl (eff_loadW rfl rfl ti40 rfl rfl rfl) ?_
      refine RD.op rfl rfl rfl (eff_callT (wanted_ret 60 (runS (QS q) (l.take i)) (l[i]'(by omega)) (by omega) ((run_inv hq.1 hB i (by omega)).mono (by omega)) (short_bok hsh (by omega))) co12 rfl rfl rfl rfl) ?_
      refine RD.op rfl rfl rfl (eff_move (v := .t _) rfl rfl rfl) ?_
      refine RD.op rfl rfl rfl (eff_extract rfl rfl rfl rfl) ?_
      refine RD.op rfl rfl rfl (eff_extract rfl rfl rfl rfl) ?_
      refine RD.op rfl rfl rfl (eff_extract rfl rfl rfl rfl) ?_
      refine RD.new rfl rfl rfl (eff_allocK (k := 4) (id := 11) rfl rfl tz29 rfl rfl) ?_
      refine RD.store rfl rfl rfl (eff_storeW (v := .t _) (els := [_]) (els' := [_]) rfl rfl ti29 rfl rfl rfl rfl rfl rfl rfl rfl rfl) ?_
      refine RD.op rfl rfl rfl (eff_assign (v := .t _) rfl rfl rfl) ?_
      refine RD.op rfl rfl rfl (eff_assign (v := .t _) rfl rfl rfl) ?_
      refine RD.nil ?_
      refine awp_seq ?_
      refine awp_seq ?_
      have hVt : VInv 61 (doS (runS (QS q) (l.take i)) (l[i]'(by omega))).1 := (inv_do (run_inv hq.1 hB i (by omega)) (hB _ (List.getElem_mem _))).mono (by omega)
      refine awp_rd [(some 53, []), (some 54, []), (some 55, []), (some 56, []), (some 57, []), (some 58, []), (some 59, []), (some 60, []), (some 61, []), (some 62, []), (some 63, []), (some 64, []), (some 65, []), (some 66, []), (some 67, []), (some 68, []), (some 69, []), (some 70, []), (some 71, []), (some 72, []), (some 73, []), (some 74, []), (some 75, []), (some 76, []), (some 77, []), (some 78, []), (some 79, []), (some 80, []), (some 81, []), (some 82, []), (some 83, []), (some 84, []), (some 85, []), (some 86, []), (some 87, []), (some 88, [])] [[], [], [0, 1], [0, 1, 2], [0, 1, 2, 3], [0, 1, 2, 3], [0, 1, 2, 3, 4, 5], [0, 1, 2, 3, 4, 5, 6], [0, 1, 2, 3, 4, 5, 6, 7], [0, 1, 2, 3, 4, 5, 6, 7, 8], [0, 1, 2, 3, 4, 5, 6, 7, 8], [0, 1, 2, 3, 4, 5, 6, 7, 8, 9, 10], [0, 1, 2, 3, 4, 5, 6, 7, 8, 9, 10, 11], [0, 1, 2, 3, 4, 5, 6, 7, 8, 9, 10, 11, 12], [0, 1, 2, 3, 4, 5, 6, 7, 8, 9, 10, 11, 12, 13], [0, 1, 2, 3, 4, 5, 6, 7, 8, 9, 10, 11, 12, 13, 14], [0, 1, 2, 3, 4, 5, 6, 7, 8, 9, 10, 11, 12, 13, 14, 15], [0, 1, 2, 3, 4, 5, 6, 7, 8, 9, 10, 11, 12, 13, 14], [0, 1, 2, 3, 4, 5, 6, 7, 8, 9, 10, 11, 12, 13, 14, 15, 16, 17], [0, 1, 2, 3, 4, 5, 6, 7, 8, 9, 10, 11, 12, 13, 14, 15, 16, 17, 18], [0, 1, 2, 3, 4, 5, 6, 7, 8, 9, 10, 11, 12, 13, 14, 15, 16, 17, 18, 19], [0, 1, 2, 3, 4, 5, 6, 7, 8, 9, 10, 11, 12, 13, 14, 15, 16, 17, 18, 19, 20], [0, 1, 2, 3, 4, 5, 6, 7, 8, 9, 10, 11, 12, 13, 14, 15, 16, 17, 18, 19, 20, 21], [0, 1, 2, 3, 4, 5, 6, 7, 8, 9, 10, 11, 12, 13, 14, 15, 16, 17, 18, 19, 20, 21], [0, 1, 2, 3, 4, 5, 6, 7, 8, 9, 10, 11, 12, 13, 14, 15, 16, 17, 18, 19, 20, 21, 22, 23], [0, 1, 2, 3, 4, 5, 6, 7, 8, 9, 10, 11, 12, 13, 14, 15, 16, 17, 18, 19, 20, 21, 22, 23, 24], [0, 1, 2, 3, 4, 5, 6, 7, 8, 9, 10, 11, 12, 13, 14, 15, 16, 17, 18, 19, 20, 21, 22, 23, 24, 25], [0, 1, 2, 3, 4, 5, 6, 7, 8, 9, 10, 11, 12, 13, 14, 15, 16, 17, 18, 19, 20, 21, 22, 23, 24, 25, 26], [0, 1, 2, 3, 4, 5, 6, 7, 8, 9, 10, 11, 12, 13, 14, 15, 16, 17, 18, 19, 20, 21], [0, 1, 2, 3, 4, 5, 6, 7, 8, 9, 10, 11, 12, 13, 14, 15, 16, 17, 18, 19, 20, 21], [0, 1, 2, 3, 4, 5, 6, 7, 8, 9, 10, 11, 12, 13, 14, 15, 16, 17, 18, 19, 20, 21, 28, 29], [0, 1, 2, 3, 4, 5, 6, 7, 8, 9, 10, 11, 12, 13, 14, 15, 16, 17, 18, 19, 20, 21, 28, 29, 30], [0, 1, 2, 3, 4, 5, 6, 7, 8, 9, 10, 11, 12, 13, 14, 15, 16, 17, 18, 19, 20, 21, 28, 29, 30, 31], [0, 1, 2, 3, 4, 5, 6, 7, 8, 9, 10, 11, 12, 13, 14, 15, 16, 17, 18, 19, 20, 21, 22, 23, 24, 25, 26, 27, 28, 29, 30, 31, 32], [0, 1, 2, 3, 4, 5, 6, 7, 8, 9, 10, 11, 12, 13, 14, 15, 16, 17, 18, 19, 20, 21, 22, 23, 24, 25, 26, 27, 28, 29, 30, 31, 32, 33], [0, 1, 2, 3, 4, 5, 6, 7, 8, 9, 10, 11, 12, 13, 14, 15, 16, 17, 18, 19, 20, 21, 22, 23, 24, 25, 26, 27, 28, 29, 30, 31, 32, 33, 34]] tm rfl rfl rfl rfl ?_
      refine RD.op rfl rfl rfl (eff_move (v := .t _) rfl rfl rfl) ?_
      refine RD.op rfl rfl rfl (eff_move (v := .t _) rfl rfl rfl) ?_
      refine RD.op rfl rfl rfl (eff_boolEq (b := false) rfl rfl (.inr rfl) tu4 rfl rfl (by simp)) ?_
      refine RD.op rfl rfl rfl (eff_move (v := .t _) rfl rfl rfl) ?_
      refine RD.gop rfl rfl rfl rfl rfl rfl rfl (eff_move (v := .t _) rfl rfl rfl) ?_
      refine RD.gop rfl rfl rfl rfl rfl rfl rfl (eff_move (v := .t _) rfl rfl rfl) ?_
      refine RD.gop rfl rfl rfl rfl rfl rfl rfl (eff_iop (r := .bool false) rfl rfl rfl rfl (by exact iop_neq_f (by rfl))) ?_
      refine RD.op rfl rfl rfl (eff_pick (v := .t _) rfl rfl rfl rfl) ?_
      refine RD.op rfl rfl rfl (eff_move (v := .t _) rfl rfl rfl) ?_
      refine RD.gop rfl rfl rfl rfl rfl rfl rfl (eff_load rfl rfl ti29 rfl (.whole rfl rfl rfl rfl rfl rfl)) ?_
      refine RD.gop rfl rfl rfl rfl rfl rfl rfl (eff_load rfl rfl ti29 rfl (.whole rfl rfl rfl rfl rfl rfl)) ?_
      refine RD.gop rfl rfl rfl rfl rfl rfl rfl (eff_callT ((by have h := same_ret (doS (runS (QS q) (l.take i)) (l[i]'(by omega))).1 (doS (runS (QS q) (l.take i)) (l[i]'(by omega))).1 (hVt.sok (by omega)) (fun b hb => (hVt.bs b hb).2.1) (fun b hb => (hVt.bs b hb).2.1); rw [same_refl] at h; exact h)) co13 rfl rfl rfl rfl) ?_
      refine RD.gop rfl rfl rfl rfl rfl rfl rfl (eff_unop rfl rfl rfl rfl) ?_
      refine RD.op rfl rfl rfl (eff_pick (v := .t _) rfl rfl rfl rfl) ?_
      refine RD.op rfl rfl rfl (eff_move (v := .t _) rfl rfl rfl) ?_
      refine RD.gop rfl rfl rfl rfl rfl rfl rfl (eff_load rfl rfl ti29 rfl (.whole rfl rfl rfl rfl rfl rfl)) ?_
      refine RD.gop rfl rfl rfl rfl rfl rfl rfl (eff_callT (used_ret (doS (runS (QS q) (l.take i)) (l[i]'(by omega))).1 (hVt.sok (by omega))) co14 rfl rfl rfl rfl) ?_
      refine RD.gop rfl rfl rfl rfl rfl rfl rfl (eff_load rfl rfl ti29 rfl (.whole rfl rfl rfl rfl rfl rfl)) ?_
      refine RD.gop rfl rfl rfl rfl rfl rfl rfl (eff_callT (used15_ret (doS (runS (QS q) (l.take i)) (l[i]'(by omega))).1 (hVt.sok (by omega))) co15 rfl rfl rfl rfl) ?_
      refine RD.gop rfl rfl rfl rfl rfl rfl rfl (eff_iop (r := .bool false) rfl rfl rfl rfl (by exact iop_neq_f (by rfl))) ?_
      refine RD.op rfl rfl rfl (eff_pick (v := .t _) rfl rfl rfl rfl) ?_
      refine RD.op rfl rfl rfl (eff_move (v := .t _) rfl rfl rfl) ?_
      refine RD.gop rfl rfl rfl rfl rfl rfl rfl (eff_move (v := .t _) rfl rfl rfl) ?_
      refine RD.gop rfl rfl rfl rfl rfl rfl rfl (eff_move (v := .t _) rfl rfl rfl) ?_
      refine RD.gop rfl rfl rfl rfl rfl rfl rfl (eff_indexM rfl rfl te23 rfl rfl rfl (by first | assumption | exact List.getElem?_eq_getElem (by omega)) rfl (by decide)) ?_
      refine RD.gop rfl rfl rfl rfl rfl rfl rfl (eff_fieldAddrT rfl rfl tf40_3 (by decide) rfl) ?_
      refine RD.gop rfl rfl rfl rfl rfl rfl rfl (eff_loadT (ys := [_, _, _, _, _, _, _, _]) rfl rfl ti38 rfl rfl rfl) ?_
      refine RD.gop rfl rfl rfl rfl rfl rfl rfl (eff_callT (size_ret (l[i]'(by omega)).bundle (short_bok hsh (by omega))) co16 rfl rfl rfl rfl) ?_
      refine RD.gop rfl rfl rfl rfl rfl rfl rfl (eff_move (v := .t _) rfl rfl rfl) ?_
      refine RD.gop rfl rfl rfl rfl rfl rfl rfl (eff_move (v := .t _) rfl rfl rfl) ?_
      refine RD.gop rfl rfl rfl rfl rfl rfl rfl (eff_indexM rfl rfl te23 rfl rfl rfl (by first | assumption | exact List.getElem?_eq_getElem (by omega)) rfl (by decide)) ?_
      refine RD.gop rfl rfl rfl rfl rfl rfl rfl (eff_fieldAddrT rfl rfl tf40_3 (by decide) rfl) ?_
      refine RD.gop rfl rfl rfl rfl rfl rfl rfl (eff_loadT (ys := [_, _, _, _, _, _, _, _]) rfl rfl ti38 rfl rfl rfl) ?_
      refine RD.gop rfl rfl rfl rfl rfl rfl rfl (eff_callT (size17_ret (l[i]'(by omega)).bundle (short_bok hsh (by omega))) co17 rfl rfl rfl rfl) ?_
      refine RD.gop rfl rfl rfl rfl rfl rfl rfl (eff_iop (r := .bool false) rfl rfl rfl rfl (by exact iop_neq_f (by rfl))) ?_
      refine RD.op rfl rfl rfl (eff_pick (v := .t _) rfl rfl rfl rfl) ?_
      refine RD.nil ?_
      refine awp_cond rfl (fun h => nomatch h) (fun _ => ?_)
      refine awp_skip ?_
      refine awp_seq ?_
      refine awp_rd [(some 90, []), (some 91, []), (some 92, []), (some 93, []), (some 94, []), (some 95, []), (some 96, []), (some 89, []), (some 97, []), (some 98, []), (some 14, [14]), (none, [14]), (some 15, [])] [[], [], [], [1, 2], [1, 2, 3], [1, 2, 3, 4], [0, 1, 2, 3, 4, 5], [0, 1, 2, 3, 4, 5, 6], [0, 1, 2, 3, 4, 5, 6, 7], [0, 1, 2, 3, 4, 5, 6, 7], [], [0, 1, 2, 3, 4, 5, 6, 7, 8, 10], [0, 1, 2, 3, 4, 5, 6, 7, 8, 9, 10, 11]] tm rfl rfl rfl rfl ?_
      refine RD.op rfl rfl rfl (eff_load rfl rfl ti29 rfl (.whole rfl rfl rfl rfl rfl rfl)) ?_
      refine RD.op rfl rfl rfl (eff_move (v := .t _) rfl rfl rfl) ?_
      refine RD.op rfl rfl rfl (eff_move (v := .t _) rfl rfl rfl) ?_
      refine RD.op rfl rfl rfl (eff_indexM rfl rfl te23 rfl rfl rfl (by first | assumption | exact List.getElem?_eq_getElem (by omega)) rfl (by decide)) ?_
      refine RD.op rfl rfl rfl (eff_fieldAddrT rfl rfl tf40_2 (by decide) rfl) ?_
      refine RD.op rfl rfl rfl (eff_loadT1 rfl rfl ti3 rfl rfl) ?_
      refine RD.op rfl rfl rfl (eff_callT (offer18_ret (doS (runS (QS q) (l.take i)) (l[i]'(by omega))).1 (l[i]'(by omega)).room (hVt.sok (by omega)) hVt.ps) co18 rfl rfl rfl rfl) ?_
      refine RD.op rfl rfl rfl (eff_move (v := .t _) rfl rfl rfl) ?_
      refine RD.op rfl rfl rfl (eff_extract rfl rfl rfl rfl) ?_
      refine RD.op rfl rfl rfl (eff_extract rfl rfl rfl rfl) ?_
      refine RD.new rfl rfl rfl (eff_allocK (k := 8) (id := 14) rfl rfl tz38 rfl rfl) ?_
      refine RD.store rfl rfl rfl (eff_storeW (v := .t _) (els := [_]) (els' := [_]) rfl rfl ti38 rfl rfl rfl rfl rfl rfl rfl rfl rfl) ?_
      refine RD.op rfl rfl rfl (eff_assign (v := .t _) rfl rfl rfl) ?_
      refine RD.nil ?_
      refine awp_seq ?_
      refine awp_rd [(some 100, []), (some 101, []), (some 102, []), (some 103, []), (some 104, []), (some 105, []), (some 106, []), (some 99, []), (some 107, []), (some 108, []), (some 16, [16]), (none, [16]), (some 17, [])] [[], [], [], [1, 2], [1, 2, 3], [1, 2, 3, 4], [0, 1, 2, 3, 4, 5], [0, 1, 2, 3, 4, 5, 6], [0, 1, 2, 3, 4, 5, 6, 7], [0, 1, 2, 3, 4, 5, 6, 7], [], [0, 1, 2, 3, 4, 5, 6, 7, 8, 10], [0, 1, 2, 3, 4, 5, 6, 7, 8, 9, 10, 11]] tm rfl rfl rfl rfl ?_
      refine RD.op rfl rfl rfl (eff_load rfl rfl ti29 rfl (.whole rfl rfl rfl rfl rfl rfl)) ?_
      refine RD.op rfl rfl rfl (eff_move (v := .t _) rfl rfl rfl) ?_
      refine RD.op rfl rfl rfl (eff_move (v := .t _) rfl rfl rfl) ?_
      refine RD.op rfl rfl rfl (eff_indexM rfl rfl te23 rfl rfl rfl (by first | assumption | exact List.getElem?_eq_getElem (by omega)) rfl (by decide)) ?_
      refine RD.op rfl rfl rfl (eff_fieldAddrT rfl rfl tf40_2 (by decide) rfl) ?_
      refine RD.op rfl rfl rfl (eff_loadT1 rfl rfl ti3 rfl rfl) ?_
      refine RD.op rfl rfl rfl (eff_callT (offer19_ret (doS (runS (QS q) (l.take i)) (l[i]'(by omega))).1 (l[i]'(by omega)).room (hVt.sok (by omega))) co19 rfl rfl rfl rfl) ?_
      refine RD.op rfl rfl rfl (eff_move (v := .t _) rfl rfl rfl) ?_
      refine RD.op rfl rfl rfl (eff_extract rfl rfl rfl rfl) ?_
      refine RD.op rfl rfl rfl (eff_extract rfl rfl rfl rfl) ?_
      refine RD.new rfl rfl rfl (eff_allocK (k := 8) (id := 16) rfl rfl tz38 rfl rfl) ?_
      refine RD.store rfl rfl rfl (eff_storeW (v := .t _) (els := [_]) (els' := [_]) rfl rfl ti38 rfl rfl rfl rfl rfl rfl rfl rfl rfl) ?_
      refine RD.op rfl rfl rfl (eff_assign (v := .t _) rfl rfl rfl) ?_
      refine RD.nil ?_
      refine awp_seq ?_
      refine awp_seq ?_
      refine awp_rw rfl ?_
      refine RW.op rfl rfl (eff_move (v := .t _) rfl rfl rfl) ?_
      refine RW.op rfl rfl (eff_move (v := .t _) rfl rfl rfl) ?_
      refine RW.op rfl rfl (eff_boolEq (b := false) rfl rfl (.inr rfl) tu4 rfl rfl (by simp)) ?_
      refine RW.op rfl rfl (eff_move (v := .t _) rfl rfl rfl) ?_
      refine RW.gop rfl rfl rfl rfl rfl rfl (eff_load rfl rfl ti38 rfl (.whole rfl rfl rfl rfl rfl rfl)) ?_
      refine RW.gop rfl rfl rfl rfl rfl rfl (eff_load rfl rfl ti38 rfl (.whole rfl rfl rfl rfl rfl rfl)) ?_
      refine RW.gop rfl rfl rfl rfl rfl rfl (eff_callT ((by have h := sameBundle_ret (offer (doS (runS (QS q) (l.take i)) (l[i]'(by omega))).1 (l[i]'(by omega)).room).1 (offer (doS (runS (QS q) (l.take i)) (l[i]'(by omega))).1 (l[i]'(by omega)).room).1 (offer_bytes hVt _) (offer_bytes hVt _); rw [sameB_iff.2 rfl] at h; exact h)) co20 rfl rfl rfl rfl) ?_
      refine RW.gop rfl rfl rfl rfl rfl rfl (eff_unop rfl rfl rfl rfl) ?_
      refine RW.op rfl rfl (eff_pick (v := .t _) rfl rfl rfl rfl) ?_
      refine RW.nil ?_
      refine awp_cond rfl (fun h => nomatch h) (fun _ => ?_)
      refine awp_skip ?_
      refine awp_rd [(some 118, []), (some 119, []), (none, [5]), (none, [6])] [[], [], [0], [0, 1, 2]] tm rfl rfl rfl rfl ?_
      refine RD.op rfl rfl rfl (eff_load rfl rfl ti29 rfl (.whole rfl rfl rfl rfl rfl rfl)) ?_
      refine RD.op rfl rfl rfl (eff_load rfl rfl ti29 rfl (.whole rfl rfl rfl rfl rfl rfl)) ?_
      refine RD.store rfl rfl rfl (eff_storeW (v := .t _) (els := [_]) (els' := [_]) rfl rfl ti29 rfl rfl rfl rfl rfl rfl rfl rfl rfl) ?_
      refine RD.store rfl rfl rfl (eff_storeW (v := .t _) (els := [_]) (els' := [_]) rfl rfl ti29 rfl rfl rfl rfl rfl rfl rfl rfl rfl) ?_
      refine RD.nil ?_
      refine awp_rw rfl ?_
      refine RW.op rfl rfl (eff_move (v := .t _) rfl rfl rfl) ?_
      refine RW.op rfl rfl (eff_iop rfl rfl rfl rfl (iadd (by omega))) ?_
      refine RW.op rfl rfl (eff_assign (v := .t _) rfl rfl rfl) ?_
      refine RW.nil ?_
      refine ⟨_, ?_, _, weak_keep (n := 121) (fr' := [(1, .t (.sl (l.map encO) false)), (5, .ptr 5 0 0 0), (6, .ptr 6 0 0 0), (7, .t (encI ((i + 1) : Nat)))]) (st' := [(5, some ⟨4, 29, 0, [.t (encS (runS (QS q) (l.take (i + 1))))]⟩), (6, some ⟨4, 29, 0, [.t (encS (runS (QS q) (l.take (i + 1))))]⟩)]) ⟨rfl, rfl, rfl, rfl, rfl, rfl, rfl, rfl, trivial⟩ ⟨(by first | rfl | (rw [runS_step (by omega)]; rfl)), okE_one rfl, (by first | rfl | (rw [runS_step (by omega)]; rfl)), okE_one rfl, trivial⟩, i + 1, (by omega), rfl, rfl⟩
      omega
    · try simp only [decide_eq_true_eq, decide_eq_false_iff_not, beq_iff_eq, bne_iff_ne, bne_eq_false_iff_eq, beq_eq_false_iff_ne, Bool.not_eq_true, Bool.not_eq_false, Bool.not_eq_true', Bool.not_eq_false', ne_eq] at h2
      refine awp_exit ?_
      refine awp_seq ?_
      refine awp_rw rfl ?_
      refine RW.op rfl rfl (eff_callT (lives_ret) co10 rfl rfl rfl rfl) ?_
      refine RW.op rfl rfl (eff_assign (v := .t _) rfl rfl rfl) ?_
      refine RW.nil ?_
      refine awp_ret ?_
      exact ⟨Or.inr rfl, [_], ⟨.tmp (.t _), trivial⟩, .refl _⟩

end Go.Tv.C27

end
section
open Go Go.Tv Go.Proofs
namespace Go.Tv.C27
set_option maxRecDepth 20000

theorem map_of {α : Type} {f : α → Tr} {p : α → Prop} : ∀ {els : List Tr}, (∀ x, x ∈ els → ∃ n, p n ∧ x = f n) → ∃ l : List α, els = l.map f ∧ ∀ n, n ∈ l → p n
  | [], _ => ⟨[], rfl, fun n h => by simp at h⟩
  | x :: els, h => by
    obtain ⟨n, hp, rfl⟩ := h x List.mem_cons_self
    obtain ⟨l, rfl, hl⟩ := map_of (els := els) (fun y hy => h y (List.mem_cons_of_mem _ hy))
    exact ⟨n :: l, rfl, fun m hm => (List.mem_cons.1 hm).elim (fun e => e ▸ hp) (hl m)⟩

theorem wf_u8 {n : Int} (h : (Lit.int .u8 n).wf = true) : 0 ≤ n ∧ n < 256 := by
  simp [Lit.wf, IntKind.min, IntKind.max, IntKind.signed, IntKind.bits] at h; omega
theorem wf_u16 {n : Int} (h : (Lit.int .u16 n).wf = true) : 0 ≤ n ∧ n < 65536 := by
  simp [Lit.wf, IntKind.min, IntKind.max, IntKind.signed, IntKind.bits] at h; omega

theorem rd3 : Reads Try.prog 3 1 (fun ts => ∃ n, ts = [encI n]) := (reads_int Try.underlying3 (by kernel_rfl)).mono (fun ts ⟨n, h, _⟩ => ⟨n, h⟩)
theorem rd33 : Reads Try.prog 33 1 (fun ts => ∃ n, ts = [.int .u32 n]) := (reads_int Try.underlying33 (by kernel_rfl)).mono (fun ts ⟨n, h, _⟩ => ⟨n, h⟩)
theorem rd5 : Reads Try.prog 5 1 (fun ts => ∃ n, ts = [encBy n] ∧ 0 ≤ n ∧ n < 256) := (reads_int Try.underlying5 (by kernel_rfl)).mono (fun ts ⟨n, h, hw⟩ => ⟨n, h, wf_u8 hw⟩)
theorem rd34 : Reads Try.prog 34 1 (fun ts => ∃ l : List Int, ts = [.sl (l.map encBy) false] ∧ Bytes l) :=
  (reads_slice Try.underlying34 (by kernel_rfl) (by decide) (.inr rfl) rd5 (g := false)).mono (by
    rintro ts ⟨els, rfl, _, h⟩
    obtain ⟨l, rfl, hl⟩ := map_of (f := encBy) (p := fun n => 0 ≤ n ∧ n < 256) (fun x hx => by obtain ⟨_, ⟨n, rfl, hn⟩, rfl⟩ := h x hx; exact ⟨n, hn, rfl⟩)
    exact ⟨l, rfl, hl⟩)
theorem rd36 : Reads Try.prog 36 5 (fun ts => ∃ f o t s d, ts = [encI f, encI o, encI t, .int .u32 s, .sl (d.map encBy) false] ∧ Bytes d) :=
  (reads_struct Try.underlying36 (by kernel_rfl) (rdfs_cons rfl rd3 (rdfs_cons rfl rd3 (rdfs_cons rfl rd3 (rdfs_cons rfl rd33 (rdfs_cons rfl rd34 rdfs_nil)))))).mono (by
    rintro ts ⟨_, _, rfl, ⟨f, rfl⟩, _, _, rfl, ⟨o, rfl⟩, _, _, rfl, ⟨t, rfl⟩, _, _, rfl, ⟨s, rfl⟩, _, _, rfl, ⟨d, rfl, hd⟩, rfl⟩
    exact ⟨f, o, t, s, d, rfl, hd⟩)
theorem rd38 : Reads Try.prog 38 8 (fun ts => ∃ b : Bundle, encB b = .agg ts ∧ Bytes b.data) :=
  (reads_struct Try.underlying38 (by kernel_rfl) (rdfs_cons rfl rd3 (rdfs_cons rfl rd3 (rdfs_cons rfl rd3 (rdfs_cons rfl rd36 rdfs_nil))))).mono (by
    rintro ts ⟨_, _, rfl, ⟨i, rfl⟩, _, _, rfl, ⟨fr, rfl⟩, _, _, rfl, ⟨to, rfl⟩, _, _, rfl, ⟨f, o, t, s, d, rfl, hd⟩, rfl⟩
    exact ⟨⟨i, fr, to, f, o, t, s, d⟩, rfl, hd⟩)
theorem rd40 : Reads Try.prog 40 11 (fun ts => ∃ o : Opn, encO o = .agg ts ∧ Bytes o.bundle.data) :=
  (reads_struct Try.underlying40 (by kernel_rfl) (rdfs_cons rfl rd3 (rdfs_cons rfl rd3 (rdfs_cons rfl rd3 (rdfs_cons rfl rd38 rdfs_nil))))).mono (by
    rintro ts ⟨_, _, rfl, ⟨k, rfl⟩, _, _, rfl, ⟨i, rfl⟩, _, _, rfl, ⟨r, rfl⟩, _, _, rfl, ⟨b, hb, hd⟩, rfl⟩
    refine ⟨⟨k, i, r, b⟩, ?_, hd⟩
    cases hb
    rfl)
theorem rd23 : Reads Try.prog 23 1 (fun ts => ∃ l : List Opn, ts = [.sl (l.map encO) false] ∧ l.length ≤ maxLen ∧ ∀ o, o ∈ l → Bytes o.bundle.data) :=
  (reads_slice Try.underlying23 (by kernel_rfl) (by decide) (.inl rfl) rd40 (g := true)).mono (by
    rintro ts ⟨els, rfl, hm, h⟩
    obtain ⟨l, rfl, hl⟩ := map_of (f := encO) (p := fun o => Bytes o.bundle.data) (fun x hx => by obtain ⟨_, ⟨o, ho, hd⟩, rfl⟩ := h x hx; exact ⟨o, hd, ho.symm⟩)
    exact ⟨l, rfl, by simpa using hm, hl⟩)
end Go.Tv.C27

end
