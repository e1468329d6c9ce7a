/- Part of the proof that the laws of this seat return true for every input. No condition. -/
import Derived.Test.YtiphgohbnhinnaaDoorT2
set_option linter.unnecessarySimpa false
set_option linter.unusedVariables false
set_option linter.unusedSimpArgs false
section
open Go Go.Tv Go.Proofs
namespace Go.Tv.C36
set_option maxRecDepth 20000
set_option maxHeartbeats 2000000
set_option linter.unusedSimpArgs false
set_option linter.unusedVariables false
theorem eff_maxE {P : Program} {D : St} {o : Oper} {t t2 : TypeId} {x y : Operand} {k : IntKind} {n m r : Int} (hd : dstOK D.n o.dst = true)
    (ho : o.op = .call { callee := .builtin .max, args := #[x, y], argTypes := #[t, t2] }) (hx : D.ev x = .t (.int k n)) (hy : D.ev y = .t (.int k m)) (hr : imax n m = r) : Eff P o D ⟨.t (.int k r), []⟩ :=
  hr ▸ eff_max hd ho hx hy
theorem wk_bool {a b : Bool} (h : b = a) : Wk (packT [.bool a]) (.bool b) := h ▸ .refl _
theorem within_ret (n : Int) : Ret Tryd.prog 70 [encI n] (.bool (decide (0 ≤ n ∧ n ≤ 1000000))) := by
  refine ret_of_awp Tryd.func70 rfl (Nat.le_of_ble_eq_true rfl) ?_
  refine awp_seq ?_
  refine awp_rw rfl ?_
  refine RW.op rfl rfl (eff_assign (v := .t _) rfl rfl rfl) ?_
  refine RW.nil ?_
  refine awp_seq ?_
  refine awp_rw rfl ?_
  refine RW.op rfl rfl (eff_move (v := .t _) rfl rfl rfl) ?_
  refine RW.op rfl rfl (eff_iop rfl rfl rfl rfl rfl) ?_
  refine RW.op rfl rfl (eff_move (v := .t _) rfl rfl rfl) ?_
  refine RW.split 5 rfl (fun h1 => ?_) (fun h1 => ?_)
  · try simp only [decide_eq_true_eq, decide_eq_false_iff_not, beq_iff_eq, bne_iff_ne, bne_eq_false_iff_eq, beq_eq_false_iff_ne, Bool.not_eq_true, Bool.not_eq_false, Bool.not_eq_true', Bool.not_eq_false', ne_eq] at h1
    refine RW.gop rfl rfl rfl rfl rfl rfl (eff_move (v := .t _) rfl rfl rfl) ?_
    refine RW.gop rfl rfl rfl rfl rfl rfl (eff_iop rfl rfl rfl rfl rfl) ?_
    refine RW.op rfl rfl (eff_pick (v := .t _) rfl rfl rfl rfl) ?_
    refine RW.op rfl rfl (eff_assign (v := .t _) rfl rfl rfl) ?_
    refine RW.nil ?_
    refine awp_ret ?_
    first
      | (rw [show decide (0 ≤ n ∧ n ≤ 1000000) = decide (n ≤ 1000000) from decide_eq_decide.2 ⟨fun h => h.2, fun h => ⟨by omega, h⟩⟩]; exact ⟨Or.inr rfl, [_], ⟨.tmp (.t _), trivial⟩, .refl _⟩)
      | (rw [show decide (0 ≤ n ∧ n ≤ 1000000) = false from decide_eq_false (by omega)]; exact ⟨Or.inr rfl, [_], ⟨.tmp (.t _), trivial⟩, .refl _⟩)
  · try simp only [decide_eq_true_eq, decide_eq_false_iff_not, beq_iff_eq, bne_iff_ne, bne_eq_false_iff_eq, beq_eq_false_iff_ne, Bool.not_eq_true, Bool.not_eq_false, Bool.not_eq_true', Bool.not_eq_false', ne_eq] at h1
    refine RW.gskip rfl rfl rfl rfl rfl (by decide) ?_
    refine RW.gskip rfl rfl rfl rfl rfl (by decide) ?_
    refine RW.op rfl rfl (eff_pick (v := .t _) rfl rfl rfl rfl) ?_
    refine RW.op rfl rfl (eff_assign (v := .t _) rfl rfl rfl) ?_
    refine RW.nil ?_
    refine awp_ret ?_
    first
      | (rw [show decide (0 ≤ n ∧ n ≤ 1000000) = decide (n ≤ 1000000) from decide_eq_decide.2 ⟨fun h => h.2, fun h => ⟨by omega, h⟩⟩]; exact ⟨Or.inr rfl, [_], ⟨.tmp (.t _), trivial⟩, .refl _⟩)
      | (rw [show decide (0 ≤ n ∧ n ≤ 1000000) = false from decide_eq_false (by omega)]; exact ⟨Or.inr rfl, [_], ⟨.tmp (.t _), trivial⟩, .refl _⟩)

theorem form_ret (l : List Rcd) (i : Nat) (hi : i < l.length) (hl : l.length ≤ 1000000) : Ret Tryd.prog 62 [.sl (l.map encC) false, encI (i : Nat)] (encI (form l i)) := by
  refine ret_of_awp Tryd.func62 rfl (Nat.le_of_ble_eq_true rfl) ?_
  refine awp_seq ?_
  refine awp_rw rfl ?_
  refine RW.op rfl rfl (eff_assign (v := .t _) rfl rfl rfl) ?_
  refine RW.nil ?_
  refine awp_seq ?_
  refine awp_rw rfl ?_
  refine RW.op rfl rfl (eff_move (v := .t _) rfl rfl rfl) ?_
  refine RW.op rfl rfl (eff_move (v := .t _) rfl rfl rfl) ?_
  refine RW.op rfl rfl (eff_indexM (i := i) rfl rfl te32 rfl rfl (by first | rfl | omega) (by first | assumption | exact List.getElem?_eq_getElem (by omega)) rfl (by decide)) ?_
  refine RW.op rfl rfl (eff_loadW rfl rfl ti47 rfl rfl rfl) ?_
  refine RW.new rfl rfl (eff_allocK (k := 15) (id := 5) rfl rfl tz47 rfl rfl) ?_
  refine RW.store rfl rfl (eff_storeW (v := .t _) (els := [_]) (els' := [_]) rfl rfl ti47 rfl rfl rfl rfl rfl rfl rfl rfl rfl) ?_
  refine RW.nil ?_
  refine awp_seq ?_
  refine awp_block ?_
  refine awp_seq ?_
  refine awp_rw rfl ?_
  refine RW.op rfl rfl (eff_fieldAddr rfl rfl tf47_1 (by decide) rfl rfl rfl (Nat.le_of_ble_eq_true rfl)) ?_
  refine RW.op rfl rfl (eff_load (y := .t _) rfl rfl ti3 rfl (.one rfl rfl rfl rfl)) ?_
  refine RW.op rfl rfl (eff_iop rfl rfl rfl rfl rfl) ?_
  refine RW.op rfl rfl (eff_move (v := .t _) rfl rfl rfl) ?_
  refine RW.split 15 rfl (fun h1 => ?_) (fun h1 => ?_)
  · try simp only [decide_eq_true_eq, decide_eq_false_iff_not, beq_iff_eq, bne_iff_ne, bne_eq_false_iff_eq, beq_eq_false_iff_ne, Bool.not_eq_true, Bool.not_eq_false, Bool.not_eq_true', Bool.not_eq_false', ne_eq] at h1
    refine RW.gskip rfl rfl rfl rfl rfl (by decide) ?_
    refine RW.gskip rfl rfl rfl rfl rfl (by decide) ?_
    refine RW.gskip rfl rfl rfl rfl rfl (by decide) ?_
    refine RW.op rfl rfl (eff_pick (v := .t _) rfl rfl rfl rfl) ?_
    refine RW.op rfl rfl (eff_assign (v := .t _) rfl rfl rfl) ?_
    refine RW.nil ?_
    refine awp_cond rfl (fun _ => ?_) (fun h => nomatch h)
    refine awp_seq ?_
    refine awp_rw rfl ?_
    refine RW.op rfl rfl (eff_assign (v := .t _) rfl rfl rfl) ?_
    refine RW.nil ?_
    refine awp_ret ?_
    first
      | (rw [show form l i = 1 from by rw [form_at hi]; unfold formR; rw [if_pos (by omega)]]; exact ⟨Or.inr rfl, [_], ⟨.tmp (.t _), trivial⟩, .refl _⟩)
      | (rw [show form l i = 5 from by rw [form_at hi]; unfold formR; rw [if_neg (by omega), if_pos (by omega)]]; exact ⟨Or.inr rfl, [_], ⟨.tmp (.t _), trivial⟩, .refl _⟩)
      | (rw [show form l i = 23 from by rw [form_at hi]; unfold formR; rw [if_neg (by omega), if_neg (by omega), if_pos (by first | omega | (rw [prevT_pos hi (by omega)]; omega) | (have hi0 : i = 0 := (by omega); subst hi0; rw [prevT_0]; omega))]]; exact ⟨Or.inr rfl, [_], ⟨.tmp (.t _), trivial⟩, .refl _⟩)
      | (rw [show form l i = 0 from by rw [form_at hi]; unfold formR; rw [if_neg (by omega), if_neg (by omega), if_neg (by first | omega | (rw [prevT_pos hi (by omega)]; omega) | (have hi0 : i = 0 := (by omega); subst hi0; rw [prevT_0]; omega)), if_pos (by omega)]]; exact ⟨Or.inr rfl, [_], ⟨.tmp (.t _), trivial⟩, .refl _⟩)
      | (rw [show form l i = 1 from by rw [form_at hi]; unfold formR; rw [if_neg (by omega), if_neg (by omega), if_neg (by first | omega | (rw [prevT_pos hi (by omega)]; omega) | (have hi0 : i = 0 := (by omega); subst hi0; rw [prevT_0]; omega)), if_neg (by omega), if_pos (by omega)]]; exact ⟨Or.inr rfl, [_], ⟨.tmp (.t _), trivial⟩, .refl _⟩)
      | (rw [show form l i = 0 from by rw [form_at hi]; unfold formR; rw [if_neg (by omega), if_neg (by omega), if_neg (by first | omega | (rw [prevT_pos hi (by omega)]; omega) | (have hi0 : i = 0 := (by omega); subst hi0; rw [prevT_0]; omega)), if_neg (by omega), if_neg (by omega)]]; exact ⟨Or.inr rfl, [_], ⟨.tmp (.t _), trivial⟩, .refl _⟩)
  · try simp only [decide_eq_true_eq, decide_eq_false_iff_not, beq_iff_eq, bne_iff_ne, bne_eq_false_iff_eq, beq_eq_false_iff_ne, Bool.not_eq_true, Bool.not_eq_false, Bool.not_eq_true', Bool.not_eq_false', ne_eq] at h1
    refine RW.gop rfl rfl rfl rfl rfl rfl (eff_fieldAddr rfl rfl tf47_1 (by decide) rfl rfl rfl (Nat.le_of_ble_eq_true rfl)) ?_
    refine RW.gop rfl rfl rfl rfl rfl rfl (eff_load (y := .t _) rfl rfl ti3 rfl (.one rfl rfl rfl rfl)) ?_
    refine RW.gop rfl rfl rfl rfl rfl rfl (eff_iop rfl rfl rfl rfl rfl) ?_
    refine RW.op rfl rfl (eff_pick (v := .t _) rfl rfl rfl rfl) ?_
    refine RW.op rfl rfl (eff_assign (v := .t _) rfl rfl rfl) ?_
    refine RW.nil ?_
    refine awp_cond rfl (fun h2 => ?_) (fun h2 => ?_)
    · try simp only [decide_eq_true_eq, decide_eq_false_iff_not, beq_iff_eq, bne_iff_ne, bne_eq_false_iff_eq, beq_eq_false_iff_ne, Bool.not_eq_true, Bool.not_eq_false, Bool.not_eq_true', Bool.not_eq_false', ne_eq] at h2
      refine awp_seq ?_
      refine awp_rw rfl ?_
      refine RW.op rfl rfl (eff_assign (v := .t _) rfl rfl rfl) ?_
      refine RW.nil ?_
      refine awp_ret ?_
      first
        | (rw [show form l i = 1 from by rw [form_at hi]; unfold formR; rw [if_pos (by omega)]]; exact ⟨Or.inr rfl, [_], ⟨.tmp (.t _), trivial⟩, .refl _⟩)
        | (rw [show form l i = 5 from by rw [form_at hi]; unfold formR; rw [if_neg (by omega), if_pos (by omega)]]; exact ⟨Or.inr rfl, [_], ⟨.tmp (.t _), trivial⟩, .refl _⟩)
        | (rw [show form l i = 23 from by rw [form_at hi]; unfold formR; rw [if_neg (by omega), if_neg (by omega), if_pos (by first | omega | (rw [prevT_pos hi (by omega)]; omega) | (have hi0 : i = 0 := (by omega); subst hi0; rw [prevT_0]; omega))]]; exact ⟨Or.inr rfl, [_], ⟨.tmp (.t _), trivial⟩, .refl _⟩)
        | (rw [show form l i = 0 from by rw [form_at hi]; unfold formR; rw [if_neg (by omega), if_neg (by omega), if_neg (by first | omega | (rw [prevT_pos hi (by omega)]; omega) | (have hi0 : i = 0 := (by omega); subst hi0; rw [prevT_0]; omega)), if_pos (by omega)]]; exact ⟨Or.inr rfl, [_], ⟨.tmp (.t _), trivial⟩, .refl _⟩)
        | (rw [show form l i = 1 from by rw [form_at hi]; unfold formR; rw [if_neg (by omega), if_neg (by omega), if_neg (by first | omega | (rw [prevT_pos hi (by omega)]; omega) | (have hi0 : i = 0 := (by omega); subst hi0; rw [prevT_0]; omega)), if_neg (by omega), if_pos (by omega)]]; exact ⟨Or.inr rfl, [_], ⟨.tmp (.t _), trivial⟩, .refl _⟩)
        | (rw [show form l i = 0 from by rw [form_at hi]; unfold formR; rw [if_neg (by omega), if_neg (by omega), if_neg (by first | omega | (rw [prevT_pos hi (by omega)]; omega) | (have hi0 : i = 0 := (by omega); subst hi0; rw [prevT_0]; omega)), if_neg (by omega), if_neg (by omega)]]; exact ⟨Or.inr rfl, [_], ⟨.tmp (.t _), trivial⟩, .refl _⟩)
    · try simp only [decide_eq_true_eq, decide_eq_false_iff_not, beq_iff_eq, bne_iff_ne, bne_eq_false_iff_eq, beq_eq_false_iff_ne, Bool.not_eq_true, Bool.not_eq_false, Bool.not_eq_true', Bool.not_eq_false', ne_eq] at h2
      refine awp_seq ?_
      refine awp_rw rfl ?_
      refine RW.op rfl rfl (eff_fieldAddr rfl rfl tf47_0 (by decide) rfl rfl rfl (Nat.le_of_ble_eq_true rfl)) ?_
      refine RW.op rfl rfl (eff_load (y := .t _) rfl rfl ti3 rfl (.one rfl rfl rfl rfl)) ?_
      refine RW.op rfl rfl (eff_callT (within_ret _) co70 rfl rfl rfl rfl) ?_
      refine RW.op rfl rfl (eff_unop rfl rfl rfl rfl) ?_
      refine RW.op rfl rfl (eff_assign (v := .t _) rfl rfl rfl) ?_
      refine RW.nil ?_
      refine awp_cond rfl (fun h3 => ?_) (fun h3 => ?_)
      · try simp only [decide_eq_true_eq, decide_eq_false_iff_not, beq_iff_eq, bne_iff_ne, bne_eq_false_iff_eq, beq_eq_false_iff_ne, Bool.not_eq_true, Bool.not_eq_false, Bool.not_eq_true', Bool.not_eq_false', ne_eq] at h3
        refine awp_seq ?_
        refine awp_rw rfl ?_
        refine RW.op rfl rfl (eff_assign (v := .t _) rfl rfl rfl) ?_
        refine RW.nil ?_
        refine awp_ret ?_
        first
          | (rw [show form l i = 1 from by rw [form_at hi]; unfold formR; rw [if_pos (by omega)]]; exact ⟨Or.inr rfl, [_], ⟨.tmp (.t _), trivial⟩, .refl _⟩)
          | (rw [show form l i = 5 from by rw [form_at hi]; unfold formR; rw [if_neg (by omega), if_pos (by omega)]]; exact ⟨Or.inr rfl, [_], ⟨.tmp (.t _), trivial⟩, .refl _⟩)
          | (rw [show form l i = 23 from by rw [form_at hi]; unfold formR; rw [if_neg (by omega), if_neg (by omega), if_pos (by first | omega | (rw [prevT_pos hi (by omega)]; omega) | (have hi0 : i = 0 := (by omega); subst hi0; rw [prevT_0]; omega))]]; exact ⟨Or.inr rfl, [_], ⟨.tmp (.t _), trivial⟩, .refl _⟩)
          | (rw [show form l i = 0 from by rw [form_at hi]; unfold formR; rw [if_neg (by omega), if_neg (by omega), if_neg (by first | omega | (rw [prevT_pos hi (by omega)]; omega) | (have hi0 : i = 0 := (by omega); subst hi0; rw [prevT_0]; omega)), if_pos (by omega)]]; exact ⟨Or.inr rfl, [_], ⟨.tmp (.t _), trivial⟩, .refl _⟩)
          | (rw [show form l i = 1 from by rw [form_at hi]; unfold formR; rw [if_neg (by omega), if_neg (by omega), if_neg (by first | omega | (rw [prevT_pos hi (by omega)]; omega) | (have hi0 : i = 0 := (by omega); subst hi0; rw [prevT_0]; omega)), if_neg (by omega), if_pos (by omega)]]; exact ⟨Or.inr rfl, [_], ⟨.tmp (.t _), trivial⟩, .refl _⟩)
          | (rw [show form l i = 0 from by rw [form_at hi]; unfold formR; rw [if_neg (by omega), if_neg (by omega), if_neg (by first | omega | (rw [prevT_pos hi (by omega)]; omega) | (have hi0 : i = 0 := (by omega); subst hi0; rw [prevT_0]; omega)), if_neg (by omega), if_neg (by omega)]]; exact ⟨Or.inr rfl, [_], ⟨.tmp (.t _), trivial⟩, .refl _⟩)
      · try simp only [decide_eq_true_eq, decide_eq_false_iff_not, beq_iff_eq, bne_iff_ne, bne_eq_false_iff_eq, beq_eq_false_iff_ne, Bool.not_eq_true, Bool.not_eq_false, Bool.not_eq_true', Bool.not_eq_false', ne_eq] at h3
        refine awp_seq ?_
        by_cases hc4 : 0 < i
        · refine awp_rd [(some 26, []), (some 27, []), (some 28, []), (some 29, []), (some 30, []), (some 31, []), (some 32, []), (some 33, []), (some 34, []), (some 35, []), (some 36, []), (some 37, []), (some 38, []), (some 25, [])] [[], [0], [0, 1], [0, 1, 2], [0, 1, 2, 3], [0, 1, 2], [0, 1, 2], [0, 1, 2, 6], [0, 1, 2, 5, 6, 7], [0, 1, 2, 5, 6, 7, 8], [0, 1, 2, 5, 6, 7, 8, 9], [0, 1, 2, 3, 4, 5, 6, 7, 8, 9, 10], [0, 1, 2, 3, 4, 5, 6, 7, 8, 9, 10, 11], [0, 1, 2, 3, 4, 5, 6, 7, 8, 9, 10, 11, 12]] tm rfl rfl rfl rfl ?_
          refine RD.op rfl rfl rfl (eff_move (v := .t _) rfl rfl rfl) ?_
          refine RD.op rfl rfl rfl (eff_iop (r := .bool true) rfl rfl rfl rfl (by simp [iop, hc4])) ?_
          refine RD.op rfl rfl rfl (eff_move (v := .t _) rfl rfl rfl) ?_
          refine RD.gop rfl rfl rfl rfl rfl rfl rfl (eff_fieldAddr rfl rfl tf47_0 (by decide) rfl rfl rfl (Nat.le_of_ble_eq_true rfl)) ?_
          refine RD.gop rfl rfl rfl rfl rfl rfl rfl (eff_load (y := .t _) rfl rfl ti3 rfl (.one rfl rfl rfl rfl)) ?_
          refine RD.gop rfl rfl rfl rfl rfl rfl rfl (eff_move (v := .t _) rfl rfl rfl) ?_
          refine RD.gop rfl rfl rfl rfl rfl rfl rfl (eff_move (v := .t _) rfl rfl rfl) ?_
          refine RD.gop rfl rfl rfl rfl rfl rfl rfl (eff_iop rfl rfl rfl rfl (isub (by omega))) ?_
          refine RD.gop rfl rfl rfl rfl rfl rfl rfl (eff_indexM (i := i - 1) rfl rfl te32 rfl rfl (by first | rfl | omega) (by exact List.getElem?_eq_getElem (by omega)) rfl (by decide)) ?_
          refine RD.gop rfl rfl rfl rfl rfl rfl rfl (eff_fieldAddrT rfl rfl tf47_0 (by decide) rfl) ?_
          refine RD.gop rfl rfl rfl rfl rfl rfl rfl (eff_loadT1 rfl rfl ti3 rfl rfl) ?_
          refine RD.gop rfl rfl rfl rfl rfl rfl rfl (eff_iop rfl rfl rfl rfl rfl) ?_
          refine RD.op rfl rfl rfl (eff_pick (v := .t _) rfl rfl rfl rfl) ?_
          refine RD.op rfl rfl rfl (eff_assign (v := .t _) rfl rfl rfl) ?_
          refine RD.nil ?_
          refine awp_cond rfl (fun h5 => ?_) (fun h5 => ?_)
          · try simp only [decide_eq_true_eq, decide_eq_false_iff_not, beq_iff_eq, bne_iff_ne, bne_eq_false_iff_eq, beq_eq_false_iff_ne, Bool.not_eq_true, Bool.not_eq_false, Bool.not_eq_true', Bool.not_eq_false', ne_eq] at h5
            refine awp_seq ?_
            refine awp_rw rfl ?_
            refine RW.op rfl rfl (eff_assign (v := .t _) rfl rfl rfl) ?_
            refine RW.nil ?_
            refine awp_ret ?_
            first
              | (rw [show form l i = 1 from by rw [form_at hi]; unfold formR; rw [if_pos (by omega)]]; exact ⟨Or.inr rfl, [_], ⟨.tmp (.t _), trivial⟩, .refl _⟩)
              | (rw [show form l i = 5 from by rw [form_at hi]; unfold formR; rw [if_neg (by omega), if_pos (by omega)]]; exact ⟨Or.inr rfl, [_], ⟨.tmp (.t _), trivial⟩, .refl _⟩)
              | (rw [show form l i = 23 from by rw [form_at hi]; unfold formR; rw [if_neg (by omega), if_neg (by omega), if_pos (by first | omega | (rw [prevT_pos hi (by omega)]; omega) | (have hi0 : i = 0 := (by omega); subst hi0; rw [prevT_0]; omega))]]; exact ⟨Or.inr rfl, [_], ⟨.tmp (.t _), trivial⟩, .refl _⟩)
              | (rw [show form l i = 0 from by rw [form_at hi]; unfold formR; rw [if_neg (by omega), if_neg (by omega), if_neg (by first | omega | (rw [prevT_pos hi (by omega)]; omega) | (have hi0 : i = 0 := (by omega); subst hi0; rw [prevT_0]; omega)), if_pos (by omega)]]; exact ⟨Or.inr rfl, [_], ⟨.tmp (.t _), trivial⟩, .refl _⟩)
              | (rw [show form l i = 1 from by rw [form_at hi]; unfold formR; rw [if_neg (by omega), if_neg (by omega), if_neg (by first | omega | (rw [prevT_pos hi (by omega)]; omega) | (have hi0 : i = 0 := (by omega); subst hi0; rw [prevT_0]; omega)), if_neg (by omega), if_pos (by omega)]]; exact ⟨Or.inr rfl, [_], ⟨.tmp (.t _), trivial⟩, .refl _⟩)
              | (rw [show form l i = 0 from by rw [form_at hi]; unfold formR; rw [if_neg (by omega), if_neg (by omega), if_neg (by first | omega | (rw [prevT_pos hi (by omega)]; omega) | (have hi0 : i = 0 := (by omega); subst hi0; rw [prevT_0]; omega)), if_neg (by omega), if_neg (by omega)]]; exact ⟨Or.inr rfl, [_], ⟨.tmp (.t _), trivial⟩, .refl _⟩)
          · try simp only [decide_eq_true_eq, decide_eq_false_iff_not, beq_iff_eq, bne_iff_ne, bne_eq_false_iff_eq, beq_eq_false_iff_ne, Bool.not_eq_true, Bool.not_eq_false, Bool.not_eq_true', Bool.not_eq_false', ne_eq] at h5
            refine awp_seq ?_
            refine awp_rw rfl ?_
            refine RW.op rfl rfl (eff_fieldAddr rfl rfl tf47_1 (by decide) rfl rfl rfl (Nat.le_of_ble_eq_true rfl)) ?_
            refine RW.op rfl rfl (eff_load (y := .t _) rfl rfl ti3 rfl (.one rfl rfl rfl rfl)) ?_
            refine RW.op rfl rfl (eff_iop rfl rfl rfl rfl rfl) ?_
            refine RW.op rfl rfl (eff_assign (v := .t _) rfl rfl rfl) ?_
            refine RW.nil ?_
            refine awp_cond rfl (fun h6 => ?_) (fun h6 => ?_)
            · try simp only [decide_eq_true_eq, decide_eq_false_iff_not, beq_iff_eq, bne_iff_ne, bne_eq_false_iff_eq, beq_eq_false_iff_ne, Bool.not_eq_true, Bool.not_eq_false, Bool.not_eq_true', Bool.not_eq_false', ne_eq] at h6
              refine awp_seq ?_
              refine awp_rw rfl ?_
              refine RW.op rfl rfl (eff_assign (v := .t _) rfl rfl rfl) ?_
              refine RW.nil ?_
              refine awp_ret ?_
              first
                | (rw [show form l i = 1 from by rw [form_at hi]; unfold formR; rw [if_pos (by omega)]]; exact ⟨Or.inr rfl, [_], ⟨.tmp (.t _), trivial⟩, .refl _⟩)
                | (rw [show form l i = 5 from by rw [form_at hi]; unfold formR; rw [if_neg (by omega), if_pos (by omega)]]; exact ⟨Or.inr rfl, [_], ⟨.tmp (.t _), trivial⟩, .refl _⟩)
                | (rw [show form l i = 23 from by rw [form_at hi]; unfold formR; rw [if_neg (by omega), if_neg (by omega), if_pos (by first | omega | (rw [prevT_pos hi (by omega)]; omega) | (have hi0 : i = 0 := (by omega); subst hi0; rw [prevT_0]; omega))]]; exact ⟨Or.inr rfl, [_], ⟨.tmp (.t _), trivial⟩, .refl _⟩)
                | (rw [show form l i = 0 from by rw [form_at hi]; unfold formR; rw [if_neg (by omega), if_neg (by omega), if_neg (by first | omega | (rw [prevT_pos hi (by omega)]; omega) | (have hi0 : i = 0 := (by omega); subst hi0; rw [prevT_0]; omega)), if_pos (by omega)]]; exact ⟨Or.inr rfl, [_], ⟨.tmp (.t _), trivial⟩, .refl _⟩)
                | (rw [show form l i = 1 from by rw [form_at hi]; unfold formR; rw [if_neg (by omega), if_neg (by omega), if_neg (by first | omega | (rw [prevT_pos hi (by omega)]; omega) | (have hi0 : i = 0 := (by omega); subst hi0; rw [prevT_0]; omega)), if_neg (by omega), if_pos (by omega)]]; exact ⟨Or.inr rfl, [_], ⟨.tmp (.t _), trivial⟩, .refl _⟩)
                | (rw [show form l i = 0 from by rw [form_at hi]; unfold formR; rw [if_neg (by omega), if_neg (by omega), if_neg (by first | omega | (rw [prevT_pos hi (by omega)]; omega) | (have hi0 : i = 0 := (by omega); subst hi0; rw [prevT_0]; omega)), if_neg (by omega), if_neg (by omega)]]; exact ⟨Or.inr rfl, [_], ⟨.tmp (.t _), trivial⟩, .refl _⟩)
            · try simp only [decide_eq_true_eq, decide_eq_false_iff_not, beq_iff_eq, bne_iff_ne, bne_eq_false_iff_eq, beq_eq_false_iff_ne, Bool.not_eq_true, Bool.not_eq_false, Bool.not_eq_true', Bool.not_eq_false', ne_eq] at h6
              refine awp_skip ?_
              refine awp_seq ?_
              refine awp_seq ?_
              refine awp_rw rfl ?_
              refine RW.op rfl rfl (eff_fieldAddr rfl rfl tf47_4 (by decide) rfl rfl rfl (Nat.le_of_ble_eq_true rfl)) ?_
              refine RW.op rfl rfl (eff_loadS (ys := [_, _, _, _]) rfl rfl ti28 rfl rfl rfl rfl rfl rfl) ?_
              refine RW.new rfl rfl (eff_allocK (k := 4) (id := 6) rfl rfl tz28 rfl rfl) ?_
              refine RW.store rfl rfl (eff_storeW (v := .t _) (els := [_]) (els' := [_]) rfl rfl ti28 rfl rfl rfl rfl rfl rfl rfl rfl rfl) ?_
              refine RW.nil ?_
              refine awp_seq ?_
              refine awp_rw rfl ?_
              refine RW.op rfl rfl (eff_fieldAddr rfl rfl tf28_0 (by decide) rfl rfl rfl (Nat.le_of_ble_eq_true rfl)) ?_
              refine RW.op rfl rfl (eff_load (y := .t _) rfl rfl ti3 rfl (.one rfl rfl rfl rfl)) ?_
              refine RW.op rfl rfl (eff_fieldAddr rfl rfl tf47_0 (by decide) rfl rfl rfl (Nat.le_of_ble_eq_true rfl)) ?_
              refine RW.op rfl rfl (eff_load (y := .t _) rfl rfl ti3 rfl (.one rfl rfl rfl rfl)) ?_
              refine RW.op rfl rfl (eff_iop rfl rfl rfl rfl rfl) ?_
              refine RW.op rfl rfl (eff_move (v := .t _) rfl rfl rfl) ?_
              refine RW.split 50 rfl (fun h7 => ?_) (fun h7 => ?_)
              · try simp only [decide_eq_true_eq, decide_eq_false_iff_not, beq_iff_eq, bne_iff_ne, bne_eq_false_iff_eq, beq_eq_false_iff_ne, Bool.not_eq_true, Bool.not_eq_false, Bool.not_eq_true', Bool.not_eq_false', ne_eq] at h7
                refine RW.gskip rfl rfl rfl rfl rfl (by decide) ?_
                refine RW.gskip rfl rfl rfl rfl rfl (by decide) ?_
                refine RW.gskip rfl rfl rfl rfl rfl (by decide) ?_
                refine RW.op rfl rfl (eff_pick (v := .t _) rfl rfl rfl rfl) ?_
                refine RW.op rfl rfl (eff_move (v := .t _) rfl rfl rfl) ?_
                refine RW.gskip rfl rfl rfl rfl rfl (by decide) ?_
                refine RW.gskip rfl rfl rfl rfl rfl (by decide) ?_
                refine RW.gskip rfl rfl rfl rfl rfl (by decide) ?_
                refine RW.op rfl rfl (eff_pick (v := .t _) rfl rfl rfl rfl) ?_
                refine RW.op rfl rfl (eff_move (v := .t _) rfl rfl rfl) ?_
                refine RW.gskip rfl rfl rfl rfl rfl (by decide) ?_
                refine RW.gskip rfl rfl rfl rfl rfl (by decide) ?_
                refine RW.gskip rfl rfl rfl rfl rfl (by decide) ?_
                refine RW.gskip rfl rfl rfl rfl rfl (by decide) ?_
                refine RW.op rfl rfl (eff_pick (v := .t _) rfl rfl rfl rfl) ?_
                refine RW.nil ?_
                refine awp_cond rfl (fun _ => ?_) (fun h => nomatch h)
                refine awp_seq ?_
                refine awp_rw rfl ?_
                refine RW.op rfl rfl (eff_assign (v := .t _) rfl rfl rfl) ?_
                refine RW.nil ?_
                refine awp_ret ?_
                first
                  | (rw [show form l i = 1 from by rw [form_at hi]; unfold formR; rw [if_pos (by omega)]]; exact ⟨Or.inr rfl, [_], ⟨.tmp (.t _), trivial⟩, .refl _⟩)
                  | (rw [show form l i = 5 from by rw [form_at hi]; unfold formR; rw [if_neg (by omega), if_pos (by omega)]]; exact ⟨Or.inr rfl, [_], ⟨.tmp (.t _), trivial⟩, .refl _⟩)
                  | (rw [show form l i = 23 from by rw [form_at hi]; unfold formR; rw [if_neg (by omega), if_neg (by omega), if_pos (by first | omega | (rw [prevT_pos hi (by omega)]; omega) | (have hi0 : i = 0 := (by omega); subst hi0; rw [prevT_0]; omega))]]; exact ⟨Or.inr rfl, [_], ⟨.tmp (.t _), trivial⟩, .refl _⟩)
                  | (rw [show form l i = 0 from by rw [form_at hi]; unfold formR; rw [if_neg (by omega), if_neg (by omega), if_neg (by first | omega | (rw [prevT_pos hi (by omega)]; omega) | (have hi0 : i = 0 := (by omega); subst hi0; rw [prevT_0]; omega)), if_pos (by omega)]]; exact ⟨Or.inr rfl, [_], ⟨.tmp (.t _), trivial⟩, .refl _⟩)
                  | (rw [show form l i = 1 from by rw [form_at hi]; unfold formR; rw [if_neg (by omega), if_neg (by omega), if_neg (by first | omega | (rw [prevT_pos hi (by omega)]; omega) | (have hi0 : i = 0 := (by omega); subst hi0; rw [prevT_0]; omega)), if_neg (by omega), if_pos (by omega)]]; exact ⟨Or.inr rfl, [_], ⟨.tmp (.t _), trivial⟩, .refl _⟩)
                  | (rw [show form l i = 0 from by rw [form_at hi]; unfold formR; rw [if_neg (by omega), if_neg (by omega), if_neg (by first | omega | (rw [prevT_pos hi (by omega)]; omega) | (have hi0 : i = 0 := (by omega); subst hi0; rw [prevT_0]; omega)), if_neg (by omega), if_neg (by omega)]]; exact ⟨Or.inr rfl, [_], ⟨.tmp (.t _), trivial⟩, .refl _⟩)
              · try simp only [decide_eq_true_eq, decide_eq_false_iff_not, beq_iff_eq, bne_iff_ne, bne_eq_false_iff_eq, beq_eq_false_iff_ne, Bool.not_eq_true, Bool.not_eq_false, Bool.not_eq_true', Bool.not_eq_false', ne_eq] at h7
                refine RW.gop rfl rfl rfl rfl rfl rfl (eff_fieldAddr rfl rfl tf28_2 (by decide) rfl rfl rfl (Nat.le_of_ble_eq_true rfl)) ?_
                refine RW.gop rfl rfl rfl rfl rfl rfl (eff_load (y := .t _) rfl rfl ti3 rfl (.one rfl rfl rfl rfl)) ?_
                refine RW.gop rfl rfl rfl rfl rfl rfl (eff_iop rfl rfl rfl rfl rfl) ?_
                refine RW.op rfl rfl (eff_pick (v := .t _) rfl rfl rfl rfl) ?_
                refine RW.op rfl rfl (eff_move (v := .t _) rfl rfl rfl) ?_
                refine RW.split 55 rfl (fun h8 => ?_) (fun h8 => ?_)
                · try simp only [decide_eq_true_eq, decide_eq_false_iff_not, beq_iff_eq, bne_iff_ne, bne_eq_false_iff_eq, beq_eq_false_iff_ne, Bool.not_eq_true, Bool.not_eq_false, Bool.not_eq_true', Bool.not_eq_false', ne_eq] at h8
                  refine RW.gskip rfl rfl rfl rfl rfl (by decide) ?_
                  refine RW.gskip rfl rfl rfl rfl rfl (by decide) ?_
                  refine RW.gskip rfl rfl rfl rfl rfl (by decide) ?_
                  refine RW.op rfl rfl (eff_pick (v := .t _) rfl rfl rfl rfl) ?_
                  refine RW.op rfl rfl (eff_move (v := .t _) rfl rfl rfl) ?_
                  refine RW.gskip rfl rfl rfl rfl rfl (by decide) ?_
                  refine RW.gskip rfl rfl rfl rfl rfl (by decide) ?_
                  refine RW.gskip rfl rfl rfl rfl rfl (by decide) ?_
                  refine RW.gskip rfl rfl rfl rfl rfl (by decide) ?_
                  refine RW.op rfl rfl (eff_pick (v := .t _) rfl rfl rfl rfl) ?_
                  refine RW.nil ?_
                  refine awp_cond rfl (fun _ => ?_) (fun h => nomatch h)
                  refine awp_seq ?_
                  refine awp_rw rfl ?_
                  refine RW.op rfl rfl (eff_assign (v := .t _) rfl rfl rfl) ?_
                  refine RW.nil ?_
                  refine awp_ret ?_
                  first
                    | (rw [show form l i = 1 from by rw [form_at hi]; unfold formR; rw [if_pos (by omega)]]; exact ⟨Or.inr rfl, [_], ⟨.tmp (.t _), trivial⟩, .refl _⟩)
                    | (rw [show form l i = 5 from by rw [form_at hi]; unfold formR; rw [if_neg (by omega), if_pos (by omega)]]; exact ⟨Or.inr rfl, [_], ⟨.tmp (.t _), trivial⟩, .refl _⟩)
                    | (rw [show form l i = 23 from by rw [form_at hi]; unfold formR; rw [if_neg (by omega), if_neg (by omega), if_pos (by first | omega | (rw [prevT_pos hi (by omega)]; omega) | (have hi0 : i = 0 := (by omega); subst hi0; rw [prevT_0]; omega))]]; exact ⟨Or.inr rfl, [_], ⟨.tmp (.t _), trivial⟩, .refl _⟩)
                    | (rw [show form l i = 0 from by rw [form_at hi]; unfold formR; rw [if_neg (by omega), if_neg (by omega), if_neg (by first | omega | (rw [prevT_pos hi (by omega)]; omega) | (have hi0 : i = 0 := (by omega); subst hi0; rw [prevT_0]; omega)), if_pos (by omega)]]; exact ⟨Or.inr rfl, [_], ⟨.tmp (.t _), trivial⟩, .refl _⟩)
                    | (rw [show form l i = 1 from by rw [form_at hi]; unfold formR; rw [if_neg (by omega), if_neg (by omega), if_neg (by first | omega | (rw [prevT_pos hi (by omega)]; omega) | (have hi0 : i = 0 := (by omega); subst hi0; rw [prevT_0]; omega)), if_neg (by omega), if_pos (by omega)]]; exact ⟨Or.inr rfl, [_], ⟨.tmp (.t _), trivial⟩, .refl _⟩)
                    | (rw [show form l i = 0 from by rw [form_at hi]; unfold formR; rw [if_neg (by omega), if_neg (by omega), if_neg (by first | omega | (rw [prevT_pos hi (by omega)]; omega) | (have hi0 : i = 0 := (by omega); subst hi0; rw [prevT_0]; omega)), if_neg (by omega), if_neg (by omega)]]; exact ⟨Or.inr rfl, [_], ⟨.tmp (.t _), trivial⟩, .refl _⟩)
                · try simp only [decide_eq_true_eq, decide_eq_false_iff_not, beq_iff_eq, bne_iff_ne, bne_eq_false_iff_eq, beq_eq_false_iff_ne, Bool.not_eq_true, Bool.not_eq_false, Bool.not_eq_true', Bool.not_eq_false', ne_eq] at h8
                  refine RW.gop rfl rfl rfl rfl rfl rfl (eff_fieldAddr rfl rfl tf28_2 (by decide) rfl rfl rfl (Nat.le_of_ble_eq_true rfl)) ?_
                  refine RW.gop rfl rfl rfl rfl rfl rfl (eff_load (y := .t _) rfl rfl ti3 rfl (.one rfl rfl rfl rfl)) ?_
                  refine RW.gop rfl rfl rfl rfl rfl rfl (eff_iop rfl rfl rfl rfl rfl) ?_
                  refine RW.op rfl rfl (eff_pick (v := .t _) rfl rfl rfl rfl) ?_
                  refine RW.op rfl rfl (eff_move (v := .t _) rfl rfl rfl) ?_
                  refine RW.split 60 rfl (fun h9 => ?_) (fun h9 => ?_)
                  · try simp only [decide_eq_true_eq, decide_eq_false_iff_not, beq_iff_eq, bne_iff_ne, bne_eq_false_iff_eq, beq_eq_false_iff_ne, Bool.not_eq_true, Bool.not_eq_false, Bool.not_eq_true', Bool.not_eq_false', ne_eq] at h9
                    refine RW.gskip rfl rfl rfl rfl rfl (by decide) ?_
                    refine RW.gskip rfl rfl rfl rfl rfl (by decide) ?_
                    refine RW.gskip rfl rfl rfl rfl rfl (by decide) ?_
                    refine RW.gskip rfl rfl rfl rfl rfl (by decide) ?_
                    refine RW.op rfl rfl (eff_pick (v := .t _) rfl rfl rfl rfl) ?_
                    refine RW.nil ?_
                    refine awp_cond rfl (fun _ => ?_) (fun h => nomatch h)
                    refine awp_seq ?_
                    refine awp_rw rfl ?_
                    refine RW.op rfl rfl (eff_assign (v := .t _) rfl rfl rfl) ?_
                    refine RW.nil ?_
                    refine awp_ret ?_
                    first
                      | (rw [show form l i = 1 from by rw [form_at hi]; unfold formR; rw [if_pos (by omega)]]; exact ⟨Or.inr rfl, [_], ⟨.tmp (.t _), trivial⟩, .refl _⟩)
                      | (rw [show form l i = 5 from by rw [form_at hi]; unfold formR; rw [if_neg (by omega), if_pos (by omega)]]; exact ⟨Or.inr rfl, [_], ⟨.tmp (.t _), trivial⟩, .refl _⟩)
                      | (rw [show form l i = 23 from by rw [form_at hi]; unfold formR; rw [if_neg (by omega), if_neg (by omega), if_pos (by first | omega | (rw [prevT_pos hi (by omega)]; omega) | (have hi0 : i = 0 := (by omega); subst hi0; rw [prevT_0]; omega))]]; exact ⟨Or.inr rfl, [_], ⟨.tmp (.t _), trivial⟩, .refl _⟩)
                      | (rw [show form l i = 0 from by rw [form_at hi]; unfold formR; rw [if_neg (by omega), if_neg (by omega), if_neg (by first | omega | (rw [prevT_pos hi (by omega)]; omega) | (have hi0 : i = 0 := (by omega); subst hi0; rw [prevT_0]; omega)), if_pos (by omega)]]; exact ⟨Or.inr rfl, [_], ⟨.tmp (.t _), trivial⟩, .refl _⟩)
                      | (rw [show form l i = 1 from by rw [form_at hi]; unfold formR; rw [if_neg (by omega), if_neg (by omega), if_neg (by first | omega | (rw [prevT_pos hi (by omega)]; omega) | (have hi0 : i = 0 := (by omega); subst hi0; rw [prevT_0]; omega)), if_neg (by omega), if_pos (by omega)]]; exact ⟨Or.inr rfl, [_], ⟨.tmp (.t _), trivial⟩, .refl _⟩)
                      | (rw [show form l i = 0 from by rw [form_at hi]; unfold formR; rw [if_neg (by omega), if_neg (by omega), if_neg (by first | omega | (rw [prevT_pos hi (by omega)]; omega) | (have hi0 : i = 0 := (by omega); subst hi0; rw [prevT_0]; omega)), if_neg (by omega), if_neg (by omega)]]; exact ⟨Or.inr rfl, [_], ⟨.tmp (.t _), trivial⟩, .refl _⟩)
                  · try simp only [decide_eq_true_eq, decide_eq_false_iff_not, beq_iff_eq, bne_iff_ne, bne_eq_false_iff_eq, beq_eq_false_iff_ne, Bool.not_eq_true, Bool.not_eq_false, Bool.not_eq_true', Bool.not_eq_false', ne_eq] at h9
                    refine RW.gop rfl rfl rfl rfl rfl rfl (eff_fieldAddr rfl rfl tf28_3 (by decide) rfl rfl rfl (Nat.le_of_ble_eq_true rfl)) ?_
                    refine RW.gop rfl rfl rfl rfl rfl rfl (eff_load (y := .t _) rfl rfl ti3 rfl (.one rfl rfl rfl rfl)) ?_
                    refine RW.gop rfl rfl rfl rfl rfl rfl (eff_callT (within_ret _) co70 rfl rfl rfl rfl) ?_
                    refine RW.gop rfl rfl rfl rfl rfl rfl (eff_unop rfl rfl rfl rfl) ?_
                    refine RW.op rfl rfl (eff_pick (v := .t _) rfl rfl rfl rfl) ?_
                    refine RW.nil ?_
                    refine awp_cond rfl (fun h10 => ?_) (fun h10 => ?_)
                    · try simp only [decide_eq_true_eq, decide_eq_false_iff_not, beq_iff_eq, bne_iff_ne, bne_eq_false_iff_eq, beq_eq_false_iff_ne, Bool.not_eq_true, Bool.not_eq_false, Bool.not_eq_true', Bool.not_eq_false', ne_eq] at h10
                      refine awp_seq ?_
                      refine awp_rw rfl ?_
                      refine RW.op rfl rfl (eff_assign (v := .t _) rfl rfl rfl) ?_
                      refine RW.nil ?_
                      refine awp_ret ?_
                      first
                        | (rw [show form l i = 1 from by rw [form_at hi]; unfold formR; rw [if_pos (by omega)]]; exact ⟨Or.inr rfl, [_], ⟨.tmp (.t _), trivial⟩, .refl _⟩)
                        | (rw [show form l i = 5 from by rw [form_at hi]; unfold formR; rw [if_neg (by omega), if_pos (by omega)]]; exact ⟨Or.inr rfl, [_], ⟨.tmp (.t _), trivial⟩, .refl _⟩)
                        | (rw [show form l i = 23 from by rw [form_at hi]; unfold formR; rw [if_neg (by omega), if_neg (by omega), if_pos (by first | omega | (rw [prevT_pos hi (by omega)]; omega) | (have hi0 : i = 0 := (by omega); subst hi0; rw [prevT_0]; omega))]]; exact ⟨Or.inr rfl, [_], ⟨.tmp (.t _), trivial⟩, .refl _⟩)
                        | (rw [show form l i = 0 from by rw [form_at hi]; unfold formR; rw [if_neg (by omega), if_neg (by omega), if_neg (by first | omega | (rw [prevT_pos hi (by omega)]; omega) | (have hi0 : i = 0 := (by omega); subst hi0; rw [prevT_0]; omega)), if_pos (by omega)]]; exact ⟨Or.inr rfl, [_], ⟨.tmp (.t _), trivial⟩, .refl _⟩)
                        | (rw [show form l i = 1 from by rw [form_at hi]; unfold formR; rw [if_neg (by omega), if_neg (by omega), if_neg (by first | omega | (rw [prevT_pos hi (by omega)]; omega) | (have hi0 : i = 0 := (by omega); subst hi0; rw [prevT_0]; omega)), if_neg (by omega), if_pos (by omega)]]; exact ⟨Or.inr rfl, [_], ⟨.tmp (.t _), trivial⟩, .refl _⟩)
                        | (rw [show form l i = 0 from by rw [form_at hi]; unfold formR; rw [if_neg (by omega), if_neg (by omega), if_neg (by first | omega | (rw [prevT_pos hi (by omega)]; omega) | (have hi0 : i = 0 := (by omega); subst hi0; rw [prevT_0]; omega)), if_neg (by omega), if_neg (by omega)]]; exact ⟨Or.inr rfl, [_], ⟨.tmp (.t _), trivial⟩, .refl _⟩)
                    · try simp only [decide_eq_true_eq, decide_eq_false_iff_not, beq_iff_eq, bne_iff_ne, bne_eq_false_iff_eq, beq_eq_false_iff_ne, Bool.not_eq_true, Bool.not_eq_false, Bool.not_eq_true', Bool.not_eq_false', ne_eq] at h10
                      refine awp_skip ?_
                      refine awp_seq ?_
                      refine awp_rw rfl ?_
                      refine RW.op rfl rfl (eff_assign (v := .t _) rfl rfl rfl) ?_
                      refine RW.nil ?_
                      refine awp_ret ?_
                      first
                        | (rw [show form l i = 1 from by rw [form_at hi]; unfold formR; rw [if_pos (by omega)]]; exact ⟨Or.inr rfl, [_], ⟨.tmp (.t _), trivial⟩, .refl _⟩)
                        | (rw [show form l i = 5 from by rw [form_at hi]; unfold formR; rw [if_neg (by omega), if_pos (by omega)]]; exact ⟨Or.inr rfl, [_], ⟨.tmp (.t _), trivial⟩, .refl _⟩)
                        | (rw [show form l i = 23 from by rw [form_at hi]; unfold formR; rw [if_neg (by omega), if_neg (by omega), if_pos (by first | omega | (rw [prevT_pos hi (by omega)]; omega) | (have hi0 : i = 0 := (by omega); subst hi0; rw [prevT_0]; omega))]]; exact ⟨Or.inr rfl, [_], ⟨.tmp (.t _), trivial⟩, .refl _⟩)
                        | (rw [show form l i = 0 from by rw [form_at hi]; unfold formR; rw [if_neg (by omega), if_neg (by omega), if_neg (by first | omega | (rw [prevT_pos hi (by omega)]; omega) | (have hi0 : i = 0 := (by omega); subst hi0; rw [prevT_0]; omega)), if_pos (by omega)]]; exact ⟨Or.inr rfl, [_], ⟨.tmp (.t _), trivial⟩, .refl _⟩)
                        | (rw [show form l i = 1 from by rw [form_at hi]; unfold formR; rw [if_neg (by omega), if_neg (by omega), if_neg (by first | omega | (rw [prevT_pos hi (by omega)]; omega) | (have hi0 : i = 0 := (by omega); subst hi0; rw [prevT_0]; omega)), if_neg (by omega), if_pos (by omega)]]; exact ⟨Or.inr rfl, [_], ⟨.tmp (.t _), trivial⟩, .refl _⟩)
                        | (rw [show form l i = 0 from by rw [form_at hi]; unfold formR; rw [if_neg (by omega), if_neg (by omega), if_neg (by first | omega | (rw [prevT_pos hi (by omega)]; omega) | (have hi0 : i = 0 := (by omega); subst hi0; rw [prevT_0]; omega)), if_neg (by omega), if_neg (by omega)]]; exact ⟨Or.inr rfl, [_], ⟨.tmp (.t _), trivial⟩, .refl _⟩)
        · refine awp_rd [(some 26, []), (some 27, []), (some 28, []), (some 29, []), (some 30, []), (some 31, []), (some 32, []), (some 33, []), (some 34, []), (some 35, []), (some 36, []), (some 37, []), (some 38, []), (some 25, [])] [[], [0], [0, 1], [0, 1, 2], [0, 1, 2, 3], [0, 1, 2], [0, 1, 2], [0, 1, 2, 6], [0, 1, 2, 5, 6, 7], [0, 1, 2, 5, 6, 7, 8], [0, 1, 2, 5, 6, 7, 8, 9], [0, 1, 2, 3, 4, 5, 6, 7, 8, 9, 10], [0, 1, 2, 3, 4, 5, 6, 7, 8, 9, 10, 11], [0, 1, 2, 3, 4, 5, 6, 7, 8, 9, 10, 11, 12]] tm rfl rfl rfl rfl ?_
          refine RD.op rfl rfl rfl (eff_move (v := .t _) rfl rfl rfl) ?_
          refine RD.op rfl rfl rfl (eff_iop (r := .bool false) rfl rfl rfl rfl (by simp [iop, hc4])) ?_
          refine RD.op rfl rfl rfl (eff_move (v := .t _) rfl rfl rfl) ?_
          refine RD.gskip rfl rfl rfl rfl rfl rfl (by decide) ?_
          refine RD.gskip rfl rfl rfl rfl rfl rfl (by decide) ?_
          refine RD.gskip rfl rfl rfl rfl rfl rfl (by decide) ?_
          refine RD.gskip rfl rfl rfl rfl rfl rfl (by decide) ?_
          refine RD.gskip rfl rfl rfl rfl rfl rfl (by decide) ?_
          refine RD.gskip rfl rfl rfl rfl rfl rfl (by decide) ?_
          refine RD.gskip rfl rfl rfl rfl rfl rfl (by decide) ?_
          refine RD.gskip rfl rfl rfl rfl rfl rfl (by decide) ?_
          refine RD.gskip rfl rfl rfl rfl rfl rfl (by decide) ?_
          refine RD.op rfl rfl rfl (eff_pick (v := .t _) rfl rfl rfl rfl) ?_
          refine RD.op rfl rfl rfl (eff_assign (v := .t _) rfl rfl rfl) ?_
          refine RD.nil ?_
          refine awp_cond rfl (fun h => nomatch h) (fun _ => ?_)
          refine awp_seq ?_
          refine awp_rw rfl ?_
          refine RW.op rfl rfl (eff_fieldAddr rfl rfl tf47_1 (by decide) rfl rfl rfl (Nat.le_of_ble_eq_true rfl)) ?_
          refine RW.op rfl rfl (eff_load (y := .t _) rfl rfl ti3 rfl (.one rfl rfl rfl rfl)) ?_
          refine RW.op rfl rfl (eff_iop rfl rfl rfl rfl rfl) ?_
          refine RW.op rfl rfl (eff_assign (v := .t _) rfl rfl rfl) ?_
          refine RW.nil ?_
          refine awp_cond rfl (fun h11 => ?_) (fun h11 => ?_)
          · try simp only [decide_eq_true_eq, decide_eq_false_iff_not, beq_iff_eq, bne_iff_ne, bne_eq_false_iff_eq, beq_eq_false_iff_ne, Bool.not_eq_true, Bool.not_eq_false, Bool.not_eq_true', Bool.not_eq_false', ne_eq] at h11
            refine awp_seq ?_
            refine awp_rw rfl ?_
            refine RW.op rfl rfl (eff_assign (v := .t _) rfl rfl rfl) ?_
            refine RW.nil ?_
            refine awp_ret ?_
            first
              | (rw [show form l i = 1 from by rw [form_at hi]; unfold formR; rw [if_pos (by omega)]]; exact ⟨Or.inr rfl, [_], ⟨.tmp (.t _), trivial⟩, .refl _⟩)
              | (rw [show form l i = 5 from by rw [form_at hi]; unfold formR; rw [if_neg (by omega), if_pos (by omega)]]; exact ⟨Or.inr rfl, [_], ⟨.tmp (.t _), trivial⟩, .refl _⟩)
              | (rw [show form l i = 23 from by rw [form_at hi]; unfold formR; rw [if_neg (by omega), if_neg (by omega), if_pos (by first | omega | (rw [prevT_pos hi (by omega)]; omega) | (have hi0 : i = 0 := (by omega); subst hi0; rw [prevT_0]; omega))]]; exact ⟨Or.inr rfl, [_], ⟨.tmp (.t _), trivial⟩, .refl _⟩)
              | (rw [show form l i = 0 from by rw [form_at hi]; unfold formR; rw [if_neg (by omega), if_neg (by omega), if_neg (by first | omega | (rw [prevT_pos hi (by omega)]; omega) | (have hi0 : i = 0 := (by omega); subst hi0; rw [prevT_0]; omega)), if_pos (by omega)]]; exact ⟨Or.inr rfl, [_], ⟨.tmp (.t _), trivial⟩, .refl _⟩)
              | (rw [show form l i = 1 from by rw [form_at hi]; unfold formR; rw [if_neg (by omega), if_neg (by omega), if_neg (by first | omega | (rw [prevT_pos hi (by omega)]; omega) | (have hi0 : i = 0 := (by omega); subst hi0; rw [prevT_0]; omega)), if_neg (by omega), if_pos (by omega)]]; exact ⟨Or.inr rfl, [_], ⟨.tmp (.t _), trivial⟩, .refl _⟩)
              | (rw [show form l i = 0 from by rw [form_at hi]; unfold formR; rw [if_neg (by omega), if_neg (by omega), if_neg (by first | omega | (rw [prevT_pos hi (by omega)]; omega) | (have hi0 : i = 0 := (by omega); subst hi0; rw [prevT_0]; omega)), if_neg (by omega), if_neg (by omega)]]; exact ⟨Or.inr rfl, [_], ⟨.tmp (.t _), trivial⟩, .refl _⟩)
          · try simp only [decide_eq_true_eq, decide_eq_false_iff_not, beq_iff_eq, bne_iff_ne, bne_eq_false_iff_eq, beq_eq_false_iff_ne, Bool.not_eq_true, Bool.not_eq_false, Bool.not_eq_true', Bool.not_eq_false', ne_eq] at h11
            refine awp_skip ?_
            refine awp_seq ?_
            refine awp_seq ?_
            refine awp_rw rfl ?_
            refine RW.op rfl rfl (eff_fieldAddr rfl rfl tf47_4 (by decide) rfl rfl rfl (Nat.le_of_ble_eq_true rfl)) ?_
            refine RW.op rfl rfl (eff_loadS (ys := [_, _, _, _]) rfl rfl ti28 rfl rfl rfl rfl rfl rfl) ?_
            refine RW.new rfl rfl (eff_allocK (k := 4) (id := 6) rfl rfl tz28 rfl rfl) ?_
            refine RW.store rfl rfl (eff_storeW (v := .t _) (els := [_]) (els' := [_]) rfl rfl ti28 rfl rfl rfl rfl rfl rfl rfl rfl rfl) ?_
            refine RW.nil ?_
            refine awp_seq ?_
            refine awp_rw rfl ?_
            refine RW.op rfl rfl (eff_fieldAddr rfl rfl tf28_0 (by decide) rfl rfl rfl (Nat.le_of_ble_eq_true rfl)) ?_
            refine RW.op rfl rfl (eff_load (y := .t _) rfl rfl ti3 rfl (.one rfl rfl rfl rfl)) ?_
            refine RW.op rfl rfl (eff_fieldAddr rfl rfl tf47_0 (by decide) rfl rfl rfl (Nat.le_of_ble_eq_true rfl)) ?_
            refine RW.op rfl rfl (eff_load (y := .t _) rfl rfl ti3 rfl (.one rfl rfl rfl rfl)) ?_
            refine RW.op rfl rfl (eff_iop rfl rfl rfl rfl rfl) ?_
            refine RW.op rfl rfl (eff_move (v := .t _) rfl rfl rfl) ?_
            refine RW.split 50 rfl (fun h12 => ?_) (fun h12 => ?_)
            · try simp only [decide_eq_true_eq, decide_eq_false_iff_not, beq_iff_eq, bne_iff_ne, bne_eq_false_iff_eq, beq_eq_false_iff_ne, Bool.not_eq_true, Bool.not_eq_false, Bool.not_eq_true', Bool.not_eq_false', ne_eq] at h12
              refine RW.gskip rfl rfl rfl rfl rfl (by decide) ?_
              refine RW.gskip rfl rfl rfl rfl rfl (by decide) ?_
              refine RW.gskip rfl rfl rfl rfl rfl (by decide) ?_
              refine RW.op rfl rfl (eff_pick (v := .t _) rfl rfl rfl rfl) ?_
              refine RW.op rfl rfl (eff_move (v := .t _) rfl rfl rfl) ?_
              refine RW.gskip rfl rfl rfl rfl rfl (by decide) ?_
              refine RW.gskip rfl rfl rfl rfl rfl (by decide) ?_
              refine RW.gskip rfl rfl rfl rfl rfl (by decide) ?_
              refine RW.op rfl rfl (eff_pick (v := .t _) rfl rfl rfl rfl) ?_
              refine RW.op rfl rfl (eff_move (v := .t _) rfl rfl rfl) ?_
              refine RW.gskip rfl rfl rfl rfl rfl (by decide) ?_
              refine RW.gskip rfl rfl rfl rfl rfl (by decide) ?_
              refine RW.gskip rfl rfl rfl rfl rfl (by decide) ?_
              refine RW.gskip rfl rfl rfl rfl rfl (by decide) ?_
              refine RW.op rfl rfl (eff_pick (v := .t _) rfl rfl rfl rfl) ?_
              refine RW.nil ?_
              refine awp_cond rfl (fun _ => ?_) (fun h => nomatch h)
              refine awp_seq ?_
              refine awp_rw rfl ?_
              refine RW.op rfl rfl (eff_assign (v := .t _) rfl rfl rfl) ?_
              refine RW.nil ?_
              refine awp_ret ?_
              first
                | (rw [show form l i = 1 from by rw [form_at hi]; unfold formR; rw [if_pos (by omega)]]; exact ⟨Or.inr rfl, [_], ⟨.tmp (.t _), trivial⟩, .refl _⟩)
                | (rw [show form l i = 5 from by rw [form_at hi]; unfold formR; rw [if_neg (by omega), if_pos (by omega)]]; exact ⟨Or.inr rfl, [_], ⟨.tmp (.t _), trivial⟩, .refl _⟩)
                | (rw [show form l i = 23 from by rw [form_at hi]; unfold formR; rw [if_neg (by omega), if_neg (by omega), if_pos (by first | omega | (rw [prevT_pos hi (by omega)]; omega) | (have hi0 : i = 0 := (by omega); subst hi0; rw [prevT_0]; omega))]]; exact ⟨Or.inr rfl, [_], ⟨.tmp (.t _), trivial⟩, .refl _⟩)
                | (rw [show form l i = 0 from by rw [form_at hi]; unfold formR; rw [if_neg (by omega), if_neg (by omega), if_neg (by first | omega | (rw [prevT_pos hi (by omega)]; omega) | (have hi0 : i = 0 := (by omega); subst hi0; rw [prevT_0]; omega)), if_pos (by omega)]]; exact ⟨Or.inr rfl, [_], ⟨.tmp (.t _), trivial⟩, .refl _⟩)
                | (rw [show form l i = 1 from by rw [form_at hi]; unfold formR; rw [if_neg (by omega), if_neg (by omega), if_neg (by first | omega | (rw [prevT_pos hi (by omega)]; omega) | (have hi0 : i = 0 := (by omega); subst hi0; rw [prevT_0]; omega)), if_neg (by omega), if_pos (by omega)]]; exact ⟨Or.inr rfl, [_], ⟨.tmp (.t _), trivial⟩, .refl _⟩)
                | (rw [show form l i = 0 from by rw [form_at hi]; unfold formR; rw [if_neg (by omega), if_neg (by omega), if_neg (by first | omega | (rw [prevT_pos hi (by omega)]; omega) | (have hi0 : i = 0 := (by omega); subst hi0; rw [prevT_0]; omega)), if_neg (by omega), if_neg (by omega)]]; exact ⟨Or.inr rfl, [_], ⟨.tmp (.t _), trivial⟩, .refl _⟩)
            · try simp only [decide_eq_true_eq, decide_eq_false_iff_not, beq_iff_eq, bne_iff_ne, bne_eq_false_iff_eq, beq_eq_false_iff_ne, Bool.not_eq_true, Bool.not_eq_false, Bool.not_eq_true', Bool.not_eq_false', ne_eq] at h12
              refine RW.gop rfl rfl rfl rfl rfl rfl (eff_fieldAddr rfl rfl tf28_2 (by decide) rfl rfl rfl (Nat.le_of_ble_eq_true rfl)) ?_
              refine RW.gop rfl rfl rfl rfl rfl rfl (eff_load (y := .t _) rfl rfl ti3 rfl (.one rfl rfl rfl rfl)) ?_
              refine RW.gop rfl rfl rfl rfl rfl rfl (eff_iop rfl rfl rfl rfl rfl) ?_
              refine RW.op rfl rfl (eff_pick (v := .t _) rfl rfl rfl rfl) ?_
              refine RW.op rfl rfl (eff_move (v := .t _) rfl rfl rfl) ?_
              refine RW.split 55 rfl (fun h13 => ?_) (fun h13 => ?_)
              · try simp only [decide_eq_true_eq, decide_eq_false_iff_not, beq_iff_eq, bne_iff_ne, bne_eq_false_iff_eq, beq_eq_false_iff_ne, Bool.not_eq_true, Bool.not_eq_false, Bool.not_eq_true', Bool.not_eq_false', ne_eq] at h13
                refine RW.gskip rfl rfl rfl rfl rfl (by decide) ?_
                refine RW.gskip rfl rfl rfl rfl rfl (by decide) ?_
                refine RW.gskip rfl rfl rfl rfl rfl (by decide) ?_
                refine RW.op rfl rfl (eff_pick (v := .t _) rfl rfl rfl rfl) ?_
                refine RW.op rfl rfl (eff_move (v := .t _) rfl rfl rfl) ?_
                refine RW.gskip rfl rfl rfl rfl rfl (by decide) ?_
                refine RW.gskip rfl rfl rfl rfl rfl (by decide) ?_
                refine RW.gskip rfl rfl rfl rfl rfl (by decide) ?_
                refine RW.gskip rfl rfl rfl rfl rfl (by decide) ?_
                refine RW.op rfl rfl (eff_pick (v := .t _) rfl rfl rfl rfl) ?_
                refine RW.nil ?_
                refine awp_cond rfl (fun _ => ?_) (fun h => nomatch h)
                refine awp_seq ?_
                refine awp_rw rfl ?_
                refine RW.op rfl rfl (eff_assign (v := .t _) rfl rfl rfl) ?_
                refine RW.nil ?_
                refine awp_ret ?_
                first
                  | (rw [show form l i = 1 from by rw [form_at hi]; unfold formR; rw [if_pos (by omega)]]; exact ⟨Or.inr rfl, [_], ⟨.tmp (.t _), trivial⟩, .refl _⟩)
                  | (rw [show form l i = 5 from by rw [form_at hi]; unfold formR; rw [if_neg (by omega), if_pos (by omega)]]; exact ⟨Or.inr rfl, [_], ⟨.tmp (.t _), trivial⟩, .refl _⟩)
                  | (rw [show form l i = 23 from by rw [form_at hi]; unfold formR; rw [if_neg (by omega), if_neg (by omega), if_pos (by first | omega | (rw [prevT_pos hi (by omega)]; omega) | (have hi0 : i = 0 := (by omega); subst hi0; rw [prevT_0]; omega))]]; exact ⟨Or.inr rfl, [_], ⟨.tmp (.t _), trivial⟩, .refl _⟩)
                  | (rw [show form l i = 0 from by rw [form_at hi]; unfold formR; rw [if_neg (by omega), if_neg (by omega), if_neg (by first | omega | (rw [prevT_pos hi (by omega)]; omega) | (have hi0 : i = 0 := (by omega); subst hi0; rw [prevT_0]; omega)), if_pos (by omega)]]; exact ⟨Or.inr rfl, [_], ⟨.tmp (.t _), trivial⟩, .refl _⟩)
                  | (rw [show form l i = 1 from by rw [form_at hi]; unfold formR; rw [if_neg (by omega), if_neg (by omega), if_neg (by first | omega | (rw [prevT_pos hi (by omega)]; omega) | (have hi0 : i = 0 := (by omega); subst hi0; rw [prevT_0]; omega)), if_neg (by omega), if_pos (by omega)]]; exact ⟨Or.inr rfl, [_], ⟨.tmp (.t _), trivial⟩, .refl _⟩)
                  | (rw [show form l i = 0 from by rw [form_at hi]; unfold formR; rw [if_neg (by omega), if_neg (by omega), if_neg (by first | omega | (rw [prevT_pos hi (by omega)]; omega) | (have hi0 : i = 0 := (by omega); subst hi0; rw [prevT_0]; omega)), if_neg (by omega), if_neg (by omega)]]; exact ⟨Or.inr rfl, [_], ⟨.tmp (.t _), trivial⟩, .refl _⟩)
              · try simp only [decide_eq_true_eq, decide_eq_false_iff_not, beq_iff_eq, bne_iff_ne, bne_eq_false_iff_eq, beq_eq_false_iff_ne, Bool.not_eq_true, Bool.not_eq_false, Bool.not_eq_true', Bool.not_eq_false', ne_eq] at h13
                refine RW.gop rfl rfl rfl rfl rfl rfl (eff_fieldAddr rfl rfl tf28_2 (by decide) rfl rfl rfl (Nat.le_of_ble_eq_true rfl)) ?_
                refine RW.gop rfl rfl rfl rfl rfl rfl (eff_load (y := .t _) rfl rfl ti3 rfl (.one rfl rfl rfl rfl)) ?_
                refine RW.gop rfl rfl rfl rfl rfl rfl (eff_iop rfl rfl rfl rfl rfl) ?_
                refine RW.op rfl rfl (eff_pick (v := .t _) rfl rfl rfl rfl) ?_
                refine RW.op rfl rfl (eff_move (v := .t _) rfl rfl rfl) ?_
                refine RW.split 60 rfl (fun h14 => ?_) (fun h14 => ?_)
                · try simp only [decide_eq_true_eq, decide_eq_false_iff_not, beq_iff_eq, bne_iff_ne, bne_eq_false_iff_eq, beq_eq_false_iff_ne, Bool.not_eq_true, Bool.not_eq_false, Bool.not_eq_true', Bool.not_eq_false', ne_eq] at h14
                  refine RW.gskip rfl rfl rfl rfl rfl (by decide) ?_
                  refine RW.gskip rfl rfl rfl rfl rfl (by decide) ?_
                  refine RW.gskip rfl rfl rfl rfl rfl (by decide) ?_
                  refine RW.gskip rfl rfl rfl rfl rfl (by decide) ?_
                  refine RW.op rfl rfl (eff_pick (v := .t _) rfl rfl rfl rfl) ?_
                  refine RW.nil ?_
                  refine awp_cond rfl (fun _ => ?_) (fun h => nomatch h)
                  refine awp_seq ?_
                  refine awp_rw rfl ?_
                  refine RW.op rfl rfl (eff_assign (v := .t _) rfl rfl rfl) ?_
                  refine RW.nil ?_
                  refine awp_ret ?_
                  first
                    | (rw [show form l i = 1 from by rw [form_at hi]; unfold formR; rw [if_pos (by omega)]]; exact ⟨Or.inr rfl, [_], ⟨.tmp (.t _), trivial⟩, .refl _⟩)
                    | (rw [show form l i = 5 from by rw [form_at hi]; unfold formR; rw [if_neg (by omega), if_pos (by omega)]]; exact ⟨Or.inr rfl, [_], ⟨.tmp (.t _), trivial⟩, .refl _⟩)
                    | (rw [show form l i = 23 from by rw [form_at hi]; unfold formR; rw [if_neg (by omega), if_neg (by omega), if_pos (by first | omega | (rw [prevT_pos hi (by omega)]; omega) | (have hi0 : i = 0 := (by omega); subst hi0; rw [prevT_0]; omega))]]; exact ⟨Or.inr rfl, [_], ⟨.tmp (.t _), trivial⟩, .refl _⟩)
                    | (rw [show form l i = 0 from by rw [form_at hi]; unfold formR; rw [if_neg (by omega), if_neg (by omega), if_neg (by first | omega | (rw [prevT_pos hi (by omega)]; omega) | (have hi0 : i = 0 := (by omega); subst hi0; rw [prevT_0]; omega)), if_pos (by omega)]]; exact ⟨Or.inr rfl, [_], ⟨.tmp (.t _), trivial⟩, .refl _⟩)
                    | (rw [show form l i = 1 from by rw [form_at hi]; unfold formR; rw [if_neg (by omega), if_neg (by omega), if_neg (by first | omega | (rw [prevT_pos hi (by omega)]; omega) | (have hi0 : i = 0 := (by omega); subst hi0; rw [prevT_0]; omega)), if_neg (by omega), if_pos (by omega)]]; exact ⟨Or.inr rfl, [_], ⟨.tmp (.t _), trivial⟩, .refl _⟩)
                    | (rw [show form l i = 0 from by rw [form_at hi]; unfold formR; rw [if_neg (by omega), if_neg (by omega), if_neg (by first | omega | (rw [prevT_pos hi (by omega)]; omega) | (have hi0 : i = 0 := (by omega); subst hi0; rw [prevT_0]; omega)), if_neg (by omega), if_neg (by omega)]]; exact ⟨Or.inr rfl, [_], ⟨.tmp (.t _), trivial⟩, .refl _⟩)
                · try simp only [decide_eq_true_eq, decide_eq_false_iff_not, beq_iff_eq, bne_iff_ne, bne_eq_false_iff_eq, beq_eq_false_iff_ne, Bool.not_eq_true, Bool.not_eq_false, Bool.not_eq_true', Bool.not_eq_false', ne_eq] at h14
                  refine RW.gop rfl rfl rfl rfl rfl rfl (eff_fieldAddr rfl rfl tf28_3 (by decide) rfl rfl rfl (Nat.le_of_ble_eq_true rfl)) ?_
                  refine RW.gop rfl rfl rfl rfl rfl rfl (eff_load (y := .t _) rfl rfl ti3 rfl (.one rfl rfl rfl rfl)) ?_
                  refine RW.gop rfl rfl rfl rfl rfl rfl (eff_callT (within_ret _) co70 rfl rfl rfl rfl) ?_
                  refine RW.gop rfl rfl rfl rfl rfl rfl (eff_unop rfl rfl rfl rfl) ?_
                  refine RW.op rfl rfl (eff_pick (v := .t _) rfl rfl rfl rfl) ?_
                  refine RW.nil ?_
                  refine awp_cond rfl (fun h15 => ?_) (fun h15 => ?_)
                  · try simp only [decide_eq_true_eq, decide_eq_false_iff_not, beq_iff_eq, bne_iff_ne, bne_eq_false_iff_eq, beq_eq_false_iff_ne, Bool.not_eq_true, Bool.not_eq_false, Bool.not_eq_true', Bool.not_eq_false', ne_eq] at h15
                    refine awp_seq ?_
                    refine awp_rw rfl ?_
                    refine RW.op rfl rfl (eff_assign (v := .t _) rfl rfl rfl) ?_
                    refine RW.nil ?_
                    refine awp_ret ?_
                    first
                      | (rw [show form l i = 1 from by rw [form_at hi]; unfold formR; rw [if_pos (by omega)]]; exact ⟨Or.inr rfl, [_], ⟨.tmp (.t _), trivial⟩, .refl _⟩)
                      | (rw [show form l i = 5 from by rw [form_at hi]; unfold formR; rw [if_neg (by omega), if_pos (by omega)]]; exact ⟨Or.inr rfl, [_], ⟨.tmp (.t _), trivial⟩, .refl _⟩)
                      | (rw [show form l i = 23 from by rw [form_at hi]; unfold formR; rw [if_neg (by omega), if_neg (by omega), if_pos (by first | omega | (rw [prevT_pos hi (by omega)]; omega) | (have hi0 : i = 0 := (by omega); subst hi0; rw [prevT_0]; omega))]]; exact ⟨Or.inr rfl, [_], ⟨.tmp (.t _), trivial⟩, .refl _⟩)
                      | (rw [show form l i = 0 from by rw [form_at hi]; unfold formR; rw [if_neg (by omega), if_neg (by omega), if_neg (by first | omega | (rw [prevT_pos hi (by omega)]; omega) | (have hi0 : i = 0 := (by omega); subst hi0; rw [prevT_0]; omega)), if_pos (by omega)]]; exact ⟨Or.inr rfl, [_], ⟨.tmp (.t _), trivial⟩, .refl _⟩)
                      | (rw [show form l i = 1 from by rw [form_at hi]; unfold formR; rw [if_neg (by omega), if_neg (by omega), if_neg (by first | omega | (rw [prevT_pos hi (by omega)]; omega) | (have hi0 : i = 0 := (by omega); subst hi0; rw [prevT_0]; omega)), if_neg (by omega), if_pos (by omega)]]; exact ⟨Or.inr rfl, [_], ⟨.tmp (.t _), trivial⟩, .refl _⟩)
                      | (rw [show form l i = 0 from by rw [form_at hi]; unfold formR; rw [if_neg (by omega), if_neg (by omega), if_neg (by first | omega | (rw [prevT_pos hi (by omega)]; omega) | (have hi0 : i = 0 := (by omega); subst hi0; rw [prevT_0]; omega)), if_neg (by omega), if_neg (by omega)]]; exact ⟨Or.inr rfl, [_], ⟨.tmp (.t _), trivial⟩, .refl _⟩)
                  · try simp only [decide_eq_true_eq, decide_eq_false_iff_not, beq_iff_eq, bne_iff_ne, bne_eq_false_iff_eq, beq_eq_false_iff_ne, Bool.not_eq_true, Bool.not_eq_false, Bool.not_eq_true', Bool.not_eq_false', ne_eq] at h15
                    refine awp_skip ?_
                    refine awp_seq ?_
                    refine awp_rw rfl ?_
                    refine RW.op rfl rfl (eff_assign (v := .t _) rfl rfl rfl) ?_
                    refine RW.nil ?_
                    refine awp_ret ?_
                    first
                      | (rw [show form l i = 1 from by rw [form_at hi]; unfold formR; rw [if_pos (by omega)]]; exact ⟨Or.inr rfl, [_], ⟨.tmp (.t _), trivial⟩, .refl _⟩)
                      | (rw [show form l i = 5 from by rw [form_at hi]; unfold formR; rw [if_neg (by omega), if_pos (by omega)]]; exact ⟨Or.inr rfl, [_], ⟨.tmp (.t _), trivial⟩, .refl _⟩)
                      | (rw [show form l i = 23 from by rw [form_at hi]; unfold formR; rw [if_neg (by omega), if_neg (by omega), if_pos (by first | omega | (rw [prevT_pos hi (by omega)]; omega) | (have hi0 : i = 0 := (by omega); subst hi0; rw [prevT_0]; omega))]]; exact ⟨Or.inr rfl, [_], ⟨.tmp (.t _), trivial⟩, .refl _⟩)
                      | (rw [show form l i = 0 from by rw [form_at hi]; unfold formR; rw [if_neg (by omega), if_neg (by omega), if_neg (by first | omega | (rw [prevT_pos hi (by omega)]; omega) | (have hi0 : i = 0 := (by omega); subst hi0; rw [prevT_0]; omega)), if_pos (by omega)]]; exact ⟨Or.inr rfl, [_], ⟨.tmp (.t _), trivial⟩, .refl _⟩)
                      | (rw [show form l i = 1 from by rw [form_at hi]; unfold formR; rw [if_neg (by omega), if_neg (by omega), if_neg (by first | omega | (rw [prevT_pos hi (by omega)]; omega) | (have hi0 : i = 0 := (by omega); subst hi0; rw [prevT_0]; omega)), if_neg (by omega), if_pos (by omega)]]; exact ⟨Or.inr rfl, [_], ⟨.tmp (.t _), trivial⟩, .refl _⟩)
                      | (rw [show form l i = 0 from by rw [form_at hi]; unfold formR; rw [if_neg (by omega), if_neg (by omega), if_neg (by first | omega | (rw [prevT_pos hi (by omega)]; omega) | (have hi0 : i = 0 := (by omega); subst hi0; rw [prevT_0]; omega)), if_neg (by omega), if_neg (by omega)]]; exact ⟨Or.inr rfl, [_], ⟨.tmp (.t _), trivial⟩, .refl _⟩)

theorem rform_ret (l : List Rcd) (i : Nat) (hi : i < l.length) (hl : l.length ≤ 1000000) : Ret Tryd.prog 45 [.sl (l.map encC) false, encI (i : Nat)] (encI (form l i)) := by
  refine ret_of_awp Tryd.func45 rfl (Nat.le_of_ble_eq_true rfl) ?_
  refine awp_seq ?_
  refine awp_rw rfl ?_
  refine RW.op rfl rfl (eff_assign (v := .t _) rfl rfl rfl) ?_
  refine RW.nil ?_
  refine awp_seq ?_
  refine awp_rw rfl ?_
  refine RW.op rfl rfl (eff_move (v := .t _) rfl rfl rfl) ?_
  refine RW.op rfl rfl (eff_move (v := .t _) rfl rfl rfl) ?_
  refine RW.op rfl rfl (eff_indexM (i := i) rfl rfl te32 rfl rfl (by first | rfl | omega) (by first | assumption | exact List.getElem?_eq_getElem (by omega)) rfl (by decide)) ?_
  refine RW.op rfl rfl (eff_loadW rfl rfl ti47 rfl rfl rfl) ?_
  refine RW.new rfl rfl (eff_allocK (k := 15) (id := 5) rfl rfl tz47 rfl rfl) ?_
  refine RW.store rfl rfl (eff_storeW (v := .t _) (els := [_]) (els' := [_]) rfl rfl ti47 rfl rfl rfl rfl rfl rfl rfl rfl rfl) ?_
  refine RW.nil ?_
  refine awp_seq ?_
  refine awp_seq ?_
  refine awp_rw rfl ?_
  refine RW.op rfl rfl (eff_fieldAddr rfl rfl tf47_1 (by decide) rfl rfl rfl (Nat.le_of_ble_eq_true rfl)) ?_
  refine RW.op rfl rfl (eff_load (y := .t _) rfl rfl ti3 rfl (.one rfl rfl rfl rfl)) ?_
  refine RW.op rfl rfl (eff_iop rfl rfl rfl rfl rfl) ?_
  refine RW.op rfl rfl (eff_move (v := .t _) rfl rfl rfl) ?_
  refine RW.split 14 rfl (fun h1 => ?_) (fun h1 => ?_)
  · try simp only [decide_eq_true_eq, decide_eq_false_iff_not, beq_iff_eq, bne_iff_ne, bne_eq_false_iff_eq, beq_eq_false_iff_ne, Bool.not_eq_true, Bool.not_eq_false, Bool.not_eq_true', Bool.not_eq_false', ne_eq] at h1
    refine RW.gskip rfl rfl rfl rfl rfl (by decide) ?_
    refine RW.gskip rfl rfl rfl rfl rfl (by decide) ?_
    refine RW.gskip rfl rfl rfl rfl rfl (by decide) ?_
    refine RW.op rfl rfl (eff_pick (v := .t _) rfl rfl rfl rfl) ?_
    refine RW.nil ?_
    refine awp_cond rfl (fun _ => ?_) (fun h => nomatch h)
    refine awp_seq ?_
    refine awp_rw rfl ?_
    refine RW.op rfl rfl (eff_assign (v := .t _) rfl rfl rfl) ?_
    refine RW.nil ?_
    refine awp_ret ?_
    first
      | (rw [show form l i = 1 from by rw [form_at hi]; unfold formR; rw [if_pos (by omega)]]; exact ⟨Or.inr rfl, [_], ⟨.tmp (.t _), trivial⟩, .refl _⟩)
      | (rw [show form l i = 5 from by rw [form_at hi]; unfold formR; rw [if_neg (by omega), if_pos (by omega)]]; exact ⟨Or.inr rfl, [_], ⟨.tmp (.t _), trivial⟩, .refl _⟩)
      | (rw [show form l i = 23 from by rw [form_at hi]; unfold formR; rw [if_neg (by omega), if_neg (by omega), if_pos (by first | omega | (rw [prevT_pos hi (by omega)]; omega) | (have hi0 : i = 0 := (by omega); subst hi0; rw [prevT_0]; omega))]]; exact ⟨Or.inr rfl, [_], ⟨.tmp (.t _), trivial⟩, .refl _⟩)
      | (rw [show form l i = 0 from by rw [form_at hi]; unfold formR; rw [if_neg (by omega), if_neg (by omega), if_neg (by first | omega | (rw [prevT_pos hi (by omega)]; omega) | (have hi0 : i = 0 := (by omega); subst hi0; rw [prevT_0]; omega)), if_pos (by omega)]]; exact ⟨Or.inr rfl, [_], ⟨.tmp (.t _), trivial⟩, .refl _⟩)
      | (rw [show form l i = 1 from by rw [form_at hi]; unfold formR; rw [if_neg (by omega), if_neg (by omega), if_neg (by first | omega | (rw [prevT_pos hi (by omega)]; omega) | (have hi0 : i = 0 := (by omega); subst hi0; rw [prevT_0]; omega)), if_neg (by omega), if_pos (by omega)]]; exact ⟨Or.inr rfl, [_], ⟨.tmp (.t _), trivial⟩, .refl _⟩)
      | (rw [show form l i = 0 from by rw [form_at hi]; unfold formR; rw [if_neg (by omega), if_neg (by omega), if_neg (by first | omega | (rw [prevT_pos hi (by omega)]; omega) | (have hi0 : i = 0 := (by omega); subst hi0; rw [prevT_0]; omega)), if_neg (by omega), if_neg (by omega)]]; exact ⟨Or.inr rfl, [_], ⟨.tmp (.t _), trivial⟩, .refl _⟩)
  · try simp only [decide_eq_true_eq, decide_eq_false_iff_not, beq_iff_eq, bne_iff_ne, bne_eq_false_iff_eq, beq_eq_false_iff_ne, Bool.not_eq_true, Bool.not_eq_false, Bool.not_eq_true', Bool.not_eq_false', ne_eq] at h1
    refine RW.gop rfl rfl rfl rfl rfl rfl (eff_fieldAddr rfl rfl tf47_1 (by decide) rfl rfl rfl (Nat.le_of_ble_eq_true rfl)) ?_
    refine RW.gop rfl rfl rfl rfl rfl rfl (eff_load (y := .t _) rfl rfl ti3 rfl (.one rfl rfl rfl rfl)) ?_
    refine RW.gop rfl rfl rfl rfl rfl rfl (eff_iop rfl rfl rfl rfl rfl) ?_
    refine RW.op rfl rfl (eff_pick (v := .t _) rfl rfl rfl rfl) ?_
    refine RW.nil ?_
    refine awp_cond rfl (fun h2 => ?_) (fun h2 => ?_)
    · try simp only [decide_eq_true_eq, decide_eq_false_iff_not, beq_iff_eq, bne_iff_ne, bne_eq_false_iff_eq, beq_eq_false_iff_ne, Bool.not_eq_true, Bool.not_eq_false, Bool.not_eq_true', Bool.not_eq_false', ne_eq] at h2
      refine awp_seq ?_
      refine awp_rw rfl ?_
      refine RW.op rfl rfl (eff_assign (v := .t _) rfl rfl rfl) ?_
      refine RW.nil ?_
      refine awp_ret ?_
      first
        | (rw [show form l i = 1 from by rw [form_at hi]; unfold formR; rw [if_pos (by omega)]]; exact ⟨Or.inr rfl, [_], ⟨.tmp (.t _), trivial⟩, .refl _⟩)
        | (rw [show form l i = 5 from by rw [form_at hi]; unfold formR; rw [if_neg (by omega), if_pos (by omega)]]; exact ⟨Or.inr rfl, [_], ⟨.tmp (.t _), trivial⟩, .refl _⟩)
        | (rw [show form l i = 23 from by rw [form_at hi]; unfold formR; rw [if_neg (by omega), if_neg (by omega), if_pos (by first | omega | (rw [prevT_pos hi (by omega)]; omega) | (have hi0 : i = 0 := (by omega); subst hi0; rw [prevT_0]; omega))]]; exact ⟨Or.inr rfl, [_], ⟨.tmp (.t _), trivial⟩, .refl _⟩)
        | (rw [show form l i = 0 from by rw [form_at hi]; unfold formR; rw [if_neg (by omega), if_neg (by omega), if_neg (by first | omega | (rw [prevT_pos hi (by omega)]; omega) | (have hi0 : i = 0 := (by omega); subst hi0; rw [prevT_0]; omega)), if_pos (by omega)]]; exact ⟨Or.inr rfl, [_], ⟨.tmp (.t _), trivial⟩, .refl _⟩)
        | (rw [show form l i = 1 from by rw [form_at hi]; unfold formR; rw [if_neg (by omega), if_neg (by omega), if_neg (by first | omega | (rw [prevT_pos hi (by omega)]; omega) | (have hi0 : i = 0 := (by omega); subst hi0; rw [prevT_0]; omega)), if_neg (by omega), if_pos (by omega)]]; exact ⟨Or.inr rfl, [_], ⟨.tmp (.t _), trivial⟩, .refl _⟩)
        | (rw [show form l i = 0 from by rw [form_at hi]; unfold formR; rw [if_neg (by omega), if_neg (by omega), if_neg (by first | omega | (rw [prevT_pos hi (by omega)]; omega) | (have hi0 : i = 0 := (by omega); subst hi0; rw [prevT_0]; omega)), if_neg (by omega), if_neg (by omega)]]; exact ⟨Or.inr rfl, [_], ⟨.tmp (.t _), trivial⟩, .refl _⟩)
    · try simp only [decide_eq_true_eq, decide_eq_false_iff_not, beq_iff_eq, bne_iff_ne, bne_eq_false_iff_eq, beq_eq_false_iff_ne, Bool.not_eq_true, Bool.not_eq_false, Bool.not_eq_true', Bool.not_eq_false', ne_eq] at h2
      refine awp_skip ?_
      refine awp_seq ?_
      refine awp_seq ?_
      refine awp_rw rfl ?_
      refine RW.op rfl rfl (eff_fieldAddr rfl rfl tf47_0 (by decide) rfl rfl rfl (Nat.le_of_ble_eq_true rfl)) ?_
      refine RW.op rfl rfl (eff_load (y := .t _) rfl rfl ti3 rfl (.one rfl rfl rfl rfl)) ?_
      refine RW.op rfl rfl (eff_iop rfl rfl rfl rfl rfl) ?_
      refine RW.op rfl rfl (eff_move (v := .t _) rfl rfl rfl) ?_
      refine RW.split 22 rfl (fun h3 => ?_) (fun h3 => ?_)
      · try simp only [decide_eq_true_eq, decide_eq_false_iff_not, beq_iff_eq, bne_iff_ne, bne_eq_false_iff_eq, beq_eq_false_iff_ne, Bool.not_eq_true, Bool.not_eq_false, Bool.not_eq_true', Bool.not_eq_false', ne_eq] at h3
        refine RW.gskip rfl rfl rfl rfl rfl (by decide) ?_
        refine RW.gskip rfl rfl rfl rfl rfl (by decide) ?_
        refine RW.gskip rfl rfl rfl rfl rfl (by decide) ?_
        refine RW.op rfl rfl (eff_pick (v := .t _) rfl rfl rfl rfl) ?_
        refine RW.nil ?_
        refine awp_cond rfl (fun _ => ?_) (fun h => nomatch h)
        refine awp_seq ?_
        refine awp_rw rfl ?_
        refine RW.op rfl rfl (eff_assign (v := .t _) rfl rfl rfl) ?_
        refine RW.nil ?_
        refine awp_ret ?_
        first
          | (rw [show form l i = 1 from by rw [form_at hi]; unfold formR; rw [if_pos (by omega)]]; exact ⟨Or.inr rfl, [_], ⟨.tmp (.t _), trivial⟩, .refl _⟩)
          | (rw [show form l i = 5 from by rw [form_at hi]; unfold formR; rw [if_neg (by omega), if_pos (by omega)]]; exact ⟨Or.inr rfl, [_], ⟨.tmp (.t _), trivial⟩, .refl _⟩)
          | (rw [show form l i = 23 from by rw [form_at hi]; unfold formR; rw [if_neg (by omega), if_neg (by omega), if_pos (by first | omega | (rw [prevT_pos hi (by omega)]; omega) | (have hi0 : i = 0 := (by omega); subst hi0; rw [prevT_0]; omega))]]; exact ⟨Or.inr rfl, [_], ⟨.tmp (.t _), trivial⟩, .refl _⟩)
          | (rw [show form l i = 0 from by rw [form_at hi]; unfold formR; rw [if_neg (by omega), if_neg (by omega), if_neg (by first | omega | (rw [prevT_pos hi (by omega)]; omega) | (have hi0 : i = 0 := (by omega); subst hi0; rw [prevT_0]; omega)), if_pos (by omega)]]; exact ⟨Or.inr rfl, [_], ⟨.tmp (.t _), trivial⟩, .refl _⟩)
          | (rw [show form l i = 1 from by rw [form_at hi]; unfold formR; rw [if_neg (by omega), if_neg (by omega), if_neg (by first | omega | (rw [prevT_pos hi (by omega)]; omega) | (have hi0 : i = 0 := (by omega); subst hi0; rw [prevT_0]; omega)), if_neg (by omega), if_pos (by omega)]]; exact ⟨Or.inr rfl, [_], ⟨.tmp (.t _), trivial⟩, .refl _⟩)
          | (rw [show form l i = 0 from by rw [form_at hi]; unfold formR; rw [if_neg (by omega), if_neg (by omega), if_neg (by first | omega | (rw [prevT_pos hi (by omega)]; omega) | (have hi0 : i = 0 := (by omega); subst hi0; rw [prevT_0]; omega)), if_neg (by omega), if_neg (by omega)]]; exact ⟨Or.inr rfl, [_], ⟨.tmp (.t _), trivial⟩, .refl _⟩)
      · try simp only [decide_eq_true_eq, decide_eq_false_iff_not, beq_iff_eq, bne_iff_ne, bne_eq_false_iff_eq, beq_eq_false_iff_ne, Bool.not_eq_true, Bool.not_eq_false, Bool.not_eq_true', Bool.not_eq_false', ne_eq] at h3
        refine RW.gop rfl rfl rfl rfl rfl rfl (eff_fieldAddr rfl rfl tf47_0 (by decide) rfl rfl rfl (Nat.le_of_ble_eq_true rfl)) ?_
        refine RW.gop rfl rfl rfl rfl rfl rfl (eff_load (y := .t _) rfl rfl ti3 rfl (.one rfl rfl rfl rfl)) ?_
        refine RW.gop rfl rfl rfl rfl rfl rfl (eff_iop rfl rfl rfl rfl rfl) ?_
        refine RW.op rfl rfl (eff_pick (v := .t _) rfl rfl rfl rfl) ?_
        refine RW.nil ?_
        refine awp_cond rfl (fun h4 => ?_) (fun h4 => ?_)
        · try simp only [decide_eq_true_eq, decide_eq_false_iff_not, beq_iff_eq, bne_iff_ne, bne_eq_false_iff_eq, beq_eq_false_iff_ne, Bool.not_eq_true, Bool.not_eq_false, Bool.not_eq_true', Bool.not_eq_false', ne_eq] at h4
          refine awp_seq ?_
          refine awp_rw rfl ?_
          refine RW.op rfl rfl (eff_assign (v := .t _) rfl rfl rfl) ?_
          refine RW.nil ?_
          refine awp_ret ?_
          first
            | (rw [show form l i = 1 from by rw [form_at hi]; unfold formR; rw [if_pos (by omega)]]; exact ⟨Or.inr rfl, [_], ⟨.tmp (.t _), trivial⟩, .refl _⟩)
            | (rw [show form l i = 5 from by rw [form_at hi]; unfold formR; rw [if_neg (by omega), if_pos (by omega)]]; exact ⟨Or.inr rfl, [_], ⟨.tmp (.t _), trivial⟩, .refl _⟩)
            | (rw [show form l i = 23 from by rw [form_at hi]; unfold formR; rw [if_neg (by omega), if_neg (by omega), if_pos (by first | omega | (rw [prevT_pos hi (by omega)]; omega) | (have hi0 : i = 0 := (by omega); subst hi0; rw [prevT_0]; omega))]]; exact ⟨Or.inr rfl, [_], ⟨.tmp (.t _), trivial⟩, .refl _⟩)
            | (rw [show form l i = 0 from by rw [form_at hi]; unfold formR; rw [if_neg (by omega), if_neg (by omega), if_neg (by first | omega | (rw [prevT_pos hi (by omega)]; omega) | (have hi0 : i = 0 := (by omega); subst hi0; rw [prevT_0]; omega)), if_pos (by omega)]]; exact ⟨Or.inr rfl, [_], ⟨.tmp (.t _), trivial⟩, .refl _⟩)
            | (rw [show form l i = 1 from by rw [form_at hi]; unfold formR; rw [if_neg (by omega), if_neg (by omega), if_neg (by first | omega | (rw [prevT_pos hi (by omega)]; omega) | (have hi0 : i = 0 := (by omega); subst hi0; rw [prevT_0]; omega)), if_neg (by omega), if_pos (by omega)]]; exact ⟨Or.inr rfl, [_], ⟨.tmp (.t _), trivial⟩, .refl _⟩)
            | (rw [show form l i = 0 from by rw [form_at hi]; unfold formR; rw [if_neg (by omega), if_neg (by omega), if_neg (by first | omega | (rw [prevT_pos hi (by omega)]; omega) | (have hi0 : i = 0 := (by omega); subst hi0; rw [prevT_0]; omega)), if_neg (by omega), if_neg (by omega)]]; exact ⟨Or.inr rfl, [_], ⟨.tmp (.t _), trivial⟩, .refl _⟩)
        · try simp only [decide_eq_true_eq, decide_eq_false_iff_not, beq_iff_eq, bne_iff_ne, bne_eq_false_iff_eq, beq_eq_false_iff_ne, Bool.not_eq_true, Bool.not_eq_false, Bool.not_eq_true', Bool.not_eq_false', ne_eq] at h4
          refine awp_skip ?_
          refine awp_seq ?_
          refine awp_seq ?_
          by_cases hc5 : 0 < i
          · refine awp_rd [(some 27, []), (some 28, []), (some 29, []), (some 30, []), (some 31, []), (some 32, []), (some 33, []), (some 34, []), (some 35, []), (some 36, []), (some 37, []), (some 38, []), (some 39, []), (some 40, [])] [[], [0], [0, 1], [0, 1, 2], [0, 1, 2, 3], [0, 1, 2], [0, 1, 2], [0, 1, 2, 6], [0, 1, 2, 6, 7], [0, 1, 2, 5, 6, 7, 8], [0, 1, 2, 5, 6, 7, 8, 9], [0, 1, 2, 5, 6, 7, 8, 9, 10], [0, 1, 2, 3, 4, 5, 6, 7, 8, 9, 10, 11], [0, 1, 2, 3, 4, 5, 6, 7, 8, 9, 10, 11, 12]] tm rfl rfl rfl rfl ?_
            refine RD.op rfl rfl rfl (eff_move (v := .t _) rfl rfl rfl) ?_
            refine RD.op rfl rfl rfl (eff_iop (r := .bool true) rfl rfl rfl rfl (by simp [iop, hc5])) ?_
            refine RD.op rfl rfl rfl (eff_move (v := .t _) rfl rfl rfl) ?_
            refine RD.gop rfl rfl rfl rfl rfl rfl rfl (eff_fieldAddr rfl rfl tf47_0 (by decide) rfl rfl rfl (Nat.le_of_ble_eq_true rfl)) ?_
            refine RD.gop rfl rfl rfl rfl rfl rfl rfl (eff_load (y := .t _) rfl rfl ti3 rfl (.one rfl rfl rfl rfl)) ?_
            refine RD.gop rfl rfl rfl rfl rfl rfl rfl (eff_move (v := .t _) rfl rfl rfl) ?_
            refine RD.gop rfl rfl rfl rfl rfl rfl rfl (eff_move (v := .t _) rfl rfl rfl) ?_
            refine RD.gop rfl rfl rfl rfl rfl rfl rfl (eff_iop rfl rfl rfl rfl (isub (by omega))) ?_
            refine RD.gop rfl rfl rfl rfl rfl rfl rfl (eff_maxE (r := ((i - 1 : Nat) : Int)) rfl rfl rfl rfl (by unfold imax; split <;> omega)) ?_
            refine RD.gop rfl rfl rfl rfl rfl rfl rfl (eff_indexM (i := i - 1) rfl rfl te32 rfl rfl (by first | rfl | omega) (by exact List.getElem?_eq_getElem (by omega)) rfl (by decide)) ?_
            refine RD.gop rfl rfl rfl rfl rfl rfl rfl (eff_fieldAddrT rfl rfl tf47_0 (by decide) rfl) ?_
            refine RD.gop rfl rfl rfl rfl rfl rfl rfl (eff_loadT1 rfl rfl ti3 rfl rfl) ?_
            refine RD.gop rfl rfl rfl rfl rfl rfl rfl (eff_iop rfl rfl rfl rfl rfl) ?_
            refine RD.op rfl rfl rfl (eff_pick (v := .t _) rfl rfl rfl rfl) ?_
            refine RD.nil ?_
            refine awp_cond rfl (fun h6 => ?_) (fun h6 => ?_)
            · try simp only [decide_eq_true_eq, decide_eq_false_iff_not, beq_iff_eq, bne_iff_ne, bne_eq_false_iff_eq, beq_eq_false_iff_ne, Bool.not_eq_true, Bool.not_eq_false, Bool.not_eq_true', Bool.not_eq_false', ne_eq] at h6
              refine awp_seq ?_
              refine awp_rw rfl ?_
              refine RW.op rfl rfl (eff_assign (v := .t _) rfl rfl rfl) ?_
              refine RW.nil ?_
              refine awp_ret ?_
              first
                | (rw [show form l i = 1 from by rw [form_at hi]; unfold formR; rw [if_pos (by omega)]]; exact ⟨Or.inr rfl, [_], ⟨.tmp (.t _), trivial⟩, .refl _⟩)
                | (rw [show form l i = 5 from by rw [form_at hi]; unfold formR; rw [if_neg (by omega), if_pos (by omega)]]; exact ⟨Or.inr rfl, [_], ⟨.tmp (.t _), trivial⟩, .refl _⟩)
                | (rw [show form l i = 23 from by rw [form_at hi]; unfold formR; rw [if_neg (by omega), if_neg (by omega), if_pos (by first | omega | (rw [prevT_pos hi (by omega)]; omega) | (have hi0 : i = 0 := (by omega); subst hi0; rw [prevT_0]; omega))]]; exact ⟨Or.inr rfl, [_], ⟨.tmp (.t _), trivial⟩, .refl _⟩)
                | (rw [show form l i = 0 from by rw [form_at hi]; unfold formR; rw [if_neg (by omega), if_neg (by omega), if_neg (by first | omega | (rw [prevT_pos hi (by omega)]; omega) | (have hi0 : i = 0 := (by omega); subst hi0; rw [prevT_0]; omega)), if_pos (by omega)]]; exact ⟨Or.inr rfl, [_], ⟨.tmp (.t _), trivial⟩, .refl _⟩)
                | (rw [show form l i = 1 from by rw [form_at hi]; unfold formR; rw [if_neg (by omega), if_neg (by omega), if_neg (by first | omega | (rw [prevT_pos hi (by omega)]; omega) | (have hi0 : i = 0 := (by omega); subst hi0; rw [prevT_0]; omega)), if_neg (by omega), if_pos (by omega)]]; exact ⟨Or.inr rfl, [_], ⟨.tmp (.t _), trivial⟩, .refl _⟩)
                | (rw [show form l i = 0 from by rw [form_at hi]; unfold formR; rw [if_neg (by omega), if_neg (by omega), if_neg (by first | omega | (rw [prevT_pos hi (by omega)]; omega) | (have hi0 : i = 0 := (by omega); subst hi0; rw [prevT_0]; omega)), if_neg (by omega), if_neg (by omega)]]; exact ⟨Or.inr rfl, [_], ⟨.tmp (.t _), trivial⟩, .refl _⟩)
            · try simp only [decide_eq_true_eq, decide_eq_false_iff_not, beq_iff_eq, bne_iff_ne, bne_eq_false_iff_eq, beq_eq_false_iff_ne, Bool.not_eq_true, Bool.not_eq_false, Bool.not_eq_true', Bool.not_eq_false', ne_eq] at h6
              refine awp_skip ?_
              refine awp_seq ?_
              refine awp_rw rfl ?_
              refine RW.op rfl rfl (eff_fieldAddr rfl rfl tf47_4 (by decide) rfl rfl rfl (Nat.le_of_ble_eq_true rfl)) ?_
              refine RW.op rfl rfl (eff_loadS (ys := [_, _, _, _]) rfl rfl ti28 rfl rfl rfl rfl rfl rfl) ?_
              refine RW.new rfl rfl (eff_allocK (k := 4) (id := 6) rfl rfl tz28 rfl rfl) ?_
              refine RW.store rfl rfl (eff_storeW (v := .t _) (els := [_]) (els' := [_]) rfl rfl ti28 rfl rfl rfl rfl rfl rfl rfl rfl rfl) ?_
              refine RW.nil ?_
              refine awp_seq ?_
              refine awp_seq ?_
              refine awp_rw rfl ?_
              refine RW.op rfl rfl (eff_fieldAddr rfl rfl tf47_1 (by decide) rfl rfl rfl (Nat.le_of_ble_eq_true rfl)) ?_
              refine RW.op rfl rfl (eff_load (y := .t _) rfl rfl ti3 rfl (.one rfl rfl rfl rfl)) ?_
              refine RW.op rfl rfl (eff_iop rfl rfl rfl rfl rfl) ?_
              refine RW.op rfl rfl (eff_move (v := .t _) rfl rfl rfl) ?_
              refine RW.split 46 rfl (fun h7 => ?_) (fun h7 => ?_)
              · try simp only [decide_eq_true_eq, decide_eq_false_iff_not, beq_iff_eq, bne_iff_ne, bne_eq_false_iff_eq, beq_eq_false_iff_ne, Bool.not_eq_true, Bool.not_eq_false, Bool.not_eq_true', Bool.not_eq_false', ne_eq] at h7
                refine RW.gop rfl rfl rfl rfl rfl rfl (eff_fieldAddr rfl rfl tf28_0 (by decide) rfl rfl rfl (Nat.le_of_ble_eq_true rfl)) ?_
                refine RW.gop rfl rfl rfl rfl rfl rfl (eff_load (y := .t _) rfl rfl ti3 rfl (.one rfl rfl rfl rfl)) ?_
                refine RW.gop rfl rfl rfl rfl rfl rfl (eff_fieldAddr rfl rfl tf47_0 (by decide) rfl rfl rfl (Nat.le_of_ble_eq_true rfl)) ?_
                refine RW.gop rfl rfl rfl rfl rfl rfl (eff_load (y := .t _) rfl rfl ti3 rfl (.one rfl rfl rfl rfl)) ?_
                refine RW.gop rfl rfl rfl rfl rfl rfl (eff_iop rfl rfl rfl rfl rfl) ?_
                refine RW.gop rfl rfl rfl rfl rfl rfl (eff_move (v := .t _) rfl rfl rfl) ?_
                refine RW.split 52 rfl (fun h8 => ?_) (fun h8 => ?_)
                · try simp only [decide_eq_true_eq, decide_eq_false_iff_not, beq_iff_eq, bne_iff_ne, bne_eq_false_iff_eq, beq_eq_false_iff_ne, Bool.not_eq_true, Bool.not_eq_false, Bool.not_eq_true', Bool.not_eq_false', ne_eq] at h8
                  refine RW.gskip rfl rfl rfl rfl rfl (by decide) ?_
                  refine RW.gskip rfl rfl rfl rfl rfl (by decide) ?_
                  refine RW.gskip rfl rfl rfl rfl rfl (by decide) ?_
                  refine RW.gop rfl rfl rfl rfl rfl rfl (eff_pick (v := .t _) rfl rfl rfl rfl) ?_
                  refine RW.gop rfl rfl rfl rfl rfl rfl (eff_move (v := .t _) rfl rfl rfl) ?_
                  refine RW.gskip rfl rfl rfl rfl rfl (by decide) ?_
                  refine RW.gskip rfl rfl rfl rfl rfl (by decide) ?_
                  refine RW.gskip rfl rfl rfl rfl rfl (by decide) ?_
                  refine RW.gop rfl rfl rfl rfl rfl rfl (eff_pick (v := .t _) rfl rfl rfl rfl) ?_
                  refine RW.gop rfl rfl rfl rfl rfl rfl (eff_move (v := .t _) rfl rfl rfl) ?_
                  refine RW.gskip rfl rfl rfl rfl rfl (by decide) ?_
                  refine RW.gskip rfl rfl rfl rfl rfl (by decide) ?_
                  refine RW.gskip rfl rfl rfl rfl rfl (by decide) ?_
                  refine RW.gop rfl rfl rfl rfl rfl rfl (eff_pick (v := .t _) rfl rfl rfl rfl) ?_
                  refine RW.gop rfl rfl rfl rfl rfl rfl (eff_move (v := .t _) rfl rfl rfl) ?_
                  refine RW.gskip rfl rfl rfl rfl rfl (by decide) ?_
                  refine RW.gskip rfl rfl rfl rfl rfl (by decide) ?_
                  refine RW.gskip rfl rfl rfl rfl rfl (by decide) ?_
                  refine RW.gop rfl rfl rfl rfl rfl rfl (eff_pick (v := .t _) rfl rfl rfl rfl) ?_
                  refine RW.op rfl rfl (eff_pick (v := .t _) rfl rfl rfl rfl) ?_
                  refine RW.nil ?_
                  refine awp_cond rfl (fun _ => ?_) (fun h => nomatch h)
                  refine awp_seq ?_
                  refine awp_rw rfl ?_
                  refine RW.op rfl rfl (eff_assign (v := .t _) rfl rfl rfl) ?_
                  refine RW.nil ?_
                  refine awp_ret ?_
                  first
                    | (rw [show form l i = 1 from by rw [form_at hi]; unfold formR; rw [if_pos (by omega)]]; exact ⟨Or.inr rfl, [_], ⟨.tmp (.t _), trivial⟩, .refl _⟩)
                    | (rw [show form l i = 5 from by rw [form_at hi]; unfold formR; rw [if_neg (by omega), if_pos (by omega)]]; exact ⟨Or.inr rfl, [_], ⟨.tmp (.t _), trivial⟩, .refl _⟩)
                    | (rw [show form l i = 23 from by rw [form_at hi]; unfold formR; rw [if_neg (by omega), if_neg (by omega), if_pos (by first | omega | (rw [prevT_pos hi (by omega)]; omega) | (have hi0 : i = 0 := (by omega); subst hi0; rw [prevT_0]; omega))]]; exact ⟨Or.inr rfl, [_], ⟨.tmp (.t _), trivial⟩, .refl _⟩)
                    | (rw [show form l i = 0 from by rw [form_at hi]; unfold formR; rw [if_neg (by omega), if_neg (by omega), if_neg (by first | omega | (rw [prevT_pos hi (by omega)]; omega) | (have hi0 : i = 0 := (by omega); subst hi0; rw [prevT_0]; omega)), if_pos (by omega)]]; exact ⟨Or.inr rfl, [_], ⟨.tmp (.t _), trivial⟩, .refl _⟩)
                    | (rw [show form l i = 1 from by rw [form_at hi]; unfold formR; rw [if_neg (by omega), if_neg (by omega), if_neg (by first | omega | (rw [prevT_pos hi (by omega)]; omega) | (have hi0 : i = 0 := (by omega); subst hi0; rw [prevT_0]; omega)), if_neg (by omega), if_pos (by omega)]]; exact ⟨Or.inr rfl, [_], ⟨.tmp (.t _), trivial⟩, .refl _⟩)
                    | (rw [show form l i = 0 from by rw [form_at hi]; unfold formR; rw [if_neg (by omega), if_neg (by omega), if_neg (by first | omega | (rw [prevT_pos hi (by omega)]; omega) | (have hi0 : i = 0 := (by omega); subst hi0; rw [prevT_0]; omega)), if_neg (by omega), if_neg (by omega)]]; exact ⟨Or.inr rfl, [_], ⟨.tmp (.t _), trivial⟩, .refl _⟩)
                · try simp only [decide_eq_true_eq, decide_eq_false_iff_not, beq_iff_eq, bne_iff_ne, bne_eq_false_iff_eq, beq_eq_false_iff_ne, Bool.not_eq_true, Bool.not_eq_false, Bool.not_eq_true', Bool.not_eq_false', ne_eq] at h8
                  refine RW.gop rfl rfl rfl rfl rfl rfl (eff_fieldAddr rfl rfl tf28_2 (by decide) rfl rfl rfl (Nat.le_of_ble_eq_true rfl)) ?_
                  refine RW.gop rfl rfl rfl rfl rfl rfl (eff_load (y := .t _) rfl rfl ti3 rfl (.one rfl rfl rfl rfl)) ?_
                  refine RW.gop rfl rfl rfl rfl rfl rfl (eff_iop rfl rfl rfl rfl rfl) ?_
                  refine RW.gop rfl rfl rfl rfl rfl rfl (eff_pick (v := .t _) rfl rfl rfl rfl) ?_
                  refine RW.gop rfl rfl rfl rfl rfl rfl (eff_move (v := .t _) rfl rfl rfl) ?_
                  refine RW.split 57 rfl (fun h9 => ?_) (fun h9 => ?_)
                  · try simp only [decide_eq_true_eq, decide_eq_false_iff_not, beq_iff_eq, bne_iff_ne, bne_eq_false_iff_eq, beq_eq_false_iff_ne, Bool.not_eq_true, Bool.not_eq_false, Bool.not_eq_true', Bool.not_eq_false', ne_eq] at h9
                    refine RW.gskip rfl rfl rfl rfl rfl (by decide) ?_
                    refine RW.gskip rfl rfl rfl rfl rfl (by decide) ?_
                    refine RW.gskip rfl rfl rfl rfl rfl (by decide) ?_
                    refine RW.gop rfl rfl rfl rfl rfl rfl (eff_pick (v := .t _) rfl rfl rfl rfl) ?_
                    refine RW.gop rfl rfl rfl rfl rfl rfl (eff_move (v := .t _) rfl rfl rfl) ?_
                    refine RW.gskip rfl rfl rfl rfl rfl (by decide) ?_
                    refine RW.gskip rfl rfl rfl rfl rfl (by decide) ?_
                    refine RW.gskip rfl rfl rfl rfl rfl (by decide) ?_
                    refine RW.gop rfl rfl rfl rfl rfl rfl (eff_pick (v := .t _) rfl rfl rfl rfl) ?_
                    refine RW.gop rfl rfl rfl rfl rfl rfl (eff_move (v := .t _) rfl rfl rfl) ?_
                    refine RW.gskip rfl rfl rfl rfl rfl (by decide) ?_
                    refine RW.gskip rfl rfl rfl rfl rfl (by decide) ?_
                    refine RW.gskip rfl rfl rfl rfl rfl (by decide) ?_
                    refine RW.gop rfl rfl rfl rfl rfl rfl (eff_pick (v := .t _) rfl rfl rfl rfl) ?_
                    refine RW.op rfl rfl (eff_pick (v := .t _) rfl rfl rfl rfl) ?_
                    refine RW.nil ?_
                    refine awp_cond rfl (fun _ => ?_) (fun h => nomatch h)
                    refine awp_seq ?_
                    refine awp_rw rfl ?_
                    refine RW.op rfl rfl (eff_assign (v := .t _) rfl rfl rfl) ?_
                    refine RW.nil ?_
                    refine awp_ret ?_
                    first
                      | (rw [show form l i = 1 from by rw [form_at hi]; unfold formR; rw [if_pos (by omega)]]; exact ⟨Or.inr rfl, [_], ⟨.tmp (.t _), trivial⟩, .refl _⟩)
                      | (rw [show form l i = 5 from by rw [form_at hi]; unfold formR; rw [if_neg (by omega), if_pos (by omega)]]; exact ⟨Or.inr rfl, [_], ⟨.tmp (.t _), trivial⟩, .refl _⟩)
                      | (rw [show form l i = 23 from by rw [form_at hi]; unfold formR; rw [if_neg (by omega), if_neg (by omega), if_pos (by first | omega | (rw [prevT_pos hi (by omega)]; omega) | (have hi0 : i = 0 := (by omega); subst hi0; rw [prevT_0]; omega))]]; exact ⟨Or.inr rfl, [_], ⟨.tmp (.t _), trivial⟩, .refl _⟩)
                      | (rw [show form l i = 0 from by rw [form_at hi]; unfold formR; rw [if_neg (by omega), if_neg (by omega), if_neg (by first | omega | (rw [prevT_pos hi (by omega)]; omega) | (have hi0 : i = 0 := (by omega); subst hi0; rw [prevT_0]; omega)), if_pos (by omega)]]; exact ⟨Or.inr rfl, [_], ⟨.tmp (.t _), trivial⟩, .refl _⟩)
                      | (rw [show form l i = 1 from by rw [form_at hi]; unfold formR; rw [if_neg (by omega), if_neg (by omega), if_neg (by first | omega | (rw [prevT_pos hi (by omega)]; omega) | (have hi0 : i = 0 := (by omega); subst hi0; rw [prevT_0]; omega)), if_neg (by omega), if_pos (by omega)]]; exact ⟨Or.inr rfl, [_], ⟨.tmp (.t _), trivial⟩, .refl _⟩)
                      | (rw [show form l i = 0 from by rw [form_at hi]; unfold formR; rw [if_neg (by omega), if_neg (by omega), if_neg (by first | omega | (rw [prevT_pos hi (by omega)]; omega) | (have hi0 : i = 0 := (by omega); subst hi0; rw [prevT_0]; omega)), if_neg (by omega), if_neg (by omega)]]; exact ⟨Or.inr rfl, [_], ⟨.tmp (.t _), trivial⟩, .refl _⟩)
                  · try simp only [decide_eq_true_eq, decide_eq_false_iff_not, beq_iff_eq, bne_iff_ne, bne_eq_false_iff_eq, beq_eq_false_iff_ne, Bool.not_eq_true, Bool.not_eq_false, Bool.not_eq_true', Bool.not_eq_false', ne_eq] at h9
                    refine RW.gop rfl rfl rfl rfl rfl rfl (eff_fieldAddr rfl rfl tf28_2 (by decide) rfl rfl rfl (Nat.le_of_ble_eq_true rfl)) ?_
                    refine RW.gop rfl rfl rfl rfl rfl rfl (eff_load (y := .t _) rfl rfl ti3 rfl (.one rfl rfl rfl rfl)) ?_
                    refine RW.gop rfl rfl rfl rfl rfl rfl (eff_iop rfl rfl rfl rfl rfl) ?_
                    refine RW.gop rfl rfl rfl rfl rfl rfl (eff_pick (v := .t _) rfl rfl rfl rfl) ?_
                    refine RW.gop rfl rfl rfl rfl rfl rfl (eff_move (v := .t _) rfl rfl rfl) ?_
                    refine RW.split 62 rfl (fun h10 => ?_) (fun h10 => ?_)
                    · try simp only [decide_eq_true_eq, decide_eq_false_iff_not, beq_iff_eq, bne_iff_ne, bne_eq_false_iff_eq, beq_eq_false_iff_ne, Bool.not_eq_true, Bool.not_eq_false, Bool.not_eq_true', Bool.not_eq_false', ne_eq] at h10
                      refine RW.gskip rfl rfl rfl rfl rfl (by decide) ?_
                      refine RW.gskip rfl rfl rfl rfl rfl (by decide) ?_
                      refine RW.gskip rfl rfl rfl rfl rfl (by decide) ?_
                      refine RW.gop rfl rfl rfl rfl rfl rfl (eff_pick (v := .t _) rfl rfl rfl rfl) ?_
                      refine RW.gop rfl rfl rfl rfl rfl rfl (eff_move (v := .t _) rfl rfl rfl) ?_
                      refine RW.gskip rfl rfl rfl rfl rfl (by decide) ?_
                      refine RW.gskip rfl rfl rfl rfl rfl (by decide) ?_
                      refine RW.gskip rfl rfl rfl rfl rfl (by decide) ?_
                      refine RW.gop rfl rfl rfl rfl rfl rfl (eff_pick (v := .t _) rfl rfl rfl rfl) ?_
                      refine RW.op rfl rfl (eff_pick (v := .t _) rfl rfl rfl rfl) ?_
                      refine RW.nil ?_
                      refine awp_cond rfl (fun _ => ?_) (fun h => nomatch h)
                      refine awp_seq ?_
                      refine awp_rw rfl ?_
                      refine RW.op rfl rfl (eff_assign (v := .t _) rfl rfl rfl) ?_
                      refine RW.nil ?_
                      refine awp_ret ?_
                      first
                        | (rw [show form l i = 1 from by rw [form_at hi]; unfold formR; rw [if_pos (by omega)]]; exact ⟨Or.inr rfl, [_], ⟨.tmp (.t _), trivial⟩, .refl _⟩)
                        | (rw [show form l i = 5 from by rw [form_at hi]; unfold formR; rw [if_neg (by omega), if_pos (by omega)]]; exact ⟨Or.inr rfl, [_], ⟨.tmp (.t _), trivial⟩, .refl _⟩)
                        | (rw [show form l i = 23 from by rw [form_at hi]; unfold formR; rw [if_neg (by omega), if_neg (by omega), if_pos (by first | omega | (rw [prevT_pos hi (by omega)]; omega) | (have hi0 : i = 0 := (by omega); subst hi0; rw [prevT_0]; omega))]]; exact ⟨Or.inr rfl, [_], ⟨.tmp (.t _), trivial⟩, .refl _⟩)
                        | (rw [show form l i = 0 from by rw [form_at hi]; unfold formR; rw [if_neg (by omega), if_neg (by omega), if_neg (by first | omega | (rw [prevT_pos hi (by omega)]; omega) | (have hi0 : i = 0 := (by omega); subst hi0; rw [prevT_0]; omega)), if_pos (by omega)]]; exact ⟨Or.inr rfl, [_], ⟨.tmp (.t _), trivial⟩, .refl _⟩)
                        | (rw [show form l i = 1 from by rw [form_at hi]; unfold formR; rw [if_neg (by omega), if_neg (by omega), if_neg (by first | omega | (rw [prevT_pos hi (by omega)]; omega) | (have hi0 : i = 0 := (by omega); subst hi0; rw [prevT_0]; omega)), if_neg (by omega), if_pos (by omega)]]; exact ⟨Or.inr rfl, [_], ⟨.tmp (.t _), trivial⟩, .refl _⟩)
                        | (rw [show form l i = 0 from by rw [form_at hi]; unfold formR; rw [if_neg (by omega), if_neg (by omega), if_neg (by first | omega | (rw [prevT_pos hi (by omega)]; omega) | (have hi0 : i = 0 := (by omega); subst hi0; rw [prevT_0]; omega)), if_neg (by omega), if_neg (by omega)]]; exact ⟨Or.inr rfl, [_], ⟨.tmp (.t _), trivial⟩, .refl _⟩)
                    · try simp only [decide_eq_true_eq, decide_eq_false_iff_not, beq_iff_eq, bne_iff_ne, bne_eq_false_iff_eq, beq_eq_false_iff_ne, Bool.not_eq_true, Bool.not_eq_false, Bool.not_eq_true', Bool.not_eq_false', ne_eq] at h10
                      refine RW.gop rfl rfl rfl rfl rfl rfl (eff_fieldAddr rfl rfl tf28_3 (by decide) rfl rfl rfl (Nat.le_of_ble_eq_true rfl)) ?_
                      refine RW.gop rfl rfl rfl rfl rfl rfl (eff_load (y := .t _) rfl rfl ti3 rfl (.one rfl rfl rfl rfl)) ?_
                      refine RW.gop rfl rfl rfl rfl rfl rfl (eff_iop rfl rfl rfl rfl rfl) ?_
                      refine RW.gop rfl rfl rfl rfl rfl rfl (eff_pick (v := .t _) rfl rfl rfl rfl) ?_
                      refine RW.gop rfl rfl rfl rfl rfl rfl (eff_move (v := .t _) rfl rfl rfl) ?_
                      refine RW.split 67 rfl (fun h11 => ?_) (fun h11 => ?_)
                      · try simp only [decide_eq_true_eq, decide_eq_false_iff_not, beq_iff_eq, bne_iff_ne, bne_eq_false_iff_eq, beq_eq_false_iff_ne, Bool.not_eq_true, Bool.not_eq_false, Bool.not_eq_true', Bool.not_eq_false', ne_eq] at h11
                        refine RW.gskip rfl rfl rfl rfl rfl (by decide) ?_
                        refine RW.gskip rfl rfl rfl rfl rfl (by decide) ?_
                        refine RW.gskip rfl rfl rfl rfl rfl (by decide) ?_
                        refine RW.gop rfl rfl rfl rfl rfl rfl (eff_pick (v := .t _) rfl rfl rfl rfl) ?_
                        refine RW.op rfl rfl (eff_pick (v := .t _) rfl rfl rfl rfl) ?_
                        refine RW.nil ?_
                        refine awp_cond rfl (fun _ => ?_) (fun h => nomatch h)
                        refine awp_seq ?_
                        refine awp_rw rfl ?_
                        refine RW.op rfl rfl (eff_assign (v := .t _) rfl rfl rfl) ?_
                        refine RW.nil ?_
                        refine awp_ret ?_
                        first
                          | (rw [show form l i = 1 from by rw [form_at hi]; unfold formR; rw [if_pos (by omega)]]; exact ⟨Or.inr rfl, [_], ⟨.tmp (.t _), trivial⟩, .refl _⟩)
                          | (rw [show form l i = 5 from by rw [form_at hi]; unfold formR; rw [if_neg (by omega), if_pos (by omega)]]; exact ⟨Or.inr rfl, [_], ⟨.tmp (.t _), trivial⟩, .refl _⟩)
                          | (rw [show form l i = 23 from by rw [form_at hi]; unfold formR; rw [if_neg (by omega), if_neg (by omega), if_pos (by first | omega | (rw [prevT_pos hi (by omega)]; omega) | (have hi0 : i = 0 := (by omega); subst hi0; rw [prevT_0]; omega))]]; exact ⟨Or.inr rfl, [_], ⟨.tmp (.t _), trivial⟩, .refl _⟩)
                          | (rw [show form l i = 0 from by rw [form_at hi]; unfold formR; rw [if_neg (by omega), if_neg (by omega), if_neg (by first | omega | (rw [prevT_pos hi (by omega)]; omega) | (have hi0 : i = 0 := (by omega); subst hi0; rw [prevT_0]; omega)), if_pos (by omega)]]; exact ⟨Or.inr rfl, [_], ⟨.tmp (.t _), trivial⟩, .refl _⟩)
                          | (rw [show form l i = 1 from by rw [form_at hi]; unfold formR; rw [if_neg (by omega), if_neg (by omega), if_neg (by first | omega | (rw [prevT_pos hi (by omega)]; omega) | (have hi0 : i = 0 := (by omega); subst hi0; rw [prevT_0]; omega)), if_neg (by omega), if_pos (by omega)]]; exact ⟨Or.inr rfl, [_], ⟨.tmp (.t _), trivial⟩, .refl _⟩)
                          | (rw [show form l i = 0 from by rw [form_at hi]; unfold formR; rw [if_neg (by omega), if_neg (by omega), if_neg (by first | omega | (rw [prevT_pos hi (by omega)]; omega) | (have hi0 : i = 0 := (by omega); subst hi0; rw [prevT_0]; omega)), if_neg (by omega), if_neg (by omega)]]; exact ⟨Or.inr rfl, [_], ⟨.tmp (.t _), trivial⟩, .refl _⟩)
                      · try simp only [decide_eq_true_eq, decide_eq_false_iff_not, beq_iff_eq, bne_iff_ne, bne_eq_false_iff_eq, beq_eq_false_iff_ne, Bool.not_eq_true, Bool.not_eq_false, Bool.not_eq_true', Bool.not_eq_false', ne_eq] at h11
                        refine RW.gop rfl rfl rfl rfl rfl rfl (eff_fieldAddr rfl rfl tf28_3 (by decide) rfl rfl rfl (Nat.le_of_ble_eq_true rfl)) ?_
                        refine RW.gop rfl rfl rfl rfl rfl rfl (eff_load (y := .t _) rfl rfl ti3 rfl (.one rfl rfl rfl rfl)) ?_
                        refine RW.gop rfl rfl rfl rfl rfl rfl (eff_iop rfl rfl rfl rfl rfl) ?_
                        refine RW.gop rfl rfl rfl rfl rfl rfl (eff_pick (v := .t _) rfl rfl rfl rfl) ?_
                        refine RW.op rfl rfl (eff_pick (v := .t _) rfl rfl rfl rfl) ?_
                        refine RW.nil ?_
                        refine awp_cond rfl (fun h12 => ?_) (fun h12 => ?_)
                        · try simp only [decide_eq_true_eq, decide_eq_false_iff_not, beq_iff_eq, bne_iff_ne, bne_eq_false_iff_eq, beq_eq_false_iff_ne, Bool.not_eq_true, Bool.not_eq_false, Bool.not_eq_true', Bool.not_eq_false', ne_eq] at h12
                          refine awp_seq ?_
                          refine awp_rw rfl ?_
                          refine RW.op rfl rfl (eff_assign (v := .t _) rfl rfl rfl) ?_
                          refine RW.nil ?_
                          refine awp_ret ?_
                          first
                            | (rw [show form l i = 1 from by rw [form_at hi]; unfold formR; rw [if_pos (by omega)]]; exact ⟨Or.inr rfl, [_], ⟨.tmp (.t _), trivial⟩, .refl _⟩)
                            | (rw [show form l i = 5 from by rw [form_at hi]; unfold formR; rw [if_neg (by omega), if_pos (by omega)]]; exact ⟨Or.inr rfl, [_], ⟨.tmp (.t _), trivial⟩, .refl _⟩)
                            | (rw [show form l i = 23 from by rw [form_at hi]; unfold formR; rw [if_neg (by omega), if_neg (by omega), if_pos (by first | omega | (rw [prevT_pos hi (by omega)]; omega) | (have hi0 : i = 0 := (by omega); subst hi0; rw [prevT_0]; omega))]]; exact ⟨Or.inr rfl, [_], ⟨.tmp (.t _), trivial⟩, .refl _⟩)
                            | (rw [show form l i = 0 from by rw [form_at hi]; unfold formR; rw [if_neg (by omega), if_neg (by omega), if_neg (by first | omega | (rw [prevT_pos hi (by omega)]; omega) | (have hi0 : i = 0 := (by omega); subst hi0; rw [prevT_0]; omega)), if_pos (by omega)]]; exact ⟨Or.inr rfl, [_], ⟨.tmp (.t _), trivial⟩, .refl _⟩)
                            | (rw [show form l i = 1 from by rw [form_at hi]; unfold formR; rw [if_neg (by omega), if_neg (by omega), if_neg (by first | omega | (rw [prevT_pos hi (by omega)]; omega) | (have hi0 : i = 0 := (by omega); subst hi0; rw [prevT_0]; omega)), if_neg (by omega), if_pos (by omega)]]; exact ⟨Or.inr rfl, [_], ⟨.tmp (.t _), trivial⟩, .refl _⟩)
                            | (rw [show form l i = 0 from by rw [form_at hi]; unfold formR; rw [if_neg (by omega), if_neg (by omega), if_neg (by first | omega | (rw [prevT_pos hi (by omega)]; omega) | (have hi0 : i = 0 := (by omega); subst hi0; rw [prevT_0]; omega)), if_neg (by omega), if_neg (by omega)]]; exact ⟨Or.inr rfl, [_], ⟨.tmp (.t _), trivial⟩, .refl _⟩)
                        · try simp only [decide_eq_true_eq, decide_eq_false_iff_not, beq_iff_eq, bne_iff_ne, bne_eq_false_iff_eq, beq_eq_false_iff_ne, Bool.not_eq_true, Bool.not_eq_false, Bool.not_eq_true', Bool.not_eq_false', ne_eq] at h12
                          refine awp_skip ?_
                          refine awp_seq ?_
                          refine awp_rw rfl ?_
                          refine RW.op rfl rfl (eff_assign (v := .t _) rfl rfl rfl) ?_
                          refine RW.nil ?_
                          refine awp_ret ?_
                          first
                            | (rw [show form l i = 1 from by rw [form_at hi]; unfold formR; rw [if_pos (by omega)]]; exact ⟨Or.inr rfl, [_], ⟨.tmp (.t _), trivial⟩, .refl _⟩)
                            | (rw [show form l i = 5 from by rw [form_at hi]; unfold formR; rw [if_neg (by omega), if_pos (by omega)]]; exact ⟨Or.inr rfl, [_], ⟨.tmp (.t _), trivial⟩, .refl _⟩)
                            | (rw [show form l i = 23 from by rw [form_at hi]; unfold formR; rw [if_neg (by omega), if_neg (by omega), if_pos (by first | omega | (rw [prevT_pos hi (by omega)]; omega) | (have hi0 : i = 0 := (by omega); subst hi0; rw [prevT_0]; omega))]]; exact ⟨Or.inr rfl, [_], ⟨.tmp (.t _), trivial⟩, .refl _⟩)
                            | (rw [show form l i = 0 from by rw [form_at hi]; unfold formR; rw [if_neg (by omega), if_neg (by omega), if_neg (by first | omega | (rw [prevT_pos hi (by omega)]; omega) | (have hi0 : i = 0 := (by omega); subst hi0; rw [prevT_0]; omega)), if_pos (by omega)]]; exact ⟨Or.inr rfl, [_], ⟨.tmp (.t _), trivial⟩, .refl _⟩)
                            | (rw [show form l i = 1 from by rw [form_at hi]; unfold formR; rw [if_neg (by omega), if_neg (by omega), if_neg (by first | omega | (rw [prevT_pos hi (by omega)]; omega) | (have hi0 : i = 0 := (by omega); subst hi0; rw [prevT_0]; omega)), if_neg (by omega), if_pos (by omega)]]; exact ⟨Or.inr rfl, [_], ⟨.tmp (.t _), trivial⟩, .refl _⟩)
                            | (rw [show form l i = 0 from by rw [form_at hi]; unfold formR; rw [if_neg (by omega), if_neg (by omega), if_neg (by first | omega | (rw [prevT_pos hi (by omega)]; omega) | (have hi0 : i = 0 := (by omega); subst hi0; rw [prevT_0]; omega)), if_neg (by omega), if_neg (by omega)]]; exact ⟨Or.inr rfl, [_], ⟨.tmp (.t _), trivial⟩, .refl _⟩)
              · try simp only [decide_eq_true_eq, decide_eq_false_iff_not, beq_iff_eq, bne_iff_ne, bne_eq_false_iff_eq, beq_eq_false_iff_ne, Bool.not_eq_true, Bool.not_eq_false, Bool.not_eq_true', Bool.not_eq_false', ne_eq] at h7
                refine RW.gskip rfl rfl rfl rfl rfl (by decide) ?_
                refine RW.gskip rfl rfl rfl rfl rfl (by decide) ?_
                refine RW.gskip rfl rfl rfl rfl rfl (by decide) ?_
                refine RW.gskip rfl rfl rfl rfl rfl (by decide) ?_
                refine RW.gskip rfl rfl rfl rfl rfl (by decide) ?_
                refine RW.gskip rfl rfl rfl rfl rfl (by decide) ?_
                refine RW.gundef rfl rfl rfl rfl rfl ?_
                refine RW.gundef rfl rfl rfl rfl rfl ?_
                refine RW.gundef rfl rfl rfl rfl rfl ?_
                refine RW.gskip rfl rfl rfl rfl rfl (by decide) ?_
                refine RW.gskip rfl rfl rfl rfl rfl (by decide) ?_
                refine RW.gundef rfl rfl rfl rfl rfl ?_
                refine RW.gundef rfl rfl rfl rfl rfl ?_
                refine RW.gundef rfl rfl rfl rfl rfl ?_
                refine RW.gskip rfl rfl rfl rfl rfl (by decide) ?_
                refine RW.gskip rfl rfl rfl rfl rfl (by decide) ?_
                refine RW.gundef rfl rfl rfl rfl rfl ?_
                refine RW.gundef rfl rfl rfl rfl rfl ?_
                refine RW.gundef rfl rfl rfl rfl rfl ?_
                refine RW.gskip rfl rfl rfl rfl rfl (by decide) ?_
                refine RW.gskip rfl rfl rfl rfl rfl (by decide) ?_
                refine RW.gundef rfl rfl rfl rfl rfl ?_
                refine RW.gundef rfl rfl rfl rfl rfl ?_
                refine RW.gundef rfl rfl rfl rfl rfl ?_
                refine RW.gskip rfl rfl rfl rfl rfl (by decide) ?_
                refine RW.op rfl rfl (eff_pick (v := .t _) rfl rfl rfl rfl) ?_
                refine RW.nil ?_
                refine awp_cond rfl (fun h => nomatch h) (fun _ => ?_)
                refine awp_skip ?_
                refine awp_seq ?_
                refine awp_rw rfl ?_
                refine RW.op rfl rfl (eff_assign (v := .t _) rfl rfl rfl) ?_
                refine RW.nil ?_
                refine awp_ret ?_
                first
                  | (rw [show form l i = 1 from by rw [form_at hi]; unfold formR; rw [if_pos (by omega)]]; exact ⟨Or.inr rfl, [_], ⟨.tmp (.t _), trivial⟩, .refl _⟩)
                  | (rw [show form l i = 5 from by rw [form_at hi]; unfold formR; rw [if_neg (by omega), if_pos (by omega)]]; exact ⟨Or.inr rfl, [_], ⟨.tmp (.t _), trivial⟩, .refl _⟩)
                  | (rw [show form l i = 23 from by rw [form_at hi]; unfold formR; rw [if_neg (by omega), if_neg (by omega), if_pos (by first | omega | (rw [prevT_pos hi (by omega)]; omega) | (have hi0 : i = 0 := (by omega); subst hi0; rw [prevT_0]; omega))]]; exact ⟨Or.inr rfl, [_], ⟨.tmp (.t _), trivial⟩, .refl _⟩)
                  | (rw [show form l i = 0 from by rw [form_at hi]; unfold formR; rw [if_neg (by omega), if_neg (by omega), if_neg (by first | omega | (rw [prevT_pos hi (by omega)]; omega) | (have hi0 : i = 0 := (by omega); subst hi0; rw [prevT_0]; omega)), if_pos (by omega)]]; exact ⟨Or.inr rfl, [_], ⟨.tmp (.t _), trivial⟩, .refl _⟩)
                  | (rw [show form l i = 1 from by rw [form_at hi]; unfold formR; rw [if_neg (by omega), if_neg (by omega), if_neg (by first | omega | (rw [prevT_pos hi (by omega)]; omega) | (have hi0 : i = 0 := (by omega); subst hi0; rw [prevT_0]; omega)), if_neg (by omega), if_pos (by omega)]]; exact ⟨Or.inr rfl, [_], ⟨.tmp (.t _), trivial⟩, .refl _⟩)
                  | (rw [show form l i = 0 from by rw [form_at hi]; unfold formR; rw [if_neg (by omega), if_neg (by omega), if_neg (by first | omega | (rw [prevT_pos hi (by omega)]; omega) | (have hi0 : i = 0 := (by omega); subst hi0; rw [prevT_0]; omega)), if_neg (by omega), if_neg (by omega)]]; exact ⟨Or.inr rfl, [_], ⟨.tmp (.t _), trivial⟩, .refl _⟩)
          · refine awp_rd [(some 27, []), (some 28, []), (some 29, []), (some 30, []), (some 31, []), (some 32, []), (some 33, []), (some 34, []), (some 35, []), (some 36, []), (some 37, []), (some 38, []), (some 39, []), (some 40, [])] [[], [0], [0, 1], [0, 1, 2], [0, 1, 2, 3], [0, 1, 2], [0, 1, 2], [0, 1, 2, 6], [0, 1, 2, 6, 7], [0, 1, 2, 5, 6, 7, 8], [0, 1, 2, 5, 6, 7, 8, 9], [0, 1, 2, 5, 6, 7, 8, 9, 10], [0, 1, 2, 3, 4, 5, 6, 7, 8, 9, 10, 11], [0, 1, 2, 3, 4, 5, 6, 7, 8, 9, 10, 11, 12]] tm rfl rfl rfl rfl ?_
            refine RD.op rfl rfl rfl (eff_move (v := .t _) rfl rfl rfl) ?_
            refine RD.op rfl rfl rfl (eff_iop (r := .bool false) rfl rfl rfl rfl (by simp [iop, hc5])) ?_
            refine RD.op rfl rfl rfl (eff_move (v := .t _) rfl rfl rfl) ?_
            refine RD.gskip rfl rfl rfl rfl rfl rfl (by decide) ?_
            refine RD.gskip rfl rfl rfl rfl rfl rfl (by decide) ?_
            refine RD.gskip rfl rfl rfl rfl rfl rfl (by decide) ?_
            refine RD.gskip rfl rfl rfl rfl rfl rfl (by decide) ?_
            refine RD.gskip rfl rfl rfl rfl rfl rfl (by decide) ?_
            refine RD.gskip rfl rfl rfl rfl rfl rfl (by decide) ?_
            refine RD.gskip rfl rfl rfl rfl rfl rfl (by decide) ?_
            refine RD.gskip rfl rfl rfl rfl rfl rfl (by decide) ?_
            refine RD.gskip rfl rfl rfl rfl rfl rfl (by decide) ?_
            refine RD.gskip rfl rfl rfl rfl rfl rfl (by decide) ?_
            refine RD.op rfl rfl rfl (eff_pick (v := .t _) rfl rfl rfl rfl) ?_
            refine RD.nil ?_
            refine awp_cond rfl (fun h => nomatch h) (fun _ => ?_)
            refine awp_skip ?_
            refine awp_seq ?_
            refine awp_rw rfl ?_
            refine RW.op rfl rfl (eff_fieldAddr rfl rfl tf47_4 (by decide) rfl rfl rfl (Nat.le_of_ble_eq_true rfl)) ?_
            refine RW.op rfl rfl (eff_loadS (ys := [_, _, _, _]) rfl rfl ti28 rfl rfl rfl rfl rfl rfl) ?_
            refine RW.new rfl rfl (eff_allocK (k := 4) (id := 6) rfl rfl tz28 rfl rfl) ?_
            refine RW.store rfl rfl (eff_storeW (v := .t _) (els := [_]) (els' := [_]) rfl rfl ti28 rfl rfl rfl rfl rfl rfl rfl rfl rfl) ?_
            refine RW.nil ?_
            refine awp_seq ?_
            refine awp_seq ?_
            refine awp_rw rfl ?_
            refine RW.op rfl rfl (eff_fieldAddr rfl rfl tf47_1 (by decide) rfl rfl rfl (Nat.le_of_ble_eq_true rfl)) ?_
            refine RW.op rfl rfl (eff_load (y := .t _) rfl rfl ti3 rfl (.one rfl rfl rfl rfl)) ?_
            refine RW.op rfl rfl (eff_iop rfl rfl rfl rfl rfl) ?_
            refine RW.op rfl rfl (eff_move (v := .t _) rfl rfl rfl) ?_
            refine RW.split 46 rfl (fun h13 => ?_) (fun h13 => ?_)
            · try simp only [decide_eq_true_eq, decide_eq_false_iff_not, beq_iff_eq, bne_iff_ne, bne_eq_false_iff_eq, beq_eq_false_iff_ne, Bool.not_eq_true, Bool.not_eq_false, Bool.not_eq_true', Bool.not_eq_false', ne_eq] at h13
              refine RW.gop rfl rfl rfl rfl rfl rfl (eff_fieldAddr rfl rfl tf28_0 (by decide) rfl rfl rfl (Nat.le_of_ble_eq_true rfl)) ?_
              refine RW.gop rfl rfl rfl rfl rfl rfl (eff_load (y := .t _) rfl rfl ti3 rfl (.one rfl rfl rfl rfl)) ?_
              refine RW.gop rfl rfl rfl rfl rfl rfl (eff_fieldAddr rfl rfl tf47_0 (by decide) rfl rfl rfl (Nat.le_of_ble_eq_true rfl)) ?_
              refine RW.gop rfl rfl rfl rfl rfl rfl (eff_load (y := .t _) rfl rfl ti3 rfl (.one rfl rfl rfl rfl)) ?_
              refine RW.gop rfl rfl rfl rfl rfl rfl (eff_iop rfl rfl rfl rfl rfl) ?_
              refine RW.gop rfl rfl rfl rfl rfl rfl (eff_move (v := .t _) rfl rfl rfl) ?_
              refine RW.split 52 rfl (fun h14 => ?_) (fun h14 => ?_)
              · try simp only [decide_eq_true_eq, decide_eq_false_iff_not, beq_iff_eq, bne_iff_ne, bne_eq_false_iff_eq, beq_eq_false_iff_ne, Bool.not_eq_true, Bool.not_eq_false, Bool.not_eq_true', Bool.not_eq_false', ne_eq] at h14
                refine RW.gskip rfl rfl rfl rfl rfl (by decide) ?_
                refine RW.gskip rfl rfl rfl rfl rfl (by decide) ?_
                refine RW.gskip rfl rfl rfl rfl rfl (by decide) ?_
                refine RW.gop rfl rfl rfl rfl rfl rfl (eff_pick (v := .t _) rfl rfl rfl rfl) ?_
                refine RW.gop rfl rfl rfl rfl rfl rfl (eff_move (v := .t _) rfl rfl rfl) ?_
                refine RW.gskip rfl rfl rfl rfl rfl (by decide) ?_
                refine RW.gskip rfl rfl rfl rfl rfl (by decide) ?_
                refine RW.gskip rfl rfl rfl rfl rfl (by decide) ?_
                refine RW.gop rfl rfl rfl rfl rfl rfl (eff_pick (v := .t _) rfl rfl rfl rfl) ?_
                refine RW.gop rfl rfl rfl rfl rfl rfl (eff_move (v := .t _) rfl rfl rfl) ?_
                refine RW.gskip rfl rfl rfl rfl rfl (by decide) ?_
                refine RW.gskip rfl rfl rfl rfl rfl (by decide) ?_
                refine RW.gskip rfl rfl rfl rfl rfl (by decide) ?_
                refine RW.gop rfl rfl rfl rfl rfl rfl (eff_pick (v := .t _) rfl rfl rfl rfl) ?_
                refine RW.gop rfl rfl rfl rfl rfl rfl (eff_move (v := .t _) rfl rfl rfl) ?_
                refine RW.gskip rfl rfl rfl rfl rfl (by decide) ?_
                refine RW.gskip rfl rfl rfl rfl rfl (by decide) ?_
                refine RW.gskip rfl rfl rfl rfl rfl (by decide) ?_
                refine RW.gop rfl rfl rfl rfl rfl rfl (eff_pick (v := .t _) rfl rfl rfl rfl) ?_
                refine RW.op rfl rfl (eff_pick (v := .t _) rfl rfl rfl rfl) ?_
                refine RW.nil ?_
                refine awp_cond rfl (fun _ => ?_) (fun h => nomatch h)
                refine awp_seq ?_
                refine awp_rw rfl ?_
                refine RW.op rfl rfl (eff_assign (v := .t _) rfl rfl rfl) ?_
                refine RW.nil ?_
                refine awp_ret ?_
                first
                  | (rw [show form l i = 1 from by rw [form_at hi]; unfold formR; rw [if_pos (by omega)]]; exact ⟨Or.inr rfl, [_], ⟨.tmp (.t _), trivial⟩, .refl _⟩)
                  | (rw [show form l i = 5 from by rw [form_at hi]; unfold formR; rw [if_neg (by omega), if_pos (by omega)]]; exact ⟨Or.inr rfl, [_], ⟨.tmp (.t _), trivial⟩, .refl _⟩)
                  | (rw [show form l i = 23 from by rw [form_at hi]; unfold formR; rw [if_neg (by omega), if_neg (by omega), if_pos (by first | omega | (rw [prevT_pos hi (by omega)]; omega) | (have hi0 : i = 0 := (by omega); subst hi0; rw [prevT_0]; omega))]]; exact ⟨Or.inr rfl, [_], ⟨.tmp (.t _), trivial⟩, .refl _⟩)
                  | (rw [show form l i = 0 from by rw [form_at hi]; unfold formR; rw [if_neg (by omega), if_neg (by omega), if_neg (by first | omega | (rw [prevT_pos hi (by omega)]; omega) | (have hi0 : i = 0 := (by omega); subst hi0; rw [prevT_0]; omega)), if_pos (by omega)]]; exact ⟨Or.inr rfl, [_], ⟨.tmp (.t _), trivial⟩, .refl _⟩)
                  | (rw [show form l i = 1 from by rw [form_at hi]; unfold formR; rw [if_neg (by omega), if_neg (by omega), if_neg (by first | omega | (rw [prevT_pos hi (by omega)]; omega) | (have hi0 : i = 0 := (by omega); subst hi0; rw [prevT_0]; omega)), if_neg (by omega), if_pos (by omega)]]; exact ⟨Or.inr rfl, [_], ⟨.tmp (.t _), trivial⟩, .refl _⟩)
                  | (rw [show form l i = 0 from by rw [form_at hi]; unfold formR; rw [if_neg (by omega), if_neg (by omega), if_neg (by first | omega | (rw [prevT_pos hi (by omega)]; omega) | (have hi0 : i = 0 := (by omega); subst hi0; rw [prevT_0]; omega)), if_neg (by omega), if_neg (by omega)]]; exact ⟨Or.inr rfl, [_], ⟨.tmp (.t _), trivial⟩, .refl _⟩)
              · try simp only [decide_eq_true_eq, decide_eq_false_iff_not, beq_iff_eq, bne_iff_ne, bne_eq_false_iff_eq, beq_eq_false_iff_ne, Bool.not_eq_true, Bool.not_eq_false, Bool.not_eq_true', Bool.not_eq_false', ne_eq] at h14
                refine RW.gop rfl rfl rfl rfl rfl rfl (eff_fieldAddr rfl rfl tf28_2 (by decide) rfl rfl rfl (Nat.le_of_ble_eq_true rfl)) ?_
                refine RW.gop rfl rfl rfl rfl rfl rfl (eff_load (y := .t _) rfl rfl ti3 rfl (.one rfl rfl rfl rfl)) ?_
                refine RW.gop rfl rfl rfl rfl rfl rfl (eff_iop rfl rfl rfl rfl rfl) ?_
                refine RW.gop rfl rfl rfl rfl rfl rfl (eff_pick (v := .t _) rfl rfl rfl rfl) ?_
                refine RW.gop rfl rfl rfl rfl rfl rfl (eff_move (v := .t _) rfl rfl rfl) ?_
                refine RW.split 57 rfl (fun h15 => ?_) (fun h15 => ?_)
                · try simp only [decide_eq_true_eq, decide_eq_false_iff_not, beq_iff_eq, bne_iff_ne, bne_eq_false_iff_eq, beq_eq_false_iff_ne, Bool.not_eq_true, Bool.not_eq_false, Bool.not_eq_true', Bool.not_eq_false', ne_eq] at h15
                  refine RW.gskip rfl rfl rfl rfl rfl (by decide) ?_
                  refine RW.gskip rfl rfl rfl rfl rfl (by decide) ?_
                  refine RW.gskip rfl rfl rfl rfl rfl (by decide) ?_
                  refine RW.gop rfl rfl rfl rfl rfl rfl (eff_pick (v := .t _) rfl rfl rfl rfl) ?_
                  refine RW.gop rfl rfl rfl rfl rfl rfl (eff_move (v := .t _) rfl rfl rfl) ?_
                  refine RW.gskip rfl rfl rfl rfl rfl (by decide) ?_
                  refine RW.gskip rfl rfl rfl rfl rfl (by decide) ?_
                  refine RW.gskip rfl rfl rfl rfl rfl (by decide) ?_
                  refine RW.gop rfl rfl rfl rfl rfl rfl (eff_pick (v := .t _) rfl rfl rfl rfl) ?_
                  refine RW.gop rfl rfl rfl rfl rfl rfl (eff_move (v := .t _) rfl rfl rfl) ?_
                  refine RW.gskip rfl rfl rfl rfl rfl (by decide) ?_
                  refine RW.gskip rfl rfl rfl rfl rfl (by decide) ?_
                  refine RW.gskip rfl rfl rfl rfl rfl (by decide) ?_
                  refine RW.gop rfl rfl rfl rfl rfl rfl (eff_pick (v := .t _) rfl rfl rfl rfl) ?_
                  refine RW.op rfl rfl (eff_pick (v := .t _) rfl rfl rfl rfl) ?_
                  refine RW.nil ?_
                  refine awp_cond rfl (fun _ => ?_) (fun h => nomatch h)
                  refine awp_seq ?_
                  refine awp_rw rfl ?_
                  refine RW.op rfl rfl (eff_assign (v := .t _) rfl rfl rfl) ?_
                  refine RW.nil ?_
                  refine awp_ret ?_
                  first
                    | (rw [show form l i = 1 from by rw [form_at hi]; unfold formR; rw [if_pos (by omega)]]; exact ⟨Or.inr rfl, [_], ⟨.tmp (.t _), trivial⟩, .refl _⟩)
                    | (rw [show form l i = 5 from by rw [form_at hi]; unfold formR; rw [if_neg (by omega), if_pos (by omega)]]; exact ⟨Or.inr rfl, [_], ⟨.tmp (.t _), trivial⟩, .refl _⟩)
                    | (rw [show form l i = 23 from by rw [form_at hi]; unfold formR; rw [if_neg (by omega), if_neg (by omega), if_pos (by first | omega | (rw [prevT_pos hi (by omega)]; omega) | (have hi0 : i = 0 := (by omega); subst hi0; rw [prevT_0]; omega))]]; exact ⟨Or.inr rfl, [_], ⟨.tmp (.t _), trivial⟩, .refl _⟩)
                    | (rw [show form l i = 0 from by rw [form_at hi]; unfold formR; rw [if_neg (by omega), if_neg (by omega), if_neg (by first | omega | (rw [prevT_pos hi (by omega)]; omega) | (have hi0 : i = 0 := (by omega); subst hi0; rw [prevT_0]; omega)), if_pos (by omega)]]; exact ⟨Or.inr rfl, [_], ⟨.tmp (.t _), trivial⟩, .refl _⟩)
                    | (rw [show form l i = 1 from by rw [form_at hi]; unfold formR; rw [if_neg (by omega), if_neg (by omega), if_neg (by first | omega | (rw [prevT_pos hi (by omega)]; omega) | (have hi0 : i = 0 := (by omega); subst hi0; rw [prevT_0]; omega)), if_neg (by omega), if_pos (by omega)]]; exact ⟨Or.inr rfl, [_], ⟨.tmp (.t _), trivial⟩, .refl _⟩)
                    | (rw [show form l i = 0 from by rw [form_at hi]; unfold formR; rw [if_neg (by omega), if_neg (by omega), if_neg (by first | omega | (rw [prevT_pos hi (by omega)]; omega) | (have hi0 : i = 0 := (by omega); subst hi0; rw [prevT_0]; omega)), if_neg (by omega), if_neg (by omega)]]; exact ⟨Or.inr rfl, [_], ⟨.tmp (.t _), trivial⟩, .refl _⟩)
                · try simp only [decide_eq_true_eq, decide_eq_false_iff_not, beq_iff_eq, bne_iff_ne, bne_eq_false_iff_eq, beq_eq_false_iff_ne, Bool.not_eq_true, Bool.not_eq_false, Bool.not_eq_true', Bool.not_eq_false', ne_eq] at h15
                  refine RW.gop rfl rfl rfl rfl rfl rfl (eff_fieldAddr rfl rfl tf28_2 (by decide) rfl rfl rfl (Nat.le_of_ble_eq_true rfl)) ?_
                  refine RW.gop rfl rfl rfl rfl rfl rfl (eff_load (y := .t _) rfl rfl ti3 rfl (.one rfl rfl rfl rfl)) ?_
                  refine RW.gop rfl rfl rfl rfl rfl rfl (eff_iop rfl rfl rfl rfl rfl) ?_
                  refine RW.gop rfl rfl rfl rfl rfl rfl (eff_pick (v := .t _) rfl rfl rfl rfl) ?_
                  refine RW.gop rfl rfl rfl rfl rfl rfl (eff_move (v := .t _) rfl rfl rfl) ?_
                  refine RW.split 62 rfl (fun h16 => ?_) (fun h16 => ?_)
                  · try simp only [decide_eq_true_eq, decide_eq_false_iff_not, beq_iff_eq, bne_iff_ne, bne_eq_false_iff_eq, beq_eq_false_iff_ne, Bool.not_eq_true, Bool.not_eq_false, Bool.not_eq_true', Bool.not_eq_false', ne_eq] at h16
                    refine RW.gskip rfl rfl rfl rfl rfl (by decide) ?_
                    refine RW.gskip rfl rfl rfl rfl rfl (by decide) ?_
                    refine RW.gskip rfl rfl rfl rfl rfl (by decide) ?_
                    refine RW.gop rfl rfl rfl rfl rfl rfl (eff_pick (v := .t _) rfl rfl rfl rfl) ?_
                    refine RW.gop rfl rfl rfl rfl rfl rfl (eff_move (v := .t _) rfl rfl rfl) ?_
                    refine RW.gskip rfl rfl rfl rfl rfl (by decide) ?_
                    refine RW.gskip rfl rfl rfl rfl rfl (by decide) ?_
                    refine RW.gskip rfl rfl rfl rfl rfl (by decide) ?_
                    refine RW.gop rfl rfl rfl rfl rfl rfl (eff_pick (v := .t _) rfl rfl rfl rfl) ?_
                    refine RW.op rfl rfl (eff_pick (v := .t _) rfl rfl rfl rfl) ?_
                    refine RW.nil ?_
                    refine awp_cond rfl (fun _ => ?_) (fun h => nomatch h)
                    refine awp_seq ?_
                    refine awp_rw rfl ?_
                    refine RW.op rfl rfl (eff_assign (v := .t _) rfl rfl rfl) ?_
                    refine RW.nil ?_
                    refine awp_ret ?_
                    first
                      | (rw [show form l i = 1 from by rw [form_at hi]; unfold formR; rw [if_pos (by omega)]]; exact ⟨Or.inr rfl, [_], ⟨.tmp (.t _), trivial⟩, .refl _⟩)
                      | (rw [show form l i = 5 from by rw [form_at hi]; unfold formR; rw [if_neg (by omega), if_pos (by omega)]]; exact ⟨Or.inr rfl, [_], ⟨.tmp (.t _), trivial⟩, .refl _⟩)
                      | (rw [show form l i = 23 from by rw [form_at hi]; unfold formR; rw [if_neg (by omega), if_neg (by omega), if_pos (by first | omega | (rw [prevT_pos hi (by omega)]; omega) | (have hi0 : i = 0 := (by omega); subst hi0; rw [prevT_0]; omega))]]; exact ⟨Or.inr rfl, [_], ⟨.tmp (.t _), trivial⟩, .refl _⟩)
                      | (rw [show form l i = 0 from by rw [form_at hi]; unfold formR; rw [if_neg (by omega), if_neg (by omega), if_neg (by first | omega | (rw [prevT_pos hi (by omega)]; omega) | (have hi0 : i = 0 := (by omega); subst hi0; rw [prevT_0]; omega)), if_pos (by omega)]]; exact ⟨Or.inr rfl, [_], ⟨.tmp (.t _), trivial⟩, .refl _⟩)
                      | (rw [show form l i = 1 from by rw [form_at hi]; unfold formR; rw [if_neg (by omega), if_neg (by omega), if_neg (by first | omega | (rw [prevT_pos hi (by omega)]; omega) | (have hi0 : i = 0 := (by omega); subst hi0; rw [prevT_0]; omega)), if_neg (by omega), if_pos (by omega)]]; exact ⟨Or.inr rfl, [_], ⟨.tmp (.t _), trivial⟩, .refl _⟩)
                      | (rw [show form l i = 0 from by rw [form_at hi]; unfold formR; rw [if_neg (by omega), if_neg (by omega), if_neg (by first | omega | (rw [prevT_pos hi (by omega)]; omega) | (have hi0 : i = 0 := (by omega); subst hi0; rw [prevT_0]; omega)), if_neg (by omega), if_neg (by omega)]]; exact ⟨Or.inr rfl, [_], ⟨.tmp (.t _), trivial⟩, .refl _⟩)
                  · try simp only [decide_eq_true_eq, decide_eq_false_iff_not, beq_iff_eq, bne_iff_ne, bne_eq_false_iff_eq, beq_eq_false_iff_ne, Bool.not_eq_true, Bool.not_eq_false, Bool.not_eq_true', Bool.not_eq_false', ne_eq] at h16
                    refine RW.gop rfl rfl rfl rfl rfl rfl (eff_fieldAddr rfl rfl tf28_3 (by decide) rfl rfl rfl (Nat.le_of_ble_eq_true rfl)) ?_
                    refine RW.gop rfl rfl rfl rfl rfl rfl (eff_load (y := .t _) rfl rfl ti3 rfl (.one rfl rfl rfl rfl)) ?_
                    refine RW.gop rfl rfl rfl rfl rfl rfl (eff_iop rfl rfl rfl rfl rfl) ?_
                    refine RW.gop rfl rfl rfl rfl rfl rfl (eff_pick (v := .t _) rfl rfl rfl rfl) ?_
                    refine RW.gop rfl rfl rfl rfl rfl rfl (eff_move (v := .t _) rfl rfl rfl) ?_
                    refine RW.split 67 rfl (fun h17 => ?_) (fun h17 => ?_)
                    · try simp only [decide_eq_true_eq, decide_eq_false_iff_not, beq_iff_eq, bne_iff_ne, bne_eq_false_iff_eq, beq_eq_false_iff_ne, Bool.not_eq_true, Bool.not_eq_false, Bool.not_eq_true', Bool.not_eq_false', ne_eq] at h17
                      refine RW.gskip rfl rfl rfl rfl rfl (by decide) ?_
                      refine RW.gskip rfl rfl rfl rfl rfl (by decide) ?_
                      refine RW.gskip rfl rfl rfl rfl rfl (by decide) ?_
                      refine RW.gop rfl rfl rfl rfl rfl rfl (eff_pick (v := .t _) rfl rfl rfl rfl) ?_
                      refine RW.op rfl rfl (eff_pick (v := .t _) rfl rfl rfl rfl) ?_
                      refine RW.nil ?_
                      refine awp_cond rfl (fun _ => ?_) (fun h => nomatch h)
                      refine awp_seq ?_
                      refine awp_rw rfl ?_
                      refine RW.op rfl rfl (eff_assign (v := .t _) rfl rfl rfl) ?_
                      refine RW.nil ?_
                      refine awp_ret ?_
                      first
                        | (rw [show form l i = 1 from by rw [form_at hi]; unfold formR; rw [if_pos (by omega)]]; exact ⟨Or.inr rfl, [_], ⟨.tmp (.t _), trivial⟩, .refl _⟩)
                        | (rw [show form l i = 5 from by rw [form_at hi]; unfold formR; rw [if_neg (by omega), if_pos (by omega)]]; exact ⟨Or.inr rfl, [_], ⟨.tmp (.t _), trivial⟩, .refl _⟩)
                        | (rw [show form l i = 23 from by rw [form_at hi]; unfold formR; rw [if_neg (by omega), if_neg (by omega), if_pos (by first | omega | (rw [prevT_pos hi (by omega)]; omega) | (have hi0 : i = 0 := (by omega); subst hi0; rw [prevT_0]; omega))]]; exact ⟨Or.inr rfl, [_], ⟨.tmp (.t _), trivial⟩, .refl _⟩)
                        | (rw [show form l i = 0 from by rw [form_at hi]; unfold formR; rw [if_neg (by omega), if_neg (by omega), if_neg (by first | omega | (rw [prevT_pos hi (by omega)]; omega) | (have hi0 : i = 0 := (by omega); subst hi0; rw [prevT_0]; omega)), if_pos (by omega)]]; exact ⟨Or.inr rfl, [_], ⟨.tmp (.t _), trivial⟩, .refl _⟩)
                        | (rw [show form l i = 1 from by rw [form_at hi]; unfold formR; rw [if_neg (by omega), if_neg (by omega), if_neg (by first | omega | (rw [prevT_pos hi (by omega)]; omega) | (have hi0 : i = 0 := (by omega); subst hi0; rw [prevT_0]; omega)), if_neg (by omega), if_pos (by omega)]]; exact ⟨Or.inr rfl, [_], ⟨.tmp (.t _), trivial⟩, .refl _⟩)
                        | (rw [show form l i = 0 from by rw [form_at hi]; unfold formR; rw [if_neg (by omega), if_neg (by omega), if_neg (by first | omega | (rw [prevT_pos hi (by omega)]; omega) | (have hi0 : i = 0 := (by omega); subst hi0; rw [prevT_0]; omega)), if_neg (by omega), if_neg (by omega)]]; exact ⟨Or.inr rfl, [_], ⟨.tmp (.t _), trivial⟩, .refl _⟩)
                    · try simp only [decide_eq_true_eq, decide_eq_false_iff_not, beq_iff_eq, bne_iff_ne, bne_eq_false_iff_eq, beq_eq_false_iff_ne, Bool.not_eq_true, Bool.not_eq_false, Bool.not_eq_true', Bool.not_eq_false', ne_eq] at h17
                      refine RW.gop rfl rfl rfl rfl rfl rfl (eff_fieldAddr rfl rfl tf28_3 (by decide) rfl rfl rfl (Nat.le_of_ble_eq_true rfl)) ?_
                      refine RW.gop rfl rfl rfl rfl rfl rfl (eff_load (y := .t _) rfl rfl ti3 rfl (.one rfl rfl rfl rfl)) ?_
                      refine RW.gop rfl rfl rfl rfl rfl rfl (eff_iop rfl rfl rfl rfl rfl) ?_
                      refine RW.gop rfl rfl rfl rfl rfl rfl (eff_pick (v := .t _) rfl rfl rfl rfl) ?_
                      refine RW.op rfl rfl (eff_pick (v := .t _) rfl rfl rfl rfl) ?_
                      refine RW.nil ?_
                      refine awp_cond rfl (fun h18 => ?_) (fun h18 => ?_)
                      · try simp only [decide_eq_true_eq, decide_eq_false_iff_not, beq_iff_eq, bne_iff_ne, bne_eq_false_iff_eq, beq_eq_false_iff_ne, Bool.not_eq_true, Bool.not_eq_false, Bool.not_eq_true', Bool.not_eq_false', ne_eq] at h18
                        refine awp_seq ?_
                        refine awp_rw rfl ?_
                        refine RW.op rfl rfl (eff_assign (v := .t _) rfl rfl rfl) ?_
                        refine RW.nil ?_
                        refine awp_ret ?_
                        first
                          | (rw [show form l i = 1 from by rw [form_at hi]; unfold formR; rw [if_pos (by omega)]]; exact ⟨Or.inr rfl, [_], ⟨.tmp (.t _), trivial⟩, .refl _⟩)
                          | (rw [show form l i = 5 from by rw [form_at hi]; unfold formR; rw [if_neg (by omega), if_pos (by omega)]]; exact ⟨Or.inr rfl, [_], ⟨.tmp (.t _), trivial⟩, .refl _⟩)
                          | (rw [show form l i = 23 from by rw [form_at hi]; unfold formR; rw [if_neg (by omega), if_neg (by omega), if_pos (by first | omega | (rw [prevT_pos hi (by omega)]; omega) | (have hi0 : i = 0 := (by omega); subst hi0; rw [prevT_0]; omega))]]; exact ⟨Or.inr rfl, [_], ⟨.tmp (.t _), trivial⟩, .refl _⟩)
                          | (rw [show form l i = 0 from by rw [form_at hi]; unfold formR; rw [if_neg (by omega), if_neg (by omega), if_neg (by first | omega | (rw [prevT_pos hi (by omega)]; omega) | (have hi0 : i = 0 := (by omega); subst hi0; rw [prevT_0]; omega)), if_pos (by omega)]]; exact ⟨Or.inr rfl, [_], ⟨.tmp (.t _), trivial⟩, .refl _⟩)
                          | (rw [show form l i = 1 from by rw [form_at hi]; unfold formR; rw [if_neg (by omega), if_neg (by omega), if_neg (by first | omega | (rw [prevT_pos hi (by omega)]; omega) | (have hi0 : i = 0 := (by omega); subst hi0; rw [prevT_0]; omega)), if_neg (by omega), if_pos (by omega)]]; exact ⟨Or.inr rfl, [_], ⟨.tmp (.t _), trivial⟩, .refl _⟩)
                          | (rw [show form l i = 0 from by rw [form_at hi]; unfold formR; rw [if_neg (by omega), if_neg (by omega), if_neg (by first | omega | (rw [prevT_pos hi (by omega)]; omega) | (have hi0 : i = 0 := (by omega); subst hi0; rw [prevT_0]; omega)), if_neg (by omega), if_neg (by omega)]]; exact ⟨Or.inr rfl, [_], ⟨.tmp (.t _), trivial⟩, .refl _⟩)
                      · try simp only [decide_eq_true_eq, decide_eq_false_iff_not, beq_iff_eq, bne_iff_ne, bne_eq_false_iff_eq, beq_eq_false_iff_ne, Bool.not_eq_true, Bool.not_eq_false, Bool.not_eq_true', Bool.not_eq_false', ne_eq] at h18
                        refine awp_skip ?_
                        refine awp_seq ?_
                        refine awp_rw rfl ?_
                        refine RW.op rfl rfl (eff_assign (v := .t _) rfl rfl rfl) ?_
                        refine RW.nil ?_
                        refine awp_ret ?_
                        first
                          | (rw [show form l i = 1 from by rw [form_at hi]; unfold formR; rw [if_pos (by omega)]]; exact ⟨Or.inr rfl, [_], ⟨.tmp (.t _), trivial⟩, .refl _⟩)
                          | (rw [show form l i = 5 from by rw [form_at hi]; unfold formR; rw [if_neg (by omega), if_pos (by omega)]]; exact ⟨Or.inr rfl, [_], ⟨.tmp (.t _), trivial⟩, .refl _⟩)
                          | (rw [show form l i = 23 from by rw [form_at hi]; unfold formR; rw [if_neg (by omega), if_neg (by omega), if_pos (by first | omega | (rw [prevT_pos hi (by omega)]; omega) | (have hi0 : i = 0 := (by omega); subst hi0; rw [prevT_0]; omega))]]; exact ⟨Or.inr rfl, [_], ⟨.tmp (.t _), trivial⟩, .refl _⟩)
                          | (rw [show form l i = 0 from by rw [form_at hi]; unfold formR; rw [if_neg (by omega), if_neg (by omega), if_neg (by first | omega | (rw [prevT_pos hi (by omega)]; omega) | (have hi0 : i = 0 := (by omega); subst hi0; rw [prevT_0]; omega)), if_pos (by omega)]]; exact ⟨Or.inr rfl, [_], ⟨.tmp (.t _), trivial⟩, .refl _⟩)
                          | (rw [show form l i = 1 from by rw [form_at hi]; unfold formR; rw [if_neg (by omega), if_neg (by omega), if_neg (by first | omega | (rw [prevT_pos hi (by omega)]; omega) | (have hi0 : i = 0 := (by omega); subst hi0; rw [prevT_0]; omega)), if_neg (by omega), if_pos (by omega)]]; exact ⟨Or.inr rfl, [_], ⟨.tmp (.t _), trivial⟩, .refl _⟩)
                          | (rw [show form l i = 0 from by rw [form_at hi]; unfold formR; rw [if_neg (by omega), if_neg (by omega), if_neg (by first | omega | (rw [prevT_pos hi (by omega)]; omega) | (have hi0 : i = 0 := (by omega); subst hi0; rw [prevT_0]; omega)), if_neg (by omega), if_neg (by omega)]]; exact ⟨Or.inr rfl, [_], ⟨.tmp (.t _), trivial⟩, .refl _⟩)
            · try simp only [decide_eq_true_eq, decide_eq_false_iff_not, beq_iff_eq, bne_iff_ne, bne_eq_false_iff_eq, beq_eq_false_iff_ne, Bool.not_eq_true, Bool.not_eq_false, Bool.not_eq_true', Bool.not_eq_false', ne_eq] at h13
              refine RW.gskip rfl rfl rfl rfl rfl (by decide) ?_
              refine RW.gskip rfl rfl rfl rfl rfl (by decide) ?_
              refine RW.gskip rfl rfl rfl rfl rfl (by decide) ?_
              refine RW.gskip rfl rfl rfl rfl rfl (by decide) ?_
              refine RW.gskip rfl rfl rfl rfl rfl (by decide) ?_
              refine RW.gskip rfl rfl rfl rfl rfl (by decide) ?_
              refine RW.gundef rfl rfl rfl rfl rfl ?_
              refine RW.gundef rfl rfl rfl rfl rfl ?_
              refine RW.gundef rfl rfl rfl rfl rfl ?_
              refine RW.gskip rfl rfl rfl rfl rfl (by decide) ?_
              refine RW.gskip rfl rfl rfl rfl rfl (by decide) ?_
              refine RW.gundef rfl rfl rfl rfl rfl ?_
              refine RW.gundef rfl rfl rfl rfl rfl ?_
              refine RW.gundef rfl rfl rfl rfl rfl ?_
              refine RW.gskip rfl rfl rfl rfl rfl (by decide) ?_
              refine RW.gskip rfl rfl rfl rfl rfl (by decide) ?_
              refine RW.gundef rfl rfl rfl rfl rfl ?_
              refine RW.gundef rfl rfl rfl rfl rfl ?_
              refine RW.gundef rfl rfl rfl rfl rfl ?_
              refine RW.gskip rfl rfl rfl rfl rfl (by decide) ?_
              refine RW.gskip rfl rfl rfl rfl rfl (by decide) ?_
              refine RW.gundef rfl rfl rfl rfl rfl ?_
              refine RW.gundef rfl rfl rfl rfl rfl ?_
              refine RW.gundef rfl rfl rfl rfl rfl ?_
              refine RW.gskip rfl rfl rfl rfl rfl (by decide) ?_
              refine RW.op rfl rfl (eff_pick (v := .t _) rfl rfl rfl rfl) ?_
              refine RW.nil ?_
              refine awp_cond rfl (fun h => nomatch h) (fun _ => ?_)
              refine awp_skip ?_
              refine awp_seq ?_
              refine awp_rw rfl ?_
              refine RW.op rfl rfl (eff_assign (v := .t _) rfl rfl rfl) ?_
              refine RW.nil ?_
              refine awp_ret ?_
              first
                | (rw [show form l i = 1 from by rw [form_at hi]; unfold formR; rw [if_pos (by omega)]]; exact ⟨Or.inr rfl, [_], ⟨.tmp (.t _), trivial⟩, .refl _⟩)
                | (rw [show form l i = 5 from by rw [form_at hi]; unfold formR; rw [if_neg (by omega), if_pos (by omega)]]; exact ⟨Or.inr rfl, [_], ⟨.tmp (.t _), trivial⟩, .refl _⟩)
                | (rw [show form l i = 23 from by rw [form_at hi]; unfold formR; rw [if_neg (by omega), if_neg (by omega), if_pos (by first | omega | (rw [prevT_pos hi (by omega)]; omega) | (have hi0 : i = 0 := (by omega); subst hi0; rw [prevT_0]; omega))]]; exact ⟨Or.inr rfl, [_], ⟨.tmp (.t _), trivial⟩, .refl _⟩)
                | (rw [show form l i = 0 from by rw [form_at hi]; unfold formR; rw [if_neg (by omega), if_neg (by omega), if_neg (by first | omega | (rw [prevT_pos hi (by omega)]; omega) | (have hi0 : i = 0 := (by omega); subst hi0; rw [prevT_0]; omega)), if_pos (by omega)]]; exact ⟨Or.inr rfl, [_], ⟨.tmp (.t _), trivial⟩, .refl _⟩)
                | (rw [show form l i = 1 from by rw [form_at hi]; unfold formR; rw [if_neg (by omega), if_neg (by omega), if_neg (by first | omega | (rw [prevT_pos hi (by omega)]; omega) | (have hi0 : i = 0 := (by omega); subst hi0; rw [prevT_0]; omega)), if_neg (by omega), if_pos (by omega)]]; exact ⟨Or.inr rfl, [_], ⟨.tmp (.t _), trivial⟩, .refl _⟩)
                | (rw [show form l i = 0 from by rw [form_at hi]; unfold formR; rw [if_neg (by omega), if_neg (by omega), if_neg (by first | omega | (rw [prevT_pos hi (by omega)]; omega) | (have hi0 : i = 0 := (by omega); subst hi0; rw [prevT_0]; omega)), if_neg (by omega), if_neg (by omega)]]; exact ⟨Or.inr rfl, [_], ⟨.tmp (.t _), trivial⟩, .refl _⟩)

end Go.Tv.C36

end
section
open Go Go.Tv Go.Proofs
namespace Go.Tv.C36
set_option maxRecDepth 20000
set_option maxHeartbeats 2000000
set_option linter.unusedSimpArgs false
set_option linter.unusedVariables false
theorem has_q_ret (s : Rep) (q : Int) (hs : HP s) (hx : NX 1000000 s) (hq : -2000000 ≤ q ∧ q ≤ 2000000) : Ret Tryd.prog 55 [encR s, encI q] (.bool (has s q)) := by
  obtain ⟨nx, hv0, ky, lk⟩ := s
  obtain ⟨h, rfl⟩ : ∃ h : Nat, hv0 = (h : Int) := ⟨hv0.toNat, by have := hs.1; simp only [] at this; omega⟩
  have hh : h < 32768 := by have := hs.2; simp only [] at this; omega
  unfold NX at hx
  simp only [] at hx
  refine ret_of_awp Tryd.func55 rfl (Nat.le_of_ble_eq_true rfl) ?_
  refine awp_seq ?_
  refine awp_rw rfl ?_
  refine RW.new rfl rfl (eff_boxK (v := .t _) (k := 4) (id := 2) rfl rfl rfl rfl rfl rfl) ?_
  refine RW.op rfl rfl (eff_assign (v := .t _) rfl rfl rfl) ?_
  refine RW.nil ?_
  refine awp_seq ?_
  refine awp_rw rfl ?_
  refine RW.op rfl rfl (eff_move (v := .t _) rfl rfl rfl) ?_
  refine RW.op rfl rfl (eff_fieldAddr rfl rfl tf23_0 (by decide) rfl rfl rfl (Nat.le_of_ble_eq_true rfl)) ?_
  refine RW.op rfl rfl (eff_load (y := .t _) rfl rfl ti3 rfl (.one rfl rfl rfl rfl)) ?_
  refine RW.op rfl rfl (eff_iop (r := encI (q - nx)) rfl rfl rfl rfl (isub (a := q) (b := nx) (by omega))) ?_
  refine RW.op rfl rfl (eff_iop (r := encI (q - nx - 1)) rfl rfl rfl rfl (isub (by omega))) ?_
  refine RW.op rfl rfl (eff_assign (v := .t _) rfl rfl rfl) ?_
  refine RW.nil ?_
  refine awp_seq ?_
  refine awp_rw rfl ?_
  refine RW.op rfl rfl (eff_move (v := .t _) rfl rfl rfl) ?_
  refine RW.op rfl rfl (eff_iop rfl rfl rfl rfl rfl) ?_
  refine RW.op rfl rfl (eff_move (v := .t _) rfl rfl rfl) ?_
  refine RW.split 13 rfl (fun h1 => ?_) (fun h1 => ?_)
  · try simp only [decide_eq_true_eq, decide_eq_false_iff_not, beq_iff_eq, bne_iff_ne, bne_eq_false_iff_eq, beq_eq_false_iff_ne, Bool.not_eq_true, Bool.not_eq_false, Bool.not_eq_true', Bool.not_eq_false', ne_eq] at h1
    refine RW.gop rfl rfl rfl rfl rfl rfl (eff_move (v := .t _) rfl rfl rfl) ?_
    refine RW.gop rfl rfl rfl rfl rfl rfl (eff_iop rfl rfl rfl rfl rfl) ?_
    refine RW.op rfl rfl (eff_pick (v := .t _) rfl rfl rfl rfl) ?_
    refine RW.op rfl rfl (eff_move (v := .t _) rfl rfl rfl) ?_
    refine RW.split 17 rfl (fun h2 => ?_) (fun h2 => ?_)
    · try simp only [decide_eq_true_eq, decide_eq_false_iff_not, beq_iff_eq, bne_iff_ne, bne_eq_false_iff_eq, beq_eq_false_iff_ne, Bool.not_eq_true, Bool.not_eq_false, Bool.not_eq_true', Bool.not_eq_false', ne_eq] at h2
      refine RW.gop rfl rfl rfl rfl rfl rfl (eff_fieldAddr rfl rfl tf23_1 (by decide) rfl rfl rfl (Nat.le_of_ble_eq_true rfl)) ?_
      refine RW.gop rfl rfl rfl rfl rfl rfl (eff_load (y := .t _) rfl rfl ti3 rfl (.one rfl rfl rfl rfl)) ?_
      refine RW.gop rfl rfl rfl rfl rfl rfl (eff_move (v := .t _) rfl rfl rfl) ?_
      refine RW.gop rfl rfl rfl rfl rfl rfl (eff_shrE (r := ((h / 2 ^ (q - nx - 1).toNat : Nat) : Int)) rfl rfl rfl rfl (by omega) (shr_hv h (by omega) (by omega))) ?_
      refine RW.gop rfl rfl rfl rfl rfl rfl (eff_iop (r := encI ((h / 2 ^ (q - nx - 1).toNat % 2 : Nat) : Int)) rfl rfl rfl rfl (and_one (by have := Nat.div_le_self h (2 ^ (q - nx - 1).toNat); omega))) ?_
      refine RW.gop rfl rfl rfl rfl rfl rfl (eff_iop rfl rfl rfl rfl rfl) ?_
      refine RW.op rfl rfl (eff_pick (v := .t _) rfl rfl rfl rfl) ?_
      refine RW.op rfl rfl (eff_assign (v := .t _) rfl rfl rfl) ?_
      refine RW.nil ?_
      refine awp_ret ?_
      first
        | exact ⟨Or.inr rfl, [_], ⟨.tmp (.t _), trivial⟩, wk_bool (has_lo (s := ⟨nx, ((h : Nat) : Int), ky, lk⟩) (by show q - nx - 1 < 0; omega))⟩
        | exact ⟨Or.inr rfl, [_], ⟨.tmp (.t _), trivial⟩, wk_bool (has_hi (s := ⟨nx, ((h : Nat) : Int), ky, lk⟩) (by show ¬ q - nx - 1 < 16; omega))⟩
        | exact ⟨Or.inr rfl, [_], ⟨.tmp (.t _), trivial⟩, wk_bool (has_in (by omega) (by omega))⟩
    · try simp only [decide_eq_true_eq, decide_eq_false_iff_not, beq_iff_eq, bne_iff_ne, bne_eq_false_iff_eq, beq_eq_false_iff_ne, Bool.not_eq_true, Bool.not_eq_false, Bool.not_eq_true', Bool.not_eq_false', ne_eq] at h2
      refine RW.gskip rfl rfl rfl rfl rfl (by decide) ?_
      refine RW.gskip rfl rfl rfl rfl rfl (by decide) ?_
      refine RW.gskip rfl rfl rfl rfl rfl (by decide) ?_
      refine RW.gskip rfl rfl rfl rfl rfl (by decide) ?_
      refine RW.gskip rfl rfl rfl rfl rfl (by decide) ?_
      refine RW.gskip rfl rfl rfl rfl rfl (by decide) ?_
      refine RW.op rfl rfl (eff_pick (v := .t _) rfl rfl rfl rfl) ?_
      refine RW.op rfl rfl (eff_assign (v := .t _) rfl rfl rfl) ?_
      refine RW.nil ?_
      refine awp_ret ?_
      first
        | exact ⟨Or.inr rfl, [_], ⟨.tmp (.t _), trivial⟩, wk_bool (has_lo (s := ⟨nx, ((h : Nat) : Int), ky, lk⟩) (by show q - nx - 1 < 0; omega))⟩
        | exact ⟨Or.inr rfl, [_], ⟨.tmp (.t _), trivial⟩, wk_bool (has_hi (s := ⟨nx, ((h : Nat) : Int), ky, lk⟩) (by show ¬ q - nx - 1 < 16; omega))⟩
        | exact ⟨Or.inr rfl, [_], ⟨.tmp (.t _), trivial⟩, wk_bool (has_in (by omega) (by omega))⟩
  · try simp only [decide_eq_true_eq, decide_eq_false_iff_not, beq_iff_eq, bne_iff_ne, bne_eq_false_iff_eq, beq_eq_false_iff_ne, Bool.not_eq_true, Bool.not_eq_false, Bool.not_eq_true', Bool.not_eq_false', ne_eq] at h1
    refine RW.gskip rfl rfl rfl rfl rfl (by decide) ?_
    refine RW.gskip rfl rfl rfl rfl rfl (by decide) ?_
    refine RW.op rfl rfl (eff_pick (v := .t _) rfl rfl rfl rfl) ?_
    refine RW.op rfl rfl (eff_move (v := .t _) rfl rfl rfl) ?_
    refine RW.gskip rfl rfl rfl rfl rfl (by decide) ?_
    refine RW.gskip rfl rfl rfl rfl rfl (by decide) ?_
    refine RW.gskip rfl rfl rfl rfl rfl (by decide) ?_
    refine RW.gskip rfl rfl rfl rfl rfl (by decide) ?_
    refine RW.gskip rfl rfl rfl rfl rfl (by decide) ?_
    refine RW.gskip rfl rfl rfl rfl rfl (by decide) ?_
    refine RW.op rfl rfl (eff_pick (v := .t _) rfl rfl rfl rfl) ?_
    refine RW.op rfl rfl (eff_assign (v := .t _) rfl rfl rfl) ?_
    refine RW.nil ?_
    refine awp_ret ?_
    first
      | exact ⟨Or.inr rfl, [_], ⟨.tmp (.t _), trivial⟩, wk_bool (has_lo (s := ⟨nx, ((h : Nat) : Int), ky, lk⟩) (by show q - nx - 1 < 0; omega))⟩
      | exact ⟨Or.inr rfl, [_], ⟨.tmp (.t _), trivial⟩, wk_bool (has_hi (s := ⟨nx, ((h : Nat) : Int), ky, lk⟩) (by show ¬ q - nx - 1 < 16; omega))⟩
      | exact ⟨Or.inr rfl, [_], ⟨.tmp (.t _), trivial⟩, wk_bool (has_in (by omega) (by omega))⟩

theorem rule0_ret (d : Dec) (s : Rep) (n : Int) : Ret Tryd.prog 53 [encD d, encR s, encI n] (.bool (!s.locked && decide (n ≤ s.next))) := by
  refine ret_of_awp Tryd.func53 rfl (Nat.le_of_ble_eq_true rfl) ?_
  refine awp_seq ?_
  refine awp_rw rfl ?_
  refine RW.new rfl rfl (eff_boxK (v := .t _) (k := 4) (id := 3) rfl rfl rfl rfl rfl rfl) ?_
  refine RW.new rfl rfl (eff_boxK (v := .t _) (k := 4) (id := 4) rfl rfl rfl rfl rfl rfl) ?_
  refine RW.op rfl rfl (eff_assign (v := .t _) rfl rfl rfl) ?_
  refine RW.nil ?_
  refine awp_seq ?_
  refine awp_rw rfl ?_
  refine RW.op rfl rfl (eff_fieldAddr rfl rfl tf23_3 (by decide) rfl rfl rfl (Nat.le_of_ble_eq_true rfl)) ?_
  refine RW.op rfl rfl (eff_load (y := .t _) rfl rfl ti4 rfl (.one rfl rfl rfl rfl)) ?_
  refine RW.op rfl rfl (eff_unop rfl rfl rfl rfl) ?_
  refine RW.op rfl rfl (eff_move (v := .t _) rfl rfl rfl) ?_
  refine RW.split 10 rfl (fun h1 => ?_) (fun h1 => ?_)
  · try simp only [decide_eq_true_eq, decide_eq_false_iff_not, beq_iff_eq, bne_iff_ne, bne_eq_false_iff_eq, beq_eq_false_iff_ne, Bool.not_eq_true, Bool.not_eq_false, Bool.not_eq_true', Bool.not_eq_false', ne_eq] at h1
    refine RW.gop rfl rfl rfl rfl rfl rfl (eff_fieldAddr rfl rfl tf23_0 (by decide) rfl rfl rfl (Nat.le_of_ble_eq_true rfl)) ?_
    refine RW.gop rfl rfl rfl rfl rfl rfl (eff_load (y := .t _) rfl rfl ti3 rfl (.one rfl rfl rfl rfl)) ?_
    refine RW.gop rfl rfl rfl rfl rfl rfl (eff_move (v := .t _) rfl rfl rfl) ?_
    refine RW.gop rfl rfl rfl rfl rfl rfl (eff_iop rfl rfl rfl rfl rfl) ?_
    refine RW.op rfl rfl (eff_pick (v := .t _) rfl rfl rfl rfl) ?_
    refine RW.op rfl rfl (eff_assign (v := .t _) rfl rfl rfl) ?_
    refine RW.nil ?_
    refine awp_ret ?_
    exact ⟨Or.inr rfl, [_], ⟨.tmp (.t _), trivial⟩, wk_bool (by simp [*])⟩
  · try simp only [decide_eq_true_eq, decide_eq_false_iff_not, beq_iff_eq, bne_iff_ne, bne_eq_false_iff_eq, beq_eq_false_iff_ne, Bool.not_eq_true, Bool.not_eq_false, Bool.not_eq_true', Bool.not_eq_false', ne_eq] at h1
    refine RW.gskip rfl rfl rfl rfl rfl (by decide) ?_
    refine RW.gskip rfl rfl rfl rfl rfl (by decide) ?_
    refine RW.gskip rfl rfl rfl rfl rfl (by decide) ?_
    refine RW.gskip rfl rfl rfl rfl rfl (by decide) ?_
    refine RW.op rfl rfl (eff_pick (v := .t _) rfl rfl rfl rfl) ?_
    refine RW.op rfl rfl (eff_assign (v := .t _) rfl rfl rfl) ?_
    refine RW.nil ?_
    refine awp_ret ?_
    exact ⟨Or.inr rfl, [_], ⟨.tmp (.t _), trivial⟩, wk_bool (by simp [*])⟩

theorem rule1_ret (d : Dec) (s : Rep) (n : Int) (hs : HP s) (hx : NX 1000000 s) (hd : -2000000 ≤ d.seq ∧ d.seq ≤ 2000000) : Ret Tryd.prog 54 [encD d, encR s, encI n] (.bool (decide (d.seq < n) && decide (s.next ≤ d.seq) && !has s d.seq)) := by
  refine ret_of_awp Tryd.func54 rfl (Nat.le_of_ble_eq_true rfl) ?_
  refine awp_seq ?_
  refine awp_rw rfl ?_
  refine RW.new rfl rfl (eff_boxK (v := .t _) (k := 4) (id := 3) rfl rfl rfl rfl rfl rfl) ?_
  refine RW.new rfl rfl (eff_boxK (v := .t _) (k := 4) (id := 4) rfl rfl rfl rfl rfl rfl) ?_
  refine RW.op rfl rfl (eff_assign (v := .t _) rfl rfl rfl) ?_
  refine RW.nil ?_
  refine awp_seq ?_
  refine awp_rw rfl ?_
  refine RW.op rfl rfl (eff_fieldAddr rfl rfl tf28_3 (by decide) rfl rfl rfl (Nat.le_of_ble_eq_true rfl)) ?_
  refine RW.op rfl rfl (eff_load (y := .t _) rfl rfl ti3 rfl (.one rfl rfl rfl rfl)) ?_
  refine RW.op rfl rfl (eff_move (v := .t _) rfl rfl rfl) ?_
  refine RW.op rfl rfl (eff_iop rfl rfl rfl rfl rfl) ?_
  refine RW.op rfl rfl (eff_move (v := .t _) rfl rfl rfl) ?_
  refine RW.split 11 rfl (fun h1 => ?_) (fun h1 => ?_)
  · try simp only [decide_eq_true_eq, decide_eq_false_iff_not, beq_iff_eq, bne_iff_ne, bne_eq_false_iff_eq, beq_eq_false_iff_ne, Bool.not_eq_true, Bool.not_eq_false, Bool.not_eq_true', Bool.not_eq_false', ne_eq] at h1
    refine RW.gop rfl rfl rfl rfl rfl rfl (eff_fieldAddr rfl rfl tf28_3 (by decide) rfl rfl rfl (Nat.le_of_ble_eq_true rfl)) ?_
    refine RW.gop rfl rfl rfl rfl rfl rfl (eff_load (y := .t _) rfl rfl ti3 rfl (.one rfl rfl rfl rfl)) ?_
    refine RW.gop rfl rfl rfl rfl rfl rfl (eff_fieldAddr rfl rfl tf23_0 (by decide) rfl rfl rfl (Nat.le_of_ble_eq_true rfl)) ?_
    refine RW.gop rfl rfl rfl rfl rfl rfl (eff_load (y := .t _) rfl rfl ti3 rfl (.one rfl rfl rfl rfl)) ?_
    refine RW.gop rfl rfl rfl rfl rfl rfl (eff_iop rfl rfl rfl rfl rfl) ?_
    refine RW.op rfl rfl (eff_pick (v := .t _) rfl rfl rfl rfl) ?_
    refine RW.op rfl rfl (eff_move (v := .t _) rfl rfl rfl) ?_
    refine RW.split 18 rfl (fun h2 => ?_) (fun h2 => ?_)
    · try simp only [decide_eq_true_eq, decide_eq_false_iff_not, beq_iff_eq, bne_iff_ne, bne_eq_false_iff_eq, beq_eq_false_iff_ne, Bool.not_eq_true, Bool.not_eq_false, Bool.not_eq_true', Bool.not_eq_false', ne_eq] at h2
      refine RW.gop rfl rfl rfl rfl rfl rfl (eff_load rfl rfl ti23 rfl (.whole rfl rfl rfl rfl rfl rfl)) ?_
      refine RW.gop rfl rfl rfl rfl rfl rfl (eff_fieldAddr rfl rfl tf28_3 (by decide) rfl rfl rfl (Nat.le_of_ble_eq_true rfl)) ?_
      refine RW.gop rfl rfl rfl rfl rfl rfl (eff_load (y := .t _) rfl rfl ti3 rfl (.one rfl rfl rfl rfl)) ?_
      refine RW.gop rfl rfl rfl rfl rfl rfl (eff_callT (has_q_ret s d.seq hs hx hd) co55 rfl rfl rfl rfl) ?_
      refine RW.gop rfl rfl rfl rfl rfl rfl (eff_unop rfl rfl rfl rfl) ?_
      refine RW.op rfl rfl (eff_pick (v := .t _) rfl rfl rfl rfl) ?_
      refine RW.op rfl rfl (eff_assign (v := .t _) rfl rfl rfl) ?_
      refine RW.nil ?_
      refine awp_ret ?_
      exact ⟨Or.inr rfl, [_], ⟨.tmp (.t _), trivial⟩, wk_bool (by simp [*])⟩
    · try simp only [decide_eq_true_eq, decide_eq_false_iff_not, beq_iff_eq, bne_iff_ne, bne_eq_false_iff_eq, beq_eq_false_iff_ne, Bool.not_eq_true, Bool.not_eq_false, Bool.not_eq_true', Bool.not_eq_false', ne_eq] at h2
      refine RW.gskip rfl rfl rfl rfl rfl (by decide) ?_
      refine RW.gskip rfl rfl rfl rfl rfl (by decide) ?_
      refine RW.gskip rfl rfl rfl rfl rfl (by decide) ?_
      refine RW.gskip rfl rfl rfl rfl rfl (by decide) ?_
      refine RW.gskip rfl rfl rfl rfl rfl (by decide) ?_
      refine RW.op rfl rfl (eff_pick (v := .t _) rfl rfl rfl rfl) ?_
      refine RW.op rfl rfl (eff_assign (v := .t _) rfl rfl rfl) ?_
      refine RW.nil ?_
      refine awp_ret ?_
      exact ⟨Or.inr rfl, [_], ⟨.tmp (.t _), trivial⟩, wk_bool (by simp [*])⟩
  · try simp only [decide_eq_true_eq, decide_eq_false_iff_not, beq_iff_eq, bne_iff_ne, bne_eq_false_iff_eq, beq_eq_false_iff_ne, Bool.not_eq_true, Bool.not_eq_false, Bool.not_eq_true', Bool.not_eq_false', ne_eq] at h1
    refine RW.gskip rfl rfl rfl rfl rfl (by decide) ?_
    refine RW.gskip rfl rfl rfl rfl rfl (by decide) ?_
    refine RW.gskip rfl rfl rfl rfl rfl (by decide) ?_
    refine RW.gskip rfl rfl rfl rfl rfl (by decide) ?_
    refine RW.gskip rfl rfl rfl rfl rfl (by decide) ?_
    refine RW.op rfl rfl (eff_pick (v := .t _) rfl rfl rfl rfl) ?_
    refine RW.op rfl rfl (eff_move (v := .t _) rfl rfl rfl) ?_
    refine RW.gskip rfl rfl rfl rfl rfl (by decide) ?_
    refine RW.gskip rfl rfl rfl rfl rfl (by decide) ?_
    refine RW.gskip rfl rfl rfl rfl rfl (by decide) ?_
    refine RW.gskip rfl rfl rfl rfl rfl (by decide) ?_
    refine RW.gskip rfl rfl rfl rfl rfl (by decide) ?_
    refine RW.op rfl rfl (eff_pick (v := .t _) rfl rfl rfl rfl) ?_
    refine RW.op rfl rfl (eff_assign (v := .t _) rfl rfl rfl) ?_
    refine RW.nil ?_
    refine awp_ret ?_
    exact ⟨Or.inr rfl, [_], ⟨.tmp (.t _), trivial⟩, wk_bool (by simp [*])⟩

theorem rule2_ret (d : Dec) (s : Rep) (n : Int) : Ret Tryd.prog 56 [encD d, encR s, encI n] (.bool s.locked) := by
  refine ret_of_awp Tryd.func56 rfl (Nat.le_of_ble_eq_true rfl) ?_
  refine awp_seq ?_
  refine awp_rw rfl ?_
  refine RW.new rfl rfl (eff_boxK (v := .t _) (k := 4) (id := 3) rfl rfl rfl rfl rfl rfl) ?_
  refine RW.new rfl rfl (eff_boxK (v := .t _) (k := 4) (id := 4) rfl rfl rfl rfl rfl rfl) ?_
  refine RW.op rfl rfl (eff_assign (v := .t _) rfl rfl rfl) ?_
  refine RW.nil ?_
  refine awp_seq ?_
  refine awp_rw rfl ?_
  refine RW.op rfl rfl (eff_fieldAddr rfl rfl tf23_3 (by decide) rfl rfl rfl (Nat.le_of_ble_eq_true rfl)) ?_
  refine RW.op rfl rfl (eff_load (y := .t _) rfl rfl ti4 rfl (.one rfl rfl rfl rfl)) ?_
  refine RW.op rfl rfl (eff_assign (v := .t _) rfl rfl rfl) ?_
  refine RW.nil ?_
  refine awp_ret ?_
  first
    | exact ⟨Or.inr rfl, [_], ⟨.tmp (.t _), trivial⟩, .refl _⟩
    | exact ⟨Or.inr rfl, [_], ⟨.tmp (.t _), trivial⟩, (by repeat' first | exact trivial | exact Wk.refl _ | exact Wk.sl _ | refine And.intro ?_ ?_ | refine Wk.tupP ?_ | refine Wk.aggP ?_)⟩
    | exact ⟨Or.inr rfl, [_], ⟨.tmp (Res.ownT rfl rfl rfl rfl), trivial⟩, .refl _⟩
    | exact ⟨Or.inr rfl, [_], ⟨.tmp (Res.ownT rfl rfl rfl rfl), trivial⟩, (by repeat' first | exact trivial | exact Wk.refl _ | exact Wk.sl _ | refine And.intro ?_ ?_ | refine Wk.tupP ?_ | refine Wk.aggP ?_)⟩

theorem rule3_ret (d : Dec) (s : Rep) (n : Int) : Ret Tryd.prog 57 [encD d, encR s, encI n] (.bool (decide (d.seq < s.next))) := by
  refine ret_of_awp Tryd.func57 rfl (Nat.le_of_ble_eq_true rfl) ?_
  refine awp_seq ?_
  refine awp_rw rfl ?_
  refine RW.new rfl rfl (eff_boxK (v := .t _) (k := 4) (id := 3) rfl rfl rfl rfl rfl rfl) ?_
  refine RW.new rfl rfl (eff_boxK (v := .t _) (k := 4) (id := 4) rfl rfl rfl rfl rfl rfl) ?_
  refine RW.op rfl rfl (eff_assign (v := .t _) rfl rfl rfl) ?_
  refine RW.nil ?_
  refine awp_seq ?_
  refine awp_rw rfl ?_
  refine RW.op rfl rfl (eff_fieldAddr rfl rfl tf28_3 (by decide) rfl rfl rfl (Nat.le_of_ble_eq_true rfl)) ?_
  refine RW.op rfl rfl (eff_load (y := .t _) rfl rfl ti3 rfl (.one rfl rfl rfl rfl)) ?_
  refine RW.op rfl rfl (eff_fieldAddr rfl rfl tf23_0 (by decide) rfl rfl rfl (Nat.le_of_ble_eq_true rfl)) ?_
  refine RW.op rfl rfl (eff_load (y := .t _) rfl rfl ti3 rfl (.one rfl rfl rfl rfl)) ?_
  refine RW.op rfl rfl (eff_iop rfl rfl rfl rfl rfl) ?_
  refine RW.op rfl rfl (eff_assign (v := .t _) rfl rfl rfl) ?_
  refine RW.nil ?_
  refine awp_ret ?_
  first
    | exact ⟨Or.inr rfl, [_], ⟨.tmp (.t _), trivial⟩, .refl _⟩
    | exact ⟨Or.inr rfl, [_], ⟨.tmp (.t _), trivial⟩, (by repeat' first | exact trivial | exact Wk.refl _ | exact Wk.sl _ | refine And.intro ?_ ?_ | refine Wk.tupP ?_ | refine Wk.aggP ?_)⟩
    | exact ⟨Or.inr rfl, [_], ⟨.tmp (Res.ownT rfl rfl rfl rfl), trivial⟩, .refl _⟩
    | exact ⟨Or.inr rfl, [_], ⟨.tmp (Res.ownT rfl rfl rfl rfl), trivial⟩, (by repeat' first | exact trivial | exact Wk.refl _ | exact Wk.sl _ | refine And.intro ?_ ?_ | refine Wk.tupP ?_ | refine Wk.aggP ?_)⟩

def ruleL : List (Int × FuncId) := [(0, 53), (1, 54), (2, 56), (3, 57)]
noncomputable def KI : MapK Tryd.prog 3 Int := MapK.int tu3
noncomputable def ruleM : Tr := .mpd (mapL KI MapX.fn ruleL)
theorem eff_rule {D : St} {o : Oper} {m k : Operand} {kd : Int} {u : Tr} {b : Bool} (hd : dstOK D.n o.dst = true) (ho : o.op = .lookup 73 m k true)
    (hm : D.ev m = .t ruleM) (hk : D.ev k = .t (encI kd)) (hu : ((lookA kd ruleL).map MapX.fn.xt).getD .nilf = u) (hb : (lookA kd ruleL).isSome = b) : Eff Tryd.prog o D ⟨.t (.tup [u, .bool b]), []⟩ := by
  subst hb
  exact eff_getD (P := Tryd.prog) KI MapX.fn (a := kd) (l := ruleL) (z := .nilf) (zv := .nilFunc) (ok := true) Tryd.underlying73 tz29 solid_nilf hd ho hm .d (by decide) hk hu
theorem rule_none {kd : Int} (h0 : kd ≠ 0) (h1 : kd ≠ 1) (h2 : kd ≠ 2) (h3 : kd ≠ 3) : lookA kd ruleL = none := by
  simp [ruleL, lookA, h0, h1, h2, h3]

theorem rules_ret  : Ret Tryd.prog 34 [] (ruleM) := by
  refine ret_of_awr Tryd.func34 rfl (Nat.le_of_ble_eq_true rfl) ?_
  intro F0 w0
  refine awj_seq ?_
  refine awj_rj rfl ?_
  refine RJ.op rfl rfl (eff_assign (v := .junk) rfl rfl rfl) ?_
  refine RJ.nil ?_
  refine awj_seq ?_
  refine awj_rj rfl ?_
  refine RJ.rMake rfl rfl rfl rfl (fun rO hrO => ?_)
  refine RJ.rPut KI MapX.fn (a := 0) (b := 53) (lm := ruleL.take 0) rfl rfl (.inr rfl) Tryd.underlying73 rfl rfl rfl (gget_same _ _ _) ?_
  refine RJ.rPut KI MapX.fn (a := 1) (b := 54) (lm := ruleL.take 1) rfl rfl (.inr rfl) Tryd.underlying73 rfl rfl rfl (gget_same _ _ _) ?_
  refine RJ.rPut KI MapX.fn (a := 2) (b := 56) (lm := ruleL.take 2) rfl rfl (.inr rfl) Tryd.underlying73 rfl rfl rfl (gget_same _ _ _) ?_
  refine RJ.rPut KI MapX.fn (a := 3) (b := 57) (lm := ruleL.take 3) rfl rfl (.inr rfl) Tryd.underlying73 rfl rfl rfl (gget_same _ _ _) ?_
  refine RJ.op rfl rfl (eff_move (v := .t _) rfl rfl rfl) ?_
  refine RJ.op rfl rfl (eff_assign (v := .t _) rfl rfl rfl) ?_
  refine RJ.nil ?_
  show AWJ _ _ _ _ _ _ _ _
  refine awj_freeze 0 (mapL KI MapX.fn ruleL) rfl (gget_same _ _ _) (.refl _) ?_
  refine awj_ret ?_
  first
    | exact ⟨Or.inr rfl, [_], ⟨.tmp (.t _), trivial⟩, .refl _⟩
    | exact ⟨Or.inr rfl, [_], ⟨.tmp (.t _), trivial⟩, (by repeat' first | exact trivial | exact Wk.refl _ | exact Wk.sl _ | refine And.intro ?_ ?_ | refine Wk.tupP ?_ | refine Wk.aggP ?_)⟩
    | exact ⟨Or.inr rfl, [_], ⟨.tmp (Res.ownT rfl rfl rfl rfl), trivial⟩, .refl _⟩
    | exact ⟨Or.inr rfl, [_], ⟨.tmp (Res.ownT rfl rfl rfl rfl), trivial⟩, (by repeat' first | exact trivial | exact Wk.refl _ | exact Wk.sl _ | refine And.intro ?_ ?_ | refine Wk.tupP ?_ | refine Wk.aggP ?_)⟩

theorem right_ret (d : Dec) (s : Rep) (n : Int) (hs : HP s) (hx : NX 1000000 s) (hd : -2000000 ≤ d.seq ∧ d.seq ≤ 2000000) : Ret Tryd.prog 14 [encD d, encR s, encI n] (.bool (rightD d s n)) := by
  refine ret_of_awp Tryd.func14 rfl (Nat.le_of_ble_eq_true rfl) ?_
  refine awp_seq ?_
  refine awp_rw rfl ?_
  refine RW.new rfl rfl (eff_boxK (v := .t _) (k := 4) (id := 3) rfl rfl rfl rfl rfl rfl) ?_
  refine RW.new rfl rfl (eff_boxK (v := .t _) (k := 4) (id := 4) rfl rfl rfl rfl rfl rfl) ?_
  refine RW.op rfl rfl (eff_assign (v := .t _) rfl rfl rfl) ?_
  refine RW.nil ?_
  refine awp_seq ?_
  by_cases hc1 : d.kind = 0
  · refine awp_rd [(some 10, []), (some 11, []), (some 12, []), (some 13, []), (some 9, []), (some 14, []), (some 15, []), (some 7, []), (some 8, [])] [[], [], [1], [0, 1, 2], [0, 1, 2, 3], [0, 1, 2, 3, 4], [0, 1, 2, 3, 4], [0, 1, 2, 3, 4, 5], [0, 1, 2, 3, 4, 5, 6, 7]] tm rfl rfl rfl rfl ?_
    refine RD.op rfl rfl rfl (eff_callT (rules_ret) co34 rfl rfl rfl rfl) ?_
    refine RD.op rfl rfl rfl (eff_fieldAddr rfl rfl tf28_2 (by decide) rfl rfl rfl (Nat.le_of_ble_eq_true rfl)) ?_
    refine RD.op rfl rfl rfl (eff_load (y := .t _) rfl rfl ti3 rfl (.one rfl rfl rfl rfl)) ?_
    refine RD.op rfl rfl rfl (eff_rule (u := .fn 53 []) (b := true) rfl rfl rfl rfl (by rw [hc1]; rfl) (by rw [hc1]; rfl)) ?_
    refine RD.op rfl rfl rfl (eff_move (v := .t _) rfl rfl rfl) ?_
    refine RD.op rfl rfl rfl (eff_extract rfl rfl rfl rfl) ?_
    refine RD.op rfl rfl rfl (eff_extract rfl rfl rfl rfl) ?_
    refine RD.op rfl rfl rfl (eff_assign (v := .t _) rfl rfl rfl) ?_
    refine RD.op rfl rfl rfl (eff_assign (v := .t _) rfl rfl rfl) ?_
    refine RD.nil ?_
    refine awp_seq ?_
    refine awp_rw rfl ?_
    refine RW.op rfl rfl (eff_move (v := .t _) rfl rfl rfl) ?_
    refine RW.op rfl rfl (eff_move (v := .t _) rfl rfl rfl) ?_
    refine RW.gop rfl rfl rfl rfl rfl rfl (eff_move (v := .t _) rfl rfl rfl) ?_
    refine RW.gop rfl rfl rfl rfl rfl rfl (eff_load rfl rfl ti28 rfl (.whole rfl rfl rfl rfl rfl rfl)) ?_
    refine RW.gop rfl rfl rfl rfl rfl rfl (eff_load rfl rfl ti23 rfl (.whole rfl rfl rfl rfl rfl rfl)) ?_
    refine RW.gop rfl rfl rfl rfl rfl rfl (eff_move (v := .t _) rfl rfl rfl) ?_
    refine RW.gop rfl rfl rfl rfl rfl rfl (eff_callT (rule0_ret d s n) co53 rfl rfl rfl rfl) ?_
    refine RW.op rfl rfl (eff_pick (v := .t _) rfl rfl rfl rfl) ?_
    refine RW.op rfl rfl (eff_assign (v := .t _) rfl rfl rfl) ?_
    refine RW.nil ?_
    refine awp_ret ?_
    exact ⟨Or.inr rfl, [_], ⟨.tmp (.t _), trivial⟩, wk_bool (by unfold rightD; rw [if_pos hc1])⟩
  · by_cases hc2 : d.kind = 1
    · refine awp_rd [(some 10, []), (some 11, []), (some 12, []), (some 13, []), (some 9, []), (some 14, []), (some 15, []), (some 7, []), (some 8, [])] [[], [], [1], [0, 1, 2], [0, 1, 2, 3], [0, 1, 2, 3, 4], [0, 1, 2, 3, 4], [0, 1, 2, 3, 4, 5], [0, 1, 2, 3, 4, 5, 6, 7]] tm rfl rfl rfl rfl ?_
      refine RD.op rfl rfl rfl (eff_callT (rules_ret) co34 rfl rfl rfl rfl) ?_
      refine RD.op rfl rfl rfl (eff_fieldAddr rfl rfl tf28_2 (by decide) rfl rfl rfl (Nat.le_of_ble_eq_true rfl)) ?_
      refine RD.op rfl rfl rfl (eff_load (y := .t _) rfl rfl ti3 rfl (.one rfl rfl rfl rfl)) ?_
      refine RD.op rfl rfl rfl (eff_rule (u := .fn 54 []) (b := true) rfl rfl rfl rfl (by rw [hc2]; rfl) (by rw [hc2]; rfl)) ?_
      refine RD.op rfl rfl rfl (eff_move (v := .t _) rfl rfl rfl) ?_
      refine RD.op rfl rfl rfl (eff_extract rfl rfl rfl rfl) ?_
      refine RD.op rfl rfl rfl (eff_extract rfl rfl rfl rfl) ?_
      refine RD.op rfl rfl rfl (eff_assign (v := .t _) rfl rfl rfl) ?_
      refine RD.op rfl rfl rfl (eff_assign (v := .t _) rfl rfl rfl) ?_
      refine RD.nil ?_
      refine awp_seq ?_
      refine awp_rw rfl ?_
      refine RW.op rfl rfl (eff_move (v := .t _) rfl rfl rfl) ?_
      refine RW.op rfl rfl (eff_move (v := .t _) rfl rfl rfl) ?_
      refine RW.gop rfl rfl rfl rfl rfl rfl (eff_move (v := .t _) rfl rfl rfl) ?_
      refine RW.gop rfl rfl rfl rfl rfl rfl (eff_load rfl rfl ti28 rfl (.whole rfl rfl rfl rfl rfl rfl)) ?_
      refine RW.gop rfl rfl rfl rfl rfl rfl (eff_load rfl rfl ti23 rfl (.whole rfl rfl rfl rfl rfl rfl)) ?_
      refine RW.gop rfl rfl rfl rfl rfl rfl (eff_move (v := .t _) rfl rfl rfl) ?_
      refine RW.gop rfl rfl rfl rfl rfl rfl (eff_callT (rule1_ret d s n hs hx hd) co54 rfl rfl rfl rfl) ?_
      refine RW.op rfl rfl (eff_pick (v := .t _) rfl rfl rfl rfl) ?_
      refine RW.op rfl rfl (eff_assign (v := .t _) rfl rfl rfl) ?_
      refine RW.nil ?_
      refine awp_ret ?_
      exact ⟨Or.inr rfl, [_], ⟨.tmp (.t _), trivial⟩, wk_bool (by unfold rightD; rw [if_neg (by assumption), if_pos hc2])⟩
    · by_cases hc3 : d.kind = 2
      · refine awp_rd [(some 10, []), (some 11, []), (some 12, []), (some 13, []), (some 9, []), (some 14, []), (some 15, []), (some 7, []), (some 8, [])] [[], [], [1], [0, 1, 2], [0, 1, 2, 3], [0, 1, 2, 3, 4], [0, 1, 2, 3, 4], [0, 1, 2, 3, 4, 5], [0, 1, 2, 3, 4, 5, 6, 7]] tm rfl rfl rfl rfl ?_
        refine RD.op rfl rfl rfl (eff_callT (rules_ret) co34 rfl rfl rfl rfl) ?_
        refine RD.op rfl rfl rfl (eff_fieldAddr rfl rfl tf28_2 (by decide) rfl rfl rfl (Nat.le_of_ble_eq_true rfl)) ?_
        refine RD.op rfl rfl rfl (eff_load (y := .t _) rfl rfl ti3 rfl (.one rfl rfl rfl rfl)) ?_
        refine RD.op rfl rfl rfl (eff_rule (u := .fn 56 []) (b := true) rfl rfl rfl rfl (by rw [hc3]; rfl) (by rw [hc3]; rfl)) ?_
        refine RD.op rfl rfl rfl (eff_move (v := .t _) rfl rfl rfl) ?_
        refine RD.op rfl rfl rfl (eff_extract rfl rfl rfl rfl) ?_
        refine RD.op rfl rfl rfl (eff_extract rfl rfl rfl rfl) ?_
        refine RD.op rfl rfl rfl (eff_assign (v := .t _) rfl rfl rfl) ?_
        refine RD.op rfl rfl rfl (eff_assign (v := .t _) rfl rfl rfl) ?_
        refine RD.nil ?_
        refine awp_seq ?_
        refine awp_rw rfl ?_
        refine RW.op rfl rfl (eff_move (v := .t _) rfl rfl rfl) ?_
        refine RW.op rfl rfl (eff_move (v := .t _) rfl rfl rfl) ?_
        refine RW.gop rfl rfl rfl rfl rfl rfl (eff_move (v := .t _) rfl rfl rfl) ?_
        refine RW.gop rfl rfl rfl rfl rfl rfl (eff_load rfl rfl ti28 rfl (.whole rfl rfl rfl rfl rfl rfl)) ?_
        refine RW.gop rfl rfl rfl rfl rfl rfl (eff_load rfl rfl ti23 rfl (.whole rfl rfl rfl rfl rfl rfl)) ?_
        refine RW.gop rfl rfl rfl rfl rfl rfl (eff_move (v := .t _) rfl rfl rfl) ?_
        refine RW.gop rfl rfl rfl rfl rfl rfl (eff_callT (rule2_ret d s n) co56 rfl rfl rfl rfl) ?_
        refine RW.op rfl rfl (eff_pick (v := .t _) rfl rfl rfl rfl) ?_
        refine RW.op rfl rfl (eff_assign (v := .t _) rfl rfl rfl) ?_
        refine RW.nil ?_
        refine awp_ret ?_
        exact ⟨Or.inr rfl, [_], ⟨.tmp (.t _), trivial⟩, wk_bool (by unfold rightD; rw [if_neg (by assumption), if_neg (by assumption), if_pos hc3])⟩
      · by_cases hc4 : d.kind = 3
        · refine awp_rd [(some 10, []), (some 11, []), (some 12, []), (some 13, []), (some 9, []), (some 14, []), (some 15, []), (some 7, []), (some 8, [])] [[], [], [1], [0, 1, 2], [0, 1, 2, 3], [0, 1, 2, 3, 4], [0, 1, 2, 3, 4], [0, 1, 2, 3, 4, 5], [0, 1, 2, 3, 4, 5, 6, 7]] tm rfl rfl rfl rfl ?_
          refine RD.op rfl rfl rfl (eff_callT (rules_ret) co34 rfl rfl rfl rfl) ?_
          refine RD.op rfl rfl rfl (eff_fieldAddr rfl rfl tf28_2 (by decide) rfl rfl rfl (Nat.le_of_ble_eq_true rfl)) ?_
          refine RD.op rfl rfl rfl (eff_load (y := .t _) rfl rfl ti3 rfl (.one rfl rfl rfl rfl)) ?_
          refine RD.op rfl rfl rfl (eff_rule (u := .fn 57 []) (b := true) rfl rfl rfl rfl (by rw [hc4]; rfl) (by rw [hc4]; rfl)) ?_
          refine RD.op rfl rfl rfl (eff_move (v := .t _) rfl rfl rfl) ?_
          refine RD.op rfl rfl rfl (eff_extract rfl rfl rfl rfl) ?_
          refine RD.op rfl rfl rfl (eff_extract rfl rfl rfl rfl) ?_
          refine RD.op rfl rfl rfl (eff_assign (v := .t _) rfl rfl rfl) ?_
          refine RD.op rfl rfl rfl (eff_assign (v := .t _) rfl rfl rfl) ?_
          refine RD.nil ?_
          refine awp_seq ?_
          refine awp_rw rfl ?_
          refine RW.op rfl rfl (eff_move (v := .t _) rfl rfl rfl) ?_
          refine RW.op rfl rfl (eff_move (v := .t _) rfl rfl rfl) ?_
          refine RW.gop rfl rfl rfl rfl rfl rfl (eff_move (v := .t _) rfl rfl rfl) ?_
          refine RW.gop rfl rfl rfl rfl rfl rfl (eff_load rfl rfl ti28 rfl (.whole rfl rfl rfl rfl rfl rfl)) ?_
          refine RW.gop rfl rfl rfl rfl rfl rfl (eff_load rfl rfl ti23 rfl (.whole rfl rfl rfl rfl rfl rfl)) ?_
          refine RW.gop rfl rfl rfl rfl rfl rfl (eff_move (v := .t _) rfl rfl rfl) ?_
          refine RW.gop rfl rfl rfl rfl rfl rfl (eff_callT (rule3_ret d s n) co57 rfl rfl rfl rfl) ?_
          refine RW.op rfl rfl (eff_pick (v := .t _) rfl rfl rfl rfl) ?_
          refine RW.op rfl rfl (eff_assign (v := .t _) rfl rfl rfl) ?_
          refine RW.nil ?_
          refine awp_ret ?_
          exact ⟨Or.inr rfl, [_], ⟨.tmp (.t _), trivial⟩, wk_bool (by unfold rightD; rw [if_neg (by assumption), if_neg (by assumption), if_neg (by assumption), if_pos hc4])⟩
        · refine awp_rd [(some 10, []), (some 11, []), (some 12, []), (some 13, []), (some 9, []), (some 14, []), (some 15, []), (some 7, []), (some 8, [])] [[], [], [1], [0, 1, 2], [0, 1, 2, 3], [0, 1, 2, 3, 4], [0, 1, 2, 3, 4], [0, 1, 2, 3, 4, 5], [0, 1, 2, 3, 4, 5, 6, 7]] tm rfl rfl rfl rfl ?_
          refine RD.op rfl rfl rfl (eff_callT (rules_ret) co34 rfl rfl rfl rfl) ?_
          refine RD.op rfl rfl rfl (eff_fieldAddr rfl rfl tf28_2 (by decide) rfl rfl rfl (Nat.le_of_ble_eq_true rfl)) ?_
          refine RD.op rfl rfl rfl (eff_load (y := .t _) rfl rfl ti3 rfl (.one rfl rfl rfl rfl)) ?_
          refine RD.op rfl rfl rfl (eff_rule (u := .nilf) (b := false) rfl rfl rfl rfl (by rw [rule_none (by assumption) (by assumption) (by assumption) (by assumption)]; rfl) (by rw [rule_none (by assumption) (by assumption) (by assumption) (by assumption)]; rfl)) ?_
          refine RD.op rfl rfl rfl (eff_move (v := .t _) rfl rfl rfl) ?_
          refine RD.op rfl rfl rfl (eff_extract rfl rfl rfl rfl) ?_
          refine RD.op rfl rfl rfl (eff_extract rfl rfl rfl rfl) ?_
          refine RD.op rfl rfl rfl (eff_assign (v := .t _) rfl rfl rfl) ?_
          refine RD.op rfl rfl rfl (eff_assign (v := .t _) rfl rfl rfl) ?_
          refine RD.nil ?_
          refine awp_seq ?_
          refine awp_rw rfl ?_
          refine RW.op rfl rfl (eff_move (v := .t _) rfl rfl rfl) ?_
          refine RW.op rfl rfl (eff_move (v := .t _) rfl rfl rfl) ?_
          refine RW.gskip rfl rfl rfl rfl rfl (by decide) ?_
          refine RW.gskip rfl rfl rfl rfl rfl (by decide) ?_
          refine RW.gskip rfl rfl rfl rfl rfl (by decide) ?_
          refine RW.gskip rfl rfl rfl rfl rfl (by decide) ?_
          refine RW.gskip rfl rfl rfl rfl rfl (by decide) ?_
          refine RW.op rfl rfl (eff_pick (v := .t _) rfl rfl rfl rfl) ?_
          refine RW.op rfl rfl (eff_assign (v := .t _) rfl rfl rfl) ?_
          refine RW.nil ?_
          refine awp_ret ?_
          exact ⟨Or.inr rfl, [_], ⟨.tmp (.t _), trivial⟩, wk_bool (by unfold rightD; rw [if_neg (by assumption), if_neg (by assumption), if_neg (by assumption), if_neg (by assumption)])⟩

end Go.Tv.C36

end
section
open Go Go.Tv Go.Proofs
namespace Go.Tv.C36
set_option maxRecDepth 20000
set_option maxHeartbeats 2000000
set_option linter.unusedSimpArgs false
set_option linter.unusedVariables false
theorem around_ret (n m : Int) (hn : I64 n) (hm : 0 < m ∧ m ≤ 9223372036854775807) : Ret Tryd.prog 13 [encI n, encI m] (encI (around n m)) := by
  unfold I64 at hn
  refine ret_of_awp Tryd.func13 rfl (Nat.le_of_ble_eq_true rfl) ?_
  refine awp_seq ?_
  refine awp_rw rfl ?_
  refine RW.op rfl rfl (eff_assign (v := .t _) rfl rfl rfl) ?_
  refine RW.nil ?_
  refine awp_seq ?_
  refine awp_seq ?_
  refine awp_rw rfl ?_
  refine RW.op rfl rfl (eff_move (v := .t _) rfl rfl rfl) ?_
  refine RW.op rfl rfl (eff_iop rfl rfl rfl rfl rfl) ?_
  refine RW.nil ?_
  refine awp_cond rfl (fun h1 => ?_) (fun h1 => ?_)
  · try simp only [decide_eq_true_eq, decide_eq_false_iff_not, beq_iff_eq, bne_iff_ne, bne_eq_false_iff_eq, beq_eq_false_iff_ne, Bool.not_eq_true, Bool.not_eq_false, Bool.not_eq_true', Bool.not_eq_false', ne_eq] at h1
    refine awp_rw rfl ?_
    refine RW.op rfl rfl (eff_move (v := .t _) rfl rfl rfl) ?_
    refine RW.op rfl rfl (eff_iop rfl rfl rfl rfl (iadd (by omega))) ?_
    refine RW.op rfl rfl (eff_unop (r := .int .i64 (-(n + 1))) rfl rfl rfl (uneg (by omega))) ?_
    refine RW.op rfl rfl (eff_assign (v := .t _) rfl rfl rfl) ?_
    refine RW.nil ?_
    refine awp_seq ?_
    refine awp_rw rfl ?_
    refine RW.op rfl rfl (eff_move (v := .t _) rfl rfl rfl) ?_
    refine RW.op rfl rfl (eff_move (v := .t _) rfl rfl rfl) ?_
    refine RW.op rfl rfl (eff_remE (r := around n m) rfl rfl rfl rfl (by omega) (by unfold around; first | (rw [if_pos h1]; exact tmod_pos (by omega)) | (rw [if_neg h1]; exact tmod_pos (by omega)))) ?_
    refine RW.op rfl rfl (eff_assign (v := .t _) rfl rfl rfl) ?_
    refine RW.nil ?_
    refine awp_ret ?_
    first
      | exact ⟨Or.inr rfl, [_], ⟨.tmp (.t _), trivial⟩, .refl _⟩
      | exact ⟨Or.inr rfl, [_], ⟨.tmp (.t _), trivial⟩, (by repeat' first | exact trivial | exact Wk.refl _ | exact Wk.sl _ | refine And.intro ?_ ?_ | refine Wk.tupP ?_ | refine Wk.aggP ?_)⟩
      | exact ⟨Or.inr rfl, [_], ⟨.tmp (Res.ownT rfl rfl rfl rfl), trivial⟩, .refl _⟩
      | exact ⟨Or.inr rfl, [_], ⟨.tmp (Res.ownT rfl rfl rfl rfl), trivial⟩, (by repeat' first | exact trivial | exact Wk.refl _ | exact Wk.sl _ | refine And.intro ?_ ?_ | refine Wk.tupP ?_ | refine Wk.aggP ?_)⟩
  · try simp only [decide_eq_true_eq, decide_eq_false_iff_not, beq_iff_eq, bne_iff_ne, bne_eq_false_iff_eq, beq_eq_false_iff_ne, Bool.not_eq_true, Bool.not_eq_false, Bool.not_eq_true', Bool.not_eq_false', ne_eq] at h1
    refine awp_skip ?_
    refine awp_seq ?_
    refine awp_rw rfl ?_
    refine RW.op rfl rfl (eff_move (v := .t _) rfl rfl rfl) ?_
    refine RW.op rfl rfl (eff_move (v := .t _) rfl rfl rfl) ?_
    refine RW.op rfl rfl (eff_remE (r := around n m) rfl rfl rfl rfl (by omega) (by unfold around; first | (rw [if_pos h1]; exact tmod_pos (by omega)) | (rw [if_neg h1]; exact tmod_pos (by omega)))) ?_
    refine RW.op rfl rfl (eff_assign (v := .t _) rfl rfl rfl) ?_
    refine RW.nil ?_
    refine awp_ret ?_
    first
      | exact ⟨Or.inr rfl, [_], ⟨.tmp (.t _), trivial⟩, .refl _⟩
      | exact ⟨Or.inr rfl, [_], ⟨.tmp (.t _), trivial⟩, (by repeat' first | exact trivial | exact Wk.refl _ | exact Wk.sl _ | refine And.intro ?_ ?_ | refine Wk.tupP ?_ | refine Wk.aggP ?_)⟩
      | exact ⟨Or.inr rfl, [_], ⟨.tmp (Res.ownT rfl rfl rfl rfl), trivial⟩, .refl _⟩
      | exact ⟨Or.inr rfl, [_], ⟨.tmp (Res.ownT rfl rfl rfl rfl), trivial⟩, (by repeat' first | exact trivial | exact Wk.refl _ | exact Wk.sl _ | refine And.intro ?_ ?_ | refine Wk.tupP ?_ | refine Wk.aggP ?_)⟩

theorem modulo_ret (n : Int) : Ret Tryd.prog 58 [encI n] (encI (n % 256)) := by
  have ht := tmod_range n
  refine ret_of_awp Tryd.func58 rfl (Nat.le_of_ble_eq_true rfl) ?_
  refine awp_seq ?_
  refine awp_rw rfl ?_
  refine RW.op rfl rfl (eff_assign (v := .t _) rfl rfl rfl) ?_
  refine RW.nil ?_
  refine awp_seq ?_
  refine awp_rw rfl ?_
  refine RW.op rfl rfl (eff_move (v := .t _) rfl rfl rfl) ?_
  refine RW.op rfl rfl (eff_rem rfl rfl rfl rfl (by first | decide | omega)) ?_
  refine RW.op rfl rfl (eff_assign (v := .t _) rfl rfl rfl) ?_
  refine RW.nil ?_
  refine awp_seq ?_
  refine awp_seq ?_
  refine awp_rw rfl ?_
  refine RW.op rfl rfl (eff_move (v := .t _) rfl rfl rfl) ?_
  refine RW.op rfl rfl (eff_iop rfl rfl rfl rfl rfl) ?_
  refine RW.nil ?_
  refine awp_cond rfl (fun h1 => ?_) (fun h1 => ?_)
  · try simp only [decide_eq_true_eq, decide_eq_false_iff_not, beq_iff_eq, bne_iff_ne, bne_eq_false_iff_eq, beq_eq_false_iff_ne, Bool.not_eq_true, Bool.not_eq_false, Bool.not_eq_true', Bool.not_eq_false', ne_eq] at h1
    refine awp_rw rfl ?_
    refine RW.op rfl rfl (eff_move (v := .t _) rfl rfl rfl) ?_
    refine RW.op rfl rfl (eff_iop (r := encI (n.tmod 256 + 256)) rfl rfl rfl rfl (iadd (by omega))) ?_
    refine RW.op rfl rfl (eff_assign (v := .t _) rfl rfl rfl) ?_
    refine RW.nil ?_
    refine awp_seq ?_
    refine awp_rw rfl ?_
    refine RW.op rfl rfl (eff_move (v := .t _) rfl rfl rfl) ?_
    refine RW.op rfl rfl (eff_assign (v := .t _) rfl rfl rfl) ?_
    refine RW.nil ?_
    refine awp_ret ?_
    rw [← tmod_fix n, if_pos h1]
    exact ⟨Or.inr rfl, [_], ⟨.tmp (.t _), trivial⟩, .refl _⟩
  · try simp only [decide_eq_true_eq, decide_eq_false_iff_not, beq_iff_eq, bne_iff_ne, bne_eq_false_iff_eq, beq_eq_false_iff_ne, Bool.not_eq_true, Bool.not_eq_false, Bool.not_eq_true', Bool.not_eq_false', ne_eq] at h1
    refine awp_skip ?_
    refine awp_seq ?_
    refine awp_rw rfl ?_
    refine RW.op rfl rfl (eff_move (v := .t _) rfl rfl rfl) ?_
    refine RW.op rfl rfl (eff_assign (v := .t _) rfl rfl rfl) ?_
    refine RW.nil ?_
    refine awp_ret ?_
    rw [← tmod_fix n, if_neg h1]
    exact ⟨Or.inr rfl, [_], ⟨.tmp (.t _), trivial⟩, .refl _⟩

theorem bit_ret (h i : Nat) (hh : h < 32768) (hi : i ≤ 64) : Ret Tryd.prog 59 [encI (h : Nat), encI (i : Nat)] (.bool (decide (h / 2 ^ i % 2 = 1))) := by
  refine ret_of_awp Tryd.func59 rfl (Nat.le_of_ble_eq_true rfl) ?_
  refine awp_seq ?_
  refine awp_rw rfl ?_
  refine RW.op rfl rfl (eff_assign (v := .t _) rfl rfl rfl) ?_
  refine RW.nil ?_
  refine awp_seq ?_
  refine awp_seq ?_
  refine awp_rw rfl ?_
  refine RW.op rfl rfl (eff_assign (v := .t _) rfl rfl rfl) ?_
  refine RW.nil ?_
  refine awp_block ?_
  refine awp_loopW (fun m s => ∃ (k : Nat), (k ≤ i) ∧ m = i - k ∧ s = ⟨16, [(0, .t (encI ((hv h k : Nat) : Int))), (1, .t (encI (i : Nat))), (5, .t (encI (k : Nat)))], []⟩) (_) (⟨_, weak_keep (n := 16) (fr' := [(0, .t (encI ((hv h 0 : Nat) : Int))), (1, .t (encI (i : Nat))), (5, .t (encI (0 : Nat)))]) (st' := []) ⟨rfl, rfl, rfl, rfl, rfl, rfl, trivial⟩ trivial, 0, (by omega), rfl, rfl⟩) ?_
  rintro m s ⟨k, hk, rfl, rfl⟩
  have hq := hv_le h k
  refine awp_seq ?_
  refine awp_seq ?_
  refine awp_rw rfl ?_
  refine RW.op rfl rfl (eff_move (v := .t _) rfl rfl rfl) ?_
  refine RW.op rfl rfl (eff_move (v := .t _) rfl rfl rfl) ?_
  refine RW.op rfl rfl (eff_iop rfl rfl rfl rfl rfl) ?_
  refine RW.nil ?_
  refine awp_cond rfl (fun h1 => ?_) (fun h1 => ?_)
  · try simp only [decide_eq_true_eq, decide_eq_false_iff_not, beq_iff_eq, bne_iff_ne, bne_eq_false_iff_eq, beq_eq_false_iff_ne, Bool.not_eq_true, Bool.not_eq_false, Bool.not_eq_true', Bool.not_eq_false', ne_eq] at h1
    refine awp_skip ?_
    refine awp_seq ?_
    refine awp_block ?_
    refine awp_rw rfl ?_
    refine RW.op rfl rfl (eff_move (v := .t _) rfl rfl rfl) ?_
    refine RW.op rfl rfl (eff_quoE (r := ((hv h (k + 1) : Nat) : Int)) rfl rfl rfl rfl (by decide) (half_hv h k hh)) ?_
    refine RW.op rfl rfl (eff_assign (v := .t _) rfl rfl rfl) ?_
    refine RW.nil ?_
    refine awp_rw rfl ?_
    refine RW.op rfl rfl (eff_move (v := .t _) rfl rfl rfl) ?_
    refine RW.op rfl rfl (eff_iop rfl rfl rfl rfl (iadd (by omega))) ?_
    refine RW.op rfl rfl (eff_assign (v := .t _) rfl rfl rfl) ?_
    refine RW.nil ?_
    refine ⟨_, ?_, _, weak_keep (n := 16) (fr' := [(0, .t (encI ((hv h (k + 1) : Nat) : Int))), (1, .t (encI (i : Nat))), (5, .t (encI ((k + 1) : Nat)))]) (st' := []) ⟨rfl, rfl, rfl, rfl, rfl, rfl, trivial⟩ trivial, k + 1, (by omega), rfl, rfl⟩
    omega
  · try simp only [decide_eq_true_eq, decide_eq_false_iff_not, beq_iff_eq, bne_iff_ne, bne_eq_false_iff_eq, beq_eq_false_iff_ne, Bool.not_eq_true, Bool.not_eq_false, Bool.not_eq_true', Bool.not_eq_false', ne_eq] at h1
    refine awp_exit ?_
    refine awp_seq ?_
    refine awp_rw rfl ?_
    refine RW.op rfl rfl (eff_move (v := .t _) rfl rfl rfl) ?_
    refine RW.op rfl rfl (eff_remE (r := ((hv h k % 2 : Nat) : Int)) rfl rfl rfl rfl (by decide) (by rw [tmod_pos (Int.natCast_nonneg _)]; rfl)) ?_
    refine RW.op rfl rfl (eff_iop rfl rfl rfl rfl rfl) ?_
    refine RW.op rfl rfl (eff_assign (v := .t _) rfl rfl rfl) ?_
    refine RW.nil ?_
    refine awp_ret ?_
    obtain rfl : k = i := by omega
    rw [show decide (h / 2 ^ k % 2 = 1) = (((hv h k % 2 : Nat) : Int) == 1) from by rw [← hv_eq h k, Bool.eq_iff_iff]; simp only [decide_eq_true_eq, beq_iff_eq]; omega]
    exact ⟨Or.inr rfl, [_], ⟨.tmp (.t _), trivial⟩, .refl _⟩

theorem power_ret (i : Nat) (hi : i ≤ 20) : Ret Tryd.prog 60 [encI (i : Nat)] (encI ((2 ^ i : Nat) : Int)) := by
  refine ret_of_awp Tryd.func60 rfl (Nat.le_of_ble_eq_true rfl) ?_
  refine awp_seq ?_
  refine awp_rw rfl ?_
  refine RW.op rfl rfl (eff_assign (v := .t _) rfl rfl rfl) ?_
  refine RW.nil ?_
  refine awp_seq ?_
  refine awp_rw rfl ?_
  refine RW.op rfl rfl (eff_assign (v := .t _) rfl rfl rfl) ?_
  refine RW.nil ?_
  refine awp_seq ?_
  refine awp_seq ?_
  refine awp_rw rfl ?_
  refine RW.op rfl rfl (eff_assign (v := .t _) rfl rfl rfl) ?_
  refine RW.nil ?_
  refine awp_block ?_
  refine awp_loopW (fun m s => ∃ (k : Nat), (k ≤ i) ∧ m = i - k ∧ s = ⟨13, [(0, .t (encI (i : Nat))), (3, .t (encI ((2 ^ k : Nat) : Int))), (4, .t (encI (k : Nat)))], []⟩) (_) (⟨_, weak_keep (n := 13) (fr' := [(0, .t (encI (i : Nat))), (3, .t (encI ((2 ^ 0 : Nat) : Int))), (4, .t (encI (0 : Nat)))]) (st' := []) ⟨rfl, rfl, rfl, rfl, rfl, rfl, trivial⟩ trivial, 0, (by omega), rfl, rfl⟩) ?_
  rintro m s ⟨k, hk, rfl, rfl⟩
  have hp := Nat.pow_le_pow_right (n := 2) (by decide) (show k ≤ 20 by omega)
  refine awp_seq ?_
  refine awp_seq ?_
  refine awp_rw rfl ?_
  refine RW.op rfl rfl (eff_move (v := .t _) rfl rfl rfl) ?_
  refine RW.op rfl rfl (eff_move (v := .t _) rfl rfl rfl) ?_
  refine RW.op rfl rfl (eff_iop rfl rfl rfl rfl rfl) ?_
  refine RW.nil ?_
  refine awp_cond rfl (fun h1 => ?_) (fun h1 => ?_)
  · try simp only [decide_eq_true_eq, decide_eq_false_iff_not, beq_iff_eq, bne_iff_ne, bne_eq_false_iff_eq, beq_eq_false_iff_ne, Bool.not_eq_true, Bool.not_eq_false, Bool.not_eq_true', Bool.not_eq_false', ne_eq] at h1
    refine awp_skip ?_
    refine awp_seq ?_
    refine awp_block ?_
    refine awp_rw rfl ?_
    refine RW.op rfl rfl (eff_move (v := .t _) rfl rfl rfl) ?_
    refine RW.op rfl rfl (eff_iop (r := encI ((2 ^ (k + 1) : Nat) : Int)) rfl rfl rfl rfl (twice_pow k (by omega))) ?_
    refine RW.op rfl rfl (eff_assign (v := .t _) rfl rfl rfl) ?_
    refine RW.nil ?_
    refine awp_rw rfl ?_
    refine RW.op rfl rfl (eff_move (v := .t _) rfl rfl rfl) ?_
    refine RW.op rfl rfl (eff_iop rfl rfl rfl rfl (iadd (by omega))) ?_
    refine RW.op rfl rfl (eff_assign (v := .t _) rfl rfl rfl) ?_
    refine RW.nil ?_
    refine ⟨_, ?_, _, weak_keep (n := 13) (fr' := [(0, .t (encI (i : Nat))), (3, .t (encI ((2 ^ (k + 1) : Nat) : Int))), (4, .t (encI ((k + 1) : Nat)))]) (st' := []) ⟨rfl, rfl, rfl, rfl, rfl, rfl, trivial⟩ trivial, k + 1, (by omega), rfl, rfl⟩
    omega
  · try simp only [decide_eq_true_eq, decide_eq_false_iff_not, beq_iff_eq, bne_iff_ne, bne_eq_false_iff_eq, beq_eq_false_iff_ne, Bool.not_eq_true, Bool.not_eq_false, Bool.not_eq_true', Bool.not_eq_false', ne_eq] at h1
    refine awp_exit ?_
    refine awp_seq ?_
    refine awp_rw rfl ?_
    refine RW.op rfl rfl (eff_move (v := .t _) rfl rfl rfl) ?_
    refine RW.op rfl rfl (eff_assign (v := .t _) rfl rfl rfl) ?_
    refine RW.nil ?_
    refine awp_ret ?_
    obtain rfl : k = i := by omega
    exact ⟨Or.inr rfl, [_], ⟨.tmp (.t _), trivial⟩, .refl _⟩

theorem tz64_ret (x : Nat) (hx : x < 18446744073709551616) : RetT Tryd.prog 90 [(1, deT)] [.int .u64 (x : Nat)] (encI (Lib.ctz 64 x : Nat)) := by
  refine retT_of_awp Tryd.func90 rfl (Nat.le_of_ble_eq_true rfl) ?_
  refine awp_seq ?_
  refine awp_rw rfl ?_
  refine RW.op rfl rfl (eff_assign (v := .t _) rfl rfl rfl) ?_
  refine RW.nil ?_
  refine awp_seq ?_
  refine awp_seq ?_
  refine awp_rw rfl ?_
  refine RW.op rfl rfl (eff_move (v := .t _) rfl rfl rfl) ?_
  refine RW.op rfl rfl (eff_iop rfl rfl rfl rfl rfl) ?_
  refine RW.nil ?_
  refine awp_cond rfl (fun h1 => ?_) (fun h1 => ?_)
  · try simp only [decide_eq_true_eq, decide_eq_false_iff_not, beq_iff_eq, bne_iff_ne, bne_eq_false_iff_eq, beq_eq_false_iff_ne, Bool.not_eq_true, Bool.not_eq_false, Bool.not_eq_true', Bool.not_eq_false', ne_eq] at h1
    refine awp_seq ?_
    refine awp_rw rfl ?_
    refine RW.op rfl rfl (eff_assign (v := .t _) rfl rfl rfl) ?_
    refine RW.nil ?_
    refine awp_ret ?_
    obtain rfl : x = 0 := by omega
    exact ⟨Or.inr rfl, [_], ⟨.tmp (.t _), trivial⟩, .refl _⟩
  · try simp only [decide_eq_true_eq, decide_eq_false_iff_not, beq_iff_eq, bne_iff_ne, bne_eq_false_iff_eq, beq_eq_false_iff_ne, Bool.not_eq_true, Bool.not_eq_false, Bool.not_eq_true', Bool.not_eq_false', ne_eq] at h1
    refine awp_skip ?_
    refine awp_seq ?_
    refine awp_rw rfl ?_
    have hx0 : x ≠ 0 := by omega
    obtain ⟨hlow, hct⟩ := Lib.lowest_bit 64 x hx0 hx
    have hlt : 2 ^ Lib.ctz 64 x < 18446744073709551616 := by rw [← hlow]; exact Nat.lt_of_le_of_lt Nat.and_le_left hx
    refine RW.op rfl rfl (eff_move (v := .t _) rfl rfl rfl) ?_
    refine RW.op rfl rfl (eff_move (v := .t _) rfl rfl rfl) ?_
    refine RW.op rfl rfl (eff_unop rfl rfl rfl (neg_nat hx0 hx)) ?_
    refine RW.op rfl rfl (eff_iop (r := .int .u64 ((2 ^ Lib.ctz 64 x : Nat) : Int)) rfl rfl rfl rfl (by rw [← hlow]; exact and_nat hx (by omega))) ?_
    refine RW.op rfl rfl (eff_iop (r := .int .u64 ((2 ^ Lib.ctz 64 x * 285870213051353865 % 18446744073709551616 : Nat) : Int)) rfl rfl rfl rfl (mul_u64 _ _)) ?_
    refine RW.op rfl rfl (eff_shrE (r := ((dix (Lib.ctz 64 x) : Nat) : Int)) rfl rfl rfl rfl (by decide) (shr58 _)) ?_
    refine RW.op rfl rfl (eff_indexAddrR rfl rfl Tryd.underlying125 ti5 rfl rfl rfl (dix_lt hct)) ?_
    refine RW.op rfl rfl (eff_loadR rfl rfl ti5 rfl (deB_get hct)) ?_
    refine RW.op rfl rfl (eff_convIntE (m := ((Lib.ctz 64 x : Nat) : Int)) rfl rfl (by rw [tu5]; rfl) tu3 rfl (by rw [wi64]; omega)) ?_
    refine RW.op rfl rfl (eff_assign (v := .t _) rfl rfl rfl) ?_
    refine RW.nil ?_
    refine awp_ret ?_
    first
      | exact ⟨Or.inr rfl, [_], ⟨.tmp (.t _), trivial⟩, .refl _⟩
      | exact ⟨Or.inr rfl, [_], ⟨.tmp (.t _), trivial⟩, (by repeat' first | exact trivial | exact Wk.refl _ | exact Wk.sl _ | refine And.intro ?_ ?_ | refine Wk.tupP ?_ | refine Wk.aggP ?_)⟩
      | exact ⟨Or.inr rfl, [_], ⟨.tmp (Res.ownT rfl rfl rfl rfl), trivial⟩, .refl _⟩
      | exact ⟨Or.inr rfl, [_], ⟨.tmp (Res.ownT rfl rfl rfl rfl), trivial⟩, (by repeat' first | exact trivial | exact Wk.refl _ | exact Wk.sl _ | refine And.intro ?_ ?_ | refine Wk.tupP ?_ | refine Wk.aggP ?_)⟩

theorem tz_ret (x : Nat) (hx : x < 18446744073709551616) : RetT Tryd.prog 83 [(1, deT)] [.int .u64 (x : Nat)] (encI (Lib.ctz 64 x : Nat)) := by
  refine retT_of_awp Tryd.func83 rfl (Nat.le_of_ble_eq_true rfl) ?_
  refine awp_seq ?_
  refine awp_rw rfl ?_
  refine RW.op rfl rfl (eff_assign (v := .t _) rfl rfl rfl) ?_
  refine RW.nil ?_
  refine awp_seq ?_
  refine awp_cond rfl (fun h => nomatch h) (fun _ => ?_)
  refine awp_skip ?_
  refine awp_seq ?_
  refine awp_rw rfl ?_
  refine RW.op rfl rfl (eff_move (v := .t _) rfl rfl rfl) ?_
  refine RW.op rfl rfl (eff_callXT (tz64_ret _ hx) co90 rfl rfl rfl ⟨rfl, trivial⟩ rfl) ?_
  refine RW.op rfl rfl (eff_assign (v := .t _) rfl rfl rfl) ?_
  refine RW.nil ?_
  refine awp_ret ?_
  first
    | exact ⟨Or.inr rfl, [_], ⟨.tmp (.t _), trivial⟩, .refl _⟩
    | exact ⟨Or.inr rfl, [_], ⟨.tmp (.t _), trivial⟩, (by repeat' first | exact trivial | exact Wk.refl _ | exact Wk.sl _ | refine And.intro ?_ ?_ | refine Wk.tupP ?_ | refine Wk.aggP ?_)⟩
    | exact ⟨Or.inr rfl, [_], ⟨.tmp (Res.ownT rfl rfl rfl rfl), trivial⟩, .refl _⟩
    | exact ⟨Or.inr rfl, [_], ⟨.tmp (Res.ownT rfl rfl rfl rfl), trivial⟩, (by repeat' first | exact trivial | exact Wk.refl _ | exact Wk.sl _ | refine And.intro ?_ ?_ | refine Wk.tupP ?_ | refine Wk.aggP ?_)⟩

theorem nan_ret (n : Int) : Ret Tryd.prog 101 [encI n] (.bool false) := by
  refine ret_of_awp Tryd.func101 rfl (Nat.le_of_ble_eq_true rfl) ?_
  refine awp_seq ?_
  refine awp_rw rfl ?_
  refine RW.op rfl rfl (eff_assign (v := .t _) rfl rfl rfl) ?_
  refine RW.nil ?_
  refine awp_seq ?_
  refine awp_rw rfl ?_
  refine RW.op rfl rfl (eff_move (v := .t _) rfl rfl rfl) ?_
  refine RW.op rfl rfl (eff_move (v := .t _) rfl rfl rfl) ?_
  refine RW.op rfl rfl (eff_iop (r := .bool false) rfl rfl rfl rfl (by simp [iop])) ?_
  refine RW.op rfl rfl (eff_assign (v := .t _) rfl rfl rfl) ?_
  refine RW.nil ?_
  refine awp_ret ?_
  first
    | exact ⟨Or.inr rfl, [_], ⟨.tmp (.t _), trivial⟩, .refl _⟩
    | exact ⟨Or.inr rfl, [_], ⟨.tmp (.t _), trivial⟩, (by repeat' first | exact trivial | exact Wk.refl _ | exact Wk.sl _ | refine And.intro ?_ ?_ | refine Wk.tupP ?_ | refine Wk.aggP ?_)⟩
    | exact ⟨Or.inr rfl, [_], ⟨.tmp (Res.ownT rfl rfl rfl rfl), trivial⟩, .refl _⟩
    | exact ⟨Or.inr rfl, [_], ⟨.tmp (Res.ownT rfl rfl rfl rfl), trivial⟩, (by repeat' first | exact trivial | exact Wk.refl _ | exact Wk.sl _ | refine And.intro ?_ ?_ | refine Wk.tupP ?_ | refine Wk.aggP ?_)⟩

theorem cmp_ret (a b : Int) : Ret Tryd.prog 88 [encI a, encI b] (encI (cmpI a b)) := by
  refine ret_of_awp Tryd.func88 rfl (Nat.le_of_ble_eq_true rfl) ?_
  refine awp_seq ?_
  refine awp_rw rfl ?_
  refine RW.op rfl rfl (eff_assign (v := .t _) rfl rfl rfl) ?_
  refine RW.nil ?_
  refine awp_seq ?_
  refine awp_rw rfl ?_
  refine RW.op rfl rfl (eff_move (v := .t _) rfl rfl rfl) ?_
  refine RW.op rfl rfl (eff_callT (nan_ret _) co101 rfl rfl rfl rfl) ?_
  refine RW.op rfl rfl (eff_assign (v := .t _) rfl rfl rfl) ?_
  refine RW.nil ?_
  refine awp_seq ?_
  refine awp_rw rfl ?_
  refine RW.op rfl rfl (eff_move (v := .t _) rfl rfl rfl) ?_
  refine RW.op rfl rfl (eff_callT (nan_ret _) co101 rfl rfl rfl rfl) ?_
  refine RW.op rfl rfl (eff_assign (v := .t _) rfl rfl rfl) ?_
  refine RW.nil ?_
  refine awp_seq ?_
  refine awp_seq ?_
  refine awp_rw rfl ?_
  refine RW.op rfl rfl (eff_move (v := .t _) rfl rfl rfl) ?_
  refine RW.nil ?_
  refine awp_cond rfl (fun h => nomatch h) (fun _ => ?_)
  refine awp_skip ?_
  refine awp_seq ?_
  refine awp_seq ?_
  refine awp_rw rfl ?_
  refine RW.op rfl rfl (eff_move (v := .t _) rfl rfl rfl) ?_
  refine RW.nil ?_
  refine awp_cond rfl (fun h => nomatch h) (fun _ => ?_)
  refine awp_skip ?_
  refine awp_seq ?_
  refine awp_seq ?_
  refine awp_rw rfl ?_
  refine RW.op rfl rfl (eff_move (v := .t _) rfl rfl rfl) ?_
  refine RW.op rfl rfl (eff_move (v := .t _) rfl rfl rfl) ?_
  refine RW.op rfl rfl (eff_iop rfl rfl rfl rfl rfl) ?_
  refine RW.nil ?_
  refine awp_cond rfl (fun h1 => ?_) (fun h1 => ?_)
  · try simp only [decide_eq_true_eq, decide_eq_false_iff_not, beq_iff_eq, bne_iff_ne, bne_eq_false_iff_eq, beq_eq_false_iff_ne, Bool.not_eq_true, Bool.not_eq_false, Bool.not_eq_true', Bool.not_eq_false', ne_eq] at h1
    refine awp_seq ?_
    refine awp_rw rfl ?_
    refine RW.op rfl rfl (eff_assign (v := .t _) rfl rfl rfl) ?_
    refine RW.nil ?_
    refine awp_ret ?_
    first
      | (rw [show cmpI a b = -1 from by unfold cmpI; rw [if_pos (by omega)]]; exact ⟨Or.inr rfl, [_], ⟨.tmp (.t _), trivial⟩, .refl _⟩)
      | (rw [show cmpI a b = 1 from by unfold cmpI; rw [if_neg (by omega), if_pos (by omega)]]; exact ⟨Or.inr rfl, [_], ⟨.tmp (.t _), trivial⟩, .refl _⟩)
      | (rw [show cmpI a b = 0 from by unfold cmpI; rw [if_neg (by omega), if_neg (by omega)]]; exact ⟨Or.inr rfl, [_], ⟨.tmp (.t _), trivial⟩, .refl _⟩)
  · try simp only [decide_eq_true_eq, decide_eq_false_iff_not, beq_iff_eq, bne_iff_ne, bne_eq_false_iff_eq, beq_eq_false_iff_ne, Bool.not_eq_true, Bool.not_eq_false, Bool.not_eq_true', Bool.not_eq_false', ne_eq] at h1
    refine awp_skip ?_
    refine awp_seq ?_
    refine awp_seq ?_
    refine awp_rw rfl ?_
    refine RW.op rfl rfl (eff_move (v := .t _) rfl rfl rfl) ?_
    refine RW.op rfl rfl (eff_move (v := .t _) rfl rfl rfl) ?_
    refine RW.op rfl rfl (eff_iop rfl rfl rfl rfl rfl) ?_
    refine RW.nil ?_
    refine awp_cond rfl (fun h2 => ?_) (fun h2 => ?_)
    · try simp only [decide_eq_true_eq, decide_eq_false_iff_not, beq_iff_eq, bne_iff_ne, bne_eq_false_iff_eq, beq_eq_false_iff_ne, Bool.not_eq_true, Bool.not_eq_false, Bool.not_eq_true', Bool.not_eq_false', ne_eq] at h2
      refine awp_seq ?_
      refine awp_rw rfl ?_
      refine RW.op rfl rfl (eff_assign (v := .t _) rfl rfl rfl) ?_
      refine RW.nil ?_
      refine awp_ret ?_
      first
        | (rw [show cmpI a b = -1 from by unfold cmpI; rw [if_pos (by omega)]]; exact ⟨Or.inr rfl, [_], ⟨.tmp (.t _), trivial⟩, .refl _⟩)
        | (rw [show cmpI a b = 1 from by unfold cmpI; rw [if_neg (by omega), if_pos (by omega)]]; exact ⟨Or.inr rfl, [_], ⟨.tmp (.t _), trivial⟩, .refl _⟩)
        | (rw [show cmpI a b = 0 from by unfold cmpI; rw [if_neg (by omega), if_neg (by omega)]]; exact ⟨Or.inr rfl, [_], ⟨.tmp (.t _), trivial⟩, .refl _⟩)
    · try simp only [decide_eq_true_eq, decide_eq_false_iff_not, beq_iff_eq, bne_iff_ne, bne_eq_false_iff_eq, beq_eq_false_iff_ne, Bool.not_eq_true, Bool.not_eq_false, Bool.not_eq_true', Bool.not_eq_false', ne_eq] at h2
      refine awp_skip ?_
      refine awp_seq ?_
      refine awp_rw rfl ?_
      refine RW.op rfl rfl (eff_assign (v := .t _) rfl rfl rfl) ?_
      refine RW.nil ?_
      refine awp_ret ?_
      first
        | (rw [show cmpI a b = -1 from by unfold cmpI; rw [if_pos (by omega)]]; exact ⟨Or.inr rfl, [_], ⟨.tmp (.t _), trivial⟩, .refl _⟩)
        | (rw [show cmpI a b = 1 from by unfold cmpI; rw [if_neg (by omega), if_pos (by omega)]]; exact ⟨Or.inr rfl, [_], ⟨.tmp (.t _), trivial⟩, .refl _⟩)
        | (rw [show cmpI a b = 0 from by unfold cmpI; rw [if_neg (by omega), if_neg (by omega)]]; exact ⟨Or.inr rfl, [_], ⟨.tmp (.t _), trivial⟩, .refl _⟩)

theorem flag_ret (b : Bool) : Ret Tryd.prog 86 [.bool b] (encI (flag b)) := by
  refine ret_of_awp Tryd.func86 rfl (Nat.le_of_ble_eq_true rfl) ?_
  refine awp_seq ?_
  refine awp_rw rfl ?_
  refine RW.op rfl rfl (eff_assign (v := .t _) rfl rfl rfl) ?_
  refine RW.nil ?_
  refine awp_seq ?_
  refine awp_seq ?_
  refine awp_rw rfl ?_
  refine RW.op rfl rfl (eff_move (v := .t _) rfl rfl rfl) ?_
  refine RW.nil ?_
  refine awp_cond rfl (fun h1 => ?_) (fun h1 => ?_)
  · try simp only [decide_eq_true_eq, decide_eq_false_iff_not, beq_iff_eq, bne_iff_ne, bne_eq_false_iff_eq, beq_eq_false_iff_ne, Bool.not_eq_true, Bool.not_eq_false, Bool.not_eq_true', Bool.not_eq_false', ne_eq] at h1
    refine awp_seq ?_
    refine awp_rw rfl ?_
    refine RW.op rfl rfl (eff_assign (v := .t _) rfl rfl rfl) ?_
    refine RW.nil ?_
    refine awp_ret ?_
    rw [h1]
    exact ⟨Or.inr rfl, [_], ⟨.tmp (.t _), trivial⟩, .refl _⟩
  · try simp only [decide_eq_true_eq, decide_eq_false_iff_not, beq_iff_eq, bne_iff_ne, bne_eq_false_iff_eq, beq_eq_false_iff_ne, Bool.not_eq_true, Bool.not_eq_false, Bool.not_eq_true', Bool.not_eq_false', ne_eq] at h1
    refine awp_skip ?_
    refine awp_seq ?_
    refine awp_rw rfl ?_
    refine RW.op rfl rfl (eff_assign (v := .t _) rfl rfl rfl) ?_
    refine RW.nil ?_
    refine awp_ret ?_
    rw [h1]
    exact ⟨Or.inr rfl, [_], ⟨.tmp (.t _), trivial⟩, .refl _⟩

theorem or_retG (l : List Int) (hl : l.length ≤ 1000000) : RetG Tryd.prog 87 [(0, some ⟨1, 3, 0, (l.map encI).map .t⟩)] [.own 0 0 0 l.length] [(0, some ⟨1, 3, 1, (l.map encI).map .t⟩)] (.t (encI (orI l))) := by
  refine retG_of_awp Tryd.func87 rfl (Nat.le_of_ble_eq_true rfl) ?_
  refine awp_seq ?_
  refine awp_rw rfl ?_
  refine RW.op rfl rfl (eff_assign (v := .t _) rfl rfl rfl) ?_
  refine RW.nil ?_
  refine awp_seq ?_
  refine awp_rw rfl ?_
  refine RW.op rfl rfl (eff_assign (v := .t _) rfl rfl rfl) ?_
  refine RW.nil ?_
  refine awp_seq ?_
  refine awp_seq ?_
  refine awp_rw rfl ?_
  refine RW.op rfl rfl (eff_move (v := .own _ _ _ _) rfl rfl rfl) ?_
  refine RW.op rfl rfl (eff_len rfl rfl te26 rfl rfl rfl) ?_
  refine RW.op rfl rfl (eff_move (v := .t _) rfl rfl rfl) ?_
  refine RW.nil ?_
  refine awp_block ?_
  refine awp_loopW (fun m s => ∃ (i : Nat), (i ≤ l.length) ∧ (∀ y, y ∈ l.take i → y = 0) ∧ m = l.length - i ∧ s = ⟨18, [(3, .t (encI 0)), (6, .own 0 0 0 l.length), (7, .t (encI l.length)), (8, .t (encI (i : Nat)))], [(0, some ⟨1, 3, 0, (l.map encI).map .t⟩)]⟩) (_) (⟨_, weak_keep (n := 18) (fr' := [(3, .t (encI 0)), (6, .own 0 0 0 l.length), (7, .t (encI l.length)), (8, .t (encI (0 : Nat)))]) (st' := [(0, some ⟨1, 3, 0, (l.map encI).map .t⟩)]) ⟨rfl, rfl, rfl, rfl, rfl, rfl, rfl, rfl, trivial⟩ ⟨rfl, okE_t, trivial⟩, 0, (by omega), (by simp), rfl, rfl⟩) ?_
  rintro m s ⟨i, hi, ha, rfl, rfl⟩
  refine awp_seq ?_
  refine awp_rw rfl ?_
  refine RW.op rfl rfl (eff_iop rfl rfl rfl rfl rfl) ?_
  refine RW.nil ?_
  refine awp_seq ?_
  refine awp_cond rfl (fun h1 => ?_) (fun h1 => ?_)
  · try simp only [decide_eq_true_eq, decide_eq_false_iff_not, beq_iff_eq, bne_iff_ne, bne_eq_false_iff_eq, beq_eq_false_iff_ne, Bool.not_eq_true, Bool.not_eq_false, Bool.not_eq_true', Bool.not_eq_false', ne_eq] at h1
    refine awp_skip ?_
    refine awp_seq ?_
    refine awp_block ?_
    refine awp_seq ?_
    refine awp_rw rfl ?_
    refine RW.op rfl rfl (eff_indexAddr rfl rfl te26 rfl rfl rfl rfl rfl rfl (by omega)) ?_
    refine RW.op rfl rfl (eff_load (y := .t (encI l[i])) rfl rfl ti3 rfl (.one rfl rfl (by simp only [Nat.zero_add, List.getElem?_map, List.getElem?_eq_getElem (show i < l.length by omega)]; rfl) rfl)) ?_
    refine RW.op rfl rfl (eff_assign (v := .t _) rfl rfl rfl) ?_
    refine RW.nil ?_
    refine awp_seq ?_
    refine awp_rw rfl ?_
    refine RW.op rfl rfl (eff_move (v := .t _) rfl rfl rfl) ?_
    refine RW.op rfl rfl (eff_move (v := .t _) rfl rfl rfl) ?_
    refine RW.op rfl rfl (eff_iop rfl rfl rfl rfl rfl) ?_
    refine RW.nil ?_
    refine awp_cond rfl (fun h2 => ?_) (fun h2 => ?_)
    · try simp only [decide_eq_true_eq, decide_eq_false_iff_not, beq_iff_eq, bne_iff_ne, bne_eq_false_iff_eq, beq_eq_false_iff_ne, Bool.not_eq_true, Bool.not_eq_false, Bool.not_eq_true', Bool.not_eq_false', ne_eq] at h2
      refine awp_seq ?_
      refine awp_rw rfl ?_
      refine RW.op rfl rfl (eff_move (v := .t _) rfl rfl rfl) ?_
      refine RW.op rfl rfl (eff_assign (v := .t _) rfl rfl rfl) ?_
      refine RW.nil ?_
      refine awp_ret ?_
      have horE : orI l = l[i] := orI_hit (by omega) ha h2
      refine ⟨Or.inr rfl, [_], [.t (encI (orI l))], ⟨.tmp rfl, trivial⟩, rfl, Weak.trans (weak_raise (id := 0) 1 rfl (by decide)) ?_, rfl⟩
      exact weak_keep ⟨by first | rfl | (rw [horE]; rfl), rfl, trivial⟩ ⟨rfl, okE_t, trivial⟩
    · try simp only [decide_eq_true_eq, decide_eq_false_iff_not, beq_iff_eq, bne_iff_ne, bne_eq_false_iff_eq, beq_eq_false_iff_ne, Bool.not_eq_true, Bool.not_eq_false, Bool.not_eq_true', Bool.not_eq_false', ne_eq] at h2
      refine awp_skip ?_
      refine awp_rw rfl ?_
      refine RW.op rfl rfl (eff_iop rfl rfl rfl rfl (iadd (by omega))) ?_
      refine RW.op rfl rfl (eff_move (v := .t _) rfl rfl rfl) ?_
      refine RW.nil ?_
      refine ⟨_, ?_, _, weak_keep (n := 18) (fr' := [(3, .t (encI 0)), (6, .own 0 0 0 l.length), (7, .t (encI l.length)), (8, .t (encI ((i + 1) : Nat)))]) (st' := [(0, some ⟨1, 3, 0, (l.map encI).map .t⟩)]) ⟨rfl, rfl, rfl, rfl, rfl, rfl, rfl, rfl, trivial⟩ ⟨rfl, okE_t, trivial⟩, i + 1, (by omega), (by intro y hy; rcases (mem_take_succ (by omega)).1 hy with h | h; exact ha y h; rw [h]; exact h2), rfl, rfl⟩
      omega
  · try simp only [decide_eq_true_eq, decide_eq_false_iff_not, beq_iff_eq, bne_iff_ne, bne_eq_false_iff_eq, beq_eq_false_iff_ne, Bool.not_eq_true, Bool.not_eq_false, Bool.not_eq_true', Bool.not_eq_false', ne_eq] at h1
    refine awp_exit ?_
    refine awp_seq ?_
    refine awp_rw rfl ?_
    refine RW.op rfl rfl (eff_move (v := .t _) rfl rfl rfl) ?_
    refine RW.op rfl rfl (eff_assign (v := .t _) rfl rfl rfl) ?_
    refine RW.nil ?_
    refine awp_ret ?_
    have hi2 : i = l.length := by omega
    subst hi2
    rw [List.take_length] at ha
    have horE : orI l = 0 := orI_none ha
    refine ⟨Or.inr rfl, [_], [.t (encI (orI l))], ⟨.tmp rfl, trivial⟩, rfl, Weak.trans (weak_raise (id := 0) 1 rfl (by decide)) ?_, rfl⟩
    exact weak_keep ⟨by first | rfl | (rw [horE]; rfl), rfl, trivial⟩ ⟨rfl, okE_t, trivial⟩

theorem compare_ret (a b : Rep) : Ret Tryd.prog 81 [encR a, encR b] (encI (cmpR a b)) := by
  refine ret_of_awp Tryd.func81 rfl (Nat.le_of_ble_eq_true rfl) ?_
  refine awp_seq ?_
  refine awp_rw rfl ?_
  refine RW.new rfl rfl (eff_boxK (v := .t _) (k := 4) (id := 2) rfl rfl rfl rfl rfl rfl) ?_
  refine RW.new rfl rfl (eff_boxK (v := .t _) (k := 4) (id := 3) rfl rfl rfl rfl rfl rfl) ?_
  refine RW.op rfl rfl (eff_assign (v := .t _) rfl rfl rfl) ?_
  refine RW.nil ?_
  refine awp_seq ?_
  refine awp_rw rfl ?_
  refine RW.op rfl rfl (eff_assign (v := .t _) rfl rfl rfl) ?_
  refine RW.nil ?_
  refine awp_seq ?_
  refine awp_rd [(some 6, []), (some 7, []), (some 8, []), (some 9, []), (some 10, []), (some 11, []), (some 12, []), (some 13, []), (some 14, []), (some 15, []), (some 16, []), (some 17, []), (some 18, []), (some 19, []), (some 20, []), (some 21, []), (some 22, []), (some 23, []), (some 24, []), (some 25, []), (some 26, []), (some 27, []), (some 28, []), (some 29, []), (some 30, [30]), (some 31, [30]), (some 4, [])] [[], [0], [], [2], [0, 1, 2, 3], [], [5], [], [7], [0, 1, 2, 3, 4, 5, 6, 7, 8], [], [10], [], [12], [0, 1, 2, 3, 4, 5, 6, 7, 8, 9, 10, 11, 12, 13], [], [], [16], [0, 1, 2, 3, 4, 5, 6, 7, 8, 9, 10, 11, 12, 13, 14, 15, 16, 17], [], [], [20], [0, 1, 2, 3, 4, 5, 6, 7, 8, 9, 10, 11, 12, 13, 14, 15, 16, 17, 18, 19, 20, 21], [0, 1, 2, 3, 4, 5, 6, 7, 8, 9, 10, 11, 12, 13, 14, 15, 16, 17, 18, 19, 20, 21, 22], [0, 1, 2, 3, 4, 5, 6, 7, 8, 9, 10, 11, 12, 13, 14, 15, 16, 17, 18, 19, 20, 21, 22, 23], [0, 1, 2, 3, 4, 5, 6, 7, 8, 9, 10, 11, 12, 13, 14, 15, 16, 17, 18, 19, 20, 21, 22, 23, 24], [0, 1, 2, 3, 4, 5, 6, 7, 8, 9, 10, 11, 12, 13, 14, 15, 16, 17, 18, 19, 20, 21, 22, 23, 24, 25]] tm rfl rfl rfl rfl ?_
  refine RD.op rfl rfl rfl (eff_fieldAddr rfl rfl tf23_0 (by decide) rfl rfl rfl (Nat.le_of_ble_eq_true rfl)) ?_
  refine RD.op rfl rfl rfl (eff_load (y := .t _) rfl rfl ti3 rfl (.one rfl rfl rfl rfl)) ?_
  refine RD.op rfl rfl rfl (eff_fieldAddr rfl rfl tf23_0 (by decide) rfl rfl rfl (Nat.le_of_ble_eq_true rfl)) ?_
  refine RD.op rfl rfl rfl (eff_load (y := .t _) rfl rfl ti3 rfl (.one rfl rfl rfl rfl)) ?_
  refine RD.op rfl rfl rfl (eff_callT (cmp_ret _ _) co88 rfl rfl rfl rfl) ?_
  refine RD.op rfl rfl rfl (eff_fieldAddr rfl rfl tf23_1 (by decide) rfl rfl rfl (Nat.le_of_ble_eq_true rfl)) ?_
  refine RD.op rfl rfl rfl (eff_load (y := .t _) rfl rfl ti3 rfl (.one rfl rfl rfl rfl)) ?_
  refine RD.op rfl rfl rfl (eff_fieldAddr rfl rfl tf23_1 (by decide) rfl rfl rfl (Nat.le_of_ble_eq_true rfl)) ?_
  refine RD.op rfl rfl rfl (eff_load (y := .t _) rfl rfl ti3 rfl (.one rfl rfl rfl rfl)) ?_
  refine RD.op rfl rfl rfl (eff_callT (cmp_ret _ _) co88 rfl rfl rfl rfl) ?_
  refine RD.op rfl rfl rfl (eff_fieldAddr rfl rfl tf23_2 (by decide) rfl rfl rfl (Nat.le_of_ble_eq_true rfl)) ?_
  refine RD.op rfl rfl rfl (eff_load (y := .t _) rfl rfl ti3 rfl (.one rfl rfl rfl rfl)) ?_
  refine RD.op rfl rfl rfl (eff_fieldAddr rfl rfl tf23_2 (by decide) rfl rfl rfl (Nat.le_of_ble_eq_true rfl)) ?_
  refine RD.op rfl rfl rfl (eff_load (y := .t _) rfl rfl ti3 rfl (.one rfl rfl rfl rfl)) ?_
  refine RD.op rfl rfl rfl (eff_callT (cmp_ret _ _) co88 rfl rfl rfl rfl) ?_
  refine RD.op rfl rfl rfl (eff_move (v := .t _) rfl rfl rfl) ?_
  refine RD.op rfl rfl rfl (eff_fieldAddr rfl rfl tf23_3 (by decide) rfl rfl rfl (Nat.le_of_ble_eq_true rfl)) ?_
  refine RD.op rfl rfl rfl (eff_load (y := .t _) rfl rfl ti4 rfl (.one rfl rfl rfl rfl)) ?_
  refine RD.op rfl rfl rfl (eff_callT (flag_ret _) co86 rfl rfl rfl rfl) ?_
  refine RD.op rfl rfl rfl (eff_move (v := .t _) rfl rfl rfl) ?_
  refine RD.op rfl rfl rfl (eff_fieldAddr rfl rfl tf23_3 (by decide) rfl rfl rfl (Nat.le_of_ble_eq_true rfl)) ?_
  refine RD.op rfl rfl rfl (eff_load (y := .t _) rfl rfl ti4 rfl (.one rfl rfl rfl rfl)) ?_
  refine RD.op rfl rfl rfl (eff_callT (flag_ret _) co86 rfl rfl rfl rfl) ?_
  refine RD.op rfl rfl rfl (eff_callT (cmp_ret _ _) co88 rfl rfl rfl rfl) ?_
  refine RD.new rfl rfl rfl (eff_buildSlice1 (id := 30) (els := [_, _, _, _]) rfl rfl te26 tz3 rfl (by decide) rfl rfl rfl rfl) ?_
  refine RD.new rfl rfl rfl (eff_callG (or_retG [cmpI a.next b.next, cmpI a.have_ b.have_, cmpI a.key b.key, cmpI (flag a.locked) (flag b.locked)] (Nat.le_of_ble_eq_true rfl)) co87 (fun id => id + 30) rfl rfl rfl ⟨.own _ _ _ _ rfl rfl, trivial⟩ (.t _) rfl ⟨⟨rfl, treeEls_t, ⟨_, rfl, Nat.le_of_ble_eq_true rfl⟩⟩, trivial⟩ ⟨⟨treeEls_t, .inl rfl⟩, trivial⟩) ?_
  refine RD.op rfl rfl rfl (eff_assign (v := .t _) rfl rfl rfl) ?_
  refine RD.nil ?_
  refine awp_ret ?_
  first
    | exact ⟨Or.inr rfl, [_], ⟨.tmp (.t _), trivial⟩, .refl _⟩
    | exact ⟨Or.inr rfl, [_], ⟨.tmp (.t _), trivial⟩, (by repeat' first | exact trivial | exact Wk.refl _ | exact Wk.sl _ | refine And.intro ?_ ?_ | refine Wk.tupP ?_ | refine Wk.aggP ?_)⟩
    | exact ⟨Or.inr rfl, [_], ⟨.tmp (Res.ownT rfl rfl rfl rfl), trivial⟩, .refl _⟩
    | exact ⟨Or.inr rfl, [_], ⟨.tmp (Res.ownT rfl rfl rfl rfl), trivial⟩, (by repeat' first | exact trivial | exact Wk.refl _ | exact Wk.sl _ | refine And.intro ?_ ?_ | refine Wk.tupP ?_ | refine Wk.aggP ?_)⟩

end Go.Tv.C36

end
section
open Go Go.Tv Go.Proofs
namespace Go.Tv.C36
set_option maxRecDepth 20000
set_option maxHeartbeats 2000000
set_option linter.unusedSimpArgs false
set_option linter.unusedVariables false
theorem has_ret (l : List Rep) (r : Rep) (hl : l.length ≤ 1000000) : Ret Tryd.prog 52 [.sl (l.map encR) false, encR r] (.bool (decide (r ∈ l))) := by
  refine ret_of_awp Tryd.func52 rfl (Nat.le_of_ble_eq_true rfl) ?_
  refine awp_seq ?_
  refine awp_rw rfl ?_
  refine RW.new rfl rfl (eff_boxK (v := .t _) (k := 4) (id := 3) rfl rfl rfl rfl rfl rfl) ?_
  refine RW.op rfl rfl (eff_assign (v := .t _) rfl rfl rfl) ?_
  refine RW.nil ?_
  refine awp_seq ?_
  refine awp_seq ?_
  refine awp_rw rfl ?_
  refine RW.op rfl rfl (eff_assign (v := .t _) rfl rfl rfl) ?_
  refine RW.nil ?_
  refine awp_block ?_
  refine awp_loopW (fun m s => ∃ (i : Nat), (i ≤ l.length) ∧ (∀ y, y ∈ l.take i → y ≠ r) ∧ m = l.length - i ∧ s = ⟨18, [(0, .t (.sl (l.map encR) false)), (3, .ptr 3 0 0 0), (5, .t (encI (i : Nat)))], [(3, some ⟨4, 23, 0, [.t (encR r)]⟩)]⟩) (_) (⟨_, weak_keep (n := 18) (fr' := [(0, .t (.sl (l.map encR) false)), (3, .ptr 3 0 0 0), (5, .t (encI (0 : Nat)))]) (st' := [(3, some ⟨4, 23, 0, [.t (encR r)]⟩)]) ⟨rfl, rfl, rfl, rfl, rfl, rfl, trivial⟩ ⟨rfl, okE_one rfl, trivial⟩, 0, (by omega), (by simp), rfl, rfl⟩) ?_
  rintro m s ⟨i, hi, ha, rfl, rfl⟩
  refine awp_seq ?_
  refine awp_seq ?_
  refine awp_rw rfl ?_
  refine RW.op rfl rfl (eff_move (v := .t _) rfl rfl rfl) ?_
  refine RW.op rfl rfl (eff_move (v := .t _) rfl rfl rfl) ?_
  refine RW.op rfl rfl (eff_lenM rfl rfl te33 rfl) ?_
  refine RW.op rfl rfl (eff_iop rfl rfl rfl rfl rfl) ?_
  refine RW.nil ?_
  refine awp_cond rfl (fun h1 => ?_) (fun h1 => ?_)
  · try simp only [decide_eq_true_eq, decide_eq_false_iff_not, beq_iff_eq, bne_iff_ne, bne_eq_false_iff_eq, beq_eq_false_iff_ne, Bool.not_eq_true, Bool.not_eq_false, Bool.not_eq_true', Bool.not_eq_false', ne_eq] at h1
    refine awp_skip ?_
    refine awp_seq ?_
    refine awp_block ?_
    refine awp_seq ?_
    refine awp_rd [(some 12, []), (some 13, []), (some 14, []), (some 15, []), (some 16, []), (some 17, [])] [[], [], [0, 1], [0, 1, 2], [], [0, 1, 2, 3, 4]] tm rfl rfl rfl rfl ?_
    refine RD.op rfl rfl rfl (eff_move (v := .t _) rfl rfl rfl) ?_
    refine RD.op rfl rfl rfl (eff_move (v := .t _) rfl rfl rfl) ?_
    refine RD.op rfl rfl rfl (eff_indexM rfl rfl te33 rfl rfl rfl (by first | assumption | exact List.getElem?_eq_getElem (by omega)) rfl (by decide)) ?_
    refine RD.op rfl rfl rfl (eff_loadW rfl rfl ti23 rfl rfl rfl) ?_
    refine RD.op rfl rfl rfl (eff_load rfl rfl ti23 rfl (.whole rfl rfl rfl rfl rfl rfl)) ?_
    refine RD.op rfl rfl rfl (eff_structEqlA (cells := cellsR) (a := l[i]) (b := r) rfl rfl ts23s ti23 th23 cellsR_inj cellsR_kind rfl rfl) ?_
    refine RD.nil ?_
    refine awp_cond rfl (fun h2 => ?_) (fun h2 => ?_)
    · try simp only [decide_eq_true_eq, decide_eq_false_iff_not, beq_iff_eq, bne_iff_ne, bne_eq_false_iff_eq, beq_eq_false_iff_ne, Bool.not_eq_true, Bool.not_eq_false, Bool.not_eq_true', Bool.not_eq_false', ne_eq] at h2
      refine awp_seq ?_
      refine awp_rw rfl ?_
      refine RW.op rfl rfl (eff_assign (v := .t _) rfl rfl rfl) ?_
      refine RW.nil ?_
      refine awp_ret ?_
      rw [show decide (r ∈ l) = true from decide_eq_true (by rw [← h2]; exact List.getElem_mem _)]
      exact ⟨Or.inr rfl, [_], ⟨.tmp (.t _), trivial⟩, .refl _⟩
    · try simp only [decide_eq_true_eq, decide_eq_false_iff_not, beq_iff_eq, bne_iff_ne, bne_eq_false_iff_eq, beq_eq_false_iff_ne, Bool.not_eq_true, Bool.not_eq_false, Bool.not_eq_true', Bool.not_eq_false', ne_eq] at h2
      refine awp_skip ?_
      refine awp_rw rfl ?_
      refine RW.op rfl rfl (eff_move (v := .t _) rfl rfl rfl) ?_
      refine RW.op rfl rfl (eff_iop rfl rfl rfl rfl (iadd (by omega))) ?_
      refine RW.op rfl rfl (eff_assign (v := .t _) rfl rfl rfl) ?_
      refine RW.nil ?_
      refine ⟨_, ?_, _, weak_keep (n := 18) (fr' := [(0, .t (.sl (l.map encR) false)), (3, .ptr 3 0 0 0), (5, .t (encI ((i + 1) : Nat)))]) (st' := [(3, some ⟨4, 23, 0, [.t (encR r)]⟩)]) ⟨rfl, rfl, rfl, rfl, rfl, rfl, trivial⟩ ⟨rfl, okE_one rfl, trivial⟩, i + 1, (by omega), (by intro y hy; rcases (mem_take_succ (by omega)).1 hy with h | h; exact ha y h; rw [h]; exact h2), rfl, rfl⟩
      omega
  · try simp only [decide_eq_true_eq, decide_eq_false_iff_not, beq_iff_eq, bne_iff_ne, bne_eq_false_iff_eq, beq_eq_false_iff_ne, Bool.not_eq_true, Bool.not_eq_false, Bool.not_eq_true', Bool.not_eq_false', ne_eq] at h1
    refine awp_exit ?_
    refine awp_seq ?_
    refine awp_rw rfl ?_
    refine RW.op rfl rfl (eff_assign (v := .t _) rfl rfl rfl) ?_
    refine RW.nil ?_
    refine awp_ret ?_
    have hi2 : i = l.length := by omega
    subst hi2
    rw [List.take_length] at ha
    rw [show decide (r ∈ l) = false from decide_eq_false (fun h => ha r h rfl)]
    exact ⟨Or.inr rfl, [_], ⟨.tmp (.t _), trivial⟩, .refl _⟩

theorem sameStates_ret (l : List Rep) (hl : l.length ≤ 1000000) : Ret Tryd.prog 50 [.sl (l.map encR) false, .sl (l.map encR) false] (.bool true) := by
  refine ret_of_awp Tryd.func50 rfl (Nat.le_of_ble_eq_true rfl) ?_
  refine awp_seq ?_
  refine awp_rw rfl ?_
  refine RW.op rfl rfl (eff_assign (v := .t _) rfl rfl rfl) ?_
  refine RW.nil ?_
  refine awp_seq ?_
  refine awp_seq ?_
  refine awp_rw rfl ?_
  refine RW.op rfl rfl (eff_move (v := .t _) rfl rfl rfl) ?_
  refine RW.op rfl rfl (eff_lenM rfl rfl te33 rfl) ?_
  refine RW.op rfl rfl (eff_move (v := .t _) rfl rfl rfl) ?_
  refine RW.op rfl rfl (eff_lenM rfl rfl te33 rfl) ?_
  refine RW.op rfl rfl (eff_iop (r := .bool false) rfl rfl rfl rfl (by simp [iop])) ?_
  refine RW.nil ?_
  refine awp_cond rfl (fun h => nomatch h) (fun _ => ?_)
  refine awp_skip ?_
  refine awp_seq ?_
  refine awp_seq ?_
  refine awp_rw rfl ?_
  refine RW.op rfl rfl (eff_assign (v := .t _) rfl rfl rfl) ?_
  refine RW.nil ?_
  refine awp_block ?_
  refine awp_loopW (fun m s => ∃ (i : Nat), (i ≤ l.length) ∧ m = l.length - i ∧ s = ⟨26, [(0, .t (.sl (l.map encR) false)), (1, .t (.sl (l.map encR) false)), (5, .t (encI (i : Nat)))], []⟩) (_) (⟨_, weak_keep (n := 26) (fr' := [(0, .t (.sl (l.map encR) false)), (1, .t (.sl (l.map encR) false)), (5, .t (encI (0 : Nat)))]) (st' := []) ⟨rfl, rfl, rfl, rfl, rfl, rfl, trivial⟩ trivial, 0, (by omega), rfl, rfl⟩) ?_
  rintro m s ⟨i, hi, rfl, rfl⟩
  refine awp_seq ?_
  refine awp_seq ?_
  refine awp_rw rfl ?_
  refine RW.op rfl rfl (eff_move (v := .t _) rfl rfl rfl) ?_
  refine RW.op rfl rfl (eff_move (v := .t _) rfl rfl rfl) ?_
  refine RW.op rfl rfl (eff_lenM rfl rfl te33 rfl) ?_
  refine RW.op rfl rfl (eff_iop rfl rfl rfl rfl rfl) ?_
  refine RW.nil ?_
  refine awp_cond rfl (fun h1 => ?_) (fun h1 => ?_)
  · try simp only [decide_eq_true_eq, decide_eq_false_iff_not, beq_iff_eq, bne_iff_ne, bne_eq_false_iff_eq, beq_eq_false_iff_ne, Bool.not_eq_true, Bool.not_eq_false, Bool.not_eq_true', Bool.not_eq_false', ne_eq] at h1
    refine awp_skip ?_
    refine awp_seq ?_
    refine awp_block ?_
    refine awp_seq ?_
    refine awp_rd [(some 17, []), (some 18, []), (some 19, []), (some 20, []), (some 21, []), (some 22, []), (some 23, []), (some 24, []), (some 25, [])] [[], [], [0, 1], [0, 1, 2], [], [], [4, 5], [4, 5, 6], [0, 1, 2, 3, 4, 5, 6, 7]] tm rfl rfl rfl rfl ?_
    refine RD.op rfl rfl rfl (eff_move (v := .t _) rfl rfl rfl) ?_
    refine RD.op rfl rfl rfl (eff_move (v := .t _) rfl rfl rfl) ?_
    refine RD.op rfl rfl rfl (eff_indexM rfl rfl te33 rfl rfl rfl (by first | assumption | exact List.getElem?_eq_getElem (by omega)) rfl (by decide)) ?_
    refine RD.op rfl rfl rfl (eff_loadW rfl rfl ti23 rfl rfl rfl) ?_
    refine RD.op rfl rfl rfl (eff_move (v := .t _) rfl rfl rfl) ?_
    refine RD.op rfl rfl rfl (eff_move (v := .t _) rfl rfl rfl) ?_
    refine RD.op rfl rfl rfl (eff_indexM rfl rfl te33 rfl rfl rfl (by first | assumption | exact List.getElem?_eq_getElem (by omega)) rfl (by decide)) ?_
    refine RD.op rfl rfl rfl (eff_loadW rfl rfl ti23 rfl rfl rfl) ?_
    refine RD.op rfl rfl rfl (eff_structNeqA (cells := cellsR) (a := l[i]) (b := l[i]) rfl rfl ts23s ti23 th23 cellsR_inj cellsR_kind rfl rfl) ?_
    refine RD.nil ?_
    refine awp_cond rfl (fun h2 => ?_) (fun h2 => ?_)
    · try simp only [decide_eq_true_eq, decide_eq_false_iff_not, beq_iff_eq, bne_iff_ne, bne_eq_false_iff_eq, beq_eq_false_iff_ne, Bool.not_eq_true, Bool.not_eq_false, Bool.not_eq_true', Bool.not_eq_false', ne_eq] at h2
      refine awp_seq ?_
      refine awp_rw rfl ?_
      refine RW.op rfl rfl (eff_assign (v := .t _) rfl rfl rfl) ?_
      refine RW.nil ?_
      refine awp_ret ?_
      exact absurd trivial h2
    · try simp only [decide_eq_true_eq, decide_eq_false_iff_not, beq_iff_eq, bne_iff_ne, bne_eq_false_iff_eq, beq_eq_false_iff_ne, Bool.not_eq_true, Bool.not_eq_false, Bool.not_eq_true', Bool.not_eq_false', ne_eq] at h2
      refine awp_skip ?_
      refine awp_rw rfl ?_
      refine RW.op rfl rfl (eff_move (v := .t _) rfl rfl rfl) ?_
      refine RW.op rfl rfl (eff_iop rfl rfl rfl rfl (iadd (by omega))) ?_
      refine RW.op rfl rfl (eff_assign (v := .t _) rfl rfl rfl) ?_
      refine RW.nil ?_
      refine ⟨_, ?_, _, weak_keep (n := 26) (fr' := [(0, .t (.sl (l.map encR) false)), (1, .t (.sl (l.map encR) false)), (5, .t (encI ((i + 1) : Nat)))]) (st' := []) ⟨rfl, rfl, rfl, rfl, rfl, rfl, trivial⟩ trivial, i + 1, (by omega), rfl, rfl⟩
      omega
  · try simp only [decide_eq_true_eq, decide_eq_false_iff_not, beq_iff_eq, bne_iff_ne, bne_eq_false_iff_eq, beq_eq_false_iff_ne, Bool.not_eq_true, Bool.not_eq_false, Bool.not_eq_true', Bool.not_eq_false', ne_eq] at h1
    refine awp_exit ?_
    refine awp_seq ?_
    refine awp_rw rfl ?_
    refine RW.op rfl rfl (eff_assign (v := .t _) rfl rfl rfl) ?_
    refine RW.nil ?_
    refine awp_ret ?_
    first
      | exact ⟨Or.inr rfl, [_], ⟨.tmp (.t _), trivial⟩, .refl _⟩
      | exact ⟨Or.inr rfl, [_], ⟨.tmp (.t _), trivial⟩, (by repeat' first | exact trivial | exact Wk.refl _ | exact Wk.sl _ | refine And.intro ?_ ?_ | refine Wk.tupP ?_ | refine Wk.aggP ?_)⟩
      | exact ⟨Or.inr rfl, [_], ⟨.tmp (Res.ownT rfl rfl rfl rfl), trivial⟩, .refl _⟩
      | exact ⟨Or.inr rfl, [_], ⟨.tmp (Res.ownT rfl rfl rfl rfl), trivial⟩, (by repeat' first | exact trivial | exact Wk.refl _ | exact Wk.sl _ | refine And.intro ?_ ?_ | refine Wk.tupP ?_ | refine Wk.aggP ?_)⟩

theorem sameBytes_ret (d : List Int) : Ret Tryd.prog 68 [.sl (d.map encBy) false, .sl (d.map encBy) false] (.bool true) := by
  refine ret_of_awp Tryd.func68 rfl (Nat.le_of_ble_eq_true rfl) ?_
  refine awp_seq ?_
  refine awp_rw rfl ?_
  refine RW.op rfl rfl (eff_assign (v := .t _) rfl rfl rfl) ?_
  refine RW.nil ?_
  refine awp_seq ?_
  refine awp_rw rfl ?_
  refine RW.op rfl rfl (eff_move (v := .t _) rfl rfl rfl) ?_
  refine RW.op rfl rfl (eff_convBytes rfl rfl te42 tu5 ts9 rfl) ?_
  refine RW.op rfl rfl (eff_move (v := .t _) rfl rfl rfl) ?_
  refine RW.op rfl rfl (eff_convBytes rfl rfl te42 tu5 ts9 rfl) ?_
  refine RW.op rfl rfl (eff_strEq rfl rfl (.inl rfl) rfl rfl rfl) ?_
  refine RW.op rfl rfl (eff_assign (v := .t _) rfl rfl rfl) ?_
  refine RW.nil ?_
  refine awp_ret ?_
  exact ⟨Or.inr rfl, [_], ⟨.tmp (.t _), trivial⟩, (by simp; exact .refl _)⟩

theorem sameFrame_ret (f : Frm) : Ret Tryd.prog 49 [encF f, encF f] (.bool true) := by
  refine ret_of_awp Tryd.func49 rfl (Nat.le_of_ble_eq_true rfl) ?_
  refine awp_seq ?_
  refine awp_rw rfl ?_
  refine RW.new rfl rfl (eff_boxK (v := .t _) (k := 5) (id := 2) rfl rfl rfl rfl rfl rfl) ?_
  refine RW.new rfl rfl (eff_boxK (v := .t _) (k := 5) (id := 3) rfl rfl rfl rfl rfl rfl) ?_
  refine RW.op rfl rfl (eff_assign (v := .t _) rfl rfl rfl) ?_
  refine RW.nil ?_
  refine awp_seq ?_
  refine awp_rw rfl ?_
  refine RW.op rfl rfl (eff_fieldAddr rfl rfl tf45_0 (by decide) rfl rfl rfl (Nat.le_of_ble_eq_true rfl)) ?_
  refine RW.op rfl rfl (eff_load (y := .t _) rfl rfl ti3 rfl (.one rfl rfl rfl rfl)) ?_
  refine RW.op rfl rfl (eff_fieldAddr rfl rfl tf45_0 (by decide) rfl rfl rfl (Nat.le_of_ble_eq_true rfl)) ?_
  refine RW.op rfl rfl (eff_load (y := .t _) rfl rfl ti3 rfl (.one rfl rfl rfl rfl)) ?_
  refine RW.op rfl rfl (eff_iop (r := .bool true) rfl rfl rfl rfl (by simp [iop])) ?_
  refine RW.op rfl rfl (eff_move (v := .t _) rfl rfl rfl) ?_
  refine RW.gop rfl rfl rfl rfl rfl rfl (eff_fieldAddr rfl rfl tf45_1 (by decide) rfl rfl rfl (Nat.le_of_ble_eq_true rfl)) ?_
  refine RW.gop rfl rfl rfl rfl rfl rfl (eff_load (y := .t _) rfl rfl ti3 rfl (.one rfl rfl rfl rfl)) ?_
  refine RW.gop rfl rfl rfl rfl rfl rfl (eff_fieldAddr rfl rfl tf45_1 (by decide) rfl rfl rfl (Nat.le_of_ble_eq_true rfl)) ?_
  refine RW.gop rfl rfl rfl rfl rfl rfl (eff_load (y := .t _) rfl rfl ti3 rfl (.one rfl rfl rfl rfl)) ?_
  refine RW.gop rfl rfl rfl rfl rfl rfl (eff_iop (r := .bool true) rfl rfl rfl rfl (by simp [iop])) ?_
  refine RW.op rfl rfl (eff_pick (v := .t _) rfl rfl rfl rfl) ?_
  refine RW.op rfl rfl (eff_move (v := .t _) rfl rfl rfl) ?_
  refine RW.gop rfl rfl rfl rfl rfl rfl (eff_fieldAddr rfl rfl tf45_2 (by decide) rfl rfl rfl (Nat.le_of_ble_eq_true rfl)) ?_
  refine RW.gop rfl rfl rfl rfl rfl rfl (eff_load (y := .t _) rfl rfl ti4 rfl (.one rfl rfl rfl rfl)) ?_
  refine RW.gop rfl rfl rfl rfl rfl rfl (eff_fieldAddr rfl rfl tf45_2 (by decide) rfl rfl rfl (Nat.le_of_ble_eq_true rfl)) ?_
  refine RW.gop rfl rfl rfl rfl rfl rfl (eff_load (y := .t _) rfl rfl ti4 rfl (.one rfl rfl rfl rfl)) ?_
  refine RW.gop rfl rfl rfl rfl rfl rfl (eff_boolEq (b := true) rfl rfl (.inl rfl) tu4 rfl rfl (by simp)) ?_
  refine RW.op rfl rfl (eff_pick (v := .t _) rfl rfl rfl rfl) ?_
  refine RW.op rfl rfl (eff_move (v := .t _) rfl rfl rfl) ?_
  refine RW.gop rfl rfl rfl rfl rfl rfl (eff_fieldAddr rfl rfl tf45_4 (by decide) rfl rfl rfl (Nat.le_of_ble_eq_true rfl)) ?_
  refine RW.gop rfl rfl rfl rfl rfl rfl (eff_load (y := .t _) rfl rfl ti43 rfl (.one rfl rfl rfl rfl)) ?_
  refine RW.gop rfl rfl rfl rfl rfl rfl (eff_fieldAddr rfl rfl tf45_4 (by decide) rfl rfl rfl (Nat.le_of_ble_eq_true rfl)) ?_
  refine RW.gop rfl rfl rfl rfl rfl rfl (eff_load (y := .t _) rfl rfl ti43 rfl (.one rfl rfl rfl rfl)) ?_
  refine RW.gop rfl rfl rfl rfl rfl rfl (eff_iop (r := .bool true) rfl rfl rfl rfl (by simp [iop])) ?_
  refine RW.op rfl rfl (eff_pick (v := .t _) rfl rfl rfl rfl) ?_
  refine RW.op rfl rfl (eff_move (v := .t _) rfl rfl rfl) ?_
  refine RW.gop rfl rfl rfl rfl rfl rfl (eff_fieldAddr rfl rfl tf45_3 (by decide) rfl rfl rfl (Nat.le_of_ble_eq_true rfl)) ?_
  refine RW.gop rfl rfl rfl rfl rfl rfl (eff_load (y := .t _) rfl rfl ti42 rfl (.one rfl rfl rfl rfl)) ?_
  refine RW.gop rfl rfl rfl rfl rfl rfl (eff_fieldAddr rfl rfl tf45_3 (by decide) rfl rfl rfl (Nat.le_of_ble_eq_true rfl)) ?_
  refine RW.gop rfl rfl rfl rfl rfl rfl (eff_load (y := .t _) rfl rfl ti42 rfl (.one rfl rfl rfl rfl)) ?_
  refine RW.gop rfl rfl rfl rfl rfl rfl (eff_callT (sameBytes_ret _) co68 rfl rfl rfl rfl) ?_
  refine RW.op rfl rfl (eff_pick (v := .t _) rfl rfl rfl rfl) ?_
  refine RW.op rfl rfl (eff_assign (v := .t _) rfl rfl rfl) ?_
  refine RW.nil ?_
  refine awp_ret ?_
  first
    | exact ⟨Or.inr rfl, [_], ⟨.tmp (.t _), trivial⟩, .refl _⟩
    | exact ⟨Or.inr rfl, [_], ⟨.tmp (.t _), trivial⟩, (by repeat' first | exact trivial | exact Wk.refl _ | exact Wk.sl _ | refine And.intro ?_ ?_ | refine Wk.tupP ?_ | refine Wk.aggP ?_)⟩
    | exact ⟨Or.inr rfl, [_], ⟨.tmp (Res.ownT rfl rfl rfl rfl), trivial⟩, .refl _⟩
    | exact ⟨Or.inr rfl, [_], ⟨.tmp (Res.ownT rfl rfl rfl rfl), trivial⟩, (by repeat' first | exact trivial | exact Wk.refl _ | exact Wk.sl _ | refine And.intro ?_ ?_ | refine Wk.tupP ?_ | refine Wk.aggP ?_)⟩

theorem same_ret (t : Twn) (hs : t.sent.length ≤ 1000000) (hl : t.poss.length ≤ 1000000) : Ret Tryd.prog 30 [encT t, encT t] (.bool true) := by
  refine ret_of_awp Tryd.func30 rfl (Nat.le_of_ble_eq_true rfl) ?_
  refine awp_seq ?_
  refine awp_rw rfl ?_
  refine RW.new rfl rfl (eff_boxK (v := .t _) (k := 2) (id := 2) rfl rfl rfl rfl rfl rfl) ?_
  refine RW.new rfl rfl (eff_boxK (v := .t _) (k := 2) (id := 3) rfl rfl rfl rfl rfl rfl) ?_
  refine RW.op rfl rfl (eff_assign (v := .t _) rfl rfl rfl) ?_
  refine RW.nil ?_
  refine awp_seq ?_
  refine awp_seq ?_
  refine awp_rw rfl ?_
  refine RW.op rfl rfl (eff_fieldAddr rfl rfl tf64_0 (by decide) rfl rfl rfl (Nat.le_of_ble_eq_true rfl)) ?_
  refine RW.op rfl rfl (eff_load (y := .t _) rfl rfl ti62 rfl (.one rfl rfl rfl rfl)) ?_
  refine RW.op rfl rfl (eff_lenM rfl rfl te62 rfl) ?_
  refine RW.op rfl rfl (eff_fieldAddr rfl rfl tf64_0 (by decide) rfl rfl rfl (Nat.le_of_ble_eq_true rfl)) ?_
  refine RW.op rfl rfl (eff_load (y := .t _) rfl rfl ti62 rfl (.one rfl rfl rfl rfl)) ?_
  refine RW.op rfl rfl (eff_lenM rfl rfl te62 rfl) ?_
  refine RW.op rfl rfl (eff_iop (r := .bool false) rfl rfl rfl rfl (by simp [iop])) ?_
  refine RW.nil ?_
  refine awp_cond rfl (fun h => nomatch h) (fun _ => ?_)
  refine awp_skip ?_
  refine awp_seq ?_
  refine awp_seq ?_
  refine awp_rw rfl ?_
  refine RW.op rfl rfl (eff_assign (v := .t _) rfl rfl rfl) ?_
  refine RW.nil ?_
  refine awp_block ?_
  refine awp_loopW (fun m s => ∃ (i : Nat), (i ≤ t.sent.length) ∧ m = t.sent.length - i ∧ s = ⟨39, [(2, .ptr 2 0 0 0), (3, .ptr 3 0 0 0), (5, .t (encI (i : Nat)))], [(2, some ⟨2, 64, 0, [.t (encT t)]⟩), (3, some ⟨2, 64, 0, [.t (encT t)]⟩)]⟩) (_) (⟨_, weak_keep (n := 39) (fr' := [(2, .ptr 2 0 0 0), (3, .ptr 3 0 0 0), (5, .t (encI (0 : Nat)))]) (st' := [(2, some ⟨2, 64, 0, [.t (encT t)]⟩), (3, some ⟨2, 64, 0, [.t (encT t)]⟩)]) ⟨rfl, rfl, rfl, rfl, rfl, rfl, trivial⟩ ⟨rfl, okE_one rfl, rfl, okE_one rfl, trivial⟩, 0, (by omega), rfl, rfl⟩) ?_
  rintro m s ⟨i, hi, rfl, rfl⟩
  refine awp_seq ?_
  refine awp_seq ?_
  refine awp_rw rfl ?_
  refine RW.op rfl rfl (eff_move (v := .t _) rfl rfl rfl) ?_
  refine RW.op rfl rfl (eff_fieldAddr rfl rfl tf64_0 (by decide) rfl rfl rfl (Nat.le_of_ble_eq_true rfl)) ?_
  refine RW.op rfl rfl (eff_load (y := .t _) rfl rfl ti62 rfl (.one rfl rfl rfl rfl)) ?_
  refine RW.op rfl rfl (eff_lenM rfl rfl te62 rfl) ?_
  refine RW.op rfl rfl (eff_iop rfl rfl rfl rfl rfl) ?_
  refine RW.nil ?_
  refine awp_cond rfl (fun h1 => ?_) (fun h1 => ?_)
  · try simp only [decide_eq_true_eq, decide_eq_false_iff_not, beq_iff_eq, bne_iff_ne, bne_eq_false_iff_eq, beq_eq_false_iff_ne, Bool.not_eq_true, Bool.not_eq_false, Bool.not_eq_true', Bool.not_eq_false', ne_eq] at h1
    refine awp_skip ?_
    refine awp_seq ?_
    refine awp_block ?_
    refine awp_seq ?_
    refine awp_rd [(some 21, []), (some 22, []), (some 23, []), (some 24, []), (some 25, []), (some 26, []), (some 27, []), (some 28, []), (some 29, []), (some 30, []), (some 31, []), (some 6, [])] [[], [0], [], [0, 1, 2], [0, 1, 2, 3], [], [5], [], [5, 6, 7], [5, 6, 7, 8], [0, 1, 2, 3, 4, 5, 6, 7, 8, 9], [0, 1, 2, 3, 4, 5, 6, 7, 8, 9, 10]] tm rfl rfl rfl rfl ?_
    refine RD.op rfl rfl rfl (eff_fieldAddr rfl rfl tf64_0 (by decide) rfl rfl rfl (Nat.le_of_ble_eq_true rfl)) ?_
    refine RD.op rfl rfl rfl (eff_load (y := .t _) rfl rfl ti62 rfl (.one rfl rfl rfl rfl)) ?_
    refine RD.op rfl rfl rfl (eff_move (v := .t _) rfl rfl rfl) ?_
    refine RD.op rfl rfl rfl (eff_indexM rfl rfl te62 rfl rfl rfl (by first | assumption | exact List.getElem?_eq_getElem (by omega)) rfl (by decide)) ?_
    refine RD.op rfl rfl rfl (eff_loadW rfl rfl ti45 rfl rfl rfl) ?_
    refine RD.op rfl rfl rfl (eff_fieldAddr rfl rfl tf64_0 (by decide) rfl rfl rfl (Nat.le_of_ble_eq_true rfl)) ?_
    refine RD.op rfl rfl rfl (eff_load (y := .t _) rfl rfl ti62 rfl (.one rfl rfl rfl rfl)) ?_
    refine RD.op rfl rfl rfl (eff_move (v := .t _) rfl rfl rfl) ?_
    refine RD.op rfl rfl rfl (eff_indexM rfl rfl te62 rfl rfl rfl (by first | assumption | exact List.getElem?_eq_getElem (by omega)) rfl (by decide)) ?_
    refine RD.op rfl rfl rfl (eff_loadW rfl rfl ti45 rfl rfl rfl) ?_
    refine RD.op rfl rfl rfl (eff_callT (sameFrame_ret _) co49 rfl rfl rfl rfl) ?_
    refine RD.op rfl rfl rfl (eff_assign (v := .t _) rfl rfl rfl) ?_
    refine RD.nil ?_
    refine awp_seq ?_
    refine awp_rw rfl ?_
    refine RW.op rfl rfl (eff_move (v := .t _) rfl rfl rfl) ?_
    refine RW.op rfl rfl (eff_unop rfl rfl rfl rfl) ?_
    refine RW.nil ?_
    refine awp_cond rfl (fun h => nomatch h) (fun _ => ?_)
    refine awp_skip ?_
    refine awp_rw rfl ?_
    refine RW.op rfl rfl (eff_move (v := .t _) rfl rfl rfl) ?_
    refine RW.op rfl rfl (eff_iop rfl rfl rfl rfl (iadd (by omega))) ?_
    refine RW.op rfl rfl (eff_assign (v := .t _) rfl rfl rfl) ?_
    refine RW.nil ?_
    refine ⟨_, ?_, _, weak_keep (n := 39) (fr' := [(2, .ptr 2 0 0 0), (3, .ptr 3 0 0 0), (5, .t (encI ((i + 1) : Nat)))]) (st' := [(2, some ⟨2, 64, 0, [.t (encT t)]⟩), (3, some ⟨2, 64, 0, [.t (encT t)]⟩)]) ⟨rfl, rfl, rfl, rfl, rfl, rfl, trivial⟩ ⟨rfl, okE_one rfl, rfl, okE_one rfl, trivial⟩, i + 1, (by omega), rfl, rfl⟩
    omega
  · try simp only [decide_eq_true_eq, decide_eq_false_iff_not, beq_iff_eq, bne_iff_ne, bne_eq_false_iff_eq, beq_eq_false_iff_ne, Bool.not_eq_true, Bool.not_eq_false, Bool.not_eq_true', Bool.not_eq_false', ne_eq] at h1
    refine awp_exit ?_
    refine awp_seq ?_
    refine awp_rw rfl ?_
    refine RW.op rfl rfl (eff_fieldAddr rfl rfl tf64_1 (by decide) rfl rfl rfl (Nat.le_of_ble_eq_true rfl)) ?_
    refine RW.op rfl rfl (eff_load (y := .t _) rfl rfl ti33 rfl (.one rfl rfl rfl rfl)) ?_
    refine RW.op rfl rfl (eff_fieldAddr rfl rfl tf64_1 (by decide) rfl rfl rfl (Nat.le_of_ble_eq_true rfl)) ?_
    refine RW.op rfl rfl (eff_load (y := .t _) rfl rfl ti33 rfl (.one rfl rfl rfl rfl)) ?_
    refine RW.op rfl rfl (eff_callT (sameStates_ret _ (by omega)) co50 rfl rfl rfl rfl) ?_
    refine RW.op rfl rfl (eff_assign (v := .t _) rfl rfl rfl) ?_
    refine RW.nil ?_
    refine awp_ret ?_
    first
      | exact ⟨Or.inr rfl, [_], ⟨.tmp (.t _), trivial⟩, .refl _⟩
      | exact ⟨Or.inr rfl, [_], ⟨.tmp (.t _), trivial⟩, (by repeat' first | exact trivial | exact Wk.refl _ | exact Wk.sl _ | refine And.intro ?_ ?_ | refine Wk.tupP ?_ | refine Wk.aggP ?_)⟩
      | exact ⟨Or.inr rfl, [_], ⟨.tmp (Res.ownT rfl rfl rfl rfl), trivial⟩, .refl _⟩
      | exact ⟨Or.inr rfl, [_], ⟨.tmp (Res.ownT rfl rfl rfl rfl), trivial⟩, (by repeat' first | exact trivial | exact Wk.refl _ | exact Wk.sl _ | refine And.intro ?_ ?_ | refine Wk.tupP ?_ | refine Wk.aggP ?_)⟩

theorem less_ret (a b : Rep) : Ret Tryd.prog 82 [encR a, encR b] (.bool (less a b)) := by
  refine ret_of_awp Tryd.func82 rfl (Nat.le_of_ble_eq_true rfl) ?_
  refine awp_seq ?_
  refine awp_rw rfl ?_
  refine RW.new rfl rfl (eff_boxK (v := .t _) (k := 4) (id := 2) rfl rfl rfl rfl rfl rfl) ?_
  refine RW.new rfl rfl (eff_boxK (v := .t _) (k := 4) (id := 3) rfl rfl rfl rfl rfl rfl) ?_
  refine RW.op rfl rfl (eff_assign (v := .t _) rfl rfl rfl) ?_
  refine RW.nil ?_
  refine awp_seq ?_
  refine awp_seq ?_
  refine awp_rw rfl ?_
  refine RW.op rfl rfl (eff_fieldAddr rfl rfl tf23_0 (by decide) rfl rfl rfl (Nat.le_of_ble_eq_true rfl)) ?_
  refine RW.op rfl rfl (eff_load (y := .t _) rfl rfl ti3 rfl (.one rfl rfl rfl rfl)) ?_
  refine RW.op rfl rfl (eff_fieldAddr rfl rfl tf23_0 (by decide) rfl rfl rfl (Nat.le_of_ble_eq_true rfl)) ?_
  refine RW.op rfl rfl (eff_load (y := .t _) rfl rfl ti3 rfl (.one rfl rfl rfl rfl)) ?_
  refine RW.op rfl rfl (eff_iop rfl rfl rfl rfl rfl) ?_
  refine RW.nil ?_
  refine awp_cond rfl (fun h1 => ?_) (fun h1 => ?_)
  · try simp only [decide_eq_true_eq, decide_eq_false_iff_not, beq_iff_eq, bne_iff_ne, bne_eq_false_iff_eq, beq_eq_false_iff_ne, Bool.not_eq_true, Bool.not_eq_false, Bool.not_eq_true', Bool.not_eq_false', ne_eq] at h1
    refine awp_seq ?_
    refine awp_rw rfl ?_
    refine RW.op rfl rfl (eff_fieldAddr rfl rfl tf23_0 (by decide) rfl rfl rfl (Nat.le_of_ble_eq_true rfl)) ?_
    refine RW.op rfl rfl (eff_load (y := .t _) rfl rfl ti3 rfl (.one rfl rfl rfl rfl)) ?_
    refine RW.op rfl rfl (eff_fieldAddr rfl rfl tf23_0 (by decide) rfl rfl rfl (Nat.le_of_ble_eq_true rfl)) ?_
    refine RW.op rfl rfl (eff_load (y := .t _) rfl rfl ti3 rfl (.one rfl rfl rfl rfl)) ?_
    refine RW.op rfl rfl (eff_iop rfl rfl rfl rfl rfl) ?_
    refine RW.op rfl rfl (eff_assign (v := .t _) rfl rfl rfl) ?_
    refine RW.nil ?_
    refine awp_ret ?_
    first
      | (rw [show less a b = _ from less_next (by assumption)]; exact ⟨Or.inr rfl, [_], ⟨.tmp (.t _), trivial⟩, .refl _⟩)
      | (rw [show less a b = _ from less_have (by omega) (by assumption)]; exact ⟨Or.inr rfl, [_], ⟨.tmp (.t _), trivial⟩, .refl _⟩)
      | (rw [show less a b = _ from less_key (by omega) (by omega) (by assumption)]; exact ⟨Or.inr rfl, [_], ⟨.tmp (.t _), trivial⟩, .refl _⟩)
      | (rw [show less a b = _ from less_l1 (by omega) (by omega) (by omega) (by assumption)]; exact ⟨Or.inr rfl, [_], ⟨.tmp (.t _), trivial⟩, .refl _⟩)
      | (rw [show less a b = _ from less_l2 (by omega) (by omega) (by omega) (by assumption)]; exact ⟨Or.inr rfl, [_], ⟨.tmp (.t _), trivial⟩, .refl _⟩)
  · try simp only [decide_eq_true_eq, decide_eq_false_iff_not, beq_iff_eq, bne_iff_ne, bne_eq_false_iff_eq, beq_eq_false_iff_ne, Bool.not_eq_true, Bool.not_eq_false, Bool.not_eq_true', Bool.not_eq_false', ne_eq] at h1
    refine awp_skip ?_
    refine awp_seq ?_
    refine awp_seq ?_
    refine awp_rw rfl ?_
    refine RW.op rfl rfl (eff_fieldAddr rfl rfl tf23_1 (by decide) rfl rfl rfl (Nat.le_of_ble_eq_true rfl)) ?_
    refine RW.op rfl rfl (eff_load (y := .t _) rfl rfl ti3 rfl (.one rfl rfl rfl rfl)) ?_
    refine RW.op rfl rfl (eff_fieldAddr rfl rfl tf23_1 (by decide) rfl rfl rfl (Nat.le_of_ble_eq_true rfl)) ?_
    refine RW.op rfl rfl (eff_load (y := .t _) rfl rfl ti3 rfl (.one rfl rfl rfl rfl)) ?_
    refine RW.op rfl rfl (eff_iop rfl rfl rfl rfl rfl) ?_
    refine RW.nil ?_
    refine awp_cond rfl (fun h2 => ?_) (fun h2 => ?_)
    · try simp only [decide_eq_true_eq, decide_eq_false_iff_not, beq_iff_eq, bne_iff_ne, bne_eq_false_iff_eq, beq_eq_false_iff_ne, Bool.not_eq_true, Bool.not_eq_false, Bool.not_eq_true', Bool.not_eq_false', ne_eq] at h2
      refine awp_seq ?_
      refine awp_rw rfl ?_
      refine RW.op rfl rfl (eff_fieldAddr rfl rfl tf23_1 (by decide) rfl rfl rfl (Nat.le_of_ble_eq_true rfl)) ?_
      refine RW.op rfl rfl (eff_load (y := .t _) rfl rfl ti3 rfl (.one rfl rfl rfl rfl)) ?_
      refine RW.op rfl rfl (eff_fieldAddr rfl rfl tf23_1 (by decide) rfl rfl rfl (Nat.le_of_ble_eq_true rfl)) ?_
      refine RW.op rfl rfl (eff_load (y := .t _) rfl rfl ti3 rfl (.one rfl rfl rfl rfl)) ?_
      refine RW.op rfl rfl (eff_iop rfl rfl rfl rfl rfl) ?_
      refine RW.op rfl rfl (eff_assign (v := .t _) rfl rfl rfl) ?_
      refine RW.nil ?_
      refine awp_ret ?_
      first
        | (rw [show less a b = _ from less_next (by assumption)]; exact ⟨Or.inr rfl, [_], ⟨.tmp (.t _), trivial⟩, .refl _⟩)
        | (rw [show less a b = _ from less_have (by omega) (by assumption)]; exact ⟨Or.inr rfl, [_], ⟨.tmp (.t _), trivial⟩, .refl _⟩)
        | (rw [show less a b = _ from less_key (by omega) (by omega) (by assumption)]; exact ⟨Or.inr rfl, [_], ⟨.tmp (.t _), trivial⟩, .refl _⟩)
        | (rw [show less a b = _ from less_l1 (by omega) (by omega) (by omega) (by assumption)]; exact ⟨Or.inr rfl, [_], ⟨.tmp (.t _), trivial⟩, .refl _⟩)
        | (rw [show less a b = _ from less_l2 (by omega) (by omega) (by omega) (by assumption)]; exact ⟨Or.inr rfl, [_], ⟨.tmp (.t _), trivial⟩, .refl _⟩)
    · try simp only [decide_eq_true_eq, decide_eq_false_iff_not, beq_iff_eq, bne_iff_ne, bne_eq_false_iff_eq, beq_eq_false_iff_ne, Bool.not_eq_true, Bool.not_eq_false, Bool.not_eq_true', Bool.not_eq_false', ne_eq] at h2
      refine awp_skip ?_
      refine awp_seq ?_
      refine awp_seq ?_
      refine awp_rw rfl ?_
      refine RW.op rfl rfl (eff_fieldAddr rfl rfl tf23_2 (by decide) rfl rfl rfl (Nat.le_of_ble_eq_true rfl)) ?_
      refine RW.op rfl rfl (eff_load (y := .t _) rfl rfl ti3 rfl (.one rfl rfl rfl rfl)) ?_
      refine RW.op rfl rfl (eff_fieldAddr rfl rfl tf23_2 (by decide) rfl rfl rfl (Nat.le_of_ble_eq_true rfl)) ?_
      refine RW.op rfl rfl (eff_load (y := .t _) rfl rfl ti3 rfl (.one rfl rfl rfl rfl)) ?_
      refine RW.op rfl rfl (eff_iop rfl rfl rfl rfl rfl) ?_
      refine RW.nil ?_
      refine awp_cond rfl (fun h3 => ?_) (fun h3 => ?_)
      · try simp only [decide_eq_true_eq, decide_eq_false_iff_not, beq_iff_eq, bne_iff_ne, bne_eq_false_iff_eq, beq_eq_false_iff_ne, Bool.not_eq_true, Bool.not_eq_false, Bool.not_eq_true', Bool.not_eq_false', ne_eq] at h3
        refine awp_seq ?_
        refine awp_rw rfl ?_
        refine RW.op rfl rfl (eff_fieldAddr rfl rfl tf23_2 (by decide) rfl rfl rfl (Nat.le_of_ble_eq_true rfl)) ?_
        refine RW.op rfl rfl (eff_load (y := .t _) rfl rfl ti3 rfl (.one rfl rfl rfl rfl)) ?_
        refine RW.op rfl rfl (eff_fieldAddr rfl rfl tf23_2 (by decide) rfl rfl rfl (Nat.le_of_ble_eq_true rfl)) ?_
        refine RW.op rfl rfl (eff_load (y := .t _) rfl rfl ti3 rfl (.one rfl rfl rfl rfl)) ?_
        refine RW.op rfl rfl (eff_iop rfl rfl rfl rfl rfl) ?_
        refine RW.op rfl rfl (eff_assign (v := .t _) rfl rfl rfl) ?_
        refine RW.nil ?_
        refine awp_ret ?_
        first
          | (rw [show less a b = _ from less_next (by assumption)]; exact ⟨Or.inr rfl, [_], ⟨.tmp (.t _), trivial⟩, .refl _⟩)
          | (rw [show less a b = _ from less_have (by omega) (by assumption)]; exact ⟨Or.inr rfl, [_], ⟨.tmp (.t _), trivial⟩, .refl _⟩)
          | (rw [show less a b = _ from less_key (by omega) (by omega) (by assumption)]; exact ⟨Or.inr rfl, [_], ⟨.tmp (.t _), trivial⟩, .refl _⟩)
          | (rw [show less a b = _ from less_l1 (by omega) (by omega) (by omega) (by assumption)]; exact ⟨Or.inr rfl, [_], ⟨.tmp (.t _), trivial⟩, .refl _⟩)
          | (rw [show less a b = _ from less_l2 (by omega) (by omega) (by omega) (by assumption)]; exact ⟨Or.inr rfl, [_], ⟨.tmp (.t _), trivial⟩, .refl _⟩)
      · try simp only [decide_eq_true_eq, decide_eq_false_iff_not, beq_iff_eq, bne_iff_ne, bne_eq_false_iff_eq, beq_eq_false_iff_ne, Bool.not_eq_true, Bool.not_eq_false, Bool.not_eq_true', Bool.not_eq_false', ne_eq] at h3
        refine awp_skip ?_
        refine awp_seq ?_
        refine awp_rw rfl ?_
        refine RW.op rfl rfl (eff_fieldAddr rfl rfl tf23_3 (by decide) rfl rfl rfl (Nat.le_of_ble_eq_true rfl)) ?_
        refine RW.op rfl rfl (eff_load (y := .t _) rfl rfl ti4 rfl (.one rfl rfl rfl rfl)) ?_
        refine RW.op rfl rfl (eff_unop rfl rfl rfl rfl) ?_
        refine RW.op rfl rfl (eff_move (v := .t _) rfl rfl rfl) ?_
        refine RW.split 38 rfl (fun h4 => ?_) (fun h4 => ?_)
        · try simp only [decide_eq_true_eq, decide_eq_false_iff_not, beq_iff_eq, bne_iff_ne, bne_eq_false_iff_eq, beq_eq_false_iff_ne, Bool.not_eq_true, Bool.not_eq_false, Bool.not_eq_true', Bool.not_eq_false', ne_eq] at h4
          refine RW.gop rfl rfl rfl rfl rfl rfl (eff_fieldAddr rfl rfl tf23_3 (by decide) rfl rfl rfl (Nat.le_of_ble_eq_true rfl)) ?_
          refine RW.gop rfl rfl rfl rfl rfl rfl (eff_load (y := .t _) rfl rfl ti4 rfl (.one rfl rfl rfl rfl)) ?_
          refine RW.op rfl rfl (eff_pick (v := .t _) rfl rfl rfl rfl) ?_
          refine RW.op rfl rfl (eff_assign (v := .t _) rfl rfl rfl) ?_
          refine RW.nil ?_
          refine awp_ret ?_
          first
            | (rw [show less a b = _ from less_next (by assumption)]; exact ⟨Or.inr rfl, [_], ⟨.tmp (.t _), trivial⟩, .refl _⟩)
            | (rw [show less a b = _ from less_have (by omega) (by assumption)]; exact ⟨Or.inr rfl, [_], ⟨.tmp (.t _), trivial⟩, .refl _⟩)
            | (rw [show less a b = _ from less_key (by omega) (by omega) (by assumption)]; exact ⟨Or.inr rfl, [_], ⟨.tmp (.t _), trivial⟩, .refl _⟩)
            | (rw [show less a b = _ from less_l1 (by omega) (by omega) (by omega) (by assumption)]; exact ⟨Or.inr rfl, [_], ⟨.tmp (.t _), trivial⟩, .refl _⟩)
            | (rw [show less a b = _ from less_l2 (by omega) (by omega) (by omega) (by assumption)]; exact ⟨Or.inr rfl, [_], ⟨.tmp (.t _), trivial⟩, .refl _⟩)
        · try simp only [decide_eq_true_eq, decide_eq_false_iff_not, beq_iff_eq, bne_iff_ne, bne_eq_false_iff_eq, beq_eq_false_iff_ne, Bool.not_eq_true, Bool.not_eq_false, Bool.not_eq_true', Bool.not_eq_false', ne_eq] at h4
          refine RW.gskip rfl rfl rfl rfl rfl (by decide) ?_
          refine RW.gskip rfl rfl rfl rfl rfl (by decide) ?_
          refine RW.op rfl rfl (eff_pick (v := .t _) rfl rfl rfl rfl) ?_
          refine RW.op rfl rfl (eff_assign (v := .t _) rfl rfl rfl) ?_
          refine RW.nil ?_
          refine awp_ret ?_
          first
            | (rw [show less a b = _ from less_next (by assumption)]; exact ⟨Or.inr rfl, [_], ⟨.tmp (.t _), trivial⟩, .refl _⟩)
            | (rw [show less a b = _ from less_have (by omega) (by assumption)]; exact ⟨Or.inr rfl, [_], ⟨.tmp (.t _), trivial⟩, .refl _⟩)
            | (rw [show less a b = _ from less_key (by omega) (by omega) (by assumption)]; exact ⟨Or.inr rfl, [_], ⟨.tmp (.t _), trivial⟩, .refl _⟩)
            | (rw [show less a b = _ from less_l1 (by omega) (by omega) (by omega) (by assumption)]; exact ⟨Or.inr rfl, [_], ⟨.tmp (.t _), trivial⟩, .refl _⟩)
            | (rw [show less a b = _ from less_l2 (by omega) (by omega) (by omega) (by assumption)]; exact ⟨Or.inr rfl, [_], ⟨.tmp (.t _), trivial⟩, .refl _⟩)

theorem new17_ret  : Ret Tryd.prog 61 [] (encT ⟨[], [zr]⟩) := by
  refine ret_of_awp Tryd.func61 rfl (Nat.le_of_ble_eq_true rfl) ?_
  refine awp_seq ?_
  refine awp_rw rfl ?_
  refine RW.new rfl rfl (eff_allocK (k := 2) (id := 0) rfl rfl tz64 rfl rfl) ?_
  refine RW.nil ?_
  refine awp_seq ?_
  refine awp_rw rfl ?_
  refine RW.op rfl rfl (eff_buildT (ys := [_, _, _, _]) rfl rfl tz23 tg23 rfl) ?_
  refine RW.new rfl rfl (eff_buildSliceL (id := 2) (els := [.t (.agg [_, _, _, _])]) rfl rfl te33 tz23 rfl (by decide) (by decide) rfl rfl rfl rfl) ?_
  refine RW.op rfl rfl (eff_buildA (ys := [_, _]) rfl rfl tz64 tg64 rfl rfl) ?_
  refine RW.store rfl rfl (eff_storeW (v := .agg _) (els := [_]) (els' := [_]) rfl rfl ti64 rfl rfl rfl rfl rfl rfl rfl rfl rfl) ?_
  refine RW.nil ?_
  refine awp_ret ?_
  first
    | exact ⟨Or.inr rfl, [_], ⟨.cell rfl ti64 (.whole rfl rfl rfl rfl rfl rfl) (Res.aggP (xs := [_, _]) ⟨.t _, Res.ownT (xs := [zr].map encR) rfl rfl rfl rfl, trivial⟩), trivial⟩, .refl _⟩
    | exact ⟨Or.inr rfl, [_], ⟨.cell rfl ti64 (.whole rfl rfl rfl rfl rfl rfl) (Res.aggP (xs := [_, _]) ⟨.t _, Res.ownT (xs := [zr].map encR) rfl rfl rfl rfl, trivial⟩), trivial⟩, (by repeat' first | exact trivial | exact Wk.refl _ | exact Wk.sl _ | refine And.intro ?_ ?_ | refine Wk.tupP ?_ | refine Wk.aggP ?_)⟩

theorem new18_ret  : Ret Tryd.prog 44 [] (encT ⟨[], [zr]⟩) := by
  refine ret_of_awp Tryd.func44 rfl (Nat.le_of_ble_eq_true rfl) ?_
  refine awp_seq ?_
  refine awp_rw rfl ?_
  refine RW.new rfl rfl (eff_allocK (k := 2) (id := 0) rfl rfl tz64 rfl rfl) ?_
  refine RW.nil ?_
  refine awp_seq ?_
  refine awp_rw rfl ?_
  refine RW.op rfl rfl (eff_buildT (ys := [_, _, _, _]) rfl rfl tz23 tg23 rfl) ?_
  refine RW.new rfl rfl (eff_buildSliceL (id := 2) (els := [.t (.agg [_, _, _, _])]) rfl rfl te33 tz23 rfl (by decide) (by decide) rfl rfl rfl rfl) ?_
  refine RW.op rfl rfl (eff_buildA (ys := [_, _]) rfl rfl tz64 tg64 rfl rfl) ?_
  refine RW.store rfl rfl (eff_storeW (v := .agg _) (els := [_]) (els' := [_]) rfl rfl ti64 rfl rfl rfl rfl rfl rfl rfl rfl rfl) ?_
  refine RW.nil ?_
  refine awp_ret ?_
  first
    | exact ⟨Or.inr rfl, [_], ⟨.cell rfl ti64 (.whole rfl rfl rfl rfl rfl rfl) (Res.aggP (xs := [_, _]) ⟨.t _, Res.ownT (xs := [zr].map encR) rfl rfl rfl rfl, trivial⟩), trivial⟩, .refl _⟩
    | exact ⟨Or.inr rfl, [_], ⟨.cell rfl ti64 (.whole rfl rfl rfl rfl rfl rfl) (Res.aggP (xs := [_, _]) ⟨.t _, Res.ownT (xs := [zr].map encR) rfl rfl rfl rfl, trivial⟩), trivial⟩, (by repeat' first | exact trivial | exact Wk.refl _ | exact Wk.sl _ | refine And.intro ?_ ?_ | refine Wk.tupP ?_ | refine Wk.aggP ?_)⟩

theorem clip_ret (l : List Frm) : Ret Tryd.prog 73 [.sl (l.map encF) false] (.sl (l.map encF) true) := by
  refine ret_of_awp Tryd.func73 rfl (Nat.le_of_ble_eq_true rfl) ?_
  refine awp_seq ?_
  refine awp_rw rfl ?_
  refine RW.op rfl rfl (eff_assign (v := .t _) rfl rfl rfl) ?_
  refine RW.nil ?_
  refine awp_seq ?_
  refine awp_rw rfl ?_
  refine RW.op rfl rfl (eff_move (v := .t _) rfl rfl rfl) ?_
  refine RW.op rfl rfl (eff_move (v := .t _) rfl rfl rfl) ?_
  refine RW.op rfl rfl (eff_lenM rfl rfl te62 rfl) ?_
  refine RW.op rfl rfl (eff_move (v := .t _) rfl rfl rfl) ?_
  refine RW.op rfl rfl (eff_lenM rfl rfl te62 rfl) ?_
  refine RW.op rfl rfl (eff_sliceT3 (l := none) (h := l.length) (m := l.length) rfl rfl te62 rfl (fun y hy => by obtain ⟨f, _, rfl⟩ := List.mem_map.1 hy; rfl) .no (.yes rfl (by simp)) (.yes rfl (by simp)) (Nat.zero_le _) (Nat.le_refl _) (by simp)) ?_
  refine RW.op rfl rfl (eff_assign (v := .t _) rfl rfl rfl) ?_
  refine RW.nil ?_
  refine awp_ret ?_
  exact ⟨Or.inr rfl, [_], ⟨.tmp (.t _), trivial⟩, (by simp [packT]; rw [List.take_of_length_le (by simp)]; exact .refl _)⟩

theorem cloneF_retG (l : List Frm) (hl : l.length ≤ 1000000) : RetG Tryd.prog 78 [] [.t (.sl (l.map encF) false)] [(5, some ⟨5, 45, 1, (l.map encF).map .t⟩)] (.own 5 1 0 l.length) := by
  refine retG_of_awp Tryd.func78 rfl (Nat.le_of_ble_eq_true rfl) ?_
  refine awp_seq ?_
  refine awp_rw rfl ?_
  refine RW.op rfl rfl (eff_assign (v := .t _) rfl rfl rfl) ?_
  refine RW.nil ?_
  refine awp_seq ?_
  refine awp_seq ?_
  refine awp_rw rfl ?_
  refine RW.op rfl rfl (eff_move (v := .t _) rfl rfl rfl) ?_
  refine RW.nilEq rfl rfl rfl rfl te62 rfl (fun b1 hb1 => ?_)
  refine RW.nil ?_
  refine awp_cond rfl (fun h2 => ?_) (fun h2 => ?_)
  · try simp only [decide_eq_true_eq, decide_eq_false_iff_not, beq_iff_eq, bne_iff_ne, bne_eq_false_iff_eq, beq_eq_false_iff_ne, Bool.not_eq_true, Bool.not_eq_false, Bool.not_eq_true', Bool.not_eq_false', ne_eq] at h2
    refine awp_seq ?_
    refine awp_rw rfl ?_
    refine RW.op rfl rfl (eff_assign (v := .t _) rfl rfl rfl) ?_
    refine RW.nil ?_
    show AWP _ _ _ _
    refine awp_weak (weak_adopt (d := 2) (id := 5) (k := 5) (ty := 45) rfl rfl) ?_
    refine awp_weak (weak_bumpS (d := 2) (id := 5) (off := 0) (len := 0) 1 rfl rfl (by decide)) ?_
    refine awp_ret ?_
    have hl0 : l = [] := by simpa using hb1 h2
    subst hl0
    exact ⟨Or.inr rfl, [_], [.own 5 1 0 0], ⟨.tmp rfl, trivial⟩, rfl, weak_keep ⟨rfl, rfl, trivial⟩ ⟨rfl, okE_nil, trivial⟩, rfl⟩
  · try simp only [decide_eq_true_eq, decide_eq_false_iff_not, beq_iff_eq, bne_iff_ne, bne_eq_false_iff_eq, beq_eq_false_iff_ne, Bool.not_eq_true, Bool.not_eq_false, Bool.not_eq_true', Bool.not_eq_false', ne_eq] at h2
    refine awp_skip ?_
    refine awp_seq ?_
    refine awp_rw rfl ?_
    refine RW.new rfl rfl (eff_buildSliceL (id := 5) (els := []) rfl rfl te62 tz45 rfl (by decide) (by decide) rfl rfl rfl rfl) ?_
    refine RW.op rfl rfl (eff_move (v := .t _) rfl rfl rfl) ?_
    refine RW.new rfl rfl (eff_appendAny (id := 5) rfl rfl ta62 rfl rfl rfl rfl rfl rfl (srcM rfl (fun _ => rfl)) (by simp; omega) (by simp; omega)) ?_
    refine RW.op rfl rfl (eff_assign (v := .own _ _ _ _) rfl rfl rfl) ?_
    refine RW.nil ?_
    refine awp_ret ?_
    exact ⟨Or.inr rfl, [_], [.own 5 1 0 l.length], ⟨.tmp rfl, trivial⟩, rfl, weak_keep ⟨(by show AV.own 5 _ 0 _ = AV.own 5 1 0 l.length; congr 1; simp), rfl, trivial⟩ ⟨rfl, okE_t, trivial⟩, rfl⟩

theorem cloneB_retG (l : List Int) (hl : l.length ≤ 1000000) : RetG Tryd.prog 79 [] [.t (.sl (l.map encBy) false)] [(5, some ⟨1, 5, 1, (l.map encBy).map .t⟩)] (.own 5 1 0 l.length) := by
  refine retG_of_awp Tryd.func79 rfl (Nat.le_of_ble_eq_true rfl) ?_
  refine awp_seq ?_
  refine awp_rw rfl ?_
  refine RW.op rfl rfl (eff_assign (v := .t _) rfl rfl rfl) ?_
  refine RW.nil ?_
  refine awp_seq ?_
  refine awp_seq ?_
  refine awp_rw rfl ?_
  refine RW.op rfl rfl (eff_move (v := .t _) rfl rfl rfl) ?_
  refine RW.nilEq rfl rfl rfl rfl te42 rfl (fun b1 hb1 => ?_)
  refine RW.nil ?_
  refine awp_cond rfl (fun h2 => ?_) (fun h2 => ?_)
  · try simp only [decide_eq_true_eq, decide_eq_false_iff_not, beq_iff_eq, bne_iff_ne, bne_eq_false_iff_eq, beq_eq_false_iff_ne, Bool.not_eq_true, Bool.not_eq_false, Bool.not_eq_true', Bool.not_eq_false', ne_eq] at h2
    refine awp_seq ?_
    refine awp_rw rfl ?_
    refine RW.op rfl rfl (eff_assign (v := .t _) rfl rfl rfl) ?_
    refine RW.nil ?_
    show AWP _ _ _ _
    refine awp_weak (weak_adopt (d := 2) (id := 5) (k := 1) (ty := 5) rfl rfl) ?_
    refine awp_weak (weak_bumpS (d := 2) (id := 5) (off := 0) (len := 0) 1 rfl rfl (by decide)) ?_
    refine awp_ret ?_
    have hl0 : l = [] := by simpa using hb1 h2
    subst hl0
    exact ⟨Or.inr rfl, [_], [.own 5 1 0 0], ⟨.tmp rfl, trivial⟩, rfl, weak_keep ⟨rfl, rfl, trivial⟩ ⟨rfl, okE_nil, trivial⟩, rfl⟩
  · try simp only [decide_eq_true_eq, decide_eq_false_iff_not, beq_iff_eq, bne_iff_ne, bne_eq_false_iff_eq, beq_eq_false_iff_ne, Bool.not_eq_true, Bool.not_eq_false, Bool.not_eq_true', Bool.not_eq_false', ne_eq] at h2
    refine awp_skip ?_
    refine awp_seq ?_
    refine awp_rw rfl ?_
    refine RW.new rfl rfl (eff_buildSlice1 (id := 5) (els := []) rfl rfl te42 tz5 rfl (by decide) rfl rfl rfl rfl) ?_
    refine RW.op rfl rfl (eff_move (v := .t _) rfl rfl rfl) ?_
    refine RW.new rfl rfl (eff_appendAny (id := 5) rfl rfl ta42 rfl rfl rfl rfl rfl rfl (srcM rfl (fun _ => rfl)) (by simp; omega) (by simp; omega)) ?_
    refine RW.op rfl rfl (eff_assign (v := .own _ _ _ _) rfl rfl rfl) ?_
    refine RW.nil ?_
    refine awp_ret ?_
    exact ⟨Or.inr rfl, [_], [.own 5 1 0 l.length], ⟨.tmp rfl, trivial⟩, rfl, weak_keep ⟨(by show AV.own 5 _ 0 _ = AV.own 5 1 0 l.length; congr 1; simp), rfl, trivial⟩ ⟨rfl, okE_t, trivial⟩, rfl⟩

theorem cloneB_ret (l : List Int) (hl : l.length ≤ 1000000) : Ret Tryd.prog 79 [.sl (l.map encBy) false] (.sl (l.map encBy) false) :=
  ret_of_retG (cloneB_retG l hl) (Res.ownM rfl (by simp)) (.refl _)
end Go.Tv.C36

end
