/- TwinPlays: for every input that reads as data, the call returns true and leaves its arguments as they were. No condition. -/
import Derived.Test.YtofiemifpgcfhaaDoorT2
import Derived.Test.YtofiemifpgcfhaaDoorT1
import Derived.Test.YtofiemifpgcfhaaDoorRows
import Derived.ProofKit
import Derived.Test.YtofiemifpgcfhaaDoorTie
import Derived.Test.YtofiemifpgcfhaaDoorCards
import Derived.SevenTiedAt
set_option linter.unnecessarySimpa false
set_option linter.unusedVariables false
set_option linter.unusedSimpArgs false
section
open Go Go.Tv Go.Proofs
namespace Go.Tv.C34
set_option maxRecDepth 20000
set_option maxHeartbeats 2000000
set_option linter.unusedSimpArgs false
set_option linter.unusedVariables false
theorem tzn_ret (h : Nat) (hh : h < 32768) : RetT Tryd.prog 39 [(1, deT)] [.int .u64 ((18446744073709551615 - h : Nat) : Int)] (encI (ones ((h : Nat) : Int) : Nat)) := by
  rw [← tz_ones hh]; exact tz_ret _ (by omega)

theorem apply_ret (S : Rep) (f : Frm) (hS : HP S) : RetT Tryd.prog 14 [(1, deT)] [encR S, encF f] (encR (apply S f)) := by
  obtain ⟨nx, hv0, ky, lk⟩ := S
  obtain ⟨h, rfl⟩ : ∃ h : Nat, hv0 = (h : Int) := ⟨hv0.toNat, by have := hS.1; simp only [] at this; omega⟩
  have hh : h < 32768 := by have := hS.2; simp only [] at this; omega
  have hdr := dist_range f ⟨nx, ((h : Nat) : Int), ky, lk⟩
  have hon := ones_le ((h : Nat) : Int)
  refine retT_of_awp Tryd.func14 rfl (Nat.le_of_ble_eq_true rfl) ?_
  refine awp_seq ?_
  refine awp_rw rfl ?_
  refine RW.new rfl rfl (eff_boxK (v := .t _) (k := 4) (id := 2) rfl rfl rfl rfl rfl rfl) ?_
  refine RW.new rfl rfl (eff_boxK (v := .t _) (k := 5) (id := 3) rfl rfl rfl rfl rfl rfl) ?_
  refine RW.new rfl rfl (eff_allocK (k := 4) (id := 4) rfl rfl tz23 rfl rfl) ?_
  refine RW.nil ?_
  refine awp_seq ?_
  refine awp_seq ?_
  refine awp_rw rfl ?_
  refine RW.op rfl rfl (eff_fieldAddr rfl rfl tf30_1 (by decide) rfl rfl rfl (Nat.le_of_ble_eq_true rfl)) ?_
  refine RW.op rfl rfl (eff_load (y := .t _) rfl rfl ti3 rfl (.one rfl rfl rfl rfl)) ?_
  refine RW.op rfl rfl (eff_fieldAddr rfl rfl tf23_2 (by decide) rfl rfl rfl (Nat.le_of_ble_eq_true rfl)) ?_
  refine RW.op rfl rfl (eff_load (y := .t _) rfl rfl ti3 rfl (.one rfl rfl rfl rfl)) ?_
  refine RW.op rfl rfl (eff_iop rfl rfl rfl rfl rfl) ?_
  refine RW.op rfl rfl (eff_move (v := .t _) rfl rfl rfl) ?_
  refine RW.split 12 rfl (fun h1 => ?_) (fun h1 => ?_)
  · try simp only [decide_eq_true_eq, decide_eq_false_iff_not, beq_iff_eq, bne_iff_ne, bne_eq_false_iff_eq, beq_eq_false_iff_ne, Bool.not_eq_true, Bool.not_eq_false, Bool.not_eq_true', Bool.not_eq_false', ne_eq] at h1
    refine RW.gskip rfl rfl rfl rfl rfl (by decide) ?_
    refine RW.gskip rfl rfl rfl rfl rfl (by decide) ?_
    refine RW.gskip rfl rfl rfl rfl rfl (by decide) ?_
    refine RW.gskip rfl rfl rfl rfl rfl (by decide) ?_
    refine RW.gskip rfl rfl rfl rfl rfl (by decide) ?_
    refine RW.gskip rfl rfl rfl rfl rfl (by decide) ?_
    refine RW.op rfl rfl (eff_pick (v := .t _) rfl rfl rfl rfl) ?_
    refine RW.nil ?_
    refine awp_cond rfl (fun _ => ?_) (fun h => nomatch h)
    refine awp_seq ?_
    refine awp_rw rfl ?_
    refine RW.op rfl rfl (eff_load rfl rfl ti23 rfl (.whole rfl rfl rfl rfl rfl rfl)) ?_
    refine RW.store rfl rfl (eff_storeW (v := .t _) (els := [_]) (els' := [_]) rfl rfl ti23 rfl rfl rfl rfl rfl rfl rfl rfl rfl) ?_
    refine RW.nil ?_
    refine awp_ret ?_
    first
      | (rw [apply_stay (Or.inl (by assumption))]; exact ⟨Or.inr rfl, [_], ⟨.cell rfl ti23 (.whole rfl rfl rfl rfl rfl rfl) (.t _), trivial⟩, .refl _⟩)
      | (rw [apply_stay (Or.inr (by assumption))]; exact ⟨Or.inr rfl, [_], ⟨.cell rfl ti23 (.whole rfl rfl rfl rfl rfl rfl) (.t _), trivial⟩, .refl _⟩)
      | (rw [apply_unl (by rintro (h | h) <;> (try dsimp only [w64] at h) <;> omega) (by assumption) (if_pos (by assumption))]; exact ⟨Or.inr rfl, [_], ⟨.cell rfl ti23 (.whole rfl rfl rfl rfl rfl rfl) (.t _), trivial⟩, .refl _⟩)
      | (rw [apply_unl (by rintro (h | h) <;> (try dsimp only [w64] at h) <;> omega) (by assumption) (if_neg (by assumption))]; exact ⟨Or.inr rfl, [_], ⟨.cell rfl ti23 (.whole rfl rfl rfl rfl rfl rfl) (.t _), trivial⟩, .refl _⟩)
      | (rw [apply_lock (by rintro (h | h) <;> (try dsimp only [w64] at h) <;> omega) (by assumption) (by assumption)]; exact ⟨Or.inr rfl, [_], ⟨.cell rfl ti23 (.whole rfl rfl rfl rfl rfl rfl) (.t _), trivial⟩, .refl _⟩)
      | (rw [apply_zero (by rintro (h | h) <;> (try dsimp only [w64] at h) <;> omega) (by assumption) (by assumption) (by assumption)]; exact ⟨Or.inr rfl, [_], ⟨.cell rfl ti23 (.whole rfl rfl rfl rfl rfl rfl) (.t _), trivial⟩, .refl _⟩)
      | (rw [apply_near (by rintro (h | h) <;> (try dsimp only [w64] at h) <;> omega) (by assumption) (by assumption) (by assumption) (by assumption)]; exact ⟨Or.inr rfl, [_], ⟨.cell rfl ti23 (.whole rfl rfl rfl rfl rfl rfl) (.t _), trivial⟩, .refl _⟩)
      | (rw [apply_far (by rintro (h | h) <;> (try dsimp only [w64] at h) <;> omega) (by assumption) (by assumption) (by omega) (decide_eq_true (by omega))]; exact ⟨Or.inr rfl, [_], ⟨.cell rfl ti23 (.whole rfl rfl rfl rfl rfl rfl) (.t _), trivial⟩, .refl _⟩)
      | (rw [apply_far (b := lk) (by rintro (h | h) <;> (try dsimp only [w64] at h) <;> omega) (by assumption) (by assumption) (by omega) (by rw [decide_eq_false (by omega)]; exact (show lk = false by assumption).symm)]; exact ⟨Or.inr rfl, [_], ⟨.cell rfl ti23 (.whole rfl rfl rfl rfl rfl rfl) (.t _), trivial⟩, .refl _⟩)
  · try simp only [decide_eq_true_eq, decide_eq_false_iff_not, beq_iff_eq, bne_iff_ne, bne_eq_false_iff_eq, beq_eq_false_iff_ne, Bool.not_eq_true, Bool.not_eq_false, Bool.not_eq_true', Bool.not_eq_false', ne_eq] at h1
    refine RW.gop rfl rfl rfl rfl rfl rfl (eff_fieldAddr rfl rfl tf30_1 (by decide) rfl rfl rfl (Nat.le_of_ble_eq_true rfl)) ?_
    refine RW.gop rfl rfl rfl rfl rfl rfl (eff_load (y := .t _) rfl rfl ti3 rfl (.one rfl rfl rfl rfl)) ?_
    refine RW.gop rfl rfl rfl rfl rfl rfl (eff_fieldAddr rfl rfl tf23_2 (by decide) rfl rfl rfl (Nat.le_of_ble_eq_true rfl)) ?_
    refine RW.gop rfl rfl rfl rfl rfl rfl (eff_load (y := .t _) rfl rfl ti3 rfl (.one rfl rfl rfl rfl)) ?_
    refine RW.gop rfl rfl rfl rfl rfl rfl (eff_iop rfl rfl rfl rfl rfl) ?_
    refine RW.gop rfl rfl rfl rfl rfl rfl (eff_iop rfl rfl rfl rfl rfl) ?_
    refine RW.op rfl rfl (eff_pick (v := .t _) rfl rfl rfl rfl) ?_
    refine RW.nil ?_
    refine awp_cond rfl (fun h2 => ?_) (fun h2 => ?_)
    · try simp only [decide_eq_true_eq, decide_eq_false_iff_not, beq_iff_eq, bne_iff_ne, bne_eq_false_iff_eq, beq_eq_false_iff_ne, Bool.not_eq_true, Bool.not_eq_false, Bool.not_eq_true', Bool.not_eq_false', ne_eq] at h2
      refine awp_seq ?_
      refine awp_rw rfl ?_
      refine RW.op rfl rfl (eff_load rfl rfl ti23 rfl (.whole rfl rfl rfl rfl rfl rfl)) ?_
      refine RW.store rfl rfl (eff_storeW (v := .t _) (els := [_]) (els' := [_]) rfl rfl ti23 rfl rfl rfl rfl rfl rfl rfl rfl rfl) ?_
      refine RW.nil ?_
      refine awp_ret ?_
      first
        | (rw [apply_stay (Or.inl (by assumption))]; exact ⟨Or.inr rfl, [_], ⟨.cell rfl ti23 (.whole rfl rfl rfl rfl rfl rfl) (.t _), trivial⟩, .refl _⟩)
        | (rw [apply_stay (Or.inr (by assumption))]; exact ⟨Or.inr rfl, [_], ⟨.cell rfl ti23 (.whole rfl rfl rfl rfl rfl rfl) (.t _), trivial⟩, .refl _⟩)
        | (rw [apply_unl (by rintro (h | h) <;> (try dsimp only [w64] at h) <;> omega) (by assumption) (if_pos (by assumption))]; exact ⟨Or.inr rfl, [_], ⟨.cell rfl ti23 (.whole rfl rfl rfl rfl rfl rfl) (.t _), trivial⟩, .refl _⟩)
        | (rw [apply_unl (by rintro (h | h) <;> (try dsimp only [w64] at h) <;> omega) (by assumption) (if_neg (by assumption))]; exact ⟨Or.inr rfl, [_], ⟨.cell rfl ti23 (.whole rfl rfl rfl rfl rfl rfl) (.t _), trivial⟩, .refl _⟩)
        | (rw [apply_lock (by rintro (h | h) <;> (try dsimp only [w64] at h) <;> omega) (by assumption) (by assumption)]; exact ⟨Or.inr rfl, [_], ⟨.cell rfl ti23 (.whole rfl rfl rfl rfl rfl rfl) (.t _), trivial⟩, .refl _⟩)
        | (rw [apply_zero (by rintro (h | h) <;> (try dsimp only [w64] at h) <;> omega) (by assumption) (by assumption) (by assumption)]; exact ⟨Or.inr rfl, [_], ⟨.cell rfl ti23 (.whole rfl rfl rfl rfl rfl rfl) (.t _), trivial⟩, .refl _⟩)
        | (rw [apply_near (by rintro (h | h) <;> (try dsimp only [w64] at h) <;> omega) (by assumption) (by assumption) (by assumption) (by assumption)]; exact ⟨Or.inr rfl, [_], ⟨.cell rfl ti23 (.whole rfl rfl rfl rfl rfl rfl) (.t _), trivial⟩, .refl _⟩)
        | (rw [apply_far (by rintro (h | h) <;> (try dsimp only [w64] at h) <;> omega) (by assumption) (by assumption) (by omega) (decide_eq_true (by omega))]; exact ⟨Or.inr rfl, [_], ⟨.cell rfl ti23 (.whole rfl rfl rfl rfl rfl rfl) (.t _), trivial⟩, .refl _⟩)
        | (rw [apply_far (b := lk) (by rintro (h | h) <;> (try dsimp only [w64] at h) <;> omega) (by assumption) (by assumption) (by omega) (by rw [decide_eq_false (by omega)]; exact (show lk = false by assumption).symm)]; exact ⟨Or.inr rfl, [_], ⟨.cell rfl ti23 (.whole rfl rfl rfl rfl rfl rfl) (.t _), trivial⟩, .refl _⟩)
    · try simp only [decide_eq_true_eq, decide_eq_false_iff_not, beq_iff_eq, bne_iff_ne, bne_eq_false_iff_eq, beq_eq_false_iff_ne, Bool.not_eq_true, Bool.not_eq_false, Bool.not_eq_true', Bool.not_eq_false', ne_eq] at h2
      refine awp_skip ?_
      refine awp_seq ?_
      refine awp_rw rfl ?_
      refine RW.op rfl rfl (eff_fieldAddr rfl rfl tf30_1 (by decide) rfl rfl rfl (Nat.le_of_ble_eq_true rfl)) ?_
      refine RW.op rfl rfl (eff_load (y := .t _) rfl rfl ti3 rfl (.one rfl rfl rfl rfl)) ?_
      refine RW.op rfl rfl (eff_iop rfl rfl rfl rfl rfl) ?_
      refine RW.op rfl rfl (eff_fieldAddr rfl rfl tf23_2 (by decide) rfl rfl rfl (Nat.le_of_ble_eq_true rfl)) ?_
      refine RW.store rfl rfl (eff_storeS (v := .t _) (ys := [_, _, _, _]) (els := [_]) (els' := [_]) rfl rfl ti3 rfl rfl rfl rfl rfl rfl rfl (Nat.le_of_ble_eq_true rfl) rfl rfl) ?_
      refine RW.nil ?_
      refine awp_seq ?_
      refine awp_rw rfl ?_
      refine RW.op rfl rfl (eff_fieldAddr rfl rfl tf30_0 (by decide) rfl rfl rfl (Nat.le_of_ble_eq_true rfl)) ?_
      refine RW.op rfl rfl (eff_load (y := .t _) rfl rfl ti3 rfl (.one rfl rfl rfl rfl)) ?_
      refine RW.op rfl rfl (eff_convInt rfl rfl (by rw [tu3]; rfl) tu5 rfl) ?_
      refine RW.op rfl rfl (eff_fieldAddr rfl rfl tf23_0 (by decide) rfl rfl rfl (Nat.le_of_ble_eq_true rfl)) ?_
      refine RW.op rfl rfl (eff_load (y := .t _) rfl rfl ti3 rfl (.one rfl rfl rfl rfl)) ?_
      refine RW.op rfl rfl (eff_convInt rfl rfl (by rw [tu3]; rfl) tu5 rfl) ?_
      refine RW.op rfl rfl (eff_iop (r := .int .u8 (dist f ⟨nx, ((h : Nat) : Int), ky, lk⟩)) rfl rfl rfl rfl (congrArg (fun z => some (Tr.int .u8 z)) (dist_u8 f ⟨nx, ((h : Nat) : Int), ky, lk⟩))) ?_
      refine RW.op rfl rfl (eff_convIntE (m := dist f ⟨nx, ((h : Nat) : Int), ky, lk⟩) rfl rfl (by rw [tu5]; rfl) tu3 rfl (dist_i64 f ⟨nx, ((h : Nat) : Int), ky, lk⟩)) ?_
      refine RW.op rfl rfl (eff_assign (v := .t _) rfl rfl rfl) ?_
      refine RW.nil ?_
      refine awp_seq ?_
      refine awp_block ?_
      refine awp_seq ?_
      refine awp_rw rfl ?_
      refine RW.op rfl rfl (eff_fieldAddr rfl rfl tf30_2 (by decide) rfl rfl rfl (Nat.le_of_ble_eq_true rfl)) ?_
      refine RW.op rfl rfl (eff_load (y := .t _) rfl rfl ti4 rfl (.one rfl rfl rfl rfl)) ?_
      refine RW.op rfl rfl (eff_assign (v := .t _) rfl rfl rfl) ?_
      refine RW.nil ?_
      refine awp_cond rfl (fun h3 => ?_) (fun h3 => ?_)
      · try simp only [decide_eq_true_eq, decide_eq_false_iff_not, beq_iff_eq, bne_iff_ne, bne_eq_false_iff_eq, beq_eq_false_iff_ne, Bool.not_eq_true, Bool.not_eq_false, Bool.not_eq_true', Bool.not_eq_false', ne_eq] at h3
        refine awp_seq ?_
        refine awp_rw rfl ?_
        refine RW.op rfl rfl (eff_fieldAddr rfl rfl tf23_3 (by decide) rfl rfl rfl (Nat.le_of_ble_eq_true rfl)) ?_
        refine RW.store rfl rfl (eff_storeS (v := .t _) (ys := [_, _, _, _]) (els := [_]) (els' := [_]) rfl rfl ti4 rfl rfl rfl rfl rfl rfl rfl (Nat.le_of_ble_eq_true rfl) rfl rfl) ?_
        refine RW.op rfl rfl (eff_fieldAddr rfl rfl tf23_1 (by decide) rfl rfl rfl (Nat.le_of_ble_eq_true rfl)) ?_
        refine RW.store rfl rfl (eff_storeS (v := .t _) (ys := [_, _, _, _]) (els := [_]) (els' := [_]) rfl rfl ti3 rfl rfl rfl rfl rfl rfl rfl (Nat.le_of_ble_eq_true rfl) rfl rfl) ?_
        refine RW.nil ?_
        refine awp_seq ?_
        refine awp_rw rfl ?_
        refine RW.op rfl rfl (eff_move (v := .t _) rfl rfl rfl) ?_
        refine RW.op rfl rfl (eff_iop rfl rfl rfl rfl rfl) ?_
        refine RW.nil ?_
        refine awp_cond rfl (fun h4 => ?_) (fun h4 => ?_)
        · try simp only [decide_eq_true_eq, decide_eq_false_iff_not, beq_iff_eq, bne_iff_ne, bne_eq_false_iff_eq, beq_eq_false_iff_ne, Bool.not_eq_true, Bool.not_eq_false, Bool.not_eq_true', Bool.not_eq_false', ne_eq] at h4
          refine awp_rw rfl ?_
          refine RW.op rfl rfl (eff_fieldAddr rfl rfl tf23_0 (by decide) rfl rfl rfl (Nat.le_of_ble_eq_true rfl)) ?_
          refine RW.op rfl rfl (eff_load (y := .t _) rfl rfl ti3 rfl (.one rfl rfl rfl rfl)) ?_
          refine RW.op rfl rfl (eff_move (v := .t _) rfl rfl rfl) ?_
          refine RW.op rfl rfl (eff_iop rfl rfl rfl rfl rfl) ?_
          refine RW.op rfl rfl (eff_fieldAddr rfl rfl tf23_0 (by decide) rfl rfl rfl (Nat.le_of_ble_eq_true rfl)) ?_
          refine RW.store rfl rfl (eff_storeS (v := .t _) (ys := [_, _, _, _]) (els := [_]) (els' := [_]) rfl rfl ti3 rfl rfl rfl rfl rfl rfl rfl (Nat.le_of_ble_eq_true rfl) rfl rfl) ?_
          refine RW.nil ?_
          refine awp_seq ?_
          refine awp_rw rfl ?_
          refine RW.op rfl rfl (eff_load rfl rfl ti23 rfl (.whole rfl rfl rfl rfl rfl rfl)) ?_
          refine RW.store rfl rfl (eff_storeW (v := .t _) (els := [_]) (els' := [_]) rfl rfl ti23 rfl rfl rfl rfl rfl rfl rfl rfl rfl) ?_
          refine RW.nil ?_
          refine awp_ret ?_
          first
            | (rw [apply_stay (Or.inl (by assumption))]; exact ⟨Or.inr rfl, [_], ⟨.cell rfl ti23 (.whole rfl rfl rfl rfl rfl rfl) (.t _), trivial⟩, .refl _⟩)
            | (rw [apply_stay (Or.inr (by assumption))]; exact ⟨Or.inr rfl, [_], ⟨.cell rfl ti23 (.whole rfl rfl rfl rfl rfl rfl) (.t _), trivial⟩, .refl _⟩)
            | (rw [apply_unl (by rintro (h | h) <;> (try dsimp only [w64] at h) <;> omega) (by assumption) (if_pos (by assumption))]; exact ⟨Or.inr rfl, [_], ⟨.cell rfl ti23 (.whole rfl rfl rfl rfl rfl rfl) (.t _), trivial⟩, .refl _⟩)
            | (rw [apply_unl (by rintro (h | h) <;> (try dsimp only [w64] at h) <;> omega) (by assumption) (if_neg (by assumption))]; exact ⟨Or.inr rfl, [_], ⟨.cell rfl ti23 (.whole rfl rfl rfl rfl rfl rfl) (.t _), trivial⟩, .refl _⟩)
            | (rw [apply_lock (by rintro (h | h) <;> (try dsimp only [w64] at h) <;> omega) (by assumption) (by assumption)]; exact ⟨Or.inr rfl, [_], ⟨.cell rfl ti23 (.whole rfl rfl rfl rfl rfl rfl) (.t _), trivial⟩, .refl _⟩)
            | (rw [apply_zero (by rintro (h | h) <;> (try dsimp only [w64] at h) <;> omega) (by assumption) (by assumption) (by assumption)]; exact ⟨Or.inr rfl, [_], ⟨.cell rfl ti23 (.whole rfl rfl rfl rfl rfl rfl) (.t _), trivial⟩, .refl _⟩)
            | (rw [apply_near (by rintro (h | h) <;> (try dsimp only [w64] at h) <;> omega) (by assumption) (by assumption) (by assumption) (by assumption)]; exact ⟨Or.inr rfl, [_], ⟨.cell rfl ti23 (.whole rfl rfl rfl rfl rfl rfl) (.t _), trivial⟩, .refl _⟩)
            | (rw [apply_far (by rintro (h | h) <;> (try dsimp only [w64] at h) <;> omega) (by assumption) (by assumption) (by omega) (decide_eq_true (by omega))]; exact ⟨Or.inr rfl, [_], ⟨.cell rfl ti23 (.whole rfl rfl rfl rfl rfl rfl) (.t _), trivial⟩, .refl _⟩)
            | (rw [apply_far (b := lk) (by rintro (h | h) <;> (try dsimp only [w64] at h) <;> omega) (by assumption) (by assumption) (by omega) (by rw [decide_eq_false (by omega)]; exact (show lk = false by assumption).symm)]; exact ⟨Or.inr rfl, [_], ⟨.cell rfl ti23 (.whole rfl rfl rfl rfl rfl rfl) (.t _), trivial⟩, .refl _⟩)
        · try simp only [decide_eq_true_eq, decide_eq_false_iff_not, beq_iff_eq, bne_iff_ne, bne_eq_false_iff_eq, beq_eq_false_iff_ne, Bool.not_eq_true, Bool.not_eq_false, Bool.not_eq_true', Bool.not_eq_false', ne_eq] at h4
          refine awp_skip ?_
          refine awp_seq ?_
          refine awp_rw rfl ?_
          refine RW.op rfl rfl (eff_load rfl rfl ti23 rfl (.whole rfl rfl rfl rfl rfl rfl)) ?_
          refine RW.store rfl rfl (eff_storeW (v := .t _) (els := [_]) (els' := [_]) rfl rfl ti23 rfl rfl rfl rfl rfl rfl rfl rfl rfl) ?_
          refine RW.nil ?_
          refine awp_ret ?_
          first
            | (rw [apply_stay (Or.inl (by assumption))]; exact ⟨Or.inr rfl, [_], ⟨.cell rfl ti23 (.whole rfl rfl rfl rfl rfl rfl) (.t _), trivial⟩, .refl _⟩)
            | (rw [apply_stay (Or.inr (by assumption))]; exact ⟨Or.inr rfl, [_], ⟨.cell rfl ti23 (.whole rfl rfl rfl rfl rfl rfl) (.t _), trivial⟩, .refl _⟩)
            | (rw [apply_unl (by rintro (h | h) <;> (try dsimp only [w64] at h) <;> omega) (by assumption) (if_pos (by assumption))]; exact ⟨Or.inr rfl, [_], ⟨.cell rfl ti23 (.whole rfl rfl rfl rfl rfl rfl) (.t _), trivial⟩, .refl _⟩)
            | (rw [apply_unl (by rintro (h | h) <;> (try dsimp only [w64] at h) <;> omega) (by assumption) (if_neg (by assumption))]; exact ⟨Or.inr rfl, [_], ⟨.cell rfl ti23 (.whole rfl rfl rfl rfl rfl rfl) (.t _), trivial⟩, .refl _⟩)
            | (rw [apply_lock (by rintro (h | h) <;> (try dsimp only [w64] at h) <;> omega) (by assumption) (by assumption)]; exact ⟨Or.inr rfl, [_], ⟨.cell rfl ti23 (.whole rfl rfl rfl rfl rfl rfl) (.t _), trivial⟩, .refl _⟩)
            | (rw [apply_zero (by rintro (h | h) <;> (try dsimp only [w64] at h) <;> omega) (by assumption) (by assumption) (by assumption)]; exact ⟨Or.inr rfl, [_], ⟨.cell rfl ti23 (.whole rfl rfl rfl rfl rfl rfl) (.t _), trivial⟩, .refl _⟩)
            | (rw [apply_near (by rintro (h | h) <;> (try dsimp only [w64] at h) <;> omega) (by assumption) (by assumption) (by assumption) (by assumption)]; exact ⟨Or.inr rfl, [_], ⟨.cell rfl ti23 (.whole rfl rfl rfl rfl rfl rfl) (.t _), trivial⟩, .refl _⟩)
            | (rw [apply_far (by rintro (h | h) <;> (try dsimp only [w64] at h) <;> omega) (by assumption) (by assumption) (by omega) (decide_eq_true (by omega))]; exact ⟨Or.inr rfl, [_], ⟨.cell rfl ti23 (.whole rfl rfl rfl rfl rfl rfl) (.t _), trivial⟩, .refl _⟩)
            | (rw [apply_far (b := lk) (by rintro (h | h) <;> (try dsimp only [w64] at h) <;> omega) (by assumption) (by assumption) (by omega) (by rw [decide_eq_false (by omega)]; exact (show lk = false by assumption).symm)]; exact ⟨Or.inr rfl, [_], ⟨.cell rfl ti23 (.whole rfl rfl rfl rfl rfl rfl) (.t _), trivial⟩, .refl _⟩)
      · try simp only [decide_eq_true_eq, decide_eq_false_iff_not, beq_iff_eq, bne_iff_ne, bne_eq_false_iff_eq, beq_eq_false_iff_ne, Bool.not_eq_true, Bool.not_eq_false, Bool.not_eq_true', Bool.not_eq_false', ne_eq] at h3
        refine awp_seq ?_
        refine awp_rw rfl ?_
        refine RW.op rfl rfl (eff_fieldAddr rfl rfl tf23_3 (by decide) rfl rfl rfl (Nat.le_of_ble_eq_true rfl)) ?_
        refine RW.op rfl rfl (eff_load (y := .t _) rfl rfl ti4 rfl (.one rfl rfl rfl rfl)) ?_
        refine RW.op rfl rfl (eff_assign (v := .t _) rfl rfl rfl) ?_
        refine RW.nil ?_
        refine awp_cond rfl (fun h5 => ?_) (fun h5 => ?_)
        · try simp only [decide_eq_true_eq, decide_eq_false_iff_not, beq_iff_eq, bne_iff_ne, bne_eq_false_iff_eq, beq_eq_false_iff_ne, Bool.not_eq_true, Bool.not_eq_false, Bool.not_eq_true', Bool.not_eq_false', ne_eq] at h5
          refine awp_skip ?_
          refine awp_seq ?_
          refine awp_rw rfl ?_
          refine RW.op rfl rfl (eff_load rfl rfl ti23 rfl (.whole rfl rfl rfl rfl rfl rfl)) ?_
          refine RW.store rfl rfl (eff_storeW (v := .t _) (els := [_]) (els' := [_]) rfl rfl ti23 rfl rfl rfl rfl rfl rfl rfl rfl rfl) ?_
          refine RW.nil ?_
          refine awp_ret ?_
          first
            | (rw [apply_stay (Or.inl (by assumption))]; exact ⟨Or.inr rfl, [_], ⟨.cell rfl ti23 (.whole rfl rfl rfl rfl rfl rfl) (.t _), trivial⟩, .refl _⟩)
            | (rw [apply_stay (Or.inr (by assumption))]; exact ⟨Or.inr rfl, [_], ⟨.cell rfl ti23 (.whole rfl rfl rfl rfl rfl rfl) (.t _), trivial⟩, .refl _⟩)
            | (rw [apply_unl (by rintro (h | h) <;> (try dsimp only [w64] at h) <;> omega) (by assumption) (if_pos (by assumption))]; exact ⟨Or.inr rfl, [_], ⟨.cell rfl ti23 (.whole rfl rfl rfl rfl rfl rfl) (.t _), trivial⟩, .refl _⟩)
            | (rw [apply_unl (by rintro (h | h) <;> (try dsimp only [w64] at h) <;> omega) (by assumption) (if_neg (by assumption))]; exact ⟨Or.inr rfl, [_], ⟨.cell rfl ti23 (.whole rfl rfl rfl rfl rfl rfl) (.t _), trivial⟩, .refl _⟩)
            | (rw [apply_lock (by rintro (h | h) <;> (try dsimp only [w64] at h) <;> omega) (by assumption) (by assumption)]; exact ⟨Or.inr rfl, [_], ⟨.cell rfl ti23 (.whole rfl rfl rfl rfl rfl rfl) (.t _), trivial⟩, .refl _⟩)
            | (rw [apply_zero (by rintro (h | h) <;> (try dsimp only [w64] at h) <;> omega) (by assumption) (by assumption) (by assumption)]; exact ⟨Or.inr rfl, [_], ⟨.cell rfl ti23 (.whole rfl rfl rfl rfl rfl rfl) (.t _), trivial⟩, .refl _⟩)
            | (rw [apply_near (by rintro (h | h) <;> (try dsimp only [w64] at h) <;> omega) (by assumption) (by assumption) (by assumption) (by assumption)]; exact ⟨Or.inr rfl, [_], ⟨.cell rfl ti23 (.whole rfl rfl rfl rfl rfl rfl) (.t _), trivial⟩, .refl _⟩)
            | (rw [apply_far (by rintro (h | h) <;> (try dsimp only [w64] at h) <;> omega) (by assumption) (by assumption) (by omega) (decide_eq_true (by omega))]; exact ⟨Or.inr rfl, [_], ⟨.cell rfl ti23 (.whole rfl rfl rfl rfl rfl rfl) (.t _), trivial⟩, .refl _⟩)
            | (rw [apply_far (b := lk) (by rintro (h | h) <;> (try dsimp only [w64] at h) <;> omega) (by assumption) (by assumption) (by omega) (by rw [decide_eq_false (by omega)]; exact (show lk = false by assumption).symm)]; exact ⟨Or.inr rfl, [_], ⟨.cell rfl ti23 (.whole rfl rfl rfl rfl rfl rfl) (.t _), trivial⟩, .refl _⟩)
        · try simp only [decide_eq_true_eq, decide_eq_false_iff_not, beq_iff_eq, bne_iff_ne, bne_eq_false_iff_eq, beq_eq_false_iff_ne, Bool.not_eq_true, Bool.not_eq_false, Bool.not_eq_true', Bool.not_eq_false', ne_eq] at h5
          refine awp_seq ?_
          refine awp_rw rfl ?_
          refine RW.op rfl rfl (eff_move (v := .t _) rfl rfl rfl) ?_
          refine RW.op rfl rfl (eff_iop rfl rfl rfl rfl rfl) ?_
          refine RW.op rfl rfl (eff_assign (v := .t _) rfl rfl rfl) ?_
          refine RW.nil ?_
          refine awp_cond rfl (fun h6 => ?_) (fun h6 => ?_)
          · try simp only [decide_eq_true_eq, decide_eq_false_iff_not, beq_iff_eq, bne_iff_ne, bne_eq_false_iff_eq, beq_eq_false_iff_ne, Bool.not_eq_true, Bool.not_eq_false, Bool.not_eq_true', Bool.not_eq_false', ne_eq] at h6
            refine awp_seq ?_
            refine awp_rw rfl ?_
            refine RW.op rfl rfl (eff_fieldAddr rfl rfl tf23_1 (by decide) rfl rfl rfl (Nat.le_of_ble_eq_true rfl)) ?_
            refine RW.op rfl rfl (eff_load (y := .t _) rfl rfl ti3 rfl (.one rfl rfl rfl rfl)) ?_
            refine RW.op rfl rfl (eff_convIntE (m := ((h : Nat) : Int)) rfl rfl (by rw [tu3]; rfl) tu75 rfl (by show IntKind.u64.wrap ((h : Nat) : Int) = _; rw [wu64]; omega)) ?_
            refine RW.op rfl rfl (eff_unop rfl rfl rfl (xor_ones (x := h) (by omega))) ?_
            refine RW.op rfl rfl (eff_callXT (tzn_ret h hh) co39 rfl rfl rfl ⟨rfl, trivial⟩ rfl) ?_
            refine RW.op rfl rfl (eff_iop rfl rfl rfl rfl (iadd (by omega))) ?_
            refine RW.op rfl rfl (eff_assign (v := .t _) rfl rfl rfl) ?_
            refine RW.nil ?_
            refine awp_rd [(some 57, []), (some 58, []), (some 59, []), (some 60, []), (some 61, []), (some 62, []), (some 63, []), (some 64, []), (some 65, []), (none, [2]), (some 66, []), (none, [2])] [[], [0], [], [0, 1, 2], [], [4], [], [4, 5, 6], [0, 1, 2, 3, 4, 5], [0, 1, 2, 3, 4, 5, 8], [0, 1, 2, 3, 4, 5, 6, 7, 8, 9], [0, 1, 2, 3, 4, 5, 6, 7, 8, 9, 10]] tm rfl rfl rfl rfl ?_
            refine RD.op rfl rfl rfl (eff_fieldAddr rfl rfl tf23_0 (by decide) rfl rfl rfl (Nat.le_of_ble_eq_true rfl)) ?_
            refine RD.op rfl rfl rfl (eff_load (y := .t _) rfl rfl ti3 rfl (.one rfl rfl rfl rfl)) ?_
            refine RD.op rfl rfl rfl (eff_move (v := .t _) rfl rfl rfl) ?_
            refine RD.op rfl rfl rfl (eff_iop rfl rfl rfl rfl rfl) ?_
            refine RD.op rfl rfl rfl (eff_fieldAddr rfl rfl tf23_1 (by decide) rfl rfl rfl (Nat.le_of_ble_eq_true rfl)) ?_
            refine RD.op rfl rfl rfl (eff_load (y := .t _) rfl rfl ti3 rfl (.one rfl rfl rfl rfl)) ?_
            refine RD.op rfl rfl rfl (eff_move (v := .t _) rfl rfl rfl) ?_
            refine RD.op rfl rfl rfl (eff_shrE (r := ((h / 2 ^ (1 + ones ((h : Nat) : Int)) : Nat) : Int)) rfl rfl rfl rfl (by omega) (shr_have (s := ⟨nx, ((h : Nat) : Int), ky, lk⟩) hS (ones ((h : Nat) : Int)) (by omega))) ?_
            refine RD.op rfl rfl rfl (eff_fieldAddr rfl rfl tf23_0 (by decide) rfl rfl rfl (Nat.le_of_ble_eq_true rfl)) ?_
            refine RD.store rfl rfl rfl (eff_storeS (v := .t _) (ys := [_, _, _, _]) (els := [_]) (els' := [_]) rfl rfl ti3 rfl rfl rfl rfl rfl rfl rfl (Nat.le_of_ble_eq_true rfl) rfl rfl) ?_
            refine RD.op rfl rfl rfl (eff_fieldAddr rfl rfl tf23_1 (by decide) rfl rfl rfl (Nat.le_of_ble_eq_true rfl)) ?_
            refine RD.store rfl rfl rfl (eff_storeS (v := .t _) (ys := [_, _, _, _]) (els := [_]) (els' := [_]) rfl rfl ti3 rfl rfl rfl rfl rfl rfl rfl (Nat.le_of_ble_eq_true rfl) rfl rfl) ?_
            refine RD.nil ?_
            refine awp_seq ?_
            refine awp_rw rfl ?_
            refine RW.op rfl rfl (eff_load rfl rfl ti23 rfl (.whole rfl rfl rfl rfl rfl rfl)) ?_
            refine RW.store rfl rfl (eff_storeW (v := .t _) (els := [_]) (els' := [_]) rfl rfl ti23 rfl rfl rfl rfl rfl rfl rfl rfl rfl) ?_
            refine RW.nil ?_
            refine awp_ret ?_
            first
              | (rw [apply_stay (Or.inl (by assumption))]; exact ⟨Or.inr rfl, [_], ⟨.cell rfl ti23 (.whole rfl rfl rfl rfl rfl rfl) (.t _), trivial⟩, .refl _⟩)
              | (rw [apply_stay (Or.inr (by assumption))]; exact ⟨Or.inr rfl, [_], ⟨.cell rfl ti23 (.whole rfl rfl rfl rfl rfl rfl) (.t _), trivial⟩, .refl _⟩)
              | (rw [apply_unl (by rintro (h | h) <;> (try dsimp only [w64] at h) <;> omega) (by assumption) (if_pos (by assumption))]; exact ⟨Or.inr rfl, [_], ⟨.cell rfl ti23 (.whole rfl rfl rfl rfl rfl rfl) (.t _), trivial⟩, .refl _⟩)
              | (rw [apply_unl (by rintro (h | h) <;> (try dsimp only [w64] at h) <;> omega) (by assumption) (if_neg (by assumption))]; exact ⟨Or.inr rfl, [_], ⟨.cell rfl ti23 (.whole rfl rfl rfl rfl rfl rfl) (.t _), trivial⟩, .refl _⟩)
              | (rw [apply_lock (by rintro (h | h) <;> (try dsimp only [w64] at h) <;> omega) (by assumption) (by assumption)]; exact ⟨Or.inr rfl, [_], ⟨.cell rfl ti23 (.whole rfl rfl rfl rfl rfl rfl) (.t _), trivial⟩, .refl _⟩)
              | (rw [apply_zero (by rintro (h | h) <;> (try dsimp only [w64] at h) <;> omega) (by assumption) (by assumption) (by assumption)]; exact ⟨Or.inr rfl, [_], ⟨.cell rfl ti23 (.whole rfl rfl rfl rfl rfl rfl) (.t _), trivial⟩, .refl _⟩)
              | (rw [apply_near (by rintro (h | h) <;> (try dsimp only [w64] at h) <;> omega) (by assumption) (by assumption) (by assumption) (by assumption)]; exact ⟨Or.inr rfl, [_], ⟨.cell rfl ti23 (.whole rfl rfl rfl rfl rfl rfl) (.t _), trivial⟩, .refl _⟩)
              | (rw [apply_far (by rintro (h | h) <;> (try dsimp only [w64] at h) <;> omega) (by assumption) (by assumption) (by omega) (decide_eq_true (by omega))]; exact ⟨Or.inr rfl, [_], ⟨.cell rfl ti23 (.whole rfl rfl rfl rfl rfl rfl) (.t _), trivial⟩, .refl _⟩)
              | (rw [apply_far (b := lk) (by rintro (h | h) <;> (try dsimp only [w64] at h) <;> omega) (by assumption) (by assumption) (by omega) (by rw [decide_eq_false (by omega)]; exact (show lk = false by assumption).symm)]; exact ⟨Or.inr rfl, [_], ⟨.cell rfl ti23 (.whole rfl rfl rfl rfl rfl rfl) (.t _), trivial⟩, .refl _⟩)
          · try simp only [decide_eq_true_eq, decide_eq_false_iff_not, beq_iff_eq, bne_iff_ne, bne_eq_false_iff_eq, beq_eq_false_iff_ne, Bool.not_eq_true, Bool.not_eq_false, Bool.not_eq_true', Bool.not_eq_false', ne_eq] at h6
            refine awp_seq ?_
            refine awp_rw rfl ?_
            refine RW.op rfl rfl (eff_move (v := .t _) rfl rfl rfl) ?_
            refine RW.op rfl rfl (eff_iop rfl rfl rfl rfl rfl) ?_
            refine RW.op rfl rfl (eff_assign (v := .t _) rfl rfl rfl) ?_
            refine RW.nil ?_
            refine awp_cond rfl (fun h7 => ?_) (fun h7 => ?_)
            · try simp only [decide_eq_true_eq, decide_eq_false_iff_not, beq_iff_eq, bne_iff_ne, bne_eq_false_iff_eq, beq_eq_false_iff_ne, Bool.not_eq_true, Bool.not_eq_false, Bool.not_eq_true', Bool.not_eq_false', ne_eq] at h7
              refine awp_rd [(some 70, []), (some 71, []), (some 72, []), (some 73, []), (some 74, []), (some 75, []), (some 76, []), (none, [2])] [[], [0], [], [2], [2, 3], [0, 1, 2, 3, 4], [0, 1, 2, 3, 4, 5], [0, 1, 2, 3, 4, 5, 6]] tm rfl rfl rfl rfl ?_
              have hp15 : 2 ^ (dist f ⟨nx, ((h : Nat) : Int), ky, lk⟩ - 1).toNat < 2 ^ 15 := Nat.pow_lt_pow_right (by decide) (by omega)
              refine RD.op rfl rfl rfl (eff_fieldAddr rfl rfl tf23_1 (by decide) rfl rfl rfl (Nat.le_of_ble_eq_true rfl)) ?_
              refine RD.op rfl rfl rfl (eff_load (y := .t _) rfl rfl ti3 rfl (.one rfl rfl rfl rfl)) ?_
              refine RD.op rfl rfl rfl (eff_move (v := .t _) rfl rfl rfl) ?_
              refine RD.op rfl rfl rfl (eff_iop rfl rfl rfl rfl (isub (by omega))) ?_
              refine RD.op rfl rfl rfl (eff_shlE (r := ((2 ^ (dist f ⟨nx, ((h : Nat) : Int), ky, lk⟩ - 1).toNat : Nat) : Int)) rfl rfl rfl rfl (by omega) (shl_one (by omega) (by omega))) ?_
              refine RD.op rfl rfl rfl (eff_iop (r := encI ((h ||| 2 ^ (dist f ⟨nx, ((h : Nat) : Int), ky, lk⟩ - 1).toNat : Nat) : Int)) rfl rfl rfl rfl (or_nat (by omega) (by omega))) ?_
              refine RD.op rfl rfl rfl (eff_fieldAddr rfl rfl tf23_1 (by decide) rfl rfl rfl (Nat.le_of_ble_eq_true rfl)) ?_
              refine RD.store rfl rfl rfl (eff_storeS (v := .t _) (ys := [_, _, _, _]) (els := [_]) (els' := [_]) rfl rfl ti3 rfl rfl rfl rfl rfl rfl rfl (Nat.le_of_ble_eq_true rfl) rfl rfl) ?_
              refine RD.nil ?_
              refine awp_seq ?_
              refine awp_rw rfl ?_
              refine RW.op rfl rfl (eff_load rfl rfl ti23 rfl (.whole rfl rfl rfl rfl rfl rfl)) ?_
              refine RW.store rfl rfl (eff_storeW (v := .t _) (els := [_]) (els' := [_]) rfl rfl ti23 rfl rfl rfl rfl rfl rfl rfl rfl rfl) ?_
              refine RW.nil ?_
              refine awp_ret ?_
              first
                | (rw [apply_stay (Or.inl (by assumption))]; exact ⟨Or.inr rfl, [_], ⟨.cell rfl ti23 (.whole rfl rfl rfl rfl rfl rfl) (.t _), trivial⟩, .refl _⟩)
                | (rw [apply_stay (Or.inr (by assumption))]; exact ⟨Or.inr rfl, [_], ⟨.cell rfl ti23 (.whole rfl rfl rfl rfl rfl rfl) (.t _), trivial⟩, .refl _⟩)
                | (rw [apply_unl (by rintro (h | h) <;> (try dsimp only [w64] at h) <;> omega) (by assumption) (if_pos (by assumption))]; exact ⟨Or.inr rfl, [_], ⟨.cell rfl ti23 (.whole rfl rfl rfl rfl rfl rfl) (.t _), trivial⟩, .refl _⟩)
                | (rw [apply_unl (by rintro (h | h) <;> (try dsimp only [w64] at h) <;> omega) (by assumption) (if_neg (by assumption))]; exact ⟨Or.inr rfl, [_], ⟨.cell rfl ti23 (.whole rfl rfl rfl rfl rfl rfl) (.t _), trivial⟩, .refl _⟩)
                | (rw [apply_lock (by rintro (h | h) <;> (try dsimp only [w64] at h) <;> omega) (by assumption) (by assumption)]; exact ⟨Or.inr rfl, [_], ⟨.cell rfl ti23 (.whole rfl rfl rfl rfl rfl rfl) (.t _), trivial⟩, .refl _⟩)
                | (rw [apply_zero (by rintro (h | h) <;> (try dsimp only [w64] at h) <;> omega) (by assumption) (by assumption) (by assumption)]; exact ⟨Or.inr rfl, [_], ⟨.cell rfl ti23 (.whole rfl rfl rfl rfl rfl rfl) (.t _), trivial⟩, .refl _⟩)
                | (rw [apply_near (by rintro (h | h) <;> (try dsimp only [w64] at h) <;> omega) (by assumption) (by assumption) (by assumption) (by assumption)]; exact ⟨Or.inr rfl, [_], ⟨.cell rfl ti23 (.whole rfl rfl rfl rfl rfl rfl) (.t _), trivial⟩, .refl _⟩)
                | (rw [apply_far (by rintro (h | h) <;> (try dsimp only [w64] at h) <;> omega) (by assumption) (by assumption) (by omega) (decide_eq_true (by omega))]; exact ⟨Or.inr rfl, [_], ⟨.cell rfl ti23 (.whole rfl rfl rfl rfl rfl rfl) (.t _), trivial⟩, .refl _⟩)
                | (rw [apply_far (b := lk) (by rintro (h | h) <;> (try dsimp only [w64] at h) <;> omega) (by assumption) (by assumption) (by omega) (by rw [decide_eq_false (by omega)]; exact (show lk = false by assumption).symm)]; exact ⟨Or.inr rfl, [_], ⟨.cell rfl ti23 (.whole rfl rfl rfl rfl rfl rfl) (.t _), trivial⟩, .refl _⟩)
            · try simp only [decide_eq_true_eq, decide_eq_false_iff_not, beq_iff_eq, bne_iff_ne, bne_eq_false_iff_eq, beq_eq_false_iff_ne, Bool.not_eq_true, Bool.not_eq_false, Bool.not_eq_true', Bool.not_eq_false', ne_eq] at h7
              refine awp_seq ?_
              refine awp_rw rfl ?_
              refine RW.op rfl rfl (eff_move (v := .t _) rfl rfl rfl) ?_
              refine RW.op rfl rfl (eff_iop rfl rfl rfl rfl rfl) ?_
              refine RW.op rfl rfl (eff_assign (v := .t _) rfl rfl rfl) ?_
              refine RW.nil ?_
              refine awp_cond rfl (fun h8 => ?_) (fun h8 => ?_)
              · try simp only [decide_eq_true_eq, decide_eq_false_iff_not, beq_iff_eq, bne_iff_ne, bne_eq_false_iff_eq, beq_eq_false_iff_ne, Bool.not_eq_true, Bool.not_eq_false, Bool.not_eq_true', Bool.not_eq_false', ne_eq] at h8
                refine awp_rw rfl ?_
                refine RW.op rfl rfl (eff_fieldAddr rfl rfl tf23_3 (by decide) rfl rfl rfl (Nat.le_of_ble_eq_true rfl)) ?_
                refine RW.store rfl rfl (eff_storeS (v := .t _) (ys := [_, _, _, _]) (els := [_]) (els' := [_]) rfl rfl ti4 rfl rfl rfl rfl rfl rfl rfl (Nat.le_of_ble_eq_true rfl) rfl rfl) ?_
                refine RW.nil ?_
                refine awp_seq ?_
                refine awp_rw rfl ?_
                refine RW.op rfl rfl (eff_load rfl rfl ti23 rfl (.whole rfl rfl rfl rfl rfl rfl)) ?_
                refine RW.store rfl rfl (eff_storeW (v := .t _) (els := [_]) (els' := [_]) rfl rfl ti23 rfl rfl rfl rfl rfl rfl rfl rfl rfl) ?_
                refine RW.nil ?_
                refine awp_ret ?_
                first
                  | (rw [apply_stay (Or.inl (by assumption))]; exact ⟨Or.inr rfl, [_], ⟨.cell rfl ti23 (.whole rfl rfl rfl rfl rfl rfl) (.t _), trivial⟩, .refl _⟩)
                  | (rw [apply_stay (Or.inr (by assumption))]; exact ⟨Or.inr rfl, [_], ⟨.cell rfl ti23 (.whole rfl rfl rfl rfl rfl rfl) (.t _), trivial⟩, .refl _⟩)
                  | (rw [apply_unl (by rintro (h | h) <;> (try dsimp only [w64] at h) <;> omega) (by assumption) (if_pos (by assumption))]; exact ⟨Or.inr rfl, [_], ⟨.cell rfl ti23 (.whole rfl rfl rfl rfl rfl rfl) (.t _), trivial⟩, .refl _⟩)
                  | (rw [apply_unl (by rintro (h | h) <;> (try dsimp only [w64] at h) <;> omega) (by assumption) (if_neg (by assumption))]; exact ⟨Or.inr rfl, [_], ⟨.cell rfl ti23 (.whole rfl rfl rfl rfl rfl rfl) (.t _), trivial⟩, .refl _⟩)
                  | (rw [apply_lock (by rintro (h | h) <;> (try dsimp only [w64] at h) <;> omega) (by assumption) (by assumption)]; exact ⟨Or.inr rfl, [_], ⟨.cell rfl ti23 (.whole rfl rfl rfl rfl rfl rfl) (.t _), trivial⟩, .refl _⟩)
                  | (rw [apply_zero (by rintro (h | h) <;> (try dsimp only [w64] at h) <;> omega) (by assumption) (by assumption) (by assumption)]; exact ⟨Or.inr rfl, [_], ⟨.cell rfl ti23 (.whole rfl rfl rfl rfl rfl rfl) (.t _), trivial⟩, .refl _⟩)
                  | (rw [apply_near (by rintro (h | h) <;> (try dsimp only [w64] at h) <;> omega) (by assumption) (by assumption) (by assumption) (by assumption)]; exact ⟨Or.inr rfl, [_], ⟨.cell rfl ti23 (.whole rfl rfl rfl rfl rfl rfl) (.t _), trivial⟩, .refl _⟩)
                  | (rw [apply_far (by rintro (h | h) <;> (try dsimp only [w64] at h) <;> omega) (by assumption) (by assumption) (by omega) (decide_eq_true (by omega))]; exact ⟨Or.inr rfl, [_], ⟨.cell rfl ti23 (.whole rfl rfl rfl rfl rfl rfl) (.t _), trivial⟩, .refl _⟩)
                  | (rw [apply_far (b := lk) (by rintro (h | h) <;> (try dsimp only [w64] at h) <;> omega) (by assumption) (by assumption) (by omega) (by rw [decide_eq_false (by omega)]; exact (show lk = false by assumption).symm)]; exact ⟨Or.inr rfl, [_], ⟨.cell rfl ti23 (.whole rfl rfl rfl rfl rfl rfl) (.t _), trivial⟩, .refl _⟩)
              · try simp only [decide_eq_true_eq, decide_eq_false_iff_not, beq_iff_eq, bne_iff_ne, bne_eq_false_iff_eq, beq_eq_false_iff_ne, Bool.not_eq_true, Bool.not_eq_false, Bool.not_eq_true', Bool.not_eq_false', ne_eq] at h8
                refine awp_skip ?_
                refine awp_seq ?_
                refine awp_rw rfl ?_
                refine RW.op rfl rfl (eff_load rfl rfl ti23 rfl (.whole rfl rfl rfl rfl rfl rfl)) ?_
                refine RW.store rfl rfl (eff_storeW (v := .t _) (els := [_]) (els' := [_]) rfl rfl ti23 rfl rfl rfl rfl rfl rfl rfl rfl rfl) ?_
                refine RW.nil ?_
                refine awp_ret ?_
                first
                  | (rw [apply_stay (Or.inl (by assumption))]; exact ⟨Or.inr rfl, [_], ⟨.cell rfl ti23 (.whole rfl rfl rfl rfl rfl rfl) (.t _), trivial⟩, .refl _⟩)
                  | (rw [apply_stay (Or.inr (by assumption))]; exact ⟨Or.inr rfl, [_], ⟨.cell rfl ti23 (.whole rfl rfl rfl rfl rfl rfl) (.t _), trivial⟩, .refl _⟩)
                  | (rw [apply_unl (by rintro (h | h) <;> (try dsimp only [w64] at h) <;> omega) (by assumption) (if_pos (by assumption))]; exact ⟨Or.inr rfl, [_], ⟨.cell rfl ti23 (.whole rfl rfl rfl rfl rfl rfl) (.t _), trivial⟩, .refl _⟩)
                  | (rw [apply_unl (by rintro (h | h) <;> (try dsimp only [w64] at h) <;> omega) (by assumption) (if_neg (by assumption))]; exact ⟨Or.inr rfl, [_], ⟨.cell rfl ti23 (.whole rfl rfl rfl rfl rfl rfl) (.t _), trivial⟩, .refl _⟩)
                  | (rw [apply_lock (by rintro (h | h) <;> (try dsimp only [w64] at h) <;> omega) (by assumption) (by assumption)]; exact ⟨Or.inr rfl, [_], ⟨.cell rfl ti23 (.whole rfl rfl rfl rfl rfl rfl) (.t _), trivial⟩, .refl _⟩)
                  | (rw [apply_zero (by rintro (h | h) <;> (try dsimp only [w64] at h) <;> omega) (by assumption) (by assumption) (by assumption)]; exact ⟨Or.inr rfl, [_], ⟨.cell rfl ti23 (.whole rfl rfl rfl rfl rfl rfl) (.t _), trivial⟩, .refl _⟩)
                  | (rw [apply_near (by rintro (h | h) <;> (try dsimp only [w64] at h) <;> omega) (by assumption) (by assumption) (by assumption) (by assumption)]; exact ⟨Or.inr rfl, [_], ⟨.cell rfl ti23 (.whole rfl rfl rfl rfl rfl rfl) (.t _), trivial⟩, .refl _⟩)
                  | (rw [apply_far (by rintro (h | h) <;> (try dsimp only [w64] at h) <;> omega) (by assumption) (by assumption) (by omega) (decide_eq_true (by omega))]; exact ⟨Or.inr rfl, [_], ⟨.cell rfl ti23 (.whole rfl rfl rfl rfl rfl rfl) (.t _), trivial⟩, .refl _⟩)
                  | (rw [apply_far (b := lk) (by rintro (h | h) <;> (try dsimp only [w64] at h) <;> omega) (by assumption) (by assumption) (by omega) (by rw [decide_eq_false (by omega)]; exact (show lk = false by assumption).symm)]; exact ⟨Or.inr rfl, [_], ⟨.cell rfl ti23 (.whole rfl rfl rfl rfl rfl rfl) (.t _), trivial⟩, .refl _⟩)

theorem own_ret (l : List Frm) (hl : l.length ≤ 1000000) (hb : ∀ f, f ∈ l → f.body.length ≤ 1000000) : Ret Tryd.prog 44 [.sl (l.map encF) false] (.sl (l.map encF) false) := by
  refine ret_of_awp Tryd.func44 rfl (Nat.le_of_ble_eq_true rfl) ?_
  refine awp_seq ?_
  refine awp_rw rfl ?_
  refine RW.op rfl rfl (eff_assign (v := .t _) rfl rfl rfl) ?_
  refine RW.nil ?_
  refine awp_seq ?_
  refine awp_rw rfl ?_
  refine RW.op rfl rfl (eff_move (v := .t _) rfl rfl rfl) ?_
  refine RW.new rfl rfl (eff_callG (cloneF_retG l hl) co57 (fun id => id + 0) rfl rfl rfl ⟨.t _, trivial⟩ (.own _ _ _ _ rfl rfl) rfl trivial ⟨⟨treeEls_t, .inr rfl⟩, trivial⟩) ?_
  refine RW.op rfl rfl (eff_assign (v := .own _ _ _ _) rfl rfl rfl) ?_
  refine RW.nil ?_
  refine awp_seq ?_
  refine awp_seq ?_
  refine awp_rw rfl ?_
  refine RW.op rfl rfl (eff_move (v := .own _ _ _ _) rfl rfl rfl) ?_
  refine RW.op rfl rfl (eff_len rfl rfl te34 rfl rfl rfl) ?_
  refine RW.op rfl rfl (eff_move (v := .t _) rfl rfl rfl) ?_
  refine RW.nil ?_
  refine awp_block ?_
  refine awp_loopW (fun m s => ∃ (i : Nat), (i ≤ l.length) ∧ m = l.length - i ∧ s = ⟨23, [(0, .own 5 1 0 l.length), (7, .own 5 1 0 l.length), (8, .t (encI l.length)), (9, .t (encI (i : Nat)))], [(5, some ⟨5, 30, 1, (l.map encF).map .t⟩)]⟩) (_) (⟨_, weak_keep (n := 23) (fr' := [(0, .own 5 1 0 l.length), (7, .own 5 1 0 l.length), (8, .t (encI l.length)), (9, .t (encI (0 : Nat)))]) (st' := [(5, some ⟨5, 30, 1, (l.map encF).map .t⟩)]) ⟨rfl, rfl, rfl, rfl, rfl, rfl, rfl, rfl, trivial⟩ ⟨rfl, okE_t, trivial⟩, 0, (by omega), rfl, rfl⟩) ?_
  rintro m s ⟨i, hi, rfl, rfl⟩
  refine awp_seq ?_
  refine awp_rw rfl ?_
  refine RW.op rfl rfl (eff_iop rfl rfl rfl rfl rfl) ?_
  refine RW.nil ?_
  refine awp_seq ?_
  refine awp_cond rfl (fun h1 => ?_) (fun h1 => ?_)
  · try simp only [decide_eq_true_eq, decide_eq_false_iff_not, beq_iff_eq, bne_iff_ne, bne_eq_false_iff_eq, beq_eq_false_iff_ne, Bool.not_eq_true, Bool.not_eq_false, Bool.not_eq_true', Bool.not_eq_false', ne_eq] at h1
    refine awp_skip ?_
    refine awp_seq ?_
    refine awp_block ?_
    refine awp_seq ?_
    refine awp_rw rfl ?_
    have hil : i < l.length := by omega
    have hbl := hb _ (List.getElem_mem hil)
    refine RW.op rfl rfl (eff_move (v := .t _) rfl rfl rfl) ?_
    refine RW.op rfl rfl (eff_indexAddr rfl rfl te34 rfl rfl rfl rfl rfl rfl (by omega)) ?_
    refine RW.op rfl rfl (eff_load (y := .t (encF (l[i]'hil))) rfl rfl ti30 rfl (.whole rfl rfl (by rw [Nat.zero_add]; exact elF hil) rfl rfl rfl)) ?_
    refine RW.new rfl rfl (eff_allocK (k := 5) (id := 4) rfl rfl tz30 rfl rfl) ?_
    refine RW.op rfl rfl (eff_assign (v := .t _) rfl rfl rfl) ?_
    refine RW.store rfl rfl (eff_storeW (v := .t _) (els := [_]) (els' := [_]) rfl rfl ti30 rfl rfl rfl rfl rfl rfl rfl rfl rfl) ?_
    refine RW.nil ?_
    refine awp_rw rfl ?_
    refine RW.op rfl rfl (eff_move (v := .own _ _ _ _) rfl rfl rfl) ?_
    refine RW.op rfl rfl (eff_move (v := .t _) rfl rfl rfl) ?_
    refine RW.op rfl rfl (eff_fieldAddr rfl rfl tf30_3 (by decide) rfl rfl rfl (Nat.le_of_ble_eq_true rfl)) ?_
    refine RW.op rfl rfl (eff_load (y := .t _) rfl rfl ti27 rfl (.one rfl rfl rfl rfl)) ?_
    refine RW.op rfl rfl (eff_callT (cloneB_ret _ hbl) co58 rfl rfl rfl rfl) ?_
    refine RW.op rfl rfl (eff_indexAddr rfl rfl te34 rfl rfl rfl rfl rfl rfl (by omega)) ?_
    refine RW.op rfl rfl (eff_fieldAddr rfl rfl tf30_3 (by decide) rfl rfl rfl (Nat.le_of_ble_eq_true rfl)) ?_
    refine RW.store rfl rfl (eff_storeS (v := .t _) (el := .t (encF (l[i]'hil))) (ys := [encI (l[i]'hil).seq, encI (l[i]'hil).key, .bool (l[i]'hil).unlock, .sl ((l[i]'hil).body.map encBy) false, .int .u64 (l[i]'hil).tag]) (els := (l.map encF).map .t) (els' := (l.map encF).map .t) rfl rfl ti27 rfl rfl rfl rfl rfl rfl (by rw [Nat.zero_add]; exact elF hil) (Nat.le_of_ble_eq_true rfl) rfl (by rw [Nat.zero_add]; exact setF_same hil)) ?_
    refine RW.nil ?_
    refine awp_rw rfl ?_
    refine RW.op rfl rfl (eff_iop rfl rfl rfl rfl (iadd (by omega))) ?_
    refine RW.op rfl rfl (eff_move (v := .t _) rfl rfl rfl) ?_
    refine RW.nil ?_
    refine ⟨_, ?_, _, weak_keep (n := 23) (fr' := [(0, .own 5 1 0 l.length), (7, .own 5 1 0 l.length), (8, .t (encI l.length)), (9, .t (encI ((i + 1) : Nat)))]) (st' := [(5, some ⟨5, 30, 1, (l.map encF).map .t⟩)]) ⟨rfl, rfl, rfl, rfl, rfl, rfl, rfl, rfl, trivial⟩ ⟨rfl, okE_t, trivial⟩, i + 1, (by omega), rfl, rfl⟩
    omega
  · try simp only [decide_eq_true_eq, decide_eq_false_iff_not, beq_iff_eq, bne_iff_ne, bne_eq_false_iff_eq, beq_eq_false_iff_ne, Bool.not_eq_true, Bool.not_eq_false, Bool.not_eq_true', Bool.not_eq_false', ne_eq] at h1
    refine awp_exit ?_
    refine awp_seq ?_
    refine awp_rw rfl ?_
    refine RW.op rfl rfl (eff_move (v := .own _ _ _ _) rfl rfl rfl) ?_
    refine RW.op rfl rfl (eff_assign (v := .own _ _ _ _) rfl rfl rfl) ?_
    refine RW.nil ?_
    refine awp_ret ?_
    exact ⟨Or.inr rfl, [_], ⟨.tmp (Res.ownM (xs := l.map encF) rfl (by simp)), trivial⟩, .refl _⟩

end Go.Tv.C34

end
section
namespace Go.Proofs
open Go.Shelf
def Tryd.sortIv_ren : Go.Shelf.Ren := ⟨fun | 6 => 65 | 15 => 79 | 14 => 78 | 28 => 95 | 29 => 96 | 20 => 87 | 21 => 88 | 22 => 89 | 23 => 90 | 24 => 91 | 25 => 92 | 26 => 93 | 27 => 94 | 46 => 100 | 47 => 101 | 48 => 102 | 49 => 103 | 50 => 104 | 57 => 106 | n => n, fun | 22 => 35 | 24 => 23 | 25 => 106 | 3 => 3 | 39 => 75 | 0 => 0 | 53 => 103 | 55 => 28 | 4 => 4 | 46 => 126 | 45 => 125 | 50 => 130 | 5 => 5 | 9 => 9 | 66 => 136 | 70 => 140 | 76 => 143 | 77 => 53 | n => n, fun | n => n⟩
theorem Tryd.sortIv : Go.Proofs.SlLaysF0.n6 Tryd.prog Tryd.sortIv_ren := {
  mixed := by kernel_rfl
  f6 := ⟨Tryd.f65.name, by decide, Tryd.func65.trans (congrArg some (by kernel_rfl))⟩
  f14 := ⟨Tryd.f78.name, by decide, Tryd.func78.trans (congrArg some (by kernel_rfl))⟩
  f15 := Tryd.func79.trans (congrArg some (by kernel_rfl))
  f20 := ⟨Tryd.f87.name, by decide, Tryd.func87.trans (congrArg some (by kernel_rfl))⟩
  f21 := ⟨Tryd.f88.name, by decide, Tryd.func88.trans (congrArg some (by kernel_rfl))⟩
  f22 := ⟨Tryd.f89.name, by decide, Tryd.func89.trans (congrArg some (by kernel_rfl))⟩
  f23 := ⟨Tryd.f90.name, by decide, Tryd.func90.trans (congrArg some (by kernel_rfl))⟩
  f24 := ⟨Tryd.f91.name, by decide, Tryd.func91.trans (congrArg some (by kernel_rfl))⟩
  f25 := ⟨Tryd.f92.name, by decide, Tryd.func92.trans (congrArg some (by kernel_rfl))⟩
  f26 := ⟨Tryd.f93.name, by decide, Tryd.func93.trans (congrArg some (by kernel_rfl))⟩
  f27 := ⟨Tryd.f94.name, by decide, Tryd.func94.trans (congrArg some (by kernel_rfl))⟩
  f28 := Tryd.func95.trans (congrArg some (by kernel_rfl))
  f29 := Tryd.func96.trans (congrArg some (by kernel_rfl))
  f46 := ⟨Tryd.f100.name, by decide, Tryd.func100.trans (congrArg some (by kernel_rfl))⟩
  f47 := Tryd.func101.trans (congrArg some (by kernel_rfl))
  f48 := Tryd.func102.trans (congrArg some (by kernel_rfl))
  f49 := ⟨Tryd.f103.name, by decide, Tryd.func103.trans (congrArg some (by kernel_rfl))⟩
  f50 := ⟨Tryd.f104.name, by decide, Tryd.func104.trans (congrArg some (by kernel_rfl))⟩
  f57 := ⟨Tryd.f106.name, by decide, Tryd.func106.trans (congrArg some (by kernel_rfl))⟩
  t0 := Tryd.underlying0
  a0 := Tryd.isAgg0
  z0 := Tryd.sizeOf0
  v0 := Tryd.zeroValue0
  t3 := Tryd.underlying3
  a3 := Tryd.isAgg3
  z3 := Tryd.sizeOf3
  v3 := Tryd.zeroValue3
  t4 := Tryd.underlying4
  a4 := Tryd.isAgg4
  z4 := Tryd.sizeOf4
  v4 := Tryd.zeroValue4
  t5 := Tryd.underlying5
  a5 := Tryd.isAgg5
  z5 := Tryd.sizeOf5
  v5 := Tryd.zeroValue5
  t9 := Tryd.underlying9
  a9 := Tryd.isAgg9
  z9 := Tryd.sizeOf9
  v9 := Tryd.zeroValue9
  t22 := Tryd.underlying35
  a22 := Tryd.isAgg35
  z22 := Tryd.sizeOf35
  v22 := Tryd.zeroValue35
  t25 := Tryd.underlying106
  a25 := Tryd.isAgg106
  z25 := Tryd.sizeOf106
  v25 := Tryd.zeroValue106
  t39 := Tryd.underlying75
  a39 := Tryd.isAgg75
  z39 := Tryd.sizeOf75
  v39 := Tryd.zeroValue75
  t45 := Tryd.underlying125
  a45 := Tryd.isAgg125
  z45 := Tryd.sizeOf125
  v45 := Tryd.zeroValue125
  t46 := Tryd.underlying126
  a46 := Tryd.isAgg126
  z46 := Tryd.sizeOf126
  v46 := Tryd.zeroValue126
  t50 := Tryd.underlying130
  a50 := Tryd.isAgg130
  z50 := Tryd.sizeOf130
  v50 := Tryd.zeroValue130
  t53 := Tryd.underlying103
  a53 := Tryd.isAgg103
  z53 := Tryd.sizeOf103
  v53 := Tryd.zeroValue103
  t55 := Tryd.underlying28
  a55 := Tryd.isAgg28
  z55 := Tryd.sizeOf28
  v55 := Tryd.zeroValue28
  t66 := Tryd.underlying136
  a66 := Tryd.isAgg136
  z66 := Tryd.sizeOf136
  v66 := Tryd.zeroValue136
  t70 := Tryd.underlying140
  a70 := Tryd.isAgg140
  z70 := Tryd.sizeOf140
  v70 := Tryd.zeroValue140
  t76 := Tryd.underlying143
  a76 := Tryd.isAgg143
  z76 := Tryd.sizeOf143
  v76 := Tryd.zeroValue143
  t77 := Tryd.underlying53
  a77 := Tryd.isAgg53
  z77 := Tryd.sizeOf53
  v77 := Tryd.zeroValue53 }
end Go.Proofs

end
section
open Go Go.Tv Go.Proofs
namespace Go.Tv.C34
set_option maxRecDepth 20000
set_option maxHeartbeats 2000000
set_option linter.unusedSimpArgs false
set_option linter.unusedVariables false
theorem spread_ret (l : List Rep) (f : Frm) (hl : Srt l) (hp : ∀ y, y ∈ l → HP y) : RetT Tryd.prog 43 [(1, deT)] [mset l, encF f] (mset (stepF l f)) := by
  refine retT_of_awr Tryd.func43 rfl (Nat.le_of_ble_eq_true rfl) ?_
  intro F0 w0
  refine awj_openS 0 (l := l) rfl (fun b0 lp hperm => ?_)
  refine awj_seq ?_
  refine awj_rj rfl ?_
  refine RJ.new rfl rfl (eff_boxK (v := .t _) (k := 5) (id := 3) rfl rfl rfl rfl rfl rfl) ?_
  refine RJ.op rfl rfl (eff_assign (v := .junk) rfl rfl rfl) ?_
  refine RJ.nil ?_
  refine awj_seq ?_
  refine awj_rj rfl ?_
  refine RJ.sMake rfl rfl rfl rfl (fun rO hrO => ?_)
  refine RJ.op rfl rfl (eff_assign (v := .t _) rfl rfl rfl) ?_
  refine RJ.nil ?_
  refine awj_seq ?_
  refine awj_seq ?_
  refine awj_rj rfl ?_
  refine RJ.op rfl rfl (eff_move (v := .t _) rfl rfl rfl) ?_
  refine RJ.sRange rfl rfl rfl rfl Tryd.underlying78 rfl (fun rI hrI => ?_)
  refine RJ.nil ?_
  show AWJ _ _ _ _ _ _ _ _
  have hne : rO ≠ rI := by intro e; subst e; rw [gget_same] at hrI; cases hrI
  refine awj_block ?_
  refine awj_loopW (fun m s g => ∃ (seen : List Nat) (cur : List Rep), (gget g rO = some (mapO KR XU (setL cur))) ∧ (gget g rI = some (itM b0 lp.length seen)) ∧ (seen.Nodup) ∧ (∀ j, j ∈ seen → j < lp.length) ∧ (cameF lp f seen cur) ∧ m = lp.length - seen.length ∧ s = ⟨21, [(3, .ptr 3 0 0 0), (5, .t (.mp rO)), (8, .t (.mpx b0 (mapL KR XU (setL lp)))), (9, .t (.adr rI 0)), (22, .t deT)], [(3, some ⟨5, 30, 0, [.t (encF f)]⟩)]⟩) (_) (⟨_, weak_keep (n := 21) (fr' := [(3, .ptr 3 0 0 0), (5, .t (.mp rO)), (8, .t (.mpx b0 (mapL KR XU (setL lp)))), (9, .t (.adr rI 0)), (22, .t deT)]) (st' := [(3, some ⟨5, 30, 0, [.t (encF f)]⟩)]) ⟨rfl, rfl, rfl, rfl, rfl, rfl, rfl, rfl, rfl, rfl, trivial⟩ ⟨rfl, okE_one rfl, trivial⟩, [], [], (by rw [gget_ne _ _ (Ne.symm hne)]; exact gget_same _ _ _), (by exact gget_same _ _ _), (by exact List.nodup_nil), (by intro j hj; simp at hj), (by exact cameF_nil _ _), rfl, rfl⟩) ?_
  rintro m s g ⟨seen, cur, hgO, hgI, hsn, hsb, hcm, rfl, rfl⟩
  refine awj_seq ?_
  refine awj_rj rfl ?_
  refine RJ.sNext (.tmp 8) rfl rfl rfl rfl rfl rfl hgI ?_ ?_
  · intro hall
    refine RJ.op rfl rfl (eff_extract rfl rfl rfl rfl) ?_
    refine RJ.nil ?_
    refine awj_seq ?_
    refine awj_cond rfl (fun h => nomatch h) (fun _ => ?_)
    refine awj_exit ?_
    refine awj_seq ?_
    refine awj_rj rfl ?_
    refine RJ.op rfl rfl (eff_move (v := .t _) rfl rfl rfl) ?_
    refine RJ.op rfl rfl (eff_assign (v := .t _) rfl rfl rfl) ?_
    refine RJ.nil ?_
    show AWJ _ _ _ _ _ _ _ _
    refine awj_freezeS 4 (l0 := cur) (stepF l f) rfl hgO (cameF_end hl hperm hcm hall) ?_
    refine awj_ret ?_
    first
      | exact ⟨Or.inr rfl, [_], ⟨.tmp (.t _), trivial⟩, .refl _⟩
      | exact ⟨Or.inr rfl, [_], ⟨.tmp (.t _), trivial⟩, (by repeat' first | exact trivial | exact Wk.refl _ | exact Wk.sl _ | refine And.intro ?_ ?_ | refine Wk.tupP ?_ | refine Wk.aggP ?_)⟩
      | exact ⟨Or.inr rfl, [_], ⟨.tmp (Res.ownT rfl rfl rfl rfl), trivial⟩, .refl _⟩
      | exact ⟨Or.inr rfl, [_], ⟨.tmp (Res.ownT rfl rfl rfl rfl), trivial⟩, (by repeat' first | exact trivial | exact Wk.refl _ | exact Wk.sl _ | refine And.intro ?_ ?_ | refine Wk.tupP ?_ | refine Wk.aggP ?_)⟩
  · intro q hq hqs
    refine RJ.op rfl rfl (eff_extract rfl rfl rfl rfl) ?_
    refine RJ.nil ?_
    refine awj_seq ?_
    refine awj_cond rfl (fun _ => ?_) (fun h => nomatch h)
    refine awj_skip ?_
    refine awj_block ?_
    refine awj_seq ?_
    refine awj_rj rfl ?_
    refine RJ.sEntry (.tmp 8) (seen := seen) hq rfl rfl rfl rfl rfl rfl (gget_same _ _ _) ?_
    refine RJ.op rfl rfl (eff_extract rfl rfl rfl rfl) ?_
    refine RJ.new rfl rfl (eff_allocK (k := 4) (id := 6) rfl rfl tz23 rfl rfl) ?_
    refine RJ.store rfl rfl (eff_storeW (v := .t _) (els := [_]) (els' := [_]) rfl rfl ti23 rfl rfl rfl rfl rfl rfl rfl rfl rfl) ?_
    refine RJ.nil ?_
    refine awj_seq ?_
    refine awj_rj rfl ?_
    refine RJ.op rfl rfl (eff_move (v := .t _) rfl rfl rfl) ?_
    refine RJ.op rfl rfl (eff_load rfl rfl ti23 rfl (.whole rfl rfl rfl rfl rfl rfl)) ?_
    refine RJ.sPut lp[q] cur rfl rfl (.inl rfl) Tryd.underlying78 rfl rfl rfl (by rw [gget_ne _ _ (Ne.symm hne)]; exact hgO) ?_
    refine RJ.nil ?_
    refine awj_rj rfl ?_
    refine RJ.op rfl rfl (eff_move (v := .t _) rfl rfl rfl) ?_
    refine RJ.op rfl rfl (eff_load rfl rfl ti23 rfl (.whole rfl rfl rfl rfl rfl rfl)) ?_
    refine RJ.op rfl rfl (eff_load rfl rfl ti30 rfl (.whole rfl rfl rfl rfl rfl rfl)) ?_
    refine RJ.op rfl rfl (eff_callXT (apply_ret _ _ (hp _ (hperm.mem_iff.1 (List.getElem_mem _)))) co14 rfl rfl rfl ⟨rfl, trivial⟩ rfl) ?_
    refine RJ.sPut (apply lp[q] f) (ins cur lp[q]) rfl rfl (.inl rfl) Tryd.underlying78 rfl rfl rfl (gget_same _ _ _) ?_
    refine RJ.nil ?_
    refine ⟨_, ?_, _, weak_keep (n := 21) (fr' := [(3, .ptr 3 0 0 0), (5, .t (.mp rO)), (8, .t (.mpx b0 (mapL KR XU (setL lp)))), (9, .t (.adr rI 0)), (22, .t deT)]) (st' := [(3, some ⟨5, 30, 0, [.t (encF f)]⟩)]) ⟨rfl, rfl, rfl, rfl, rfl, rfl, rfl, rfl, rfl, rfl, trivial⟩ ⟨rfl, okE_one rfl, trivial⟩, seen ++ [q], ins (ins cur lp[q]) (apply lp[q] f), (by exact gget_same _ _ _), (by rw [gget_ne _ _ hne, gget_ne _ _ hne]; exact gget_same _ _ _), (by exact seen_nodup hsn hqs), (by exact seen_bound hsb hq), (by exact cameF_step hcm hq), rfl, rfl⟩
    have hsl := seen_lt hsn hsb hq hqs
    simp only [List.length_append, List.length_singleton]
    omega

end Go.Tv.C34

end
section
open Go Go.Tv Go.Proofs
namespace Go.Tv.C34
set_option maxRecDepth 20000
set_option maxHeartbeats 2000000
set_option linter.unusedSimpArgs false
set_option linter.unusedVariables false
theorem sorted_ret (l : List Rep) (hl : Srt l) (hll : l.length ≤ 100000) : Ret Tryd.prog 46 [mset l] (.sl (l.map encR) false) := by
  refine ret_of_awr Tryd.func46 rfl (Nat.le_of_ble_eq_true rfl) ?_
  intro F0 w0
  refine awj_openS 0 (l := l) rfl (fun b0 lp hperm => ?_)
  have hpl := hperm.length_eq
  refine awj_seq ?_
  refine awj_rj rfl ?_
  refine RJ.op rfl rfl (eff_assign (v := .t _) rfl rfl rfl) ?_
  refine RJ.nil ?_
  refine awj_seq ?_
  refine awj_rj rfl ?_
  refine RJ.op rfl rfl (eff_assign (v := .t _) rfl rfl rfl) ?_
  refine RJ.nil ?_
  show AWJ _ _ _ _ _ _ _ _
  refine awj_weak (weak_adopt (d := 3) (id := 3) (k := 4) (ty := 23) rfl rfl) ?_
  refine awj_seq ?_
  refine awj_seq ?_
  refine awj_rj rfl ?_
  refine RJ.op rfl rfl (eff_move (v := .t _) rfl rfl rfl) ?_
  refine RJ.sRange rfl rfl rfl rfl Tryd.underlying78 rfl (fun rI hrI => ?_)
  refine RJ.nil ?_
  refine awj_block ?_
  refine awj_loopW (fun m s g => ∃ (seen : List Nat) (gn : Nat) (n : Nat) (els : List AV), (gget g rI = some (itM b0 lp.length seen)) ∧ (seen.Nodup) ∧ (∀ j, j ∈ seen → j < lp.length) ∧ (n = seen.length) ∧ (els = ((pick lp seen).map encR).map .t) ∧ m = lp.length - seen.length ∧ s = ⟨18, [(3, .own 3 gn 0 n), (5, .t (.mpx b0 (mapL KR XU (setL lp)))), (6, .t (.adr rI 0))], [(3, some ⟨4, 23, gn, els⟩)]⟩) (_) (⟨_, weak_keep (n := 18) (fr' := [(3, .own 3 0 0 0), (5, .t (.mpx b0 (mapL KR XU (setL lp)))), (6, .t (.adr rI 0))]) (st' := [(3, some ⟨4, 23, 0, ([])⟩)]) ⟨rfl, rfl, rfl, rfl, rfl, rfl, trivial⟩ ⟨rfl, (by first | exact okE_nil | (rw [he]; exact okE_t) | (rw [he]; intro x hx; simp only [List.mem_append, List.mem_map, List.mem_singleton] at hx; rcases hx with ⟨y, _, rfl⟩ | rfl <;> rfl)), trivial⟩, [], 0, 0, [], (by exact gget_same _ _ _), (by exact List.nodup_nil), (by intro j hj; simp at hj), (by rfl), (by rfl), rfl, rfl⟩) ?_
  rintro m s g ⟨seen, gn, n, els, hgI, hsn, hsb, hnn, he, rfl, rfl⟩
  refine awj_seq ?_
  refine awj_rj rfl ?_
  refine RJ.sNext (.tmp 5) rfl rfl rfl rfl rfl rfl hgI ?_ ?_
  · intro hall
    refine RJ.op rfl rfl (eff_extract rfl rfl rfl rfl) ?_
    refine RJ.nil ?_
    refine awj_seq ?_
    refine awj_cond rfl (fun h => nomatch h) (fun _ => ?_)
    refine awj_exit ?_
    refine awj_seq ?_
    refine awj_rj rfl ?_
    have hpa := pick_all hsn hsb hall ((hperm.nodup_iff).2 (srt_nodup hl))
    have hso : sortA cmpR (pick lp seen) = l := sort_srt hl (hpa.trans hperm)
    have hpn : (pick lp seen).length = l.length := (hpa.trans hperm).length_eq
    have hnl : n = (pick lp seen).length := by rw [hnn, pick_len hsb]
    refine RJ.op rfl rfl (eff_move (v := .own _ _ _ _) rfl rfl rfl) ?_
    refine RJ.new rfl rfl (eff_sortFunc Tryd.sortIv (cells := cellsR) (k := 4) (fun _ => rfl) (by decide) (cf := cmpR) cmpR_swo (g := 66) compare_ret co66 ti23 (id := 3) (gen := gn) (pick lp seen) (by omega) rfl co65 rfl rfl rfl rfl rfl rfl (he.trans (sortEls_eq _).symm) hnl ((sortEls_eq _).trans (by rw [hso]))) ?_
    refine RJ.nil ?_
    refine awj_seq ?_
    refine awj_rj rfl ?_
    refine RJ.op rfl rfl (eff_move (v := .own _ _ _ _) rfl rfl rfl) ?_
    refine RJ.op rfl rfl (eff_assign (v := .own _ _ _ _) rfl rfl rfl) ?_
    refine RJ.nil ?_
    refine awj_ret ?_
    exact ⟨Or.inr rfl, [_], ⟨.tmp (Res.ownT (xs := l.map encR) rfl rfl rfl (by rw [hnl, hpn]; simp)), trivial⟩, .refl _⟩
  · intro q hq hqs
    refine RJ.op rfl rfl (eff_extract rfl rfl rfl rfl) ?_
    refine RJ.nil ?_
    refine awj_seq ?_
    refine awj_cond rfl (fun _ => ?_) (fun h => nomatch h)
    refine awj_skip ?_
    refine awj_block ?_
    refine awj_seq ?_
    refine awj_rj rfl ?_
    refine RJ.sEntry (.tmp 5) (seen := seen) hq rfl rfl rfl rfl rfl rfl (gget_same _ _ _) ?_
    refine RJ.op rfl rfl (eff_extract rfl rfl rfl rfl) ?_
    refine RJ.new rfl rfl (eff_allocK (k := 4) (id := 4) rfl rfl tz23 rfl rfl) ?_
    refine RJ.store rfl rfl (eff_storeW (v := .t _) (els := [_]) (els' := [_]) rfl rfl ti23 rfl rfl rfl rfl rfl rfl rfl rfl rfl) ?_
    refine RJ.nil ?_
    refine awj_rj rfl ?_
    have hsl2 := seen_lt hsn hsb hq hqs
    refine RJ.op rfl rfl (eff_move (v := .own _ _ _ _) rfl rfl rfl) ?_
    refine RJ.op rfl rfl (eff_load rfl rfl ti23 rfl (.whole rfl rfl rfl rfl rfl rfl)) ?_
    refine RJ.new rfl rfl (eff_buildSliceL (id := 13) (els := [.t (.agg [_, _, _, _])]) rfl rfl te35 tz23 rfl (by decide) (by decide) rfl rfl rfl rfl) ?_
    refine RJ.new rfl rfl (eff_append (id := 3) (ys := [_]) rfl rfl ta35 rfl rfl rfl (by rw [he, hnn]; simp [pick_len hsb]) rfl rfl (srcOwn rfl rfl rfl rfl rfl rfl) (by simp) (by simp; omega) (by simp; omega)) ?_
    refine RJ.op rfl rfl (eff_assign (v := .own _ _ _ _) rfl rfl rfl) ?_
    refine RJ.nil ?_
    refine ⟨_, ?_, _, weak_keep (n := 18) (fr' := [(3, .own 3 _ 0 _), (5, .t (.mpx b0 (mapL KR XU (setL lp)))), (6, .t (.adr rI 0))]) (st' := [(3, some ⟨4, 23, _, _⟩)]) ⟨rfl, rfl, rfl, rfl, rfl, rfl, trivial⟩ ⟨rfl, (by first | exact okE_nil | (rw [he]; exact okE_t) | (rw [he]; intro x hx; simp only [List.mem_append, List.mem_map, List.mem_singleton] at hx; rcases hx with ⟨y, _, rfl⟩ | rfl <;> rfl)), trivial⟩, seen ++ [q], _, _, _, (by exact gget_same _ _ _), (by exact seen_nodup hsn hqs), (by exact seen_bound hsb hq), (by rw [hnn]; simp), (by rw [pick_step hq, he]; simp <;> rfl), rfl, rfl⟩
    have hsl := seen_lt hsn hsb hq hqs
    simp only [List.length_append, List.length_singleton]
    omega

theorem reach_ret (x : Rep) (l : List Frm) (hx : HP x) (hl : l.length ≤ 1000000) : RetT Tryd.prog 48 [(1, deT)] [encR x, .sl (l.map encF) false] (mset (reachF x l)) := by
  refine retT_of_awr Tryd.func48 rfl (Nat.le_of_ble_eq_true rfl) ?_
  intro F0 w0
  refine awj_seq ?_
  refine awj_rj rfl ?_
  refine RJ.new rfl rfl (eff_boxK (v := .t _) (k := 4) (id := 2) rfl rfl rfl rfl rfl rfl) ?_
  refine RJ.op rfl rfl (eff_assign (v := .junk) rfl rfl rfl) ?_
  refine RJ.nil ?_
  refine awj_seq ?_
  refine awj_rj rfl ?_
  refine RJ.sMake rfl rfl rfl rfl (fun rO hrO => ?_)
  refine RJ.op rfl rfl (eff_load rfl rfl ti23 rfl (.whole rfl rfl rfl rfl rfl rfl)) ?_
  refine RJ.sPut x [] rfl rfl (.inr rfl) Tryd.underlying78 rfl rfl rfl (gget_same _ _ _) ?_
  refine RJ.op rfl rfl (eff_move (v := .t _) rfl rfl rfl) ?_
  refine RJ.op rfl rfl (eff_assign (v := .t _) rfl rfl rfl) ?_
  refine RJ.nil ?_
  show AWJ _ _ _ _ _ _ _ _
  refine awj_freezeS 5 (l0 := ins [] x) [x] rfl (gget_same _ _ _) (by simp [ins]) ?_
  refine awj_seq ?_
  refine awj_seq ?_
  refine awj_rj rfl ?_
  refine RJ.op rfl rfl (eff_move (v := .t _) rfl rfl rfl) ?_
  refine RJ.op rfl rfl (eff_lenM rfl rfl te34 rfl) ?_
  refine RJ.op rfl rfl (eff_move (v := .t _) rfl rfl rfl) ?_
  refine RJ.nil ?_
  refine awj_block ?_
  refine awj_loopW (fun m s g => ∃ (i : Nat) (cur : List Rep), (i ≤ l.length) ∧ (cur = reachF x (l.take i)) ∧ m = l.length - i ∧ s = ⟨22, [(5, .t (mset cur)), (11, .t (.sl (l.map encF) false)), (12, .t (encI l.length)), (13, .t (encI (i : Nat))), (23, .t deT)], []⟩) (_) (⟨_, weak_keep (n := 22) (fr' := [(5, .t (mset ([x]))), (11, .t (.sl (l.map encF) false)), (12, .t (encI l.length)), (13, .t (encI (0 : Nat))), (23, .t deT)]) (st' := []) ⟨rfl, rfl, rfl, rfl, rfl, rfl, rfl, rfl, rfl, rfl, trivial⟩ trivial, 0, [x], (by omega), (by rfl), rfl, rfl⟩) ?_
  rintro m s g ⟨i, cur, hi, ho, rfl, rfl⟩
  refine awj_seq ?_
  refine awj_rj rfl ?_
  refine RJ.op rfl rfl (eff_iop rfl rfl rfl rfl rfl) ?_
  refine RJ.nil ?_
  refine awj_seq ?_
  refine awj_cond rfl (fun h1 => ?_) (fun h1 => ?_)
  · try simp only [decide_eq_true_eq, decide_eq_false_iff_not, beq_iff_eq, bne_iff_ne, bne_eq_false_iff_eq, beq_eq_false_iff_ne, Bool.not_eq_true, Bool.not_eq_false, Bool.not_eq_true', Bool.not_eq_false', ne_eq] at h1
    refine awj_skip ?_
    refine awj_seq ?_
    refine awj_block ?_
    refine awj_seq ?_
    refine awj_rj rfl ?_
    refine RJ.op rfl rfl (eff_indexM rfl rfl te34 rfl rfl rfl (by first | assumption | exact List.getElem?_eq_getElem (by omega)) rfl (by decide)) ?_
    refine RJ.op rfl rfl (eff_loadW rfl rfl ti30 rfl rfl rfl) ?_
    refine RJ.new rfl rfl (eff_allocK (k := 5) (id := 7) rfl rfl tz30 rfl rfl) ?_
    refine RJ.store rfl rfl (eff_storeW (v := .t _) (els := [_]) (els' := [_]) rfl rfl ti30 rfl rfl rfl rfl rfl rfl rfl rfl rfl) ?_
    refine RJ.nil ?_
    refine awj_rj rfl ?_
    refine RJ.op rfl rfl (eff_move (v := .t _) rfl rfl rfl) ?_
    refine RJ.op rfl rfl (eff_load rfl rfl ti30 rfl (.whole rfl rfl rfl rfl rfl rfl)) ?_
    refine RJ.op rfl rfl (eff_callXT (spread_ret cur _ (by rw [ho]; exact srt_reach _ _) (by rw [ho]; exact reach_hp hx _)) co43 rfl rfl rfl ⟨rfl, trivial⟩ rfl) ?_
    refine RJ.op rfl rfl (eff_assign (v := .t _) rfl rfl rfl) ?_
    refine RJ.nil ?_
    refine awj_rj rfl ?_
    refine RJ.op rfl rfl (eff_iop rfl rfl rfl rfl (iadd (by omega))) ?_
    refine RJ.op rfl rfl (eff_move (v := .t _) rfl rfl rfl) ?_
    refine RJ.nil ?_
    refine ⟨_, ?_, _, weak_keep (n := 22) (fr' := [(5, .t (mset (stepF cur (l[i]'(by omega))))), (11, .t (.sl (l.map encF) false)), (12, .t (encI l.length)), (13, .t (encI ((i + 1) : Nat))), (23, .t deT)]) (st' := []) ⟨rfl, rfl, rfl, rfl, rfl, rfl, rfl, rfl, rfl, rfl, trivial⟩ trivial, i + 1, stepF cur (l[i]'(by omega)), (by omega), (by rw [reachF_take (by omega), ho]), rfl, rfl⟩
    omega
  · try simp only [decide_eq_true_eq, decide_eq_false_iff_not, beq_iff_eq, bne_iff_ne, bne_eq_false_iff_eq, beq_eq_false_iff_ne, Bool.not_eq_true, Bool.not_eq_false, Bool.not_eq_true', Bool.not_eq_false', ne_eq] at h1
    refine awj_exit ?_
    refine awj_seq ?_
    refine awj_rj rfl ?_
    refine RJ.op rfl rfl (eff_move (v := .t _) rfl rfl rfl) ?_
    refine RJ.op rfl rfl (eff_assign (v := .t _) rfl rfl rfl) ?_
    refine RJ.nil ?_
    refine awj_ret ?_
    have hi2 : i = l.length := by omega
    subst hi2
    rw [List.take_length] at ho
    rw [← ho]
    exact ⟨Or.inr rfl, [_], ⟨.tmp (.t _), trivial⟩, .refl _⟩

end Go.Tv.C34

end
section
open Go Go.Tv Go.Proofs
namespace Go.Tv.C34
set_option maxRecDepth 20000
set_option maxHeartbeats 2000000
set_option linter.unusedSimpArgs false
set_option linter.unusedVariables false
theorem cloneO_retG (l : List Frm) (g : Nat) (hl : l.length ≤ 100000) (h0 : 0 < l.length) : RetG Tryd.prog 57 [(0, some ⟨5, 30, g, (l.map encF).map .t⟩)] [.own 0 g 0 l.length] [(0, some ⟨5, 30, g + 1, (l.map encF).map .t⟩), (5, some ⟨5, 30, 1, (l.map encF).map .t⟩)] (.own 5 1 0 l.length) := by
  refine retG_of_awp Tryd.func57 rfl (Nat.le_of_ble_eq_true rfl) ?_
  refine awp_seq ?_
  refine awp_rw rfl ?_
  refine RW.op rfl rfl (eff_assign (v := .t _) rfl rfl rfl) ?_
  refine RW.nil ?_
  refine awp_seq ?_
  refine awp_seq ?_
  refine awp_rw rfl ?_
  refine RW.op rfl rfl (eff_move (v := .own _ _ _ _) rfl rfl rfl) ?_
  refine RW.op rfl rfl (eff_ownNotNil rfl rfl te34 rfl rfl rfl h0) ?_
  refine RW.nil ?_
  refine awp_cond rfl (fun h => nomatch h) (fun _ => ?_)
  refine awp_skip ?_
  refine awp_seq ?_
  refine awp_rw rfl ?_
  refine RW.new rfl rfl (eff_buildSliceL (id := 5) (els := []) rfl rfl te34 tz30 rfl (by decide) (by decide) rfl rfl rfl rfl) ?_
  refine RW.op rfl rfl (eff_move (v := .own _ _ _ _) rfl rfl rfl) ?_
  refine RW.new rfl rfl (eff_appendAny (id := 5) rfl rfl ta34 rfl rfl rfl rfl rfl rfl (srcOwn' (ys := (l.map encF).map .t) rfl rfl rfl rfl (by simp) (by rw [List.take_of_length_le (by simp)]; rfl)) (by simp; omega) (by simp; omega)) ?_
  refine RW.op rfl rfl (eff_assign (v := .own _ _ _ _) rfl rfl rfl) ?_
  refine RW.nil ?_
  refine awp_ret ?_
  refine ⟨Or.inr rfl, [_], [.own 5 1 0 l.length], ⟨.tmp rfl, trivial⟩, rfl, Weak.trans (weak_raise (id := 0) (g + 1) rfl (by omega)) ?_, rfl⟩
  exact weak_keep ⟨(by show AV.own 5 _ 0 _ = AV.own 5 1 0 l.length; congr 1; simp), rfl, trivial⟩ ⟨rfl, okE_t, rfl, okE_t, trivial⟩

theorem ownO_retG (l : List Frm) (g : Nat) (hl : l.length ≤ 100000) (h0 : 0 < l.length) (hb : ∀ f, f ∈ l → f.body.length ≤ 1000000) : RetG Tryd.prog 44 [(0, some ⟨5, 30, g, (l.map encF).map .t⟩)] [.own 0 g 0 l.length] [(0, some ⟨5, 30, g + 1, (l.map encF).map .t⟩), (5, some ⟨5, 30, 1, (l.map encF).map .t⟩)] (.own 5 1 0 l.length) := by
  refine retG_of_awp Tryd.func44 rfl (Nat.le_of_ble_eq_true rfl) ?_
  refine awp_seq ?_
  refine awp_rw rfl ?_
  refine RW.op rfl rfl (eff_assign (v := .t _) rfl rfl rfl) ?_
  refine RW.nil ?_
  refine awp_seq ?_
  refine awp_rw rfl ?_
  refine RW.op rfl rfl (eff_move (v := .own _ _ _ _) rfl rfl rfl) ?_
  refine RW.new2 rfl rfl (eff_callG (cloneO_retG l g hl h0) co57 (fun id => id) rfl rfl rfl ⟨.own _ _ _ _ rfl rfl, trivial⟩ (.own _ _ _ _ rfl rfl) rfl ⟨⟨rfl, treeEls_t, ⟨_, rfl, Nat.lt_succ_self _⟩⟩, trivial⟩ ⟨⟨treeEls_t, .inl rfl⟩, ⟨treeEls_t, .inr rfl⟩, trivial⟩) ?_
  refine RW.op rfl rfl (eff_assign (v := .own _ _ _ _) rfl rfl rfl) ?_
  refine RW.nil ?_
  refine awp_seq ?_
  refine awp_seq ?_
  refine awp_rw rfl ?_
  refine RW.op rfl rfl (eff_move (v := .own _ _ _ _) rfl rfl rfl) ?_
  refine RW.op rfl rfl (eff_len rfl rfl te34 rfl rfl rfl) ?_
  refine RW.op rfl rfl (eff_move (v := .t _) rfl rfl rfl) ?_
  refine RW.nil ?_
  refine awp_block ?_
  refine awp_loopW (fun m s => ∃ (i : Nat), (i ≤ l.length) ∧ m = l.length - i ∧ s = ⟨23, [(0, .own 5 1 0 l.length), (7, .own 5 1 0 l.length), (8, .t (encI l.length)), (9, .t (encI (i : Nat)))], [(0, some ⟨5, 30, g + 1, (l.map encF).map .t⟩), (5, some ⟨5, 30, 1, (l.map encF).map .t⟩)]⟩) (_) (⟨_, weak_keep (n := 23) (fr' := [(0, .own 5 1 0 l.length), (7, .own 5 1 0 l.length), (8, .t (encI l.length)), (9, .t (encI (0 : Nat)))]) (st' := [(0, some ⟨5, 30, g + 1, (l.map encF).map .t⟩), (5, some ⟨5, 30, 1, (l.map encF).map .t⟩)]) ⟨rfl, rfl, rfl, rfl, rfl, rfl, rfl, rfl, trivial⟩ ⟨rfl, okE_t, rfl, okE_t, trivial⟩, 0, (by omega), rfl, rfl⟩) ?_
  rintro m s ⟨i, hi, rfl, rfl⟩
  refine awp_seq ?_
  refine awp_rw rfl ?_
  refine RW.op rfl rfl (eff_iop rfl rfl rfl rfl rfl) ?_
  refine RW.nil ?_
  refine awp_seq ?_
  refine awp_cond rfl (fun h1 => ?_) (fun h1 => ?_)
  · try simp only [decide_eq_true_eq, decide_eq_false_iff_not, beq_iff_eq, bne_iff_ne, bne_eq_false_iff_eq, beq_eq_false_iff_ne, Bool.not_eq_true, Bool.not_eq_false, Bool.not_eq_true', Bool.not_eq_false', ne_eq] at h1
    refine awp_skip ?_
    refine awp_seq ?_
    refine awp_block ?_
    refine awp_seq ?_
    refine awp_rw rfl ?_
    have hil : i < l.length := by omega
    have hbl := hb _ (List.getElem_mem hil)
    refine RW.op rfl rfl (eff_move (v := .t _) rfl rfl rfl) ?_
    refine RW.op rfl rfl (eff_indexAddr rfl rfl te34 rfl rfl rfl rfl rfl rfl (by omega)) ?_
    refine RW.op rfl rfl (eff_load (y := .t (encF (l[i]'hil))) rfl rfl ti30 rfl (.whole rfl rfl (by rw [Nat.zero_add]; exact elF hil) rfl rfl rfl)) ?_
    refine RW.new rfl rfl (eff_allocK (k := 5) (id := 4) rfl rfl tz30 rfl rfl) ?_
    refine RW.op rfl rfl (eff_assign (v := .t _) rfl rfl rfl) ?_
    refine RW.store rfl rfl (eff_storeW (v := .t _) (els := [_]) (els' := [_]) rfl rfl ti30 rfl rfl rfl rfl rfl rfl rfl rfl rfl) ?_
    refine RW.nil ?_
    refine awp_rw rfl ?_
    refine RW.op rfl rfl (eff_move (v := .own _ _ _ _) rfl rfl rfl) ?_
    refine RW.op rfl rfl (eff_move (v := .t _) rfl rfl rfl) ?_
    refine RW.op rfl rfl (eff_fieldAddr rfl rfl tf30_3 (by decide) rfl rfl rfl (Nat.le_of_ble_eq_true rfl)) ?_
    refine RW.op rfl rfl (eff_load (y := .t _) rfl rfl ti27 rfl (.one rfl rfl rfl rfl)) ?_
    refine RW.op rfl rfl (eff_callT (cloneB_ret _ hbl) co58 rfl rfl rfl rfl) ?_
    refine RW.op rfl rfl (eff_indexAddr rfl rfl te34 rfl rfl rfl rfl rfl rfl (by omega)) ?_
    refine RW.op rfl rfl (eff_fieldAddr rfl rfl tf30_3 (by decide) rfl rfl rfl (Nat.le_of_ble_eq_true rfl)) ?_
    refine RW.store rfl rfl (eff_storeS (v := .t _) (el := .t (encF (l[i]'hil))) (ys := [encI (l[i]'hil).seq, encI (l[i]'hil).key, .bool (l[i]'hil).unlock, .sl ((l[i]'hil).body.map encBy) false, .int .u64 (l[i]'hil).tag]) (els := (l.map encF).map .t) (els' := (l.map encF).map .t) rfl rfl ti27 rfl rfl rfl rfl rfl rfl (by rw [Nat.zero_add]; exact elF hil) (Nat.le_of_ble_eq_true rfl) rfl (by rw [Nat.zero_add]; exact setF_same hil)) ?_
    refine RW.nil ?_
    refine awp_rw rfl ?_
    refine RW.op rfl rfl (eff_iop rfl rfl rfl rfl (iadd (by omega))) ?_
    refine RW.op rfl rfl (eff_move (v := .t _) rfl rfl rfl) ?_
    refine RW.nil ?_
    refine ⟨_, ?_, _, weak_keep (n := 23) (fr' := [(0, .own 5 1 0 l.length), (7, .own 5 1 0 l.length), (8, .t (encI l.length)), (9, .t (encI ((i + 1) : Nat)))]) (st' := [(0, some ⟨5, 30, g + 1, (l.map encF).map .t⟩), (5, some ⟨5, 30, 1, (l.map encF).map .t⟩)]) ⟨rfl, rfl, rfl, rfl, rfl, rfl, rfl, rfl, trivial⟩ ⟨rfl, okE_t, rfl, okE_t, trivial⟩, i + 1, (by omega), rfl, rfl⟩
    omega
  · try simp only [decide_eq_true_eq, decide_eq_false_iff_not, beq_iff_eq, bne_iff_ne, bne_eq_false_iff_eq, beq_eq_false_iff_ne, Bool.not_eq_true, Bool.not_eq_false, Bool.not_eq_true', Bool.not_eq_false', ne_eq] at h1
    refine awp_exit ?_
    refine awp_seq ?_
    refine awp_rw rfl ?_
    refine RW.op rfl rfl (eff_move (v := .own _ _ _ _) rfl rfl rfl) ?_
    refine RW.op rfl rfl (eff_assign (v := .own _ _ _ _) rfl rfl rfl) ?_
    refine RW.nil ?_
    refine awp_ret ?_
    exact ⟨Or.inr rfl, [_], [.own 5 1 0 l.length], ⟨.tmp rfl, trivial⟩, rfl, weak_keep ⟨rfl, rfl, trivial⟩ ⟨rfl, okE_t, rfl, okE_t, trivial⟩, rfl⟩

theorem ownO (l : List Frm) (g n : Nat) (E : List AV) (hn : n = l.length) (hE : E = (l.map encF).map .t) (hl : l.length ≤ 100000) (h0 : 0 < l.length) (hb : ∀ f, f ∈ l → f.body.length ≤ 1000000) :
    RetG Tryd.prog 44 [(0, some ⟨5, 30, g, E⟩)] [.own 0 g 0 n] [(0, some ⟨5, 30, g + 1, E⟩), (5, some ⟨5, 30, 1, (l.map encF).map .t⟩)] (.own 5 1 0 l.length) := by
  subst hn hE; exact ownO_retG l g hl h0 hb
theorem treeEls_app {xs : List Tr} {y : Tr} {k g : Nat} {ty : TypeId} : treeEls ⟨k, ty, g, xs.map .t ++ [.t y]⟩ := by
  intro x hx
  rcases List.mem_append.1 hx with h | h
  · obtain ⟨z, _, rfl⟩ := List.mem_map.1 h; exact ⟨z, rfl⟩
  · rw [List.mem_singleton.1 h]; exact ⟨y, rfl⟩

theorem tsend_ret (t : Twn) (f : Frm) (hs : Srt t.poss) (hp : ∀ y, y ∈ t.poss → HP y) (hl : t.poss.length ≤ 1000) (hsl : t.sent.length ≤ 1000) (hb : ∀ x, x ∈ t.sent → x.body.length ≤ 1000000) (hbf : f.body.length ≤ 1000000) : RetT Tryd.prog 20 [(1, deT)] [encT t, encF f] (.tup [encT (send t f).1, encI (send t f).2]) := by
  refine retT_of_awr Tryd.func20 rfl (Nat.le_of_ble_eq_true rfl) ?_
  intro F0 w0
  refine awj_seq ?_
  refine awj_rj rfl ?_
  refine RJ.new rfl rfl (eff_boxK (v := .t _) (k := 2) (id := 2) rfl rfl rfl rfl rfl rfl) ?_
  refine RJ.new rfl rfl (eff_boxK (v := .t _) (k := 5) (id := 3) rfl rfl rfl rfl rfl rfl) ?_
  refine RJ.new rfl rfl (eff_allocK (k := 2) (id := 4) rfl rfl tz37 rfl rfl) ?_
  refine RJ.op rfl rfl (eff_assign (v := .t _) rfl rfl rfl) ?_
  refine RJ.nil ?_
  refine awj_seq ?_
  refine awj_seq ?_
  refine awj_rj rfl ?_
  refine RJ.op rfl rfl (eff_fieldAddr rfl rfl tf37_0 (by decide) rfl rfl rfl (Nat.le_of_ble_eq_true rfl)) ?_
  refine RJ.op rfl rfl (eff_load (y := .t _) rfl rfl ti34 rfl (.one rfl rfl rfl rfl)) ?_
  refine RJ.op rfl rfl (eff_lenM rfl rfl te34 rfl) ?_
  refine RJ.op rfl rfl (eff_assign (v := .t _) rfl rfl rfl) ?_
  refine RJ.nil ?_
  refine awj_seq ?_
  by_cases hc1 : 0 < t.sent.length
  · refine awj_rd [(some 13, []), (some 14, []), (some 15, []), (some 16, []), (some 17, []), (some 18, []), (some 19, []), (some 20, []), (some 21, []), (some 22, []), (some 23, []), (some 24, []), (some 25, []), (some 26, [])] [[], [0], [0, 1], [0, 1, 2], [0, 1, 2, 3], [0, 1, 2], [0, 1, 2, 5], [0, 1, 2, 3, 4, 5, 6], [0, 1, 2, 3, 4, 5, 6, 7], [0, 1, 2, 3, 4, 5, 6, 7, 8], [0, 1, 2], [0, 1, 2, 10], [0, 1, 2, 3, 4, 5, 6, 7, 8, 9, 10, 11], [0, 1, 2, 3, 4, 5, 6, 7, 8, 9, 10, 11, 12]] tm rfl rfl rfl rfl ?_
    refine RD.op rfl rfl rfl (eff_move (v := .t _) rfl rfl rfl) ?_
    refine RD.op rfl rfl rfl (eff_iop (r := .bool true) rfl rfl rfl rfl (by show some (Tr.bool (decide _)) = _; rw [decide_eq_true (by omega)])) ?_
    refine RD.op rfl rfl rfl (eff_move (v := .t _) rfl rfl rfl) ?_
    refine RD.gop rfl rfl rfl rfl rfl rfl rfl (eff_fieldAddr rfl rfl tf37_0 (by decide) rfl rfl rfl (Nat.le_of_ble_eq_true rfl)) ?_
    refine RD.gop rfl rfl rfl rfl rfl rfl rfl (eff_load (y := .t _) rfl rfl ti34 rfl (.one rfl rfl rfl rfl)) ?_
    refine RD.gop rfl rfl rfl rfl rfl rfl rfl (eff_move (v := .t _) rfl rfl rfl) ?_
    refine RD.gop rfl rfl rfl rfl rfl rfl rfl (eff_iop rfl rfl rfl rfl (isub (by omega))) ?_
    refine RD.gop rfl rfl rfl rfl rfl rfl rfl (eff_indexM (i := t.sent.length - 1) rfl rfl te34 rfl rfl (by first | rfl | omega) (by exact List.getElem?_eq_getElem (by omega)) rfl (by decide)) ?_
    refine RD.gop rfl rfl rfl rfl rfl rfl rfl (eff_fieldAddrT rfl rfl tf30_1 (by decide) rfl) ?_
    refine RD.gop rfl rfl rfl rfl rfl rfl rfl (eff_loadT1 rfl rfl ti3 rfl rfl) ?_
    refine RD.gop rfl rfl rfl rfl rfl rfl rfl (eff_fieldAddr rfl rfl tf30_1 (by decide) rfl rfl rfl (Nat.le_of_ble_eq_true rfl)) ?_
    refine RD.gop rfl rfl rfl rfl rfl rfl rfl (eff_load (y := .t _) rfl rfl ti3 rfl (.one rfl rfl rfl rfl)) ?_
    refine RD.gop rfl rfl rfl rfl rfl rfl rfl (eff_iop rfl rfl rfl rfl rfl) ?_
    refine RD.op rfl rfl rfl (eff_pick (v := .t _) rfl rfl rfl rfl) ?_
    refine RD.nil ?_
    refine awj_cond rfl (fun h2 => ?_) (fun h2 => ?_)
    · try simp only [decide_eq_true_eq, decide_eq_false_iff_not, beq_iff_eq, bne_iff_ne, bne_eq_false_iff_eq, beq_eq_false_iff_ne, Bool.not_eq_true, Bool.not_eq_false, Bool.not_eq_true', Bool.not_eq_false', ne_eq] at h2
      refine awj_seq ?_
      refine awj_rj rfl ?_
      refine RJ.op rfl rfl (eff_buildT (ys := [_, _]) rfl rfl tz37 tg37 rfl) ?_
      refine RJ.store rfl rfl (eff_storeW (v := .t _) (els := [_]) (els' := [_]) rfl rfl ti37 rfl rfl rfl rfl rfl rfl rfl rfl rfl) ?_
      refine RJ.op rfl rfl (eff_assign (v := .t _) rfl rfl rfl) ?_
      refine RJ.nil ?_
      refine awj_ret ?_
      first
        | (rw [send_late (by first | (rw [late_at (by omega)]; exact decide_eq_true (by first | assumption | omega)) | (exfalso; omega))]
           exact ⟨Or.inr rfl, [_, _], ⟨.cell rfl ti37 (.whole rfl rfl rfl rfl rfl rfl) (.t _), .tmp (.t _), trivial⟩, (by repeat' first | exact trivial | exact Wk.refl _ | exact Wk.sl _ | refine And.intro ?_ ?_ | refine Wk.tupP ?_ | refine Wk.aggP ?_)⟩)
        | (rw [send_many (by first | exact late_nil (by omega) | (rw [late_at (by omega)]; exact decide_eq_false (by first | assumption | omega))) (by omega)]
           exact ⟨Or.inr rfl, [_, _], ⟨.cell rfl ti37 (.whole rfl rfl rfl rfl rfl rfl) (.t _), .tmp (.t _), trivial⟩, (by repeat' first | exact trivial | exact Wk.refl _ | exact Wk.sl _ | refine And.intro ?_ ?_ | refine Wk.tupP ?_ | refine Wk.aggP ?_)⟩)
        | (rw [send_ok (by first | exact late_nil (by omega) | (rw [late_at (by omega)]; exact decide_eq_false (by first | assumption | omega))) (by omega)]
           exact ⟨Or.inr rfl, [_, _], ⟨.cell rfl ti37 (.whole rfl rfl rfl rfl rfl rfl) (Res.aggP (xs := [_, _]) ⟨Res.ownT (xs := (t.sent ++ [f]).map encF) rfl rfl rfl (by simp), .t _, trivial⟩), .tmp (.t _), trivial⟩, .refl _⟩)
    · try simp only [decide_eq_true_eq, decide_eq_false_iff_not, beq_iff_eq, bne_iff_ne, bne_eq_false_iff_eq, beq_eq_false_iff_ne, Bool.not_eq_true, Bool.not_eq_false, Bool.not_eq_true', Bool.not_eq_false', ne_eq] at h2
      refine awj_skip ?_
      refine awj_seq ?_
      refine awj_rj rfl ?_
      refine RJ.sMake rfl rfl rfl rfl (fun rO hrO => ?_)
      refine RJ.op rfl rfl (eff_assign (v := .t _) rfl rfl rfl) ?_
      refine RJ.nil ?_
      refine awj_seq ?_
      refine awj_seq ?_
      refine awj_rj rfl ?_
      refine RJ.op rfl rfl (eff_fieldAddr rfl rfl tf37_1 (by decide) rfl rfl rfl (Nat.le_of_ble_eq_true rfl)) ?_
      refine RJ.op rfl rfl (eff_load (y := .t _) rfl rfl ti35 rfl (.one rfl rfl rfl rfl)) ?_
      refine RJ.op rfl rfl (eff_lenM rfl rfl te35 rfl) ?_
      refine RJ.op rfl rfl (eff_move (v := .t _) rfl rfl rfl) ?_
      refine RJ.nil ?_
      refine awj_block ?_
      refine awj_loopW (fun m s g => ∃ (i : Nat), (i ≤ t.poss.length) ∧ (gget g rO = some (mapO KR XU (setL (t.poss.take i)))) ∧ m = t.poss.length - i ∧ s = ⟨56, [(2, .ptr 2 0 0 0), (3, .ptr 3 0 0 0), (4, .ptr 4 0 0 0), (7, .t (.mp rO)), (30, .t (.sl (t.poss.map encR) false)), (31, .t (encI t.poss.length)), (32, .t (encI (i : Nat))), (57, .t deT)], [(2, some ⟨2, 37, 0, [.t (encT t)]⟩), (3, some ⟨5, 30, 0, [.t (encF f)]⟩), (4, some ⟨2, 37, 0, [.t z37]⟩)]⟩) (_) (⟨_, weak_keep (n := 56) (fr' := [(2, .ptr 2 0 0 0), (3, .ptr 3 0 0 0), (4, .ptr 4 0 0 0), (7, .t (.mp rO)), (30, .t (.sl (t.poss.map encR) false)), (31, .t (encI t.poss.length)), (32, .t (encI (0 : Nat))), (57, .t deT)]) (st' := [(2, some ⟨2, 37, 0, [.t (encT t)]⟩), (3, some ⟨5, 30, 0, [.t (encF f)]⟩), (4, some ⟨2, 37, 0, [.t z37]⟩)]) ⟨rfl, rfl, rfl, rfl, rfl, rfl, rfl, rfl, rfl, rfl, rfl, rfl, rfl, rfl, rfl, rfl, trivial⟩ ⟨rfl, okE_one rfl, rfl, okE_one rfl, rfl, okE_one rfl, trivial⟩, 0, (by omega), (by exact gget_same _ _ _), rfl, rfl⟩) ?_
      rintro m s g ⟨i, hi, hgO, rfl, rfl⟩
      refine awj_seq ?_
      refine awj_rj rfl ?_
      refine RJ.op rfl rfl (eff_iop rfl rfl rfl rfl rfl) ?_
      refine RJ.nil ?_
      refine awj_seq ?_
      refine awj_cond rfl (fun h3 => ?_) (fun h3 => ?_)
      · try simp only [decide_eq_true_eq, decide_eq_false_iff_not, beq_iff_eq, bne_iff_ne, bne_eq_false_iff_eq, beq_eq_false_iff_ne, Bool.not_eq_true, Bool.not_eq_false, Bool.not_eq_true', Bool.not_eq_false', ne_eq] at h3
        refine awj_skip ?_
        refine awj_seq ?_
        refine awj_block ?_
        refine awj_seq ?_
        refine awj_rj rfl ?_
        refine RJ.op rfl rfl (eff_indexM rfl rfl te35 rfl rfl rfl (by first | assumption | exact List.getElem?_eq_getElem (by omega)) rfl (by decide)) ?_
        refine RJ.op rfl rfl (eff_loadW rfl rfl ti23 rfl rfl rfl) ?_
        refine RJ.new rfl rfl (eff_allocK (k := 4) (id := 9) rfl rfl tz23 rfl rfl) ?_
        refine RJ.store rfl rfl (eff_storeW (v := .t _) (els := [_]) (els' := [_]) rfl rfl ti23 rfl rfl rfl rfl rfl rfl rfl rfl rfl) ?_
        refine RJ.nil ?_
        refine awj_rj rfl ?_
        refine RJ.op rfl rfl (eff_move (v := .t _) rfl rfl rfl) ?_
        refine RJ.op rfl rfl (eff_load rfl rfl ti23 rfl (.whole rfl rfl rfl rfl rfl rfl)) ?_
        refine RJ.sPut (t.poss[i]'(by omega)) (t.poss.take i) rfl rfl (.inl rfl) Tryd.underlying78 rfl rfl rfl hgO ?_
        refine RJ.nil ?_
        refine awj_rj rfl ?_
        refine RJ.op rfl rfl (eff_iop rfl rfl rfl rfl (iadd (by omega))) ?_
        refine RJ.op rfl rfl (eff_move (v := .t _) rfl rfl rfl) ?_
        refine RJ.nil ?_
        refine ⟨_, ?_, _, weak_keep (n := 56) (fr' := [(2, .ptr 2 0 0 0), (3, .ptr 3 0 0 0), (4, .ptr 4 0 0 0), (7, .t (.mp rO)), (30, .t (.sl (t.poss.map encR) false)), (31, .t (encI t.poss.length)), (32, .t (encI ((i + 1) : Nat))), (57, .t deT)]) (st' := [(2, some ⟨2, 37, 0, [.t (encT t)]⟩), (3, some ⟨5, 30, 0, [.t (encF f)]⟩), (4, some ⟨2, 37, 0, [.t z37]⟩)]) ⟨rfl, rfl, rfl, rfl, rfl, rfl, rfl, rfl, rfl, rfl, rfl, rfl, rfl, rfl, rfl, rfl, trivial⟩ ⟨rfl, okE_one rfl, rfl, okE_one rfl, rfl, okE_one rfl, trivial⟩, i + 1, (by omega), (by rw [gget_same, ins_take (srt_nodup hs) (by omega)]), rfl, rfl⟩
        omega
      · try simp only [decide_eq_true_eq, decide_eq_false_iff_not, beq_iff_eq, bne_iff_ne, bne_eq_false_iff_eq, beq_eq_false_iff_ne, Bool.not_eq_true, Bool.not_eq_false, Bool.not_eq_true', Bool.not_eq_false', ne_eq] at h3
        refine awj_exit ?_
        refine awj_seq ?_
        have hi2 : i = t.poss.length := by omega
        subst hi2
        rw [List.take_length] at hgO
        refine awj_freezeS 7 (l0 := t.poss) t.poss rfl hgO (.refl _) ?_
        have hfl := stepF_len t.poss f
        refine awj_rj rfl ?_
        refine RJ.op rfl rfl (eff_move (v := .t _) rfl rfl rfl) ?_
        refine RJ.op rfl rfl (eff_load rfl rfl ti30 rfl (.whole rfl rfl rfl rfl rfl rfl)) ?_
        refine RJ.op rfl rfl (eff_callXT (spread_ret t.poss f hs hp) co43 rfl rfl rfl ⟨rfl, trivial⟩ rfl) ?_
        refine RJ.op rfl rfl (eff_assign (v := .t _) rfl rfl rfl) ?_
        refine RJ.nil ?_
        refine awj_seq ?_
        refine awj_seq ?_
        refine awj_rj rfl ?_
        refine RJ.op rfl rfl (eff_move (v := .t _) rfl rfl rfl) ?_
        refine RJ.op rfl rfl (eff_lenS rfl rfl Tryd.underlying78 rfl) ?_
        refine RJ.op rfl rfl (eff_iop rfl rfl rfl rfl rfl) ?_
        refine RJ.nil ?_
        refine awj_cond rfl (fun h4 => ?_) (fun h4 => ?_)
        · try simp only [decide_eq_true_eq, decide_eq_false_iff_not, beq_iff_eq, bne_iff_ne, bne_eq_false_iff_eq, beq_eq_false_iff_ne, Bool.not_eq_true, Bool.not_eq_false, Bool.not_eq_true', Bool.not_eq_false', ne_eq] at h4
          refine awj_seq ?_
          refine awj_rj rfl ?_
          refine RJ.op rfl rfl (eff_buildT (ys := [_, _]) rfl rfl tz37 tg37 rfl) ?_
          refine RJ.store rfl rfl (eff_storeW (v := .t _) (els := [_]) (els' := [_]) rfl rfl ti37 rfl rfl rfl rfl rfl rfl rfl rfl rfl) ?_
          refine RJ.op rfl rfl (eff_assign (v := .t _) rfl rfl rfl) ?_
          refine RJ.nil ?_
          refine awj_ret ?_
          first
            | (rw [send_late (by first | (rw [late_at (by omega)]; exact decide_eq_true (by first | assumption | omega)) | (exfalso; omega))]
               exact ⟨Or.inr rfl, [_, _], ⟨.cell rfl ti37 (.whole rfl rfl rfl rfl rfl rfl) (.t _), .tmp (.t _), trivial⟩, (by repeat' first | exact trivial | exact Wk.refl _ | exact Wk.sl _ | refine And.intro ?_ ?_ | refine Wk.tupP ?_ | refine Wk.aggP ?_)⟩)
            | (rw [send_many (by first | exact late_nil (by omega) | (rw [late_at (by omega)]; exact decide_eq_false (by first | assumption | omega))) (by omega)]
               exact ⟨Or.inr rfl, [_, _], ⟨.cell rfl ti37 (.whole rfl rfl rfl rfl rfl rfl) (.t _), .tmp (.t _), trivial⟩, (by repeat' first | exact trivial | exact Wk.refl _ | exact Wk.sl _ | refine And.intro ?_ ?_ | refine Wk.tupP ?_ | refine Wk.aggP ?_)⟩)
            | (rw [send_ok (by first | exact late_nil (by omega) | (rw [late_at (by omega)]; exact decide_eq_false (by first | assumption | omega))) (by omega)]
               exact ⟨Or.inr rfl, [_, _], ⟨.cell rfl ti37 (.whole rfl rfl rfl rfl rfl rfl) (Res.aggP (xs := [_, _]) ⟨Res.ownT (xs := (t.sent ++ [f]).map encF) rfl rfl rfl (by simp), .t _, trivial⟩), .tmp (.t _), trivial⟩, .refl _⟩)
        · try simp only [decide_eq_true_eq, decide_eq_false_iff_not, beq_iff_eq, bne_iff_ne, bne_eq_false_iff_eq, beq_eq_false_iff_ne, Bool.not_eq_true, Bool.not_eq_false, Bool.not_eq_true', Bool.not_eq_false', ne_eq] at h4
          refine awj_skip ?_
          refine awj_seq ?_
          refine awj_rd [(some 46, []), (some 47, []), (some 48, []), (some 49, []), (some 50, [50]), (some 51, [51]), (some 52, [51, 56]), (some 53, []), (some 54, []), (some 55, []), (none, [4]), (some 5, [])] [[], [0], [0, 1], [], [3], [0, 1, 2, 3, 4], [0, 1, 2, 3, 4, 5], [], [0, 1, 2, 3, 4, 5, 6, 7], [0, 1, 2, 3, 4, 5, 6, 7, 8], [0, 1, 2, 3, 4, 5, 6, 7, 8, 9], [0, 1, 2, 3, 4, 5, 6, 7, 8, 9, 10]] tm rfl rfl rfl rfl ?_
          refine RD.op rfl rfl rfl (eff_fieldAddr rfl rfl tf37_0 (by decide) rfl rfl rfl (Nat.le_of_ble_eq_true rfl)) ?_
          refine RD.op rfl rfl rfl (eff_load (y := .t _) rfl rfl ti34 rfl (.one rfl rfl rfl rfl)) ?_
          refine RD.op rfl rfl rfl (eff_callT (clip_ret t.sent) co45 rfl rfl rfl rfl) ?_
          refine RD.op rfl rfl rfl (eff_load rfl rfl ti30 rfl (.whole rfl rfl rfl rfl rfl rfl)) ?_
          refine RD.new rfl rfl rfl (eff_buildSliceL (id := 50) (els := [.t (.agg [_, _, _, _, _])]) rfl rfl te34 tz30 rfl (by decide) (by decide) rfl rfl rfl rfl) ?_
          refine RD.new rfl rfl rfl (eff_appendNew (id := 51) (ys := [_]) rfl rfl ta34 rfl rfl (fun z hz => by obtain ⟨q, _, rfl⟩ := List.mem_map.1 hz; rfl) (srcOwn rfl rfl rfl rfl rfl rfl) (Nat.le_of_ble_eq_true rfl) (by simp; omega) (by simp; omega)) ?_
          refine RD.new2 rfl rfl rfl (eff_callG (ownO (t.sent ++ [f]) 0 _ _ (by simp) (by simp; rfl) (by simp; omega) (by simp) (by intro q hq; rcases List.mem_append.1 hq with h | h; exact hb q h; rw [List.mem_singleton.1 h]; exact hbf)) co44 (fun id => id + 51) rfl rfl rfl ⟨.own _ _ _ _ rfl rfl, trivial⟩ (.own _ _ _ _ rfl rfl) rfl ⟨⟨rfl, treeEls_app, ⟨_, rfl, Nat.lt_succ_self _⟩⟩, trivial⟩ ⟨⟨treeEls_app, .inl rfl⟩, ⟨treeEls_t, .inr rfl⟩, trivial⟩) ?_
          refine RD.op rfl rfl rfl (eff_move (v := .t _) rfl rfl rfl) ?_
          refine RD.op rfl rfl rfl (eff_callT (sorted_ret _ (srt_stepF hs) (by omega)) co46 rfl rfl rfl rfl) ?_
          refine RD.op rfl rfl rfl (eff_buildA (ys := [_, _]) rfl rfl tz37 tg37 rfl rfl) ?_
          refine RD.store rfl rfl rfl (eff_storeW (v := .agg _) (els := [_]) (els' := [_]) rfl rfl ti37 rfl rfl rfl rfl rfl rfl rfl rfl rfl) ?_
          refine RD.op rfl rfl rfl (eff_assign (v := .t _) rfl rfl rfl) ?_
          refine RD.nil ?_
          refine awj_ret ?_
          first
            | (rw [send_late (by first | (rw [late_at (by omega)]; exact decide_eq_true (by first | assumption | omega)) | (exfalso; omega))]
               exact ⟨Or.inr rfl, [_, _], ⟨.cell rfl ti37 (.whole rfl rfl rfl rfl rfl rfl) (.t _), .tmp (.t _), trivial⟩, (by repeat' first | exact trivial | exact Wk.refl _ | exact Wk.sl _ | refine And.intro ?_ ?_ | refine Wk.tupP ?_ | refine Wk.aggP ?_)⟩)
            | (rw [send_many (by first | exact late_nil (by omega) | (rw [late_at (by omega)]; exact decide_eq_false (by first | assumption | omega))) (by omega)]
               exact ⟨Or.inr rfl, [_, _], ⟨.cell rfl ti37 (.whole rfl rfl rfl rfl rfl rfl) (.t _), .tmp (.t _), trivial⟩, (by repeat' first | exact trivial | exact Wk.refl _ | exact Wk.sl _ | refine And.intro ?_ ?_ | refine Wk.tupP ?_ | refine Wk.aggP ?_)⟩)
            | (rw [send_ok (by first | exact late_nil (by omega) | (rw [late_at (by omega)]; exact decide_eq_false (by first | assumption | omega))) (by omega)]
               exact ⟨Or.inr rfl, [_, _], ⟨.cell rfl ti37 (.whole rfl rfl rfl rfl rfl rfl) (Res.aggP (xs := [_, _]) ⟨Res.ownT (xs := (t.sent ++ [f]).map encF) rfl rfl rfl (by simp), .t _, trivial⟩), .tmp (.t _), trivial⟩, .refl _⟩)
  · refine awj_rd [(some 13, []), (some 14, []), (some 15, []), (some 16, []), (some 17, []), (some 18, []), (some 19, []), (some 20, []), (some 21, []), (some 22, []), (some 23, []), (some 24, []), (some 25, []), (some 26, [])] [[], [0], [0, 1], [0, 1, 2], [0, 1, 2, 3], [0, 1, 2], [0, 1, 2, 5], [0, 1, 2, 3, 4, 5, 6], [0, 1, 2, 3, 4, 5, 6, 7], [0, 1, 2, 3, 4, 5, 6, 7, 8], [0, 1, 2], [0, 1, 2, 10], [0, 1, 2, 3, 4, 5, 6, 7, 8, 9, 10, 11], [0, 1, 2, 3, 4, 5, 6, 7, 8, 9, 10, 11, 12]] tm rfl rfl rfl rfl ?_
    refine RD.op rfl rfl rfl (eff_move (v := .t _) rfl rfl rfl) ?_
    refine RD.op rfl rfl rfl (eff_iop (r := .bool false) rfl rfl rfl rfl (by show some (Tr.bool (decide _)) = _; rw [decide_eq_false (by omega)])) ?_
    refine RD.op rfl rfl rfl (eff_move (v := .t _) rfl rfl rfl) ?_
    refine RD.gskip rfl rfl rfl rfl rfl rfl (by decide) ?_
    refine RD.gskip rfl rfl rfl rfl rfl rfl (by decide) ?_
    refine RD.gskip rfl rfl rfl rfl rfl rfl (by decide) ?_
    refine RD.gskip rfl rfl rfl rfl rfl rfl (by decide) ?_
    refine RD.gskip rfl rfl rfl rfl rfl rfl (by decide) ?_
    refine RD.gskip rfl rfl rfl rfl rfl rfl (by decide) ?_
    refine RD.gskip rfl rfl rfl rfl rfl rfl (by decide) ?_
    refine RD.gskip rfl rfl rfl rfl rfl rfl (by decide) ?_
    refine RD.gskip rfl rfl rfl rfl rfl rfl (by decide) ?_
    refine RD.gskip rfl rfl rfl rfl rfl rfl (by decide) ?_
    refine RD.op rfl rfl rfl (eff_pick (v := .t _) rfl rfl rfl rfl) ?_
    refine RD.nil ?_
    refine awj_cond rfl (fun h => nomatch h) (fun _ => ?_)
    refine awj_skip ?_
    refine awj_seq ?_
    refine awj_rj rfl ?_
    refine RJ.sMake rfl rfl rfl rfl (fun rO hrO => ?_)
    refine RJ.op rfl rfl (eff_assign (v := .t _) rfl rfl rfl) ?_
    refine RJ.nil ?_
    refine awj_seq ?_
    refine awj_seq ?_
    refine awj_rj rfl ?_
    refine RJ.op rfl rfl (eff_fieldAddr rfl rfl tf37_1 (by decide) rfl rfl rfl (Nat.le_of_ble_eq_true rfl)) ?_
    refine RJ.op rfl rfl (eff_load (y := .t _) rfl rfl ti35 rfl (.one rfl rfl rfl rfl)) ?_
    refine RJ.op rfl rfl (eff_lenM rfl rfl te35 rfl) ?_
    refine RJ.op rfl rfl (eff_move (v := .t _) rfl rfl rfl) ?_
    refine RJ.nil ?_
    refine awj_block ?_
    refine awj_loopW (fun m s g => ∃ (i : Nat), (i ≤ t.poss.length) ∧ (gget g rO = some (mapO KR XU (setL (t.poss.take i)))) ∧ m = t.poss.length - i ∧ s = ⟨56, [(2, .ptr 2 0 0 0), (3, .ptr 3 0 0 0), (4, .ptr 4 0 0 0), (7, .t (.mp rO)), (30, .t (.sl (t.poss.map encR) false)), (31, .t (encI t.poss.length)), (32, .t (encI (i : Nat))), (57, .t deT)], [(2, some ⟨2, 37, 0, [.t (encT t)]⟩), (3, some ⟨5, 30, 0, [.t (encF f)]⟩), (4, some ⟨2, 37, 0, [.t z37]⟩)]⟩) (_) (⟨_, weak_keep (n := 56) (fr' := [(2, .ptr 2 0 0 0), (3, .ptr 3 0 0 0), (4, .ptr 4 0 0 0), (7, .t (.mp rO)), (30, .t (.sl (t.poss.map encR) false)), (31, .t (encI t.poss.length)), (32, .t (encI (0 : Nat))), (57, .t deT)]) (st' := [(2, some ⟨2, 37, 0, [.t (encT t)]⟩), (3, some ⟨5, 30, 0, [.t (encF f)]⟩), (4, some ⟨2, 37, 0, [.t z37]⟩)]) ⟨rfl, rfl, rfl, rfl, rfl, rfl, rfl, rfl, rfl, rfl, rfl, rfl, rfl, rfl, rfl, rfl, trivial⟩ ⟨rfl, okE_one rfl, rfl, okE_one rfl, rfl, okE_one rfl, trivial⟩, 0, (by omega), (by exact gget_same _ _ _), rfl, rfl⟩) ?_
    rintro m s g ⟨i, hi, hgO, rfl, rfl⟩
    refine awj_seq ?_
    refine awj_rj rfl ?_
    refine RJ.op rfl rfl (eff_iop rfl rfl rfl rfl rfl) ?_
    refine RJ.nil ?_
    refine awj_seq ?_
    refine awj_cond rfl (fun h5 => ?_) (fun h5 => ?_)
    · try simp only [decide_eq_true_eq, decide_eq_false_iff_not, beq_iff_eq, bne_iff_ne, bne_eq_false_iff_eq, beq_eq_false_iff_ne, Bool.not_eq_true, Bool.not_eq_false, Bool.not_eq_true', Bool.not_eq_false', ne_eq] at h5
      refine awj_skip ?_
      refine awj_seq ?_
      refine awj_block ?_
      refine awj_seq ?_
      refine awj_rj rfl ?_
      refine RJ.op rfl rfl (eff_indexM rfl rfl te35 rfl rfl rfl (by first | assumption | exact List.getElem?_eq_getElem (by omega)) rfl (by decide)) ?_
      refine RJ.op rfl rfl (eff_loadW rfl rfl ti23 rfl rfl rfl) ?_
      refine RJ.new rfl rfl (eff_allocK (k := 4) (id := 9) rfl rfl tz23 rfl rfl) ?_
      refine RJ.store rfl rfl (eff_storeW (v := .t _) (els := [_]) (els' := [_]) rfl rfl ti23 rfl rfl rfl rfl rfl rfl rfl rfl rfl) ?_
      refine RJ.nil ?_
      refine awj_rj rfl ?_
      refine RJ.op rfl rfl (eff_move (v := .t _) rfl rfl rfl) ?_
      refine RJ.op rfl rfl (eff_load rfl rfl ti23 rfl (.whole rfl rfl rfl rfl rfl rfl)) ?_
      refine RJ.sPut (t.poss[i]'(by omega)) (t.poss.take i) rfl rfl (.inl rfl) Tryd.underlying78 rfl rfl rfl hgO ?_
      refine RJ.nil ?_
      refine awj_rj rfl ?_
      refine RJ.op rfl rfl (eff_iop rfl rfl rfl rfl (iadd (by omega))) ?_
      refine RJ.op rfl rfl (eff_move (v := .t _) rfl rfl rfl) ?_
      refine RJ.nil ?_
      refine ⟨_, ?_, _, weak_keep (n := 56) (fr' := [(2, .ptr 2 0 0 0), (3, .ptr 3 0 0 0), (4, .ptr 4 0 0 0), (7, .t (.mp rO)), (30, .t (.sl (t.poss.map encR) false)), (31, .t (encI t.poss.length)), (32, .t (encI ((i + 1) : Nat))), (57, .t deT)]) (st' := [(2, some ⟨2, 37, 0, [.t (encT t)]⟩), (3, some ⟨5, 30, 0, [.t (encF f)]⟩), (4, some ⟨2, 37, 0, [.t z37]⟩)]) ⟨rfl, rfl, rfl, rfl, rfl, rfl, rfl, rfl, rfl, rfl, rfl, rfl, rfl, rfl, rfl, rfl, trivial⟩ ⟨rfl, okE_one rfl, rfl, okE_one rfl, rfl, okE_one rfl, trivial⟩, i + 1, (by omega), (by rw [gget_same, ins_take (srt_nodup hs) (by omega)]), rfl, rfl⟩
      omega
    · try simp only [decide_eq_true_eq, decide_eq_false_iff_not, beq_iff_eq, bne_iff_ne, bne_eq_false_iff_eq, beq_eq_false_iff_ne, Bool.not_eq_true, Bool.not_eq_false, Bool.not_eq_true', Bool.not_eq_false', ne_eq] at h5
      refine awj_exit ?_
      refine awj_seq ?_
      have hi2 : i = t.poss.length := by omega
      subst hi2
      rw [List.take_length] at hgO
      refine awj_freezeS 7 (l0 := t.poss) t.poss rfl hgO (.refl _) ?_
      have hfl := stepF_len t.poss f
      refine awj_rj rfl ?_
      refine RJ.op rfl rfl (eff_move (v := .t _) rfl rfl rfl) ?_
      refine RJ.op rfl rfl (eff_load rfl rfl ti30 rfl (.whole rfl rfl rfl rfl rfl rfl)) ?_
      refine RJ.op rfl rfl (eff_callXT (spread_ret t.poss f hs hp) co43 rfl rfl rfl ⟨rfl, trivial⟩ rfl) ?_
      refine RJ.op rfl rfl (eff_assign (v := .t _) rfl rfl rfl) ?_
      refine RJ.nil ?_
      refine awj_seq ?_
      refine awj_seq ?_
      refine awj_rj rfl ?_
      refine RJ.op rfl rfl (eff_move (v := .t _) rfl rfl rfl) ?_
      refine RJ.op rfl rfl (eff_lenS rfl rfl Tryd.underlying78 rfl) ?_
      refine RJ.op rfl rfl (eff_iop rfl rfl rfl rfl rfl) ?_
      refine RJ.nil ?_
      refine awj_cond rfl (fun h6 => ?_) (fun h6 => ?_)
      · try simp only [decide_eq_true_eq, decide_eq_false_iff_not, beq_iff_eq, bne_iff_ne, bne_eq_false_iff_eq, beq_eq_false_iff_ne, Bool.not_eq_true, Bool.not_eq_false, Bool.not_eq_true', Bool.not_eq_false', ne_eq] at h6
        refine awj_seq ?_
        refine awj_rj rfl ?_
        refine RJ.op rfl rfl (eff_buildT (ys := [_, _]) rfl rfl tz37 tg37 rfl) ?_
        refine RJ.store rfl rfl (eff_storeW (v := .t _) (els := [_]) (els' := [_]) rfl rfl ti37 rfl rfl rfl rfl rfl rfl rfl rfl rfl) ?_
        refine RJ.op rfl rfl (eff_assign (v := .t _) rfl rfl rfl) ?_
        refine RJ.nil ?_
        refine awj_ret ?_
        first
          | (rw [send_late (by first | (rw [late_at (by omega)]; exact decide_eq_true (by first | assumption | omega)) | (exfalso; omega))]
             exact ⟨Or.inr rfl, [_, _], ⟨.cell rfl ti37 (.whole rfl rfl rfl rfl rfl rfl) (.t _), .tmp (.t _), trivial⟩, (by repeat' first | exact trivial | exact Wk.refl _ | exact Wk.sl _ | refine And.intro ?_ ?_ | refine Wk.tupP ?_ | refine Wk.aggP ?_)⟩)
          | (rw [send_many (by first | exact late_nil (by omega) | (rw [late_at (by omega)]; exact decide_eq_false (by first | assumption | omega))) (by omega)]
             exact ⟨Or.inr rfl, [_, _], ⟨.cell rfl ti37 (.whole rfl rfl rfl rfl rfl rfl) (.t _), .tmp (.t _), trivial⟩, (by repeat' first | exact trivial | exact Wk.refl _ | exact Wk.sl _ | refine And.intro ?_ ?_ | refine Wk.tupP ?_ | refine Wk.aggP ?_)⟩)
          | (rw [send_ok (by first | exact late_nil (by omega) | (rw [late_at (by omega)]; exact decide_eq_false (by first | assumption | omega))) (by omega)]
             exact ⟨Or.inr rfl, [_, _], ⟨.cell rfl ti37 (.whole rfl rfl rfl rfl rfl rfl) (Res.aggP (xs := [_, _]) ⟨Res.ownT (xs := (t.sent ++ [f]).map encF) rfl rfl rfl (by simp), .t _, trivial⟩), .tmp (.t _), trivial⟩, .refl _⟩)
      · try simp only [decide_eq_true_eq, decide_eq_false_iff_not, beq_iff_eq, bne_iff_ne, bne_eq_false_iff_eq, beq_eq_false_iff_ne, Bool.not_eq_true, Bool.not_eq_false, Bool.not_eq_true', Bool.not_eq_false', ne_eq] at h6
        refine awj_skip ?_
        refine awj_seq ?_
        refine awj_rd [(some 46, []), (some 47, []), (some 48, []), (some 49, []), (some 50, [50]), (some 51, [51]), (some 52, [51, 56]), (some 53, []), (some 54, []), (some 55, []), (none, [4]), (some 5, [])] [[], [0], [0, 1], [], [3], [0, 1, 2, 3, 4], [0, 1, 2, 3, 4, 5], [], [0, 1, 2, 3, 4, 5, 6, 7], [0, 1, 2, 3, 4, 5, 6, 7, 8], [0, 1, 2, 3, 4, 5, 6, 7, 8, 9], [0, 1, 2, 3, 4, 5, 6, 7, 8, 9, 10]] tm rfl rfl rfl rfl ?_
        refine RD.op rfl rfl rfl (eff_fieldAddr rfl rfl tf37_0 (by decide) rfl rfl rfl (Nat.le_of_ble_eq_true rfl)) ?_
        refine RD.op rfl rfl rfl (eff_load (y := .t _) rfl rfl ti34 rfl (.one rfl rfl rfl rfl)) ?_
        refine RD.op rfl rfl rfl (eff_callT (clip_ret t.sent) co45 rfl rfl rfl rfl) ?_
        refine RD.op rfl rfl rfl (eff_load rfl rfl ti30 rfl (.whole rfl rfl rfl rfl rfl rfl)) ?_
        refine RD.new rfl rfl rfl (eff_buildSliceL (id := 50) (els := [.t (.agg [_, _, _, _, _])]) rfl rfl te34 tz30 rfl (by decide) (by decide) rfl rfl rfl rfl) ?_
        refine RD.new rfl rfl rfl (eff_appendNew (id := 51) (ys := [_]) rfl rfl ta34 rfl rfl (fun z hz => by obtain ⟨q, _, rfl⟩ := List.mem_map.1 hz; rfl) (srcOwn rfl rfl rfl rfl rfl rfl) (Nat.le_of_ble_eq_true rfl) (by simp; omega) (by simp; omega)) ?_
        refine RD.new2 rfl rfl rfl (eff_callG (ownO (t.sent ++ [f]) 0 _ _ (by simp) (by simp; rfl) (by simp; omega) (by simp) (by intro q hq; rcases List.mem_append.1 hq with h | h; exact hb q h; rw [List.mem_singleton.1 h]; exact hbf)) co44 (fun id => id + 51) rfl rfl rfl ⟨.own _ _ _ _ rfl rfl, trivial⟩ (.own _ _ _ _ rfl rfl) rfl ⟨⟨rfl, treeEls_app, ⟨_, rfl, Nat.lt_succ_self _⟩⟩, trivial⟩ ⟨⟨treeEls_app, .inl rfl⟩, ⟨treeEls_t, .inr rfl⟩, trivial⟩) ?_
        refine RD.op rfl rfl rfl (eff_move (v := .t _) rfl rfl rfl) ?_
        refine RD.op rfl rfl rfl (eff_callT (sorted_ret _ (srt_stepF hs) (by omega)) co46 rfl rfl rfl rfl) ?_
        refine RD.op rfl rfl rfl (eff_buildA (ys := [_, _]) rfl rfl tz37 tg37 rfl rfl) ?_
        refine RD.store rfl rfl rfl (eff_storeW (v := .agg _) (els := [_]) (els' := [_]) rfl rfl ti37 rfl rfl rfl rfl rfl rfl rfl rfl rfl) ?_
        refine RD.op rfl rfl rfl (eff_assign (v := .t _) rfl rfl rfl) ?_
        refine RD.nil ?_
        refine awj_ret ?_
        first
          | (rw [send_late (by first | (rw [late_at (by omega)]; exact decide_eq_true (by first | assumption | omega)) | (exfalso; omega))]
             exact ⟨Or.inr rfl, [_, _], ⟨.cell rfl ti37 (.whole rfl rfl rfl rfl rfl rfl) (.t _), .tmp (.t _), trivial⟩, (by repeat' first | exact trivial | exact Wk.refl _ | exact Wk.sl _ | refine And.intro ?_ ?_ | refine Wk.tupP ?_ | refine Wk.aggP ?_)⟩)
          | (rw [send_many (by first | exact late_nil (by omega) | (rw [late_at (by omega)]; exact decide_eq_false (by first | assumption | omega))) (by omega)]
             exact ⟨Or.inr rfl, [_, _], ⟨.cell rfl ti37 (.whole rfl rfl rfl rfl rfl rfl) (.t _), .tmp (.t _), trivial⟩, (by repeat' first | exact trivial | exact Wk.refl _ | exact Wk.sl _ | refine And.intro ?_ ?_ | refine Wk.tupP ?_ | refine Wk.aggP ?_)⟩)
          | (rw [send_ok (by first | exact late_nil (by omega) | (rw [late_at (by omega)]; exact decide_eq_false (by first | assumption | omega))) (by omega)]
             exact ⟨Or.inr rfl, [_, _], ⟨.cell rfl ti37 (.whole rfl rfl rfl rfl rfl rfl) (Res.aggP (xs := [_, _]) ⟨Res.ownT (xs := (t.sent ++ [f]).map encF) rfl rfl rfl (by simp), .t _, trivial⟩), .tmp (.t _), trivial⟩, .refl _⟩)

end Go.Tv.C34

end
section
open Go Go.Tv Go.Proofs
namespace Go.Tv.C34
set_option maxRecDepth 20000
set_option maxHeartbeats 2000000
set_option linter.unusedSimpArgs false
set_option linter.unusedVariables false
theorem thear_ret (t : Twn) (r : Rep) (hr : HP r) (hl : t.poss.length ≤ 1000) (hs : t.sent.length ≤ 1000) (hb : ∀ x, x ∈ t.sent → x.body.length ≤ 1000000) : RetT Tryd.prog 22 [(1, deT)] [encT t, encR r] (.tup [encT (hear t r).1, encI (hear t r).2]) := by
  refine retT_of_awp Tryd.func22 rfl (Nat.le_of_ble_eq_true rfl) ?_
  refine awp_seq ?_
  refine awp_rw rfl ?_
  refine RW.new rfl rfl (eff_boxK (v := .t _) (k := 2) (id := 2) rfl rfl rfl rfl rfl rfl) ?_
  refine RW.new rfl rfl (eff_boxK (v := .t _) (k := 4) (id := 3) rfl rfl rfl rfl rfl rfl) ?_
  refine RW.new rfl rfl (eff_allocK (k := 2) (id := 4) rfl rfl tz37 rfl rfl) ?_
  refine RW.op rfl rfl (eff_assign (v := .t _) rfl rfl rfl) ?_
  refine RW.nil ?_
  refine awp_seq ?_
  refine awp_rw rfl ?_
  refine RW.op rfl rfl (eff_assign (v := .t _) rfl rfl rfl) ?_
  refine RW.nil ?_
  show AWP _ _ _ _
  refine awp_weak (weak_adopt (d := 6) (id := 6) (k := 5) (ty := 30) rfl rfl) ?_
  refine awp_seq ?_
  refine awp_seq ?_
  refine awp_rw rfl ?_
  refine RW.op rfl rfl (eff_fieldAddr rfl rfl tf37_0 (by decide) rfl rfl rfl (Nat.le_of_ble_eq_true rfl)) ?_
  refine RW.op rfl rfl (eff_load (y := .t _) rfl rfl ti34 rfl (.one rfl rfl rfl rfl)) ?_
  refine RW.op rfl rfl (eff_lenM rfl rfl te34 rfl) ?_
  refine RW.op rfl rfl (eff_move (v := .t _) rfl rfl rfl) ?_
  refine RW.nil ?_
  refine awp_block ?_
  refine awp_loopW (fun m s => ∃ (i : Nat) (gn : Nat) (n : Nat) (els : List AV), (i ≤ t.sent.length) ∧ (n = (open_ (t.sent.take i) r).length) ∧ (els = ((open_ (t.sent.take i) r).map encF).map .t) ∧ m = t.sent.length - i ∧ s = ⟨57, [(2, .ptr 2 0 0 0), (3, .ptr 3 0 0 0), (4, .ptr 4 0 0 0), (6, .own 6 gn 0 n), (14, .t (.sl (t.sent.map encF) false)), (15, .t (encI t.sent.length)), (16, .t (encI (i : Nat))), (58, .t deT)], [(2, some ⟨2, 37, 0, [.t (encT t)]⟩), (3, some ⟨4, 23, 0, [.t (encR r)]⟩), (4, some ⟨2, 37, 0, [.t z37]⟩), (6, some ⟨5, 30, gn, els⟩)]⟩) (_) (⟨_, weak_keep (n := 57) (fr' := [(2, .ptr 2 0 0 0), (3, .ptr 3 0 0 0), (4, .ptr 4 0 0 0), (6, .own 6 0 0 0), (14, .t (.sl (t.sent.map encF) false)), (15, .t (encI t.sent.length)), (16, .t (encI (0 : Nat))), (58, .t deT)]) (st' := [(2, some ⟨2, 37, 0, [.t (encT t)]⟩), (3, some ⟨4, 23, 0, [.t (encR r)]⟩), (4, some ⟨2, 37, 0, [.t z37]⟩), (6, some ⟨5, 30, 0, ([])⟩)]) ⟨rfl, rfl, rfl, rfl, rfl, rfl, rfl, rfl, rfl, rfl, rfl, rfl, rfl, rfl, rfl, rfl, trivial⟩ ⟨rfl, okE_one rfl, rfl, okE_one rfl, rfl, okE_one rfl, rfl, (by first | exact okE_nil | (rw [he]; exact okE_t) | (rw [he]; intro x hx; simp only [List.mem_append, List.mem_map, List.mem_singleton] at hx; rcases hx with ⟨y, _, rfl⟩ | rfl <;> rfl)), trivial⟩, 0, 0, 0, [], (by omega), (by rfl), (by rfl), rfl, rfl⟩) ?_
  rintro m s ⟨i, gn, n, els, hi, hnn, he, rfl, rfl⟩
  have hol : (open_ (t.sent.take i) r).length ≤ t.sent.length := open_len _ _ _
  refine awp_seq ?_
  refine awp_rw rfl ?_
  refine RW.op rfl rfl (eff_iop rfl rfl rfl rfl rfl) ?_
  refine RW.nil ?_
  refine awp_seq ?_
  refine awp_cond rfl (fun h1 => ?_) (fun h1 => ?_)
  · try simp only [decide_eq_true_eq, decide_eq_false_iff_not, beq_iff_eq, bne_iff_ne, bne_eq_false_iff_eq, beq_eq_false_iff_ne, Bool.not_eq_true, Bool.not_eq_false, Bool.not_eq_true', Bool.not_eq_false', ne_eq] at h1
    refine awp_skip ?_
    refine awp_seq ?_
    refine awp_block ?_
    refine awp_seq ?_
    refine awp_rw rfl ?_
    refine RW.op rfl rfl (eff_indexM rfl rfl te34 rfl rfl rfl (by first | assumption | exact List.getElem?_eq_getElem (by omega)) rfl (by decide)) ?_
    refine RW.op rfl rfl (eff_loadW rfl rfl ti30 rfl rfl rfl) ?_
    refine RW.new rfl rfl (eff_allocK (k := 5) (id := 8) rfl rfl tz30 rfl rfl) ?_
    refine RW.store rfl rfl (eff_storeW (v := .t _) (els := [_]) (els' := [_]) rfl rfl ti30 rfl rfl rfl rfl rfl rfl rfl rfl rfl) ?_
    refine RW.nil ?_
    refine awp_seq ?_
    refine awp_rw rfl ?_
    refine RW.op rfl rfl (eff_fieldAddr rfl rfl tf30_1 (by decide) rfl rfl rfl (Nat.le_of_ble_eq_true rfl)) ?_
    refine RW.op rfl rfl (eff_load (y := .t _) rfl rfl ti3 rfl (.one rfl rfl rfl rfl)) ?_
    refine RW.op rfl rfl (eff_fieldAddr rfl rfl tf23_2 (by decide) rfl rfl rfl (Nat.le_of_ble_eq_true rfl)) ?_
    refine RW.op rfl rfl (eff_load (y := .t _) rfl rfl ti3 rfl (.one rfl rfl rfl rfl)) ?_
    refine RW.op rfl rfl (eff_iop rfl rfl rfl rfl rfl) ?_
    refine RW.nil ?_
    refine awp_cond rfl (fun h2 => ?_) (fun h2 => ?_)
    · try simp only [decide_eq_true_eq, decide_eq_false_iff_not, beq_iff_eq, bne_iff_ne, bne_eq_false_iff_eq, beq_eq_false_iff_ne, Bool.not_eq_true, Bool.not_eq_false, Bool.not_eq_true', Bool.not_eq_false', ne_eq] at h2
      refine awp_rw rfl ?_
      refine RW.op rfl rfl (eff_move (v := .own _ _ _ _) rfl rfl rfl) ?_
      refine RW.op rfl rfl (eff_load rfl rfl ti30 rfl (.whole rfl rfl rfl rfl rfl rfl)) ?_
      refine RW.new rfl rfl (eff_buildSliceL (id := 27) (els := [.t (.agg [_, _, _, _, _])]) rfl rfl te34 tz30 rfl (by decide) (by decide) rfl rfl rfl rfl) ?_
      refine RW.new rfl rfl (eff_append (id := 6) (ys := [_]) rfl rfl ta34 rfl rfl rfl (by rw [he, hnn]; simp) rfl rfl (srcOwn rfl rfl rfl rfl rfl rfl) (by simp) (by simp; omega) (by simp; omega)) ?_
      refine RW.op rfl rfl (eff_assign (v := .own _ _ _ _) rfl rfl rfl) ?_
      refine RW.nil ?_
      refine awp_rw rfl ?_
      refine RW.op rfl rfl (eff_iop rfl rfl rfl rfl (iadd (by omega))) ?_
      refine RW.op rfl rfl (eff_move (v := .t _) rfl rfl rfl) ?_
      refine RW.nil ?_
      have hil : i < t.sent.length := by omega
      first
        | have ho : open_ (t.sent.take (i + 1)) r = (open_ (t.sent.take i) r) ++ [t.sent[i]'hil] := open_take hil (by omega)
        | have ho : open_ (t.sent.take (i + 1)) r = (open_ (t.sent.take i) r) := open_skip hil (by omega)
      refine ⟨_, ?_, _, weak_keep (n := 57) (fr' := [(2, .ptr 2 0 0 0), (3, .ptr 3 0 0 0), (4, .ptr 4 0 0 0), (6, .own 6 _ 0 _), (14, .t (.sl (t.sent.map encF) false)), (15, .t (encI t.sent.length)), (16, .t (encI ((i + 1) : Nat))), (58, .t deT)]) (st' := [(2, some ⟨2, 37, 0, [.t (encT t)]⟩), (3, some ⟨4, 23, 0, [.t (encR r)]⟩), (4, some ⟨2, 37, 0, [.t z37]⟩), (6, some ⟨5, 30, _, _⟩)]) ⟨rfl, rfl, rfl, rfl, rfl, rfl, rfl, rfl, rfl, rfl, rfl, rfl, rfl, rfl, rfl, rfl, trivial⟩ ⟨rfl, okE_one rfl, rfl, okE_one rfl, rfl, okE_one rfl, rfl, (by first | exact okE_nil | (rw [he]; exact okE_t) | (rw [he]; intro x hx; simp only [List.mem_append, List.mem_map, List.mem_singleton] at hx; rcases hx with ⟨y, _, rfl⟩ | rfl <;> rfl)), trivial⟩, i + 1, _, _, _, (by omega), (by rw [ho]; simp [hnn]), (by rw [ho]; simp [he] <;> rfl), rfl, rfl⟩
      omega
    · try simp only [decide_eq_true_eq, decide_eq_false_iff_not, beq_iff_eq, bne_iff_ne, bne_eq_false_iff_eq, beq_eq_false_iff_ne, Bool.not_eq_true, Bool.not_eq_false, Bool.not_eq_true', Bool.not_eq_false', ne_eq] at h2
      refine awp_skip ?_
      refine awp_rw rfl ?_
      refine RW.op rfl rfl (eff_iop rfl rfl rfl rfl (iadd (by omega))) ?_
      refine RW.op rfl rfl (eff_move (v := .t _) rfl rfl rfl) ?_
      refine RW.nil ?_
      have hil : i < t.sent.length := by omega
      first
        | have ho : open_ (t.sent.take (i + 1)) r = (open_ (t.sent.take i) r) ++ [t.sent[i]'hil] := open_take hil (by omega)
        | have ho : open_ (t.sent.take (i + 1)) r = (open_ (t.sent.take i) r) := open_skip hil (by omega)
      refine ⟨_, ?_, _, weak_keep (n := 57) (fr' := [(2, .ptr 2 0 0 0), (3, .ptr 3 0 0 0), (4, .ptr 4 0 0 0), (6, .own 6 _ 0 _), (14, .t (.sl (t.sent.map encF) false)), (15, .t (encI t.sent.length)), (16, .t (encI ((i + 1) : Nat))), (58, .t deT)]) (st' := [(2, some ⟨2, 37, 0, [.t (encT t)]⟩), (3, some ⟨4, 23, 0, [.t (encR r)]⟩), (4, some ⟨2, 37, 0, [.t z37]⟩), (6, some ⟨5, 30, _, _⟩)]) ⟨rfl, rfl, rfl, rfl, rfl, rfl, rfl, rfl, rfl, rfl, rfl, rfl, rfl, rfl, rfl, rfl, trivial⟩ ⟨rfl, okE_one rfl, rfl, okE_one rfl, rfl, okE_one rfl, rfl, (by first | exact okE_nil | (rw [he]; exact okE_t) | (rw [he]; intro x hx; simp only [List.mem_append, List.mem_map, List.mem_singleton] at hx; rcases hx with ⟨y, _, rfl⟩ | rfl <;> rfl)), trivial⟩, i + 1, _, _, _, (by omega), (by rw [ho]; simp [hnn]), (by rw [ho]; simp [he] <;> rfl), rfl, rfl⟩
      omega
  · try simp only [decide_eq_true_eq, decide_eq_false_iff_not, beq_iff_eq, bne_iff_ne, bne_eq_false_iff_eq, beq_eq_false_iff_ne, Bool.not_eq_true, Bool.not_eq_false, Bool.not_eq_true', Bool.not_eq_false', ne_eq] at h1
    refine awp_exit ?_
    refine awp_seq ?_
    have hi2 : i = t.sent.length := by omega
    subst hi2
    rw [List.take_length] at hnn he
    refine awp_weak (weak_frz (n := 57) (fr' := [(2, .ptr 2 0 0 0), (3, .ptr 3 0 0 0), (4, .ptr 4 0 0 0), (6, .t (.sl ((open_ t.sent r).map encF) false)), (58, .t deT)]) (st' := [(2, some ⟨2, 37, 0, [.t (encT t)]⟩), (3, some ⟨4, 23, 0, [.t (encR r)]⟩), (4, some ⟨2, 37, 0, [.t z37]⟩)]) [(6, some ⟨5, 30, gn, els⟩)] ⟨rfl, trivial⟩ ⟨rfl, rfl, rfl, trivial⟩ ⟨wa_eq rfl rfl, wa_eq rfl rfl, wa_eq rfl rfl, .res (Res.ownT (xs := (open_ t.sent r).map encF) rfl rfl he (by rw [hnn]; simp)) (.refl _), wa_eq rfl rfl, trivial⟩ ⟨rfl, okE_one rfl, rfl, okE_one rfl, rfl, okE_one rfl, trivial⟩) ?_
    have hol2 : (open_ t.sent r).length ≤ t.sent.length := List.length_filter_le _ _
    refine awp_rw rfl ?_
    refine RW.op rfl rfl (eff_load rfl rfl ti23 rfl (.whole rfl rfl rfl rfl rfl rfl)) ?_
    refine RW.op rfl rfl (eff_move (v := .t _) rfl rfl rfl) ?_
    refine RW.op rfl rfl (eff_callXT (reach_ret r (open_ t.sent r) hr (by omega)) co48 rfl rfl rfl ⟨rfl, trivial⟩ rfl) ?_
    refine RW.op rfl rfl (eff_assign (v := .t _) rfl rfl rfl) ?_
    refine RW.nil ?_
    refine awp_seq ?_
    refine awp_rw rfl ?_
    refine RW.op rfl rfl (eff_assign (v := .t _) rfl rfl rfl) ?_
    refine RW.nil ?_
    show AWP _ _ _ _
    refine awp_weak (weak_adopt (d := 10) (id := 10) (k := 4) (ty := 23) rfl rfl) ?_
    refine awp_seq ?_
    refine awp_seq ?_
    refine awp_rw rfl ?_
    refine RW.op rfl rfl (eff_fieldAddr rfl rfl tf37_1 (by decide) rfl rfl rfl (Nat.le_of_ble_eq_true rfl)) ?_
    refine RW.op rfl rfl (eff_load (y := .t _) rfl rfl ti35 rfl (.one rfl rfl rfl rfl)) ?_
    refine RW.op rfl rfl (eff_lenM rfl rfl te35 rfl) ?_
    refine RW.op rfl rfl (eff_move (v := .t _) rfl rfl rfl) ?_
    refine RW.nil ?_
    refine awp_block ?_
    refine awp_loopW (fun m s => ∃ (k : Nat) (gm : Nat) (n2 : Nat) (els2 : List AV), (k ≤ t.poss.length) ∧ (n2 = ((t.poss.take k).filter (fun x => decide (x ∈ reachF r (open_ t.sent r)))).length) ∧ (els2 = (((t.poss.take k).filter (fun x => decide (x ∈ reachF r (open_ t.sent r)))).map encR).map .t) ∧ m = t.poss.length - k ∧ s = ⟨57, [(2, .ptr 2 0 0 0), (4, .ptr 4 0 0 0), (9, .t (mset (reachF r (open_ t.sent r)))), (10, .own 10 gm 0 n2), (34, .t (.sl (t.poss.map encR) false)), (35, .t (encI t.poss.length)), (36, .t (encI (k : Nat))), (58, .t deT)], [(2, some ⟨2, 37, 0, [.t (encT t)]⟩), (4, some ⟨2, 37, 0, [.t z37]⟩), (10, some ⟨4, 23, gm, els2⟩)]⟩) (_) (⟨_, weak_keep (n := 57) (fr' := [(2, .ptr 2 0 0 0), (4, .ptr 4 0 0 0), (9, .t (mset (reachF r (open_ t.sent r)))), (10, .own 10 0 0 0), (34, .t (.sl (t.poss.map encR) false)), (35, .t (encI t.poss.length)), (36, .t (encI (0 : Nat))), (58, .t deT)]) (st' := [(2, some ⟨2, 37, 0, [.t (encT t)]⟩), (4, some ⟨2, 37, 0, [.t z37]⟩), (10, some ⟨4, 23, 0, ([])⟩)]) ⟨rfl, rfl, rfl, rfl, rfl, rfl, rfl, rfl, rfl, rfl, rfl, rfl, rfl, rfl, rfl, rfl, trivial⟩ ⟨rfl, okE_one rfl, rfl, okE_one rfl, rfl, (by first | exact okE_nil | (rw [he2]; exact okE_t) | (rw [he2]; intro x hx; simp only [List.mem_append, List.mem_map, List.mem_singleton] at hx; rcases hx with ⟨y, _, rfl⟩ | rfl <;> rfl)), trivial⟩, 0, 0, 0, [], (by omega), (by simp), (by simp), rfl, rfl⟩) ?_
    rintro m s ⟨k, gm, n2, els2, hk, hnn2, he2, rfl, rfl⟩
    have hfl0 : n2 ≤ k := by rw [hnn2]; exact Nat.le_trans (List.length_filter_le _ _) (by simp; omega)
    refine awp_seq ?_
    refine awp_rw rfl ?_
    refine RW.op rfl rfl (eff_iop rfl rfl rfl rfl rfl) ?_
    refine RW.nil ?_
    refine awp_seq ?_
    refine awp_cond rfl (fun h3 => ?_) (fun h3 => ?_)
    · try simp only [decide_eq_true_eq, decide_eq_false_iff_not, beq_iff_eq, bne_iff_ne, bne_eq_false_iff_eq, beq_eq_false_iff_ne, Bool.not_eq_true, Bool.not_eq_false, Bool.not_eq_true', Bool.not_eq_false', ne_eq] at h3
      refine awp_skip ?_
      refine awp_seq ?_
      refine awp_block ?_
      refine awp_seq ?_
      refine awp_rw rfl ?_
      refine RW.op rfl rfl (eff_indexM rfl rfl te35 rfl rfl rfl (by first | assumption | exact List.getElem?_eq_getElem (by omega)) rfl (by decide)) ?_
      refine RW.op rfl rfl (eff_loadW rfl rfl ti23 rfl rfl rfl) ?_
      refine RW.new rfl rfl (eff_allocK (k := 4) (id := 12) rfl rfl tz23 rfl rfl) ?_
      refine RW.store rfl rfl (eff_storeW (v := .t _) (els := [_]) (els' := [_]) rfl rfl ti23 rfl rfl rfl rfl rfl rfl rfl rfl rfl) ?_
      refine RW.nil ?_
      refine awp_seq ?_
      refine awp_rw rfl ?_
      refine RW.op rfl rfl (eff_move (v := .t _) rfl rfl rfl) ?_
      refine RW.op rfl rfl (eff_load rfl rfl ti23 rfl (.whole rfl rfl rfl rfl rfl rfl)) ?_
      refine RW.op rfl rfl (eff_hasS (t.poss[k]'(by omega)) (srt_nodup (srt_reach r _)) Tryd.underlying78 tz4 rfl rfl rfl rfl) ?_
      refine RW.nil ?_
      refine awp_cond rfl (fun h4 => ?_) (fun h4 => ?_)
      · try simp only [decide_eq_true_eq, decide_eq_false_iff_not, beq_iff_eq, bne_iff_ne, bne_eq_false_iff_eq, beq_eq_false_iff_ne, Bool.not_eq_true, Bool.not_eq_false, Bool.not_eq_true', Bool.not_eq_false', ne_eq] at h4
        refine awp_rw rfl ?_
        refine RW.op rfl rfl (eff_move (v := .own _ _ _ _) rfl rfl rfl) ?_
        refine RW.op rfl rfl (eff_load rfl rfl ti23 rfl (.whole rfl rfl rfl rfl rfl rfl)) ?_
        refine RW.new rfl rfl (eff_buildSliceL (id := 45) (els := [.t (.agg [_, _, _, _])]) rfl rfl te35 tz23 rfl (by decide) (by decide) rfl rfl rfl rfl) ?_
        refine RW.new rfl rfl (eff_append (id := 10) (ys := [_]) rfl rfl ta35 rfl rfl rfl (by rw [he2, hnn2]; simp) rfl rfl (srcOwn rfl rfl rfl rfl rfl rfl) (by simp) (by simp; omega) (by simp; omega)) ?_
        refine RW.op rfl rfl (eff_assign (v := .own _ _ _ _) rfl rfl rfl) ?_
        refine RW.nil ?_
        refine awp_rw rfl ?_
        refine RW.op rfl rfl (eff_iop rfl rfl rfl rfl (iadd (by omega))) ?_
        refine RW.op rfl rfl (eff_move (v := .t _) rfl rfl rfl) ?_
        refine RW.nil ?_
        have hft : (t.poss.take (k + 1)).filter (fun x => decide (x ∈ reachF r (open_ t.sent r))) = _ := (left_take (by omega)).trans (congrArg _ (by first | exact if_pos (by assumption) | exact if_neg (by assumption)))
        refine ⟨_, ?_, _, weak_keep (n := 57) (fr' := [(2, .ptr 2 0 0 0), (4, .ptr 4 0 0 0), (9, .t (mset (reachF r (open_ t.sent r)))), (10, .own 10 _ 0 _), (34, .t (.sl (t.poss.map encR) false)), (35, .t (encI t.poss.length)), (36, .t (encI ((k + 1) : Nat))), (58, .t deT)]) (st' := [(2, some ⟨2, 37, 0, [.t (encT t)]⟩), (4, some ⟨2, 37, 0, [.t z37]⟩), (10, some ⟨4, 23, _, _⟩)]) ⟨rfl, rfl, rfl, rfl, rfl, rfl, rfl, rfl, rfl, rfl, rfl, rfl, rfl, rfl, rfl, rfl, trivial⟩ ⟨rfl, okE_one rfl, rfl, okE_one rfl, rfl, (by first | exact okE_nil | (rw [he2]; exact okE_t) | (rw [he2]; intro x hx; simp only [List.mem_append, List.mem_map, List.mem_singleton] at hx; rcases hx with ⟨y, _, rfl⟩ | rfl <;> rfl)), trivial⟩, k + 1, _, _, _, (by omega), (by rw [hft, hnn2]; simp), (by rw [hft, he2]; simp <;> rfl), rfl, rfl⟩
        omega
      · try simp only [decide_eq_true_eq, decide_eq_false_iff_not, beq_iff_eq, bne_iff_ne, bne_eq_false_iff_eq, beq_eq_false_iff_ne, Bool.not_eq_true, Bool.not_eq_false, Bool.not_eq_true', Bool.not_eq_false', ne_eq] at h4
        refine awp_skip ?_
        refine awp_rw rfl ?_
        refine RW.op rfl rfl (eff_iop rfl rfl rfl rfl (iadd (by omega))) ?_
        refine RW.op rfl rfl (eff_move (v := .t _) rfl rfl rfl) ?_
        refine RW.nil ?_
        have hft : (t.poss.take (k + 1)).filter (fun x => decide (x ∈ reachF r (open_ t.sent r))) = _ := (left_take (by omega)).trans (congrArg _ (by first | exact if_pos (by assumption) | exact if_neg (by assumption)))
        refine ⟨_, ?_, _, weak_keep (n := 57) (fr' := [(2, .ptr 2 0 0 0), (4, .ptr 4 0 0 0), (9, .t (mset (reachF r (open_ t.sent r)))), (10, .own 10 _ 0 _), (34, .t (.sl (t.poss.map encR) false)), (35, .t (encI t.poss.length)), (36, .t (encI ((k + 1) : Nat))), (58, .t deT)]) (st' := [(2, some ⟨2, 37, 0, [.t (encT t)]⟩), (4, some ⟨2, 37, 0, [.t z37]⟩), (10, some ⟨4, 23, _, _⟩)]) ⟨rfl, rfl, rfl, rfl, rfl, rfl, rfl, rfl, rfl, rfl, rfl, rfl, rfl, rfl, rfl, rfl, trivial⟩ ⟨rfl, okE_one rfl, rfl, okE_one rfl, rfl, (by first | exact okE_nil | (rw [he2]; exact okE_t) | (rw [he2]; intro x hx; simp only [List.mem_append, List.mem_map, List.mem_singleton] at hx; rcases hx with ⟨y, _, rfl⟩ | rfl <;> rfl)), trivial⟩, k + 1, _, _, _, (by omega), (by rw [hft, hnn2]; simp), (by rw [hft, he2]; simp <;> rfl), rfl, rfl⟩
        omega
    · try simp only [decide_eq_true_eq, decide_eq_false_iff_not, beq_iff_eq, bne_iff_ne, bne_eq_false_iff_eq, beq_eq_false_iff_ne, Bool.not_eq_true, Bool.not_eq_false, Bool.not_eq_true', Bool.not_eq_false', ne_eq] at h3
      refine awp_exit ?_
      refine awp_seq ?_
      refine awp_seq ?_
      refine awp_rw rfl ?_
      refine RW.op rfl rfl (eff_move (v := .own _ _ _ _) rfl rfl rfl) ?_
      refine RW.op rfl rfl (eff_len rfl rfl te35 rfl rfl rfl) ?_
      refine RW.op rfl rfl (eff_iop rfl rfl rfl rfl rfl) ?_
      refine RW.nil ?_
      refine awp_cond rfl (fun h5 => ?_) (fun h5 => ?_)
      · try simp only [decide_eq_true_eq, decide_eq_false_iff_not, beq_iff_eq, bne_iff_ne, bne_eq_false_iff_eq, beq_eq_false_iff_ne, Bool.not_eq_true, Bool.not_eq_false, Bool.not_eq_true', Bool.not_eq_false', ne_eq] at h5
        refine awp_seq ?_
        refine awp_rw rfl ?_
        refine RW.op rfl rfl (eff_buildT (ys := [_, _]) rfl rfl tz37 tg37 rfl) ?_
        refine RW.store rfl rfl (eff_storeW (v := .t _) (els := [_]) (els' := [_]) rfl rfl ti37 rfl rfl rfl rfl rfl rfl rfl rfl rfl) ?_
        refine RW.op rfl rfl (eff_assign (v := .t _) rfl rfl rfl) ?_
        refine RW.nil ?_
        refine awp_ret ?_
        have hk2 : k = t.poss.length := by omega
        subst hk2
        have htl : t.poss.take t.poss.length = t.poss := List.take_length
        have hlf : left_ t r = (t.poss.take t.poss.length).filter (fun x => decide (x ∈ reachF r (open_ t.sent r))) := by rw [htl]; rfl
        first
          | (rw [hear_no (by rw [hlf]; omega)]
             exact ⟨Or.inr rfl, [_, _], ⟨.cell rfl ti37 (.whole rfl rfl rfl rfl rfl rfl) (.t _), .tmp (.t _), trivial⟩, (by repeat' first | exact trivial | exact Wk.refl _ | exact Wk.sl _ | refine And.intro ?_ ?_ | refine Wk.tupP ?_ | refine Wk.aggP ?_)⟩)
          | (rw [hear_ok (by rw [hlf]; omega), hlf]
             exact ⟨Or.inr rfl, [_, _], ⟨.cell rfl ti37 (.whole rfl rfl rfl rfl rfl rfl) (Res.aggP (xs := [_, _]) ⟨.t _, Res.ownT (xs := ((t.poss.take t.poss.length).filter (fun x => decide (x ∈ reachF r (open_ t.sent r)))).map encR) rfl rfl he2 (by rw [hnn2]; simp), trivial⟩), .tmp (.t _), trivial⟩, .refl _⟩)
      · try simp only [decide_eq_true_eq, decide_eq_false_iff_not, beq_iff_eq, bne_iff_ne, bne_eq_false_iff_eq, beq_eq_false_iff_ne, Bool.not_eq_true, Bool.not_eq_false, Bool.not_eq_true', Bool.not_eq_false', ne_eq] at h5
        refine awp_skip ?_
        refine awp_seq ?_
        refine awp_rw rfl ?_
        refine RW.op rfl rfl (eff_fieldAddr rfl rfl tf37_0 (by decide) rfl rfl rfl (Nat.le_of_ble_eq_true rfl)) ?_
        refine RW.op rfl rfl (eff_load (y := .t _) rfl rfl ti34 rfl (.one rfl rfl rfl rfl)) ?_
        refine RW.op rfl rfl (eff_callT (own_ret t.sent (by omega) hb) co44 rfl rfl rfl rfl) ?_
        refine RW.op rfl rfl (eff_move (v := .own _ _ _ _) rfl rfl rfl) ?_
        refine RW.op rfl rfl (eff_buildA (ys := [_, _]) rfl rfl tz37 tg37 rfl rfl) ?_
        refine RW.store rfl rfl (eff_storeW (v := .agg _) (els := [_]) (els' := [_]) rfl rfl ti37 rfl rfl rfl rfl rfl rfl rfl rfl rfl) ?_
        refine RW.op rfl rfl (eff_assign (v := .t _) rfl rfl rfl) ?_
        refine RW.nil ?_
        refine awp_ret ?_
        have hk2 : k = t.poss.length := by omega
        subst hk2
        have htl : t.poss.take t.poss.length = t.poss := List.take_length
        have hlf : left_ t r = (t.poss.take t.poss.length).filter (fun x => decide (x ∈ reachF r (open_ t.sent r))) := by rw [htl]; rfl
        first
          | (rw [hear_no (by rw [hlf]; omega)]
             exact ⟨Or.inr rfl, [_, _], ⟨.cell rfl ti37 (.whole rfl rfl rfl rfl rfl rfl) (.t _), .tmp (.t _), trivial⟩, (by repeat' first | exact trivial | exact Wk.refl _ | exact Wk.sl _ | refine And.intro ?_ ?_ | refine Wk.tupP ?_ | refine Wk.aggP ?_)⟩)
          | (rw [hear_ok (by rw [hlf]; omega), hlf]
             exact ⟨Or.inr rfl, [_, _], ⟨.cell rfl ti37 (.whole rfl rfl rfl rfl rfl rfl) (Res.aggP (xs := [_, _]) ⟨.t _, Res.ownT (xs := ((t.poss.take t.poss.length).filter (fun x => decide (x ∈ reachF r (open_ t.sent r)))).map encR) rfl rfl he2 (by rw [hnn2]; simp), trivial⟩), .tmp (.t _), trivial⟩, .refl _⟩)

end Go.Tv.C34

end
section
open Go Go.Tv Go.Proofs
namespace Go.Tv.C34

def frm (x : Int) (i : Nat) (key : Int) : Frm :=
  if around x 1000000 / 7 % 12 = 0 then ⟨imax 0 ((i : Int) - 3) + around x 1000000 % 7, key, true, [], 0⟩
  else if around x 1000000 / 7 % 12 = 1 then ⟨around x 1000000 / 84 % 300, key, false, [], 0⟩
  else ⟨imax 0 ((i : Int) - 3) + around x 1000000 % 7, key, false, [], 0⟩
def nxt (x key : Int) : Int := key + 1 + around x 1000000 / 84 % 40 / 39 * 5000
def keyAt (l : List Int) : Nat → Int
  | 0 => 0
  | j + 1 => nxt (l.getD j 0) (keyAt l j)
def frameAt (l : List Int) (j : Nat) : Frm := frm (l.getD j 0) j (keyAt l j)
def frames (l : List Int) (m : Nat) : List Frm := (List.range (min l.length m)).map (frameAt l)

theorem range_succ {α : Type} (f : Nat → α) (i : Nat) : (List.range (i + 1)).map f = (List.range i).map f ++ [f i] := by rw [List.range_succ, List.map_append]; rfl
theorem getD_get {l : List Int} {i : Nat} (h : i < l.length) : l.getD i 0 = l[i] := by simp [List.getD_eq_getElem?_getD, h]
theorem nxt_range (x key : Int) : key < nxt x key ∧ nxt x key ≤ key + 5001 := by
  unfold nxt
  have := around_range (n := x) (m := 1000000) (by decide)
  omega
theorem keyAt_range (l : List Int) : ∀ j : Nat, 0 ≤ keyAt l j ∧ keyAt l j ≤ 5001 * j
  | 0 => by simp [keyAt]
  | j + 1 => by
    have h1 := keyAt_range l j
    have h2 := nxt_range (l.getD j 0) (keyAt l j)
    show 0 ≤ nxt _ _ ∧ nxt _ _ ≤ _
    omega
theorem keyAt_mono (l : List Int) : ∀ {i j : Nat}, i < j → keyAt l i < keyAt l j
  | i, j + 1, h => by
    have h2 := nxt_range (l.getD j 0) (keyAt l j)
    rcases Nat.lt_or_ge i j with h1 | h1
    · have := keyAt_mono l h1
      show _ < nxt _ _
      omega
    · obtain rfl : i = j := by omega
      exact h2.1
theorem frame_key (l : List Int) (j : Nat) : (frameAt l j).key = keyAt l j := by
  unfold frameAt frm; split
  · rfl
  · split <;> rfl
theorem frame_body (l : List Int) (j : Nat) : (frameAt l j).body = [] := by
  unfold frameAt frm; split
  · rfl
  · split <;> rfl
theorem frames_len (l : List Int) (m : Nat) : (frames l m).length = min l.length m := by simp [frames]
theorem frames_mem {l : List Int} {m : Nat} {f : Frm} (h : f ∈ frames l m) : ∃ j, j < min l.length m ∧ f = frameAt l j := by
  unfold frames at h
  obtain ⟨j, hj, rfl⟩ := List.mem_map.1 h
  exact ⟨j, List.mem_range.1 hj, rfl⟩
theorem quoN {n d : Int} (h : 0 ≤ n ∧ n ≤ 4000000000000000000) (hd : 0 < d) : IntKind.i64.wrap (n.tdiv d) = n / d := by
  rw [Int.tdiv_eq_ediv_of_nonneg h.1]
  have h1 := Int.ediv_nonneg h.1 (Int.le_of_lt hd)
  have h2 := Int.ediv_le_self d h.1
  rw [wi64]; omega
theorem frm_0 {x key : Int} {i : Nat} (h : around x 1000000 / 7 % 12 = 0) : frm x i key = ⟨imax 0 ((i : Int) - 3) + around x 1000000 % 7, key, true, [], 0⟩ := by unfold frm; rw [if_pos h]
theorem frm_1 {x key : Int} {i : Nat} (h : ¬ around x 1000000 / 7 % 12 = 0) (h2 : around x 1000000 / 7 % 12 = 1) : frm x i key = ⟨around x 1000000 / 84 % 300, key, false, [], 0⟩ := by unfold frm; rw [if_neg h, if_pos h2]
theorem frm_2 {x key : Int} {i : Nat} (h : ¬ around x 1000000 / 7 % 12 = 0) (h2 : ¬ around x 1000000 / 7 % 12 = 1) : frm x i key = ⟨imax 0 ((i : Int) - 3) + around x 1000000 % 7, key, false, [], 0⟩ := by unfold frm; rw [if_neg h, if_neg h2]
end Go.Tv.C34

end
section
open Go Go.Tv Go.Proofs
namespace Go.Tv.C34
set_option maxRecDepth 20000
set_option maxHeartbeats 2000000
set_option linter.unusedSimpArgs false
set_option linter.unusedVariables false
theorem frames_ret (l : List Int) (mo : Nat) (hI : ∀ x, x ∈ l → I64 x) (hl : l.length ≤ 9223372036854775807) (hm : mo ≤ 20) : Ret Tryd.prog 19 [.sl (l.map encI) false, encI (mo : Nat)] (.sl ((frames l mo).map encF) false) := by
  refine ret_of_awp Tryd.func19 rfl (Nat.le_of_ble_eq_true rfl) ?_
  refine awp_seq ?_
  refine awp_rw rfl ?_
  refine RW.op rfl rfl (eff_assign (v := .t _) rfl rfl rfl) ?_
  refine RW.nil ?_
  refine awp_seq ?_
  refine awp_rw rfl ?_
  refine RW.op rfl rfl (eff_assign (v := .t _) rfl rfl rfl) ?_
  refine RW.nil ?_
  show AWP _ _ _ _
  refine awp_weak (weak_adopt (d := 5) (id := 5) (k := 5) (ty := 30) rfl rfl) ?_
  refine awp_seq ?_
  refine awp_rw rfl ?_
  refine RW.op rfl rfl (eff_assign (v := .t _) rfl rfl rfl) ?_
  refine RW.nil ?_
  refine awp_seq ?_
  refine awp_seq ?_
  refine awp_rw rfl ?_
  refine RW.op rfl rfl (eff_assign (v := .t _) rfl rfl rfl) ?_
  refine RW.nil ?_
  refine awp_block ?_
  refine awp_loopW (fun m s => ∃ (i : Nat) (gn : Nat) (n : Nat) (key : Int) (els : List AV), (i ≤ l.length) ∧ (i ≤ mo) ∧ (n = i) ∧ (key = keyAt l i) ∧ (els = (((List.range i).map (frameAt l)).map encF).map .t) ∧ m = l.length - i ∧ s = ⟨59, [(0, .t (.sl (l.map encI) false)), (1, .t (encI (mo : Nat))), (5, .own 5 gn 0 n), (6, .t (encI key)), (7, .t (encI (i : Nat)))], [(5, some ⟨5, 30, gn, els⟩)]⟩) (_) (⟨_, weak_keep (n := 59) (fr' := [(0, .t (.sl (l.map encI) false)), (1, .t (encI (mo : Nat))), (5, .own 5 0 0 0), (6, .t (encI 0)), (7, .t (encI (0 : Nat)))]) (st' := [(5, some ⟨5, 30, 0, ([])⟩)]) ⟨rfl, rfl, rfl, rfl, rfl, rfl, rfl, rfl, rfl, rfl, trivial⟩ ⟨rfl, (by first | exact okE_nil | (rw [he]; exact okE_t) | (rw [he]; intro x hx; simp only [List.mem_append, List.mem_map, List.mem_singleton] at hx; rcases hx with ⟨y, _, rfl⟩ | rfl <;> rfl)), trivial⟩, 0, 0, 0, 0, [], (by omega), (by omega), (by rfl), (by rfl), (by rfl), rfl, rfl⟩) ?_
  rintro m s ⟨i, gn, n, key, els, hi, him, hnn, hky, he, rfl, rfl⟩
  have hkr := keyAt_range l i
  rw [← hky] at hkr
  refine awp_seq ?_
  refine awp_seq ?_
  refine awp_rw rfl ?_
  refine RW.op rfl rfl (eff_move (v := .t _) rfl rfl rfl) ?_
  refine RW.op rfl rfl (eff_move (v := .t _) rfl rfl rfl) ?_
  refine RW.op rfl rfl (eff_lenM rfl rfl te26 rfl) ?_
  refine RW.op rfl rfl (eff_iop rfl rfl rfl rfl rfl) ?_
  refine RW.op rfl rfl (eff_move (v := .t _) rfl rfl rfl) ?_
  refine RW.split 14 rfl (fun h1 => ?_) (fun h1 => ?_)
  · try simp only [decide_eq_true_eq, decide_eq_false_iff_not, beq_iff_eq, bne_iff_ne, bne_eq_false_iff_eq, beq_eq_false_iff_ne, Bool.not_eq_true, Bool.not_eq_false, Bool.not_eq_true', Bool.not_eq_false', ne_eq] at h1
    refine RW.gop rfl rfl rfl rfl rfl rfl (eff_move (v := .t _) rfl rfl rfl) ?_
    refine RW.gop rfl rfl rfl rfl rfl rfl (eff_move (v := .t _) rfl rfl rfl) ?_
    refine RW.gop rfl rfl rfl rfl rfl rfl (eff_iop rfl rfl rfl rfl rfl) ?_
    refine RW.op rfl rfl (eff_pick (v := .t _) rfl rfl rfl rfl) ?_
    refine RW.nil ?_
    refine awp_cond rfl (fun h2 => ?_) (fun h2 => ?_)
    · try simp only [decide_eq_true_eq, decide_eq_false_iff_not, beq_iff_eq, bne_iff_ne, bne_eq_false_iff_eq, beq_eq_false_iff_ne, Bool.not_eq_true, Bool.not_eq_false, Bool.not_eq_true', Bool.not_eq_false', ne_eq] at h2
      refine awp_skip ?_
      refine awp_seq ?_
      refine awp_block ?_
      refine awp_seq ?_
      refine awp_rw rfl ?_
      have hil : i < l.length := by omega
      refine RW.op rfl rfl (eff_move (v := .t _) rfl rfl rfl) ?_
      refine RW.op rfl rfl (eff_move (v := .t _) rfl rfl rfl) ?_
      refine RW.op rfl rfl (eff_indexM rfl rfl te26 rfl rfl rfl (by first | assumption | exact List.getElem?_eq_getElem (by omega)) rfl (by decide)) ?_
      refine RW.op rfl rfl (eff_loadW1 rfl rfl ti3 rfl rfl) ?_
      refine RW.op rfl rfl (eff_callT (around_ret _ _ (hI _ (List.getElem_mem _)) (by omega)) co13 rfl rfl rfl rfl) ?_
      refine RW.op rfl rfl (eff_assign (v := .t _) rfl rfl rfl) ?_
      refine RW.nil ?_
      refine awp_seq ?_
      refine awp_rw rfl ?_
      have har := around_range (n := l[i]'hil) (m := 1000000) (by decide)
      have him2 : 0 ≤ imax 0 ((i : Int) - 3) ∧ imax 0 ((i : Int) - 3) ≤ 20 := by unfold imax; split <;> omega
      refine RW.op rfl rfl (eff_move (v := .t _) rfl rfl rfl) ?_
      refine RW.op rfl rfl (eff_move (v := .t _) rfl rfl rfl) ?_
      refine RW.op rfl rfl (eff_iop rfl rfl rfl rfl (isub (by omega))) ?_
      refine RW.op rfl rfl (eff_max rfl rfl rfl rfl) ?_
      refine RW.op rfl rfl (eff_move (v := .t _) rfl rfl rfl) ?_
      refine RW.op rfl rfl (eff_remE (r := (around (l[i]'hil) 1000000) % 7) rfl rfl rfl rfl (by decide) (tmod_pos (by omega))) ?_
      refine RW.op rfl rfl (eff_iop rfl rfl rfl rfl (iadd (by omega))) ?_
      refine RW.op rfl rfl (eff_buildT (ys := [_, _, _, _, _]) rfl rfl tz30 tg30 rfl) ?_
      refine RW.new rfl rfl (eff_allocK (k := 5) (id := 9) rfl rfl tz30 rfl rfl) ?_
      refine RW.store rfl rfl (eff_storeW (v := .t _) (els := [_]) (els' := [_]) rfl rfl ti30 rfl rfl rfl rfl rfl rfl rfl rfl rfl) ?_
      refine RW.nil ?_
      refine awp_seq ?_
      refine awp_seq ?_
      refine awp_rw rfl ?_
      refine RW.op rfl rfl (eff_move (v := .t _) rfl rfl rfl) ?_
      refine RW.op rfl rfl (eff_quoE (r := (around (l[i]'hil) 1000000) / 7) rfl rfl rfl rfl (by decide) (quoN (by omega) (by decide))) ?_
      refine RW.op rfl rfl (eff_remE (r := ((around (l[i]'hil) 1000000) / 7) % 12) rfl rfl rfl rfl (by decide) (tmod_pos (by omega))) ?_
      refine RW.nil ?_
      refine awp_block ?_
      refine awp_seq ?_
      refine awp_rw rfl ?_
      refine RW.op rfl rfl (eff_iop rfl rfl rfl rfl rfl) ?_
      refine RW.op rfl rfl (eff_assign (v := .t _) rfl rfl rfl) ?_
      refine RW.nil ?_
      refine awp_cond rfl (fun h3 => ?_) (fun h3 => ?_)
      · try simp only [decide_eq_true_eq, decide_eq_false_iff_not, beq_iff_eq, bne_iff_ne, bne_eq_false_iff_eq, beq_eq_false_iff_ne, Bool.not_eq_true, Bool.not_eq_false, Bool.not_eq_true', Bool.not_eq_false', ne_eq] at h3
        refine awp_rw rfl ?_
        refine RW.op rfl rfl (eff_fieldAddr rfl rfl tf30_2 (by decide) rfl rfl rfl (Nat.le_of_ble_eq_true rfl)) ?_
        refine RW.store rfl rfl (eff_storeS (v := .t _) (ys := [_, _, _, _, _]) (els := [_]) (els' := [_]) rfl rfl ti4 rfl rfl rfl rfl rfl rfl rfl (Nat.le_of_ble_eq_true rfl) rfl rfl) ?_
        refine RW.nil ?_
        refine awp_seq ?_
        refine awp_rw rfl ?_
        refine RW.op rfl rfl (eff_move (v := .own _ _ _ _) rfl rfl rfl) ?_
        refine RW.op rfl rfl (eff_load rfl rfl ti30 rfl (.whole rfl rfl rfl rfl rfl rfl)) ?_
        first
          | (have hfr : frameAt l i = ⟨imax 0 ((i : Int) - 3) + (around (l[i]'hil) 1000000) % 7, key, true, [], 0⟩ := by unfold frameAt; rw [getD_get hil, ← hky]; exact frm_0 (by omega)
             refine RW.weak (weak_slot 47 (y := encF ⟨imax 0 ((i : Int) - 3) + (around (l[i]'hil) 1000000) % 7, key, true, [], 0⟩) rfl (by repeat' first | exact trivial | exact Wk.refl _ | exact Wk.sl _ | refine And.intro ?_ ?_ | refine Wk.tupP ?_ | refine Wk.aggP ?_)) rfl ?_)
          | (have hfr : frameAt l i = ⟨(around (l[i]'hil) 1000000) / 84 % 300, key, false, [], 0⟩ := by unfold frameAt; rw [getD_get hil, ← hky]; exact frm_1 (by omega) (by omega)
             refine RW.weak (weak_slot 47 (y := encF ⟨(around (l[i]'hil) 1000000) / 84 % 300, key, false, [], 0⟩) rfl (by repeat' first | exact trivial | exact Wk.refl _ | exact Wk.sl _ | refine And.intro ?_ ?_ | refine Wk.tupP ?_ | refine Wk.aggP ?_)) rfl ?_)
          | (have hfr : frameAt l i = ⟨imax 0 ((i : Int) - 3) + (around (l[i]'hil) 1000000) % 7, key, false, [], 0⟩ := by unfold frameAt; rw [getD_get hil, ← hky]; exact frm_2 (by omega) (by omega)
             refine RW.weak (weak_slot 47 (y := encF ⟨imax 0 ((i : Int) - 3) + (around (l[i]'hil) 1000000) % 7, key, false, [], 0⟩) rfl (by repeat' first | exact trivial | exact Wk.refl _ | exact Wk.sl _ | refine And.intro ?_ ?_ | refine Wk.tupP ?_ | refine Wk.aggP ?_)) rfl ?_)
        refine RW.new rfl rfl (eff_buildSliceL (id := 48) (els := [.t (.agg [_, _, _, _, _])]) rfl rfl te34 tz30 rfl (by decide) (by decide) rfl rfl rfl rfl) ?_
        refine RW.new rfl rfl (eff_append (id := 5) (ys := [_]) rfl rfl ta34 rfl rfl rfl (by rw [he, hnn]; simp) rfl rfl (srcOwn rfl rfl rfl rfl rfl rfl) (by simp) (by simp; omega) (by simp; omega)) ?_
        refine RW.op rfl rfl (eff_assign (v := .own _ _ _ _) rfl rfl rfl) ?_
        refine RW.nil ?_
        refine awp_rw rfl ?_
        refine RW.op rfl rfl (eff_move (v := .t _) rfl rfl rfl) ?_
        refine RW.op rfl rfl (eff_iop rfl rfl rfl rfl (iadd (by omega))) ?_
        refine RW.op rfl rfl (eff_move (v := .t _) rfl rfl rfl) ?_
        refine RW.op rfl rfl (eff_quoE (r := (around (l[i]'hil) 1000000) / 84) rfl rfl rfl rfl (by decide) (quoN (by omega) (by decide))) ?_
        refine RW.op rfl rfl (eff_remE (r := ((around (l[i]'hil) 1000000) / 84) % 40) rfl rfl rfl rfl (by decide) (tmod_pos (by omega))) ?_
        refine RW.op rfl rfl (eff_quoE (r := ((around (l[i]'hil) 1000000) / 84 % 40) / 39) rfl rfl rfl rfl (by decide) (quoN (by omega) (by decide))) ?_
        refine RW.op rfl rfl (eff_iop rfl rfl rfl rfl (imul (by omega))) ?_
        refine RW.op rfl rfl (eff_iop rfl rfl rfl rfl (iadd (by omega))) ?_
        refine RW.op rfl rfl (eff_assign (v := .t _) rfl rfl rfl) ?_
        refine RW.nil ?_
        refine awp_rw rfl ?_
        refine RW.op rfl rfl (eff_move (v := .t _) rfl rfl rfl) ?_
        refine RW.op rfl rfl (eff_iop rfl rfl rfl rfl (iadd (by omega))) ?_
        refine RW.op rfl rfl (eff_assign (v := .t _) rfl rfl rfl) ?_
        refine RW.nil ?_
        have hkn : keyAt l (i + 1) = key + 1 + (around (l[i]'hil) 1000000) / 84 % 40 / 39 * 5000 := by show nxt _ _ = _; rw [getD_get hil, ← hky]; rfl
        refine ⟨_, ?_, _, weak_keep (n := 59) (fr' := [(0, .t (.sl (l.map encI) false)), (1, .t (encI (mo : Nat))), (5, .own 5 _ 0 _), (6, .t (encI _)), (7, .t (encI ((i + 1) : Nat)))]) (st' := [(5, some ⟨5, 30, _, _⟩)]) ⟨rfl, rfl, rfl, rfl, rfl, rfl, rfl, rfl, rfl, rfl, trivial⟩ ⟨rfl, (by first | exact okE_nil | (rw [he]; exact okE_t) | (rw [he]; intro x hx; simp only [List.mem_append, List.mem_map, List.mem_singleton] at hx; rcases hx with ⟨y, _, rfl⟩ | rfl <;> rfl)), trivial⟩, i + 1, _, _, _, _, (by omega), (by omega), (by rw [hnn]; simp), (by exact hkn.symm), (by rw [range_succ, he]; simp only [List.map_append, List.map_cons, List.map_nil]; rw [hfr]; rfl), rfl, rfl⟩
        omega
      · try simp only [decide_eq_true_eq, decide_eq_false_iff_not, beq_iff_eq, bne_iff_ne, bne_eq_false_iff_eq, beq_eq_false_iff_ne, Bool.not_eq_true, Bool.not_eq_false, Bool.not_eq_true', Bool.not_eq_false', ne_eq] at h3
        refine awp_seq ?_
        refine awp_rw rfl ?_
        refine RW.op rfl rfl (eff_iop rfl rfl rfl rfl rfl) ?_
        refine RW.op rfl rfl (eff_assign (v := .t _) rfl rfl rfl) ?_
        refine RW.nil ?_
        refine awp_cond rfl (fun h4 => ?_) (fun h4 => ?_)
        · try simp only [decide_eq_true_eq, decide_eq_false_iff_not, beq_iff_eq, bne_iff_ne, bne_eq_false_iff_eq, beq_eq_false_iff_ne, Bool.not_eq_true, Bool.not_eq_false, Bool.not_eq_true', Bool.not_eq_false', ne_eq] at h4
          refine awp_rw rfl ?_
          refine RW.op rfl rfl (eff_move (v := .t _) rfl rfl rfl) ?_
          refine RW.op rfl rfl (eff_quoE (r := (around (l[i]'hil) 1000000) / 84) rfl rfl rfl rfl (by decide) (quoN (by omega) (by decide))) ?_
          refine RW.op rfl rfl (eff_remE (r := ((around (l[i]'hil) 1000000) / 84) % 300) rfl rfl rfl rfl (by decide) (tmod_pos (by omega))) ?_
          refine RW.op rfl rfl (eff_fieldAddr rfl rfl tf30_0 (by decide) rfl rfl rfl (Nat.le_of_ble_eq_true rfl)) ?_
          refine RW.store rfl rfl (eff_storeS (v := .t _) (ys := [_, _, _, _, _]) (els := [_]) (els' := [_]) rfl rfl ti3 rfl rfl rfl rfl rfl rfl rfl (Nat.le_of_ble_eq_true rfl) rfl rfl) ?_
          refine RW.nil ?_
          refine awp_seq ?_
          refine awp_rw rfl ?_
          refine RW.op rfl rfl (eff_move (v := .own _ _ _ _) rfl rfl rfl) ?_
          refine RW.op rfl rfl (eff_load rfl rfl ti30 rfl (.whole rfl rfl rfl rfl rfl rfl)) ?_
          first
            | (have hfr : frameAt l i = ⟨imax 0 ((i : Int) - 3) + (around (l[i]'hil) 1000000) % 7, key, true, [], 0⟩ := by unfold frameAt; rw [getD_get hil, ← hky]; exact frm_0 (by omega)
               refine RW.weak (weak_slot 47 (y := encF ⟨imax 0 ((i : Int) - 3) + (around (l[i]'hil) 1000000) % 7, key, true, [], 0⟩) rfl (by repeat' first | exact trivial | exact Wk.refl _ | exact Wk.sl _ | refine And.intro ?_ ?_ | refine Wk.tupP ?_ | refine Wk.aggP ?_)) rfl ?_)
            | (have hfr : frameAt l i = ⟨(around (l[i]'hil) 1000000) / 84 % 300, key, false, [], 0⟩ := by unfold frameAt; rw [getD_get hil, ← hky]; exact frm_1 (by omega) (by omega)
               refine RW.weak (weak_slot 47 (y := encF ⟨(around (l[i]'hil) 1000000) / 84 % 300, key, false, [], 0⟩) rfl (by repeat' first | exact trivial | exact Wk.refl _ | exact Wk.sl _ | refine And.intro ?_ ?_ | refine Wk.tupP ?_ | refine Wk.aggP ?_)) rfl ?_)
            | (have hfr : frameAt l i = ⟨imax 0 ((i : Int) - 3) + (around (l[i]'hil) 1000000) % 7, key, false, [], 0⟩ := by unfold frameAt; rw [getD_get hil, ← hky]; exact frm_2 (by omega) (by omega)
               refine RW.weak (weak_slot 47 (y := encF ⟨imax 0 ((i : Int) - 3) + (around (l[i]'hil) 1000000) % 7, key, false, [], 0⟩) rfl (by repeat' first | exact trivial | exact Wk.refl _ | exact Wk.sl _ | refine And.intro ?_ ?_ | refine Wk.tupP ?_ | refine Wk.aggP ?_)) rfl ?_)
          refine RW.new rfl rfl (eff_buildSliceL (id := 48) (els := [.t (.agg [_, _, _, _, _])]) rfl rfl te34 tz30 rfl (by decide) (by decide) rfl rfl rfl rfl) ?_
          refine RW.new rfl rfl (eff_append (id := 5) (ys := [_]) rfl rfl ta34 rfl rfl rfl (by rw [he, hnn]; simp) rfl rfl (srcOwn rfl rfl rfl rfl rfl rfl) (by simp) (by simp; omega) (by simp; omega)) ?_
          refine RW.op rfl rfl (eff_assign (v := .own _ _ _ _) rfl rfl rfl) ?_
          refine RW.nil ?_
          refine awp_rw rfl ?_
          refine RW.op rfl rfl (eff_move (v := .t _) rfl rfl rfl) ?_
          refine RW.op rfl rfl (eff_iop rfl rfl rfl rfl (iadd (by omega))) ?_
          refine RW.op rfl rfl (eff_move (v := .t _) rfl rfl rfl) ?_
          refine RW.op rfl rfl (eff_quoE (r := (around (l[i]'hil) 1000000) / 84) rfl rfl rfl rfl (by decide) (quoN (by omega) (by decide))) ?_
          refine RW.op rfl rfl (eff_remE (r := ((around (l[i]'hil) 1000000) / 84) % 40) rfl rfl rfl rfl (by decide) (tmod_pos (by omega))) ?_
          refine RW.op rfl rfl (eff_quoE (r := ((around (l[i]'hil) 1000000) / 84 % 40) / 39) rfl rfl rfl rfl (by decide) (quoN (by omega) (by decide))) ?_
          refine RW.op rfl rfl (eff_iop rfl rfl rfl rfl (imul (by omega))) ?_
          refine RW.op rfl rfl (eff_iop rfl rfl rfl rfl (iadd (by omega))) ?_
          refine RW.op rfl rfl (eff_assign (v := .t _) rfl rfl rfl) ?_
          refine RW.nil ?_
          refine awp_rw rfl ?_
          refine RW.op rfl rfl (eff_move (v := .t _) rfl rfl rfl) ?_
          refine RW.op rfl rfl (eff_iop rfl rfl rfl rfl (iadd (by omega))) ?_
          refine RW.op rfl rfl (eff_assign (v := .t _) rfl rfl rfl) ?_
          refine RW.nil ?_
          have hkn : keyAt l (i + 1) = key + 1 + (around (l[i]'hil) 1000000) / 84 % 40 / 39 * 5000 := by show nxt _ _ = _; rw [getD_get hil, ← hky]; rfl
          refine ⟨_, ?_, _, weak_keep (n := 59) (fr' := [(0, .t (.sl (l.map encI) false)), (1, .t (encI (mo : Nat))), (5, .own 5 _ 0 _), (6, .t (encI _)), (7, .t (encI ((i + 1) : Nat)))]) (st' := [(5, some ⟨5, 30, _, _⟩)]) ⟨rfl, rfl, rfl, rfl, rfl, rfl, rfl, rfl, rfl, rfl, trivial⟩ ⟨rfl, (by first | exact okE_nil | (rw [he]; exact okE_t) | (rw [he]; intro x hx; simp only [List.mem_append, List.mem_map, List.mem_singleton] at hx; rcases hx with ⟨y, _, rfl⟩ | rfl <;> rfl)), trivial⟩, i + 1, _, _, _, _, (by omega), (by omega), (by rw [hnn]; simp), (by exact hkn.symm), (by rw [range_succ, he]; simp only [List.map_append, List.map_cons, List.map_nil]; rw [hfr]; rfl), rfl, rfl⟩
          omega
        · try simp only [decide_eq_true_eq, decide_eq_false_iff_not, beq_iff_eq, bne_iff_ne, bne_eq_false_iff_eq, beq_eq_false_iff_ne, Bool.not_eq_true, Bool.not_eq_false, Bool.not_eq_true', Bool.not_eq_false', ne_eq] at h4
          refine awp_skip ?_
          refine awp_seq ?_
          refine awp_rw rfl ?_
          refine RW.op rfl rfl (eff_move (v := .own _ _ _ _) rfl rfl rfl) ?_
          refine RW.op rfl rfl (eff_load rfl rfl ti30 rfl (.whole rfl rfl rfl rfl rfl rfl)) ?_
          first
            | (have hfr : frameAt l i = ⟨imax 0 ((i : Int) - 3) + (around (l[i]'hil) 1000000) % 7, key, true, [], 0⟩ := by unfold frameAt; rw [getD_get hil, ← hky]; exact frm_0 (by omega)
               refine RW.weak (weak_slot 47 (y := encF ⟨imax 0 ((i : Int) - 3) + (around (l[i]'hil) 1000000) % 7, key, true, [], 0⟩) rfl (by repeat' first | exact trivial | exact Wk.refl _ | exact Wk.sl _ | refine And.intro ?_ ?_ | refine Wk.tupP ?_ | refine Wk.aggP ?_)) rfl ?_)
            | (have hfr : frameAt l i = ⟨(around (l[i]'hil) 1000000) / 84 % 300, key, false, [], 0⟩ := by unfold frameAt; rw [getD_get hil, ← hky]; exact frm_1 (by omega) (by omega)
               refine RW.weak (weak_slot 47 (y := encF ⟨(around (l[i]'hil) 1000000) / 84 % 300, key, false, [], 0⟩) rfl (by repeat' first | exact trivial | exact Wk.refl _ | exact Wk.sl _ | refine And.intro ?_ ?_ | refine Wk.tupP ?_ | refine Wk.aggP ?_)) rfl ?_)
            | (have hfr : frameAt l i = ⟨imax 0 ((i : Int) - 3) + (around (l[i]'hil) 1000000) % 7, key, false, [], 0⟩ := by unfold frameAt; rw [getD_get hil, ← hky]; exact frm_2 (by omega) (by omega)
               refine RW.weak (weak_slot 47 (y := encF ⟨imax 0 ((i : Int) - 3) + (around (l[i]'hil) 1000000) % 7, key, false, [], 0⟩) rfl (by repeat' first | exact trivial | exact Wk.refl _ | exact Wk.sl _ | refine And.intro ?_ ?_ | refine Wk.tupP ?_ | refine Wk.aggP ?_)) rfl ?_)
          refine RW.new rfl rfl (eff_buildSliceL (id := 48) (els := [.t (.agg [_, _, _, _, _])]) rfl rfl te34 tz30 rfl (by decide) (by decide) rfl rfl rfl rfl) ?_
          refine RW.new rfl rfl (eff_append (id := 5) (ys := [_]) rfl rfl ta34 rfl rfl rfl (by rw [he, hnn]; simp) rfl rfl (srcOwn rfl rfl rfl rfl rfl rfl) (by simp) (by simp; omega) (by simp; omega)) ?_
          refine RW.op rfl rfl (eff_assign (v := .own _ _ _ _) rfl rfl rfl) ?_
          refine RW.nil ?_
          refine awp_rw rfl ?_
          refine RW.op rfl rfl (eff_move (v := .t _) rfl rfl rfl) ?_
          refine RW.op rfl rfl (eff_iop rfl rfl rfl rfl (iadd (by omega))) ?_
          refine RW.op rfl rfl (eff_move (v := .t _) rfl rfl rfl) ?_
          refine RW.op rfl rfl (eff_quoE (r := (around (l[i]'hil) 1000000) / 84) rfl rfl rfl rfl (by decide) (quoN (by omega) (by decide))) ?_
          refine RW.op rfl rfl (eff_remE (r := ((around (l[i]'hil) 1000000) / 84) % 40) rfl rfl rfl rfl (by decide) (tmod_pos (by omega))) ?_
          refine RW.op rfl rfl (eff_quoE (r := ((around (l[i]'hil) 1000000) / 84 % 40) / 39) rfl rfl rfl rfl (by decide) (quoN (by omega) (by decide))) ?_
          refine RW.op rfl rfl (eff_iop rfl rfl rfl rfl (imul (by omega))) ?_
          refine RW.op rfl rfl (eff_iop rfl rfl rfl rfl (iadd (by omega))) ?_
          refine RW.op rfl rfl (eff_assign (v := .t _) rfl rfl rfl) ?_
          refine RW.nil ?_
          refine awp_rw rfl ?_
          refine RW.op rfl rfl (eff_move (v := .t _) rfl rfl rfl) ?_
          refine RW.op rfl rfl (eff_iop rfl rfl rfl rfl (iadd (by omega))) ?_
          refine RW.op rfl rfl (eff_assign (v := .t _) rfl rfl rfl) ?_
          refine RW.nil ?_
          have hkn : keyAt l (i + 1) = key + 1 + (around (l[i]'hil) 1000000) / 84 % 40 / 39 * 5000 := by show nxt _ _ = _; rw [getD_get hil, ← hky]; rfl
          refine ⟨_, ?_, _, weak_keep (n := 59) (fr' := [(0, .t (.sl (l.map encI) false)), (1, .t (encI (mo : Nat))), (5, .own 5 _ 0 _), (6, .t (encI _)), (7, .t (encI ((i + 1) : Nat)))]) (st' := [(5, some ⟨5, 30, _, _⟩)]) ⟨rfl, rfl, rfl, rfl, rfl, rfl, rfl, rfl, rfl, rfl, trivial⟩ ⟨rfl, (by first | exact okE_nil | (rw [he]; exact okE_t) | (rw [he]; intro x hx; simp only [List.mem_append, List.mem_map, List.mem_singleton] at hx; rcases hx with ⟨y, _, rfl⟩ | rfl <;> rfl)), trivial⟩, i + 1, _, _, _, _, (by omega), (by omega), (by rw [hnn]; simp), (by exact hkn.symm), (by rw [range_succ, he]; simp only [List.map_append, List.map_cons, List.map_nil]; rw [hfr]; rfl), rfl, rfl⟩
          omega
    · try simp only [decide_eq_true_eq, decide_eq_false_iff_not, beq_iff_eq, bne_iff_ne, bne_eq_false_iff_eq, beq_eq_false_iff_ne, Bool.not_eq_true, Bool.not_eq_false, Bool.not_eq_true', Bool.not_eq_false', ne_eq] at h2
      refine awp_exit ?_
      refine awp_seq ?_
      refine awp_rw rfl ?_
      refine RW.op rfl rfl (eff_move (v := .own _ _ _ _) rfl rfl rfl) ?_
      refine RW.op rfl rfl (eff_assign (v := .own _ _ _ _) rfl rfl rfl) ?_
      refine RW.nil ?_
      refine awp_ret ?_
      have hmi : i = min l.length mo := by omega
      exact ⟨Or.inr rfl, [_], ⟨.tmp (Res.ownT (xs := (frames l mo).map encF) rfl rfl (by unfold frames; rw [← hmi]; exact he) (by rw [hnn]; simp [frames_len]; omega)), trivial⟩, .refl _⟩
  · try simp only [decide_eq_true_eq, decide_eq_false_iff_not, beq_iff_eq, bne_iff_ne, bne_eq_false_iff_eq, beq_eq_false_iff_ne, Bool.not_eq_true, Bool.not_eq_false, Bool.not_eq_true', Bool.not_eq_false', ne_eq] at h1
    refine RW.gskip rfl rfl rfl rfl rfl (by decide) ?_
    refine RW.gskip rfl rfl rfl rfl rfl (by decide) ?_
    refine RW.gskip rfl rfl rfl rfl rfl (by decide) ?_
    refine RW.op rfl rfl (eff_pick (v := .t _) rfl rfl rfl rfl) ?_
    refine RW.nil ?_
    refine awp_cond rfl (fun h => nomatch h) (fun _ => ?_)
    refine awp_exit ?_
    refine awp_seq ?_
    refine awp_rw rfl ?_
    refine RW.op rfl rfl (eff_move (v := .own _ _ _ _) rfl rfl rfl) ?_
    refine RW.op rfl rfl (eff_assign (v := .own _ _ _ _) rfl rfl rfl) ?_
    refine RW.nil ?_
    refine awp_ret ?_
    have hmi : i = min l.length mo := by omega
    exact ⟨Or.inr rfl, [_], ⟨.tmp (Res.ownT (xs := (frames l mo).map encF) rfl rfl (by unfold frames; rw [← hmi]; exact he) (by rw [hnn]; simp [frames_len]; omega)), trivial⟩, .refl _⟩

end Go.Tv.C34

end
section
open Go Go.Tv Go.Proofs
namespace Go.Tv.C34
abbrev f1 : Frm := ⟨1, 1, false, [], 0⟩
abbrev tA : Twn := ⟨[zf], [zr, ⟨1, 0, 1, false⟩]⟩
abbrev L4 : List Rep := [zr, ⟨0, 1, 2, false⟩, ⟨1, 0, 1, false⟩, ⟨2, 0, 2, false⟩]
abbrev tB : Twn := ⟨[zf, f1], L4⟩
abbrev tC : Twn := ⟨[zf, f1], [⟨1, 0, 1, false⟩, ⟨2, 0, 2, false⟩]⟩
theorem liv1 : send ⟨[], [zr]⟩ zf = (tA, 0) := by decide +kernel
theorem liv2 : send tA f1 = (tB, 0) := by decide +kernel
theorem liv3 : hear tB ⟨1, 0, 1, false⟩ = (tC, 0) := by decide +kernel
theorem liv4 : hear tB ⟨3, 0, 2, false⟩ = (zt, 45) := by decide +kernel
theorem srtA : Srt tA.poss := by unfold Srt; decide +kernel
theorem hp0 : ∀ y, y ∈ [zr] → HP y := by intro y hy; rw [List.mem_singleton.1 hy]; exact ⟨by decide, by decide⟩
theorem srt0 : Srt [zr] := List.pairwise_singleton _ _
theorem hpA : ∀ y, y ∈ tA.poss → HP y := by
  intro y hy
  have : y = zr ∨ y = ⟨1, 0, 1, false⟩ := by simpa using hy
  rcases this with rfl | rfl <;> exact ⟨by decide, by decide⟩
theorem state_hp (n h k : Int) (b : Bool) : HP (state n h k b) := by
  have := around_range (n := h) (m := 32768) (by decide)
  exact ⟨this.1, this.2⟩
end Go.Tv.C34

end
section
open Go Go.Tv Go.Proofs
namespace Go.Tv.C34
set_option maxRecDepth 20000
set_option maxHeartbeats 2000000
set_option linter.unusedSimpArgs false
set_option linter.unusedVariables false
theorem sendA : RetT Tryd.prog 20 [(1, deT)] [encT ⟨[], [zr]⟩, encF zf] (.tup [encT tA, encI 0]) := by
  have h := tsend_ret ⟨[], [zr]⟩ zf srt0 hp0 (by decide) (by decide) (fun x hx => by simp at hx) (by decide)
  rw [liv1] at h; exact h
theorem sendB : RetT Tryd.prog 20 [(1, deT)] [encT tA, encF f1] (.tup [encT tB, encI 0]) := by
  have h := tsend_ret tA f1 srtA hpA (by decide) (by decide) (fun x hx => by rw [List.mem_singleton.1 hx]; decide) (by decide)
  rw [liv2] at h; exact h
theorem bodB : ∀ x, x ∈ tB.sent → x.body.length ≤ 1000000 := by
  intro x hx
  have : x = zf ∨ x = f1 := by simpa using hx
  rcases this with rfl | rfl <;> decide
theorem hearC : RetT Tryd.prog 22 [(1, deT)] [encT tB, encR ⟨1, 0, 1, false⟩] (.tup [encT tC, encI 0]) := by
  have h := thear_ret tB ⟨1, 0, 1, false⟩ ⟨by decide, by decide⟩ (by decide) (by decide) bodB
  rw [liv3] at h; exact h
theorem hearD : RetT Tryd.prog 22 [(1, deT)] [encT tB, encR ⟨3, 0, 2, false⟩] (.tup [encT zt, encI 45]) := by
  have h := thear_ret tB ⟨3, 0, 2, false⟩ ⟨by decide, by decide⟩ (by decide) (by decide) bodB
  rw [liv4] at h; exact h

theorem lives_ret  : RetT Tryd.prog 16 [(1, deT)] [] (.bool true) := by
  refine retT_of_awp Tryd.func16 rfl (Nat.le_of_ble_eq_true rfl) ?_
  refine awp_seq ?_
  refine awp_rw rfl ?_
  refine RW.op rfl rfl (eff_assign (v := .t _) rfl rfl rfl) ?_
  refine RW.nil ?_
  refine awp_seq ?_
  refine awp_rw rfl ?_
  refine RW.op rfl rfl (eff_callT (new17_ret) co17 rfl rfl rfl rfl) ?_
  refine RW.op rfl rfl (eff_buildT (ys := [_, _, _, _, _]) rfl rfl tz30 tg30 rfl) ?_
  refine RW.op rfl rfl (eff_callXW (xs := [_, _]) (sendA) co20 rfl rfl rfl ⟨rfl, trivial⟩ rfl (by repeat' first | exact trivial | exact Wk.refl _ | exact Wk.sl _ | refine And.intro ?_ ?_ | refine Wk.aggP ?_)) ?_
  refine RW.op rfl rfl (eff_move (v := .t _) rfl rfl rfl) ?_
  refine RW.op rfl rfl (eff_extract rfl rfl rfl rfl) ?_
  refine RW.op rfl rfl (eff_extract rfl rfl rfl rfl) ?_
  refine RW.new rfl rfl (eff_allocK (k := 2) (id := 1) rfl rfl tz37 rfl rfl) ?_
  refine RW.store rfl rfl (eff_storeW (v := .t _) (els := [_]) (els' := [_]) rfl rfl ti37 rfl rfl rfl rfl rfl rfl rfl rfl rfl) ?_
  refine RW.op rfl rfl (eff_assign (v := .t _) rfl rfl rfl) ?_
  refine RW.nil ?_
  refine awp_seq ?_
  refine awp_rw rfl ?_
  refine RW.op rfl rfl (eff_load rfl rfl ti37 rfl (.whole rfl rfl rfl rfl rfl rfl)) ?_
  refine RW.op rfl rfl (eff_buildT (ys := [_, _, _, _, _]) rfl rfl tz30 tg30 rfl) ?_
  refine RW.op rfl rfl (eff_callXW (xs := [_, _]) (sendB) co20 rfl rfl rfl ⟨rfl, trivial⟩ rfl (by repeat' first | exact trivial | exact Wk.refl _ | exact Wk.sl _ | refine And.intro ?_ ?_ | refine Wk.aggP ?_)) ?_
  refine RW.op rfl rfl (eff_move (v := .t _) rfl rfl rfl) ?_
  refine RW.op rfl rfl (eff_extract rfl rfl rfl rfl) ?_
  refine RW.op rfl rfl (eff_extract rfl rfl rfl rfl) ?_
  refine RW.new rfl rfl (eff_allocK (k := 2) (id := 3) rfl rfl tz37 rfl rfl) ?_
  refine RW.store rfl rfl (eff_storeW (v := .t _) (els := [_]) (els' := [_]) rfl rfl ti37 rfl rfl rfl rfl rfl rfl rfl rfl rfl) ?_
  refine RW.op rfl rfl (eff_assign (v := .t _) rfl rfl rfl) ?_
  refine RW.nil ?_
  refine awp_seq ?_
  refine awp_rw rfl ?_
  refine RW.op rfl rfl (eff_load rfl rfl ti37 rfl (.whole rfl rfl rfl rfl rfl rfl)) ?_
  refine RW.op rfl rfl (eff_buildT (ys := [_, _, _, _]) rfl rfl tz23 tg23 rfl) ?_
  refine RW.op rfl rfl (eff_callXT (hearC) co22 rfl rfl rfl ⟨rfl, trivial⟩ rfl) ?_
  refine RW.op rfl rfl (eff_move (v := .t _) rfl rfl rfl) ?_
  refine RW.op rfl rfl (eff_extract rfl rfl rfl rfl) ?_
  refine RW.op rfl rfl (eff_extract rfl rfl rfl rfl) ?_
  refine RW.new rfl rfl (eff_allocK (k := 2) (id := 5) rfl rfl tz37 rfl rfl) ?_
  refine RW.store rfl rfl (eff_storeW (v := .t _) (els := [_]) (els' := [_]) rfl rfl ti37 rfl rfl rfl rfl rfl rfl rfl rfl rfl) ?_
  refine RW.op rfl rfl (eff_assign (v := .t _) rfl rfl rfl) ?_
  refine RW.nil ?_
  refine awp_seq ?_
  refine awp_rw rfl ?_
  refine RW.op rfl rfl (eff_load rfl rfl ti37 rfl (.whole rfl rfl rfl rfl rfl rfl)) ?_
  refine RW.op rfl rfl (eff_buildT (ys := [_, _, _, _]) rfl rfl tz23 tg23 rfl) ?_
  refine RW.op rfl rfl (eff_callXT (hearD) co22 rfl rfl rfl ⟨rfl, trivial⟩ rfl) ?_
  refine RW.op rfl rfl (eff_move (v := .t _) rfl rfl rfl) ?_
  refine RW.op rfl rfl (eff_extract rfl rfl rfl rfl) ?_
  refine RW.op rfl rfl (eff_extract rfl rfl rfl rfl) ?_
  refine RW.new rfl rfl (eff_allocK (k := 2) (id := 7) rfl rfl tz37 rfl rfl) ?_
  refine RW.store rfl rfl (eff_storeW (v := .t _) (els := [_]) (els' := [_]) rfl rfl ti37 rfl rfl rfl rfl rfl rfl rfl rfl rfl) ?_
  refine RW.op rfl rfl (eff_assign (v := .t _) rfl rfl rfl) ?_
  refine RW.nil ?_
  refine awp_seq ?_
  refine awp_seq ?_
  refine awp_rw rfl ?_
  refine RW.op rfl rfl (eff_move (v := .t _) rfl rfl rfl) ?_
  refine RW.op rfl rfl (eff_iop (r := .bool false) rfl rfl rfl rfl (by rfl)) ?_
  refine RW.op rfl rfl (eff_move (v := .t _) rfl rfl rfl) ?_
  refine RW.gop rfl rfl rfl rfl rfl rfl (eff_move (v := .t _) rfl rfl rfl) ?_
  refine RW.gop rfl rfl rfl rfl rfl rfl (eff_iop (r := .bool false) rfl rfl rfl rfl (by rfl)) ?_
  refine RW.op rfl rfl (eff_pick (v := .t _) rfl rfl rfl rfl) ?_
  refine RW.op rfl rfl (eff_move (v := .t _) rfl rfl rfl) ?_
  refine RW.gop rfl rfl rfl rfl rfl rfl (eff_move (v := .t _) rfl rfl rfl) ?_
  refine RW.gop rfl rfl rfl rfl rfl rfl (eff_iop (r := .bool false) rfl rfl rfl rfl (by rfl)) ?_
  refine RW.op rfl rfl (eff_pick (v := .t _) rfl rfl rfl rfl) ?_
  refine RW.op rfl rfl (eff_move (v := .t _) rfl rfl rfl) ?_
  refine RW.gop rfl rfl rfl rfl rfl rfl (eff_move (v := .t _) rfl rfl rfl) ?_
  refine RW.gop rfl rfl rfl rfl rfl rfl (eff_iop (r := .bool false) rfl rfl rfl rfl (by rfl)) ?_
  refine RW.op rfl rfl (eff_pick (v := .t _) rfl rfl rfl rfl) ?_
  refine RW.nil ?_
  refine awp_cond rfl (fun h => nomatch h) (fun _ => ?_)
  refine awp_skip ?_
  refine awp_seq ?_
  refine awp_rw rfl ?_
  refine RW.op rfl rfl (eff_buildT (ys := [_, _, _, _]) rfl rfl tz23 tg23 rfl) ?_
  refine RW.op rfl rfl (eff_buildT (ys := [_, _, _, _]) rfl rfl tz23 tg23 rfl) ?_
  refine RW.op rfl rfl (eff_buildT (ys := [_, _, _, _]) rfl rfl tz23 tg23 rfl) ?_
  refine RW.op rfl rfl (eff_buildT (ys := [_, _, _, _]) rfl rfl tz23 tg23 rfl) ?_
  refine RW.new rfl rfl (eff_buildSliceL (id := 52) (els := [.t (.agg [_, _, _, _]), .t (.agg [_, _, _, _]), .t (.agg [_, _, _, _]), .t (.agg [_, _, _, _])]) rfl rfl te35 tz23 rfl (by decide) (by decide) rfl rfl rfl rfl) ?_
  refine RW.op rfl rfl (eff_assign (v := .own _ _ _ _) rfl rfl rfl) ?_
  refine RW.nil ?_
  refine awp_seq ?_
  refine awp_weak (weak_frz (n := 70) (fr' := [(3, .ptr 3 0 0 0), (5, .ptr 5 0 0 0), (9, .t (.sl (L4.map encR) false)), (71, .t deT)]) (st' := [(3, some ⟨2, 37, 0, [.t (encT tB)]⟩), (5, some ⟨2, 37, 0, [.t (encT tC)]⟩)]) [(52, some ⟨4, 23, 0, (L4.map encR).map .t⟩)] ⟨rfl, trivial⟩ ⟨rfl, rfl, trivial⟩ ⟨wa_eq rfl rfl, wa_eq rfl rfl, .res (Res.ownT (xs := L4.map encR) rfl rfl rfl rfl) (.refl _), wa_eq rfl rfl, trivial⟩ ⟨rfl, okE_one rfl, rfl, okE_one rfl, trivial⟩) ?_
  refine awp_rd [(some 53, []), (some 54, []), (some 55, []), (some 56, []), (some 57, []), (some 58, []), (some 59, []), (some 60, []), (some 61, []), (some 62, []), (some 63, []), (some 64, []), (some 65, []), (some 66, []), (some 67, []), (some 68, []), (some 69, []), (some 0, [])] [[], [0], [], [0, 1, 2], [0, 1, 2, 3], [0, 1, 2, 3, 4], [0, 1, 2, 3, 4, 5], [0, 1, 2, 3, 4], [0, 1, 2, 3, 4, 7], [0, 1, 2, 3, 4, 5, 6, 7, 8], [0, 1, 2, 3, 4, 5, 6, 7, 8, 9], [0, 1, 2, 3, 4, 5, 6, 7, 8, 9, 10], [0, 1, 2, 3, 4, 5, 6, 7, 8, 9, 10, 11], [0, 1, 2, 3, 4, 5, 6, 7, 8, 9, 10, 11, 12], [0, 1, 2, 3, 4, 5, 6, 7, 8, 9, 10, 11, 12, 13], [0, 1, 2, 3, 4, 5, 6, 7, 8, 9, 10, 11, 12, 13, 14], [0, 1, 2, 3, 4, 5, 6, 7, 8, 9, 10, 11, 12, 13, 14, 15], [0, 1, 2, 3, 4, 5, 6, 7, 8, 9, 10, 11, 12, 13, 14, 15, 16]] tm rfl rfl rfl rfl ?_
  refine RD.op rfl rfl rfl (eff_fieldAddr rfl rfl tf37_1 (by decide) rfl rfl rfl (Nat.le_of_ble_eq_true rfl)) ?_
  refine RD.op rfl rfl rfl (eff_load (y := .t _) rfl rfl ti35 rfl (.one rfl rfl rfl rfl)) ?_
  refine RD.op rfl rfl rfl (eff_move (v := .t _) rfl rfl rfl) ?_
  refine RD.op rfl rfl rfl (eff_callT (sameStates_ret L4 (by decide)) co25 rfl rfl rfl rfl) ?_
  refine RD.op rfl rfl rfl (eff_move (v := .t _) rfl rfl rfl) ?_
  refine RD.gop rfl rfl rfl rfl rfl rfl rfl (eff_fieldAddr rfl rfl tf37_1 (by decide) rfl rfl rfl (Nat.le_of_ble_eq_true rfl)) ?_
  refine RD.gop rfl rfl rfl rfl rfl rfl rfl (eff_load (y := .t _) rfl rfl ti35 rfl (.one rfl rfl rfl rfl)) ?_
  refine RD.gop rfl rfl rfl rfl rfl rfl rfl (eff_move (v := .t _) rfl rfl rfl) ?_
  refine RD.gop rfl rfl rfl rfl rfl rfl rfl (eff_sliceM (g := encR) (xs := L4) (l := some 2) (h := none) (r := [⟨1, 0, 1, false⟩, ⟨2, 0, 2, false⟩]) rfl rfl te35 rfl (fun _ => rfl) (.yes rfl rfl) .no (by decide) (by decide) (by decide)) ?_
  refine RD.gop rfl rfl rfl rfl rfl rfl rfl (eff_callT (sameStates_ret [⟨1, 0, 1, false⟩, ⟨2, 0, 2, false⟩] (by decide)) co25 rfl rfl rfl rfl) ?_
  refine RD.op rfl rfl rfl (eff_pick (v := .t _) rfl rfl rfl rfl) ?_
  refine RD.op rfl rfl rfl (eff_move (v := .t _) rfl rfl rfl) ?_
  refine RD.gop rfl rfl rfl rfl rfl rfl rfl (eff_fieldAddr rfl rfl tf37_0 (by decide) rfl rfl rfl (Nat.le_of_ble_eq_true rfl)) ?_
  refine RD.gop rfl rfl rfl rfl rfl rfl rfl (eff_load (y := .t _) rfl rfl ti34 rfl (.one rfl rfl rfl rfl)) ?_
  refine RD.gop rfl rfl rfl rfl rfl rfl rfl (eff_lenM rfl rfl te34 rfl) ?_
  refine RD.gop rfl rfl rfl rfl rfl rfl rfl (eff_iop (r := .bool true) rfl rfl rfl rfl (by rfl)) ?_
  refine RD.op rfl rfl rfl (eff_pick (v := .t _) rfl rfl rfl rfl) ?_
  refine RD.op rfl rfl rfl (eff_assign (v := .t _) rfl rfl rfl) ?_
  refine RD.nil ?_
  refine awp_ret ?_
  first
    | exact ⟨Or.inr rfl, [_], ⟨.tmp (.t _), trivial⟩, .refl _⟩
    | exact ⟨Or.inr rfl, [_], ⟨.tmp (.t _), trivial⟩, (by repeat' first | exact trivial | exact Wk.refl _ | exact Wk.sl _ | refine And.intro ?_ ?_ | refine Wk.tupP ?_ | refine Wk.aggP ?_)⟩
    | exact ⟨Or.inr rfl, [_], ⟨.tmp (Res.ownT rfl rfl rfl rfl), trivial⟩, .refl _⟩
    | exact ⟨Or.inr rfl, [_], ⟨.tmp (Res.ownT rfl rfl rfl rfl), trivial⟩, (by repeat' first | exact trivial | exact Wk.refl _ | exact Wk.sl _ | refine And.intro ?_ ?_ | refine Wk.tupP ?_ | refine Wk.aggP ?_)⟩

end Go.Tv.C34

end
section
open Go Go.Tv Go.Proofs
namespace Go.Tv.C34

structure Good (l : List Int) (m : Nat) (T : Twn) : Prop where
  srt : Srt T.poss
  hp : ∀ y, y ∈ T.poss → HP y
  len : T.poss.length ≤ 256
  ne : 0 < T.poss.length
  bod : ∀ x, x ∈ T.sent → x.body.length ≤ 1000000
  last : ∀ x, T.sent.getLast? = some x → ∃ j, j < (frames l m).length ∧ x.key = keyAt l j ∧ T.sent.length ≤ j + 1
theorem Good.sent {l m T} (h : Good l m T) : T.sent.length ≤ (frames l m).length := by
  rcases e : T.sent.getLast? with _ | x
  · rw [List.getLast?_eq_none_iff.1 e]; exact Nat.zero_le _
  · obtain ⟨j, hj, _, hs⟩ := h.last x e; omega
theorem good0 (l : List Int) (m : Nat) : Good l m ⟨[], [zr]⟩ where
  srt := srt0
  hp := hp0
  len := by decide
  ne := by decide
  bod := by intro x hx; cases hx
  last := by intro x hx; cases hx

/-- A step's answer: the twin stays good, or there is an error and the twin is empty. -/
def StepOK (l : List Int) (m : Nat) (p : Twn × Int) : Prop := (p.2 = 0 → Good l m p.1) ∧ (p.2 ≠ 0 → p.1 = zt)

theorem stepF_ne {out : List Rep} {f : Frm} (h : 0 < out.length) : 0 < (stepF out f).length :=
  List.length_pos_of_mem ((stepI_mem (f := f) out out out[0]).2 (.inl (List.getElem_mem h)))
theorem frames_bod {l : List Int} {m : Nat} {f : Frm} (h : f ∈ frames l m) : f.body.length ≤ 1000000 := by
  obtain ⟨j, _, rfl⟩ := frames_mem h
  rw [frame_body]; decide
theorem send_step {l m T} (h : Good l m T) {f : Frm} (hf : f ∈ frames l m) : StepOK l m (send T f) := by
  unfold send
  split
  · exact ⟨fun e => by simp at e, fun _ => rfl⟩
  · rename_i hlt
    split
    · exact ⟨fun e => by simp at e, fun _ => rfl⟩
    · rename_i hle
      refine ⟨fun _ => ⟨srt_stepF h.srt, stepF_hp h.hp, by show (stepF T.poss f).length ≤ 256; omega, stepF_ne h.ne, ?_, ?_⟩, fun e => absurd rfl e⟩
      · intro x hx
        rcases List.mem_append.1 hx with hx | hx
        · exact h.bod x hx
        · rw [List.mem_singleton.1 hx]; exact frames_bod hf
      · intro x hx
        obtain ⟨j, hj, rfl⟩ := frames_mem hf
        obtain rfl : frameAt l j = x := by simpa using hx
        refine ⟨j, by rw [frames_len]; exact hj, frame_key l j, ?_⟩
        rw [List.length_append, List.length_singleton]
        rcases e : T.sent.getLast? with _ | x
        · rw [List.getLast?_eq_none_iff.1 e]; simp
        · obtain ⟨i, hi, hk, hs⟩ := h.last x e
          have hlt2 : ¬ x.key ≥ (frameAt l j).key := by
            intro hge; apply hlt; unfold late; rw [e]; exact decide_eq_true hge
          rw [frame_key, hk] at hlt2
          rcases Nat.lt_or_ge i j with hij | hij
          · omega
          · rcases Nat.lt_or_ge j i with hji | hji
            · have := keyAt_mono l hji; omega
            · obtain rfl : i = j := by omega
              omega
theorem hear_step {l m T} (h : Good l m T) (r : Rep) : StepOK l m (hear T r) := by
  unfold hear
  split
  · exact ⟨fun e => by simp at e, fun _ => rfl⟩
  · rename_i hne
    have hle : (left_ T r).length ≤ T.poss.length := List.length_filter_le _ _
    exact ⟨fun _ => ⟨h.srt.filter _, fun y hy => h.hp y ((List.mem_filter.1 hy).1), Nat.le_trans hle h.len, List.length_pos_iff.2 hne, h.bod, h.last⟩, fun e => absurd rfl e⟩
end Go.Tv.C34

end
section
open Go Go.Tv Go.Proofs
namespace Go.Tv.C34
set_option maxRecDepth 20000
set_option maxHeartbeats 2000000
set_option linter.unusedSimpArgs false
set_option linter.unusedVariables false
theorem law4 (l wh : List Int) (nx hv ky : Int) (hI : ∀ x, x ∈ l → I64 x) (hl : l.length ≤ 9223372036854775807) (hJ : ∀ x, x ∈ wh → I64 x) (hwl : wh.length ≤ 9223372036854775807) (hnx : I64 nx) (hhv : I64 hv) (hky : I64 ky) : RetT Tryd.prog 4 [(1, deT)] [.sl (l.map encI) false, .sl (wh.map encI) false, encI nx, encI hv, encI ky] (.bool true) := by
  refine retT_of_awp Tryd.func4 rfl (Nat.le_of_ble_eq_true rfl) ?_
  refine awp_seq ?_
  refine awp_rw rfl ?_
  refine RW.op rfl rfl (eff_assign (v := .t _) rfl rfl rfl) ?_
  refine RW.nil ?_
  refine awp_seq ?_
  refine awp_rw rfl ?_
  refine RW.op rfl rfl (eff_callT (new17_ret) co17 rfl rfl rfl rfl) ?_
  refine RW.new rfl rfl (eff_allocK (k := 2) (id := 11) rfl rfl tz37 rfl rfl) ?_
  refine RW.store rfl rfl (eff_storeW (v := .t _) (els := [_]) (els' := [_]) rfl rfl ti37 rfl rfl rfl rfl rfl rfl rfl rfl rfl) ?_
  refine RW.nil ?_
  refine awp_seq ?_
  refine awp_rw rfl ?_
  refine RW.op rfl rfl (eff_callT (new18_ret) co18 rfl rfl rfl rfl) ?_
  refine RW.new rfl rfl (eff_allocK (k := 2) (id := 12) rfl rfl tz37 rfl rfl) ?_
  refine RW.store rfl rfl (eff_storeW (v := .t _) (els := [_]) (els' := [_]) rfl rfl ti37 rfl rfl rfl rfl rfl rfl rfl rfl rfl) ?_
  refine RW.nil ?_
  refine awp_seq ?_
  refine awp_rw rfl ?_
  refine RW.op rfl rfl (eff_move (v := .t _) rfl rfl rfl) ?_
  refine RW.op rfl rfl (eff_callT (frames_ret l 9 hI hl (by decide)) co19 rfl rfl rfl rfl) ?_
  refine RW.op rfl rfl (eff_assign (v := .t _) rfl rfl rfl) ?_
  refine RW.nil ?_
  refine awp_seq ?_
  refine awp_rw rfl ?_
  refine RW.op rfl rfl (eff_assign (v := .t _) rfl rfl rfl) ?_
  refine RW.nil ?_
  refine awp_seq ?_
  refine awp_seq ?_
  refine awp_rw rfl ?_
  refine RW.op rfl rfl (eff_assign (v := .t _) rfl rfl rfl) ?_
  refine RW.nil ?_
  refine awp_block ?_
  refine awp_loopW (fun m s => ∃ (i : Nat) (n : Nat) (T : Twn), (i ≤ wh.length) ∧ (i ≤ 12) ∧ (n ≤ (frames l 9).length) ∧ (Good l 9 T) ∧ m = wh.length - i ∧ s = ⟨167, [(1, .t (.sl (wh.map encI) false)), (2, .t (encI nx)), (3, .t (encI hv)), (4, .t (encI ky)), (11, .ptr 11 0 0 0), (12, .ptr 12 0 0 0), (13, .t (.sl ((frames l 9).map encF) false)), (14, .t (encI (n : Nat))), (15, .t (encI (i : Nat))), (168, .t deT)], [(11, some ⟨2, 37, 0, [.t (encT T)]⟩), (12, some ⟨2, 37, 0, [.t (encT T)]⟩)]⟩) (_) (⟨_, weak_keep (n := 167) (fr' := [(1, .t (.sl (wh.map encI) false)), (2, .t (encI nx)), (3, .t (encI hv)), (4, .t (encI ky)), (11, .ptr 11 0 0 0), (12, .ptr 12 0 0 0), (13, .t (.sl ((frames l 9).map encF) false)), (14, .t (encI (0 : Nat))), (15, .t (encI (0 : Nat))), (168, .t deT)]) (st' := [(11, some ⟨2, 37, 0, [.t (encT _)]⟩), (12, some ⟨2, 37, 0, [.t (encT _)]⟩)]) ⟨rfl, rfl, rfl, rfl, rfl, rfl, rfl, rfl, rfl, rfl, rfl, rfl, rfl, rfl, rfl, rfl, rfl, rfl, rfl, rfl, trivial⟩ ⟨rfl, okE_one rfl, rfl, okE_one rfl, trivial⟩, 0, 0, _, (by omega), (by omega), (by omega), (by exact good0 _ _), rfl, rfl⟩) ?_
  rintro m s ⟨i, n, T, hi, hi12, hn, hg, rfl, rfl⟩
  have hfl : (frames l 9).length ≤ 9 := by rw [frames_len]; omega
  have hg1 := hg.len
  have hg2 := hg.ne
  have hg3 := hg.sent
  have hg4 := hg.srt
  have hg5 := hg.hp
  have hg6 := hg.bod
  refine awp_seq ?_
  refine awp_seq ?_
  refine awp_rw rfl ?_
  refine RW.op rfl rfl (eff_move (v := .t _) rfl rfl rfl) ?_
  refine RW.op rfl rfl (eff_move (v := .t _) rfl rfl rfl) ?_
  refine RW.op rfl rfl (eff_lenM rfl rfl te26 rfl) ?_
  refine RW.op rfl rfl (eff_iop rfl rfl rfl rfl rfl) ?_
  refine RW.op rfl rfl (eff_move (v := .t _) rfl rfl rfl) ?_
  refine RW.split 30 rfl (fun h1 => ?_) (fun h1 => ?_)
  · try simp only [decide_eq_true_eq, decide_eq_false_iff_not, beq_iff_eq, bne_iff_ne, bne_eq_false_iff_eq, beq_eq_false_iff_ne, Bool.not_eq_true, Bool.not_eq_false, Bool.not_eq_true', Bool.not_eq_false', ne_eq] at h1
    refine RW.gop rfl rfl rfl rfl rfl rfl (eff_move (v := .t _) rfl rfl rfl) ?_
    refine RW.gop rfl rfl rfl rfl rfl rfl (eff_iop rfl rfl rfl rfl rfl) ?_
    refine RW.op rfl rfl (eff_pick (v := .t _) rfl rfl rfl rfl) ?_
    refine RW.nil ?_
    refine awp_cond rfl (fun h2 => ?_) (fun h2 => ?_)
    · try simp only [decide_eq_true_eq, decide_eq_false_iff_not, beq_iff_eq, bne_iff_ne, bne_eq_false_iff_eq, beq_eq_false_iff_ne, Bool.not_eq_true, Bool.not_eq_false, Bool.not_eq_true', Bool.not_eq_false', ne_eq] at h2
      refine awp_skip ?_
      refine awp_seq ?_
      refine awp_block ?_
      refine awp_seq ?_
      refine awp_rw rfl ?_
      have hil : i < wh.length := by omega
      refine RW.op rfl rfl (eff_move (v := .t _) rfl rfl rfl) ?_
      refine RW.op rfl rfl (eff_move (v := .t _) rfl rfl rfl) ?_
      refine RW.op rfl rfl (eff_indexM rfl rfl te26 rfl rfl rfl (by first | assumption | exact List.getElem?_eq_getElem (by omega)) rfl (by decide)) ?_
      refine RW.op rfl rfl (eff_loadW1 rfl rfl ti3 rfl rfl) ?_
      refine RW.op rfl rfl (eff_callT (around_ret _ _ (hJ _ (List.getElem_mem _)) (by omega)) co13 rfl rfl rfl rfl) ?_
      refine RW.op rfl rfl (eff_assign (v := .t _) rfl rfl rfl) ?_
      refine RW.nil ?_
      refine awp_seq ?_
      refine awp_rw rfl ?_
      have har := around_range (n := wh[i]'hil) (m := 1000000) (by decide)
      refine RW.op rfl rfl (eff_assign (v := .t _) rfl rfl rfl) ?_
      refine RW.op rfl rfl (eff_assign (v := .t _) rfl rfl rfl) ?_
      refine RW.nil ?_
      refine awp_seq ?_
      refine awp_rw rfl ?_
      refine RW.op rfl rfl (eff_load rfl rfl ti37 rfl (.whole rfl rfl rfl rfl rfl rfl)) ?_
      refine RW.new rfl rfl (eff_allocK (k := 2) (id := 19) rfl rfl tz37 rfl rfl) ?_
      refine RW.store rfl rfl (eff_storeW (v := .t _) (els := [_]) (els' := [_]) rfl rfl ti37 rfl rfl rfl rfl rfl rfl rfl rfl rfl) ?_
      refine RW.nil ?_
      refine awp_seq ?_
      refine awp_rw rfl ?_
      refine RW.op rfl rfl (eff_load rfl rfl ti37 rfl (.whole rfl rfl rfl rfl rfl rfl)) ?_
      refine RW.new rfl rfl (eff_allocK (k := 2) (id := 20) rfl rfl tz37 rfl rfl) ?_
      refine RW.store rfl rfl (eff_storeW (v := .t _) (els := [_]) (els' := [_]) rfl rfl ti37 rfl rfl rfl rfl rfl rfl rfl rfl rfl) ?_
      refine RW.nil ?_
      refine awp_seq_mid (fun s => ∃ (P : Twn × Int) (n' : Nat), StepOK l 9 P ∧ n' ≤ (frames l 9).length ∧ Weak s ⟨167, [(1, .t (.sl (wh.map encI) false)), (2, .t (encI nx)), (3, .t (encI hv)), (4, .t (encI ky)), (11, .ptr 11 0 0 0), (12, .ptr 12 0 0 0), (13, .t (.sl ((frames l 9).map encF) false)), (14, .t (encI (n' : Nat))), (15, .t (encI (i : Nat))), (17, .t (encI P.2)), (18, .t (encI P.2)), (19, .ptr 19 0 0 0), (20, .ptr 20 0 0 0), (168, .t deT)], [(11, some ⟨2, 37, 0, [.t (encT T)]⟩), (12, some ⟨2, 37, 0, [.t (encT T)]⟩), (19, some ⟨2, 37, 0, [.t (encT P.1)]⟩), (20, some ⟨2, 37, 0, [.t (encT P.1)]⟩)]⟩) ?_ ?_
      · refine awp_block ?_
        refine awp_seq ?_
        refine awp_rw rfl ?_
        refine RW.op rfl rfl (eff_move (v := .t _) rfl rfl rfl) ?_
        refine RW.op rfl rfl (eff_remE (r := (around (wh[i]'hil) 1000000) % 4) rfl rfl rfl rfl (by decide) (tmod_pos (by omega))) ?_
        refine RW.op rfl rfl (eff_iop rfl rfl rfl rfl rfl) ?_
        refine RW.op rfl rfl (eff_move (v := .t _) rfl rfl rfl) ?_
        refine RW.split 81 rfl (fun h3 => ?_) (fun h3 => ?_)
        · try simp only [decide_eq_true_eq, decide_eq_false_iff_not, beq_iff_eq, bne_iff_ne, bne_eq_false_iff_eq, beq_eq_false_iff_ne, Bool.not_eq_true, Bool.not_eq_false, Bool.not_eq_true', Bool.not_eq_false', ne_eq] at h3
          refine RW.gop rfl rfl rfl rfl rfl rfl (eff_move (v := .t _) rfl rfl rfl) ?_
          refine RW.gop rfl rfl rfl rfl rfl rfl (eff_move (v := .t _) rfl rfl rfl) ?_
          refine RW.gop rfl rfl rfl rfl rfl rfl (eff_lenM rfl rfl te34 rfl) ?_
          refine RW.gop rfl rfl rfl rfl rfl rfl (eff_iop rfl rfl rfl rfl rfl) ?_
          refine RW.op rfl rfl (eff_pick (v := .t _) rfl rfl rfl rfl) ?_
          refine RW.op rfl rfl (eff_assign (v := .t _) rfl rfl rfl) ?_
          refine RW.nil ?_
          refine awp_cond rfl (fun h4 => ?_) (fun h4 => ?_)
          · try simp only [decide_eq_true_eq, decide_eq_false_iff_not, beq_iff_eq, bne_iff_ne, bne_eq_false_iff_eq, beq_eq_false_iff_ne, Bool.not_eq_true, Bool.not_eq_false, Bool.not_eq_true', Bool.not_eq_false', ne_eq] at h4
            refine awp_seq ?_
            refine awp_rd [(some 88, []), (some 89, []), (some 90, []), (some 91, []), (some 92, []), (some 93, []), (some 87, []), (some 94, []), (some 95, []), (none, [19]), (some 17, [])] [[], [], [], [1, 2], [1, 2, 3], [0, 1, 2, 3, 4], [0, 1, 2, 3, 4, 5], [0, 1, 2, 3, 4, 5, 6], [0, 1, 2, 3, 4, 5, 6], [0, 1, 2, 3, 4, 5, 6, 7], [0, 1, 2, 3, 4, 5, 6, 7, 8, 9]] tm rfl rfl rfl rfl ?_
            have hnl : n < (frames l 9).length := by omega
            refine RD.op rfl rfl rfl (eff_load rfl rfl ti37 rfl (.whole rfl rfl rfl rfl rfl rfl)) ?_
            refine RD.op rfl rfl rfl (eff_move (v := .t _) rfl rfl rfl) ?_
            refine RD.op rfl rfl rfl (eff_move (v := .t _) rfl rfl rfl) ?_
            refine RD.op rfl rfl rfl (eff_indexM rfl rfl te34 rfl rfl rfl (by first | assumption | exact List.getElem?_eq_getElem (by omega)) rfl (by decide)) ?_
            refine RD.op rfl rfl rfl (eff_loadW rfl rfl ti30 rfl rfl rfl) ?_
            refine RD.op rfl rfl rfl (eff_callXT (tsend_ret T ((frames l 9)[n]'(by omega)) hg4 hg5 (by omega) (by omega) hg6 (frames_bod (List.getElem_mem _))) co20 rfl rfl rfl ⟨rfl, trivial⟩ rfl) ?_
            refine RD.op rfl rfl rfl (eff_move (v := .t _) rfl rfl rfl) ?_
            refine RD.op rfl rfl rfl (eff_extract rfl rfl rfl rfl) ?_
            refine RD.op rfl rfl rfl (eff_extract rfl rfl rfl rfl) ?_
            refine RD.store rfl rfl rfl (eff_storeW (v := .t _) (els := [_]) (els' := [_]) rfl rfl ti37 rfl rfl rfl rfl rfl rfl rfl rfl rfl) ?_
            refine RD.op rfl rfl rfl (eff_assign (v := .t _) rfl rfl rfl) ?_
            refine RD.nil ?_
            refine awp_seq ?_
            refine awp_rd [(some 97, []), (some 98, []), (some 99, []), (some 100, []), (some 101, []), (some 102, []), (some 96, []), (some 103, []), (some 104, []), (none, [20]), (some 18, [])] [[], [], [], [1, 2], [1, 2, 3], [0, 1, 2, 3, 4], [0, 1, 2, 3, 4, 5], [0, 1, 2, 3, 4, 5, 6], [0, 1, 2, 3, 4, 5, 6], [0, 1, 2, 3, 4, 5, 6, 7], [0, 1, 2, 3, 4, 5, 6, 7, 8, 9]] tm rfl rfl rfl rfl ?_
            refine RD.op rfl rfl rfl (eff_load rfl rfl ti37 rfl (.whole rfl rfl rfl rfl rfl rfl)) ?_
            refine RD.op rfl rfl rfl (eff_move (v := .t _) rfl rfl rfl) ?_
            refine RD.op rfl rfl rfl (eff_move (v := .t _) rfl rfl rfl) ?_
            refine RD.op rfl rfl rfl (eff_indexM rfl rfl te34 rfl rfl rfl (by first | assumption | exact List.getElem?_eq_getElem (by omega)) rfl (by decide)) ?_
            refine RD.op rfl rfl rfl (eff_loadW rfl rfl ti30 rfl rfl rfl) ?_
            refine RD.op rfl rfl rfl (eff_callT (rsend_ret T ((frames l 9)[n]'(by omega)) hg5 (by omega) (by omega)) co21 rfl rfl rfl rfl) ?_
            refine RD.op rfl rfl rfl (eff_move (v := .t _) rfl rfl rfl) ?_
            refine RD.op rfl rfl rfl (eff_extract rfl rfl rfl rfl) ?_
            refine RD.op rfl rfl rfl (eff_extract rfl rfl rfl rfl) ?_
            refine RD.store rfl rfl rfl (eff_storeW (v := .t _) (els := [_]) (els' := [_]) rfl rfl ti37 rfl rfl rfl rfl rfl rfl rfl rfl rfl) ?_
            refine RD.op rfl rfl rfl (eff_assign (v := .t _) rfl rfl rfl) ?_
            refine RD.nil ?_
            have hst : StepOK l 9 (send T ((frames l 9)[n]'(by omega))) := send_step hg (List.getElem_mem _)
            refine awp_rw rfl ?_
            refine RW.op rfl rfl (eff_move (v := .t _) rfl rfl rfl) ?_
            refine RW.op rfl rfl (eff_iop rfl rfl rfl rfl (iadd (by omega))) ?_
            refine RW.op rfl rfl (eff_assign (v := .t _) rfl rfl rfl) ?_
            refine RW.nil ?_
            show ∃ (P : Twn × Int) (n' : Nat), _
            first
              | exact ⟨_, n + 1, hst, by omega, weak_keep (n := 167) ⟨rfl, rfl, rfl, rfl, rfl, rfl, rfl, rfl, rfl, rfl, rfl, rfl, rfl, rfl, rfl, rfl, rfl, rfl, rfl, rfl, rfl, rfl, rfl, rfl, rfl, rfl, rfl, rfl, trivial⟩ ⟨rfl, okE_one rfl, rfl, okE_one rfl, rfl, okE_one rfl, rfl, okE_one rfl, trivial⟩⟩
              | exact ⟨_, n, hst, hn, weak_keep (n := 167) ⟨rfl, rfl, rfl, rfl, rfl, rfl, rfl, rfl, rfl, rfl, rfl, rfl, rfl, rfl, rfl, rfl, rfl, rfl, rfl, rfl, rfl, rfl, rfl, rfl, rfl, rfl, rfl, rfl, trivial⟩ ⟨rfl, okE_one rfl, rfl, okE_one rfl, rfl, okE_one rfl, rfl, okE_one rfl, trivial⟩⟩
              | exact ⟨_, n, hst (T.poss[q2]'hqn2), hn, weak_keep (n := 167) ⟨rfl, rfl, rfl, rfl, rfl, rfl, rfl, rfl, rfl, rfl, rfl, rfl, rfl, rfl, rfl, rfl, rfl, rfl, rfl, rfl, rfl, rfl, rfl, rfl, rfl, rfl, rfl, rfl, trivial⟩ ⟨rfl, okE_one rfl, rfl, okE_one rfl, rfl, okE_one rfl, rfl, okE_one rfl, trivial⟩⟩
              | exact ⟨_, n, hst (state nx hv ky ((around (wh[i]'hil) 1000000) / 12 % 2 == 0)), hn, weak_keep (n := 167) ⟨rfl, rfl, rfl, rfl, rfl, rfl, rfl, rfl, rfl, rfl, rfl, rfl, rfl, rfl, rfl, rfl, rfl, rfl, rfl, rfl, rfl, rfl, rfl, rfl, rfl, rfl, rfl, rfl, trivial⟩ ⟨rfl, okE_one rfl, rfl, okE_one rfl, rfl, okE_one rfl, rfl, okE_one rfl, trivial⟩⟩
          · try simp only [decide_eq_true_eq, decide_eq_false_iff_not, beq_iff_eq, bne_iff_ne, bne_eq_false_iff_eq, beq_eq_false_iff_ne, Bool.not_eq_true, Bool.not_eq_false, Bool.not_eq_true', Bool.not_eq_false', ne_eq] at h4
            refine awp_seq ?_
            refine awp_rw rfl ?_
            refine RW.op rfl rfl (eff_move (v := .t _) rfl rfl rfl) ?_
            refine RW.op rfl rfl (eff_remE (r := (around (wh[i]'hil) 1000000) % 4) rfl rfl rfl rfl (by decide) (tmod_pos (by omega))) ?_
            refine RW.op rfl rfl (eff_iop rfl rfl rfl rfl rfl) ?_
            refine RW.op rfl rfl (eff_move (v := .t _) rfl rfl rfl) ?_
            refine RW.split 111 rfl (fun h5 => ?_) (fun h5 => ?_)
            · try simp only [decide_eq_true_eq, decide_eq_false_iff_not, beq_iff_eq, bne_iff_ne, bne_eq_false_iff_eq, beq_eq_false_iff_ne, Bool.not_eq_true, Bool.not_eq_false, Bool.not_eq_true', Bool.not_eq_false', ne_eq] at h5
              refine RW.gop rfl rfl rfl rfl rfl rfl (eff_move (v := .t _) rfl rfl rfl) ?_
              refine RW.gop rfl rfl rfl rfl rfl rfl (eff_iop rfl rfl rfl rfl rfl) ?_
              refine RW.op rfl rfl (eff_pick (v := .t _) rfl rfl rfl rfl) ?_
              refine RW.op rfl rfl (eff_assign (v := .t _) rfl rfl rfl) ?_
              refine RW.nil ?_
              refine awp_cond rfl (fun h6 => ?_) (fun h6 => ?_)
              · try simp only [decide_eq_true_eq, decide_eq_false_iff_not, beq_iff_eq, bne_iff_ne, bne_eq_false_iff_eq, beq_eq_false_iff_ne, Bool.not_eq_true, Bool.not_eq_false, Bool.not_eq_true', Bool.not_eq_false', ne_eq] at h6
                refine awp_seq ?_
                refine awp_rd [(some 116, []), (some 117, []), (some 118, []), (some 119, []), (some 120, []), (some 121, []), (some 122, []), (some 123, []), (some 124, []), (some 115, []), (some 125, []), (some 126, []), (none, [19]), (some 17, [])] [[], [], [], [2], [], [2, 3, 4], [1, 2, 3, 4, 5], [1, 2, 3, 4, 5, 6], [0, 1, 2, 3, 4, 5, 6, 7], [0, 1, 2, 3, 4, 5, 6, 7, 8], [0, 1, 2, 3, 4, 5, 6, 7, 8, 9], [0, 1, 2, 3, 4, 5, 6, 7, 8, 9], [0, 1, 2, 3, 4, 5, 6, 7, 8, 9, 10], [0, 1, 2, 3, 4, 5, 6, 7, 8, 9, 10, 11, 12]] tm rfl rfl rfl rfl ?_
                have hn0 : 0 < n := by omega
                obtain ⟨q, hq, hqn⟩ : ∃ q : Nat, (around (wh[i]'hil) 1000000) / 4 % (n : Int) = (q : Int) ∧ q < n := ⟨((around (wh[i]'hil) 1000000) / 4 % (n : Int)).toNat, by have := Int.emod_nonneg ((around (wh[i]'hil) 1000000) / 4) (show (n : Int) ≠ 0 by omega); omega, by have := Int.emod_lt_of_pos ((around (wh[i]'hil) 1000000) / 4) (show (0 : Int) < n by omega); have := Int.emod_nonneg ((around (wh[i]'hil) 1000000) / 4) (show (n : Int) ≠ 0 by omega); omega⟩
                refine RD.op rfl rfl rfl (eff_load rfl rfl ti37 rfl (.whole rfl rfl rfl rfl rfl rfl)) ?_
                refine RD.op rfl rfl rfl (eff_move (v := .t _) rfl rfl rfl) ?_
                refine RD.op rfl rfl rfl (eff_move (v := .t _) rfl rfl rfl) ?_
                refine RD.op rfl rfl rfl (eff_quoE (r := (around (wh[i]'hil) 1000000) / 4) rfl rfl rfl rfl (by decide) (quoN (by omega) (by decide))) ?_
                refine RD.op rfl rfl rfl (eff_move (v := .t _) rfl rfl rfl) ?_
                refine RD.op rfl rfl rfl (eff_remE (r := ((q : Nat) : Int)) rfl rfl rfl rfl (by omega) (by rw [tmod_pos (by omega), hq])) ?_
                refine RD.op rfl rfl rfl (eff_indexM rfl rfl te34 rfl rfl rfl (by first | assumption | exact List.getElem?_eq_getElem (by omega)) rfl (by decide)) ?_
                refine RD.op rfl rfl rfl (eff_loadW rfl rfl ti30 rfl rfl rfl) ?_
                refine RD.op rfl rfl rfl (eff_callXT (tsend_ret T ((frames l 9)[q]'(by omega)) hg4 hg5 (by omega) (by omega) hg6 (frames_bod (List.getElem_mem _))) co20 rfl rfl rfl ⟨rfl, trivial⟩ rfl) ?_
                refine RD.op rfl rfl rfl (eff_move (v := .t _) rfl rfl rfl) ?_
                refine RD.op rfl rfl rfl (eff_extract rfl rfl rfl rfl) ?_
                refine RD.op rfl rfl rfl (eff_extract rfl rfl rfl rfl) ?_
                refine RD.store rfl rfl rfl (eff_storeW (v := .t _) (els := [_]) (els' := [_]) rfl rfl ti37 rfl rfl rfl rfl rfl rfl rfl rfl rfl) ?_
                refine RD.op rfl rfl rfl (eff_assign (v := .t _) rfl rfl rfl) ?_
                refine RD.nil ?_
                refine awp_rd [(some 128, []), (some 129, []), (some 130, []), (some 131, []), (some 132, []), (some 133, []), (some 134, []), (some 135, []), (some 136, []), (some 127, []), (some 137, []), (some 138, []), (none, [20]), (some 18, [])] [[], [], [], [2], [], [2, 3, 4], [1, 2, 3, 4, 5], [1, 2, 3, 4, 5, 6], [0, 1, 2, 3, 4, 5, 6, 7], [0, 1, 2, 3, 4, 5, 6, 7, 8], [0, 1, 2, 3, 4, 5, 6, 7, 8, 9], [0, 1, 2, 3, 4, 5, 6, 7, 8, 9], [0, 1, 2, 3, 4, 5, 6, 7, 8, 9, 10], [0, 1, 2, 3, 4, 5, 6, 7, 8, 9, 10, 11, 12]] tm rfl rfl rfl rfl ?_
                refine RD.op rfl rfl rfl (eff_load rfl rfl ti37 rfl (.whole rfl rfl rfl rfl rfl rfl)) ?_
                refine RD.op rfl rfl rfl (eff_move (v := .t _) rfl rfl rfl) ?_
                refine RD.op rfl rfl rfl (eff_move (v := .t _) rfl rfl rfl) ?_
                refine RD.op rfl rfl rfl (eff_quoE (r := (around (wh[i]'hil) 1000000) / 4) rfl rfl rfl rfl (by decide) (quoN (by omega) (by decide))) ?_
                refine RD.op rfl rfl rfl (eff_move (v := .t _) rfl rfl rfl) ?_
                refine RD.op rfl rfl rfl (eff_remE (r := ((q : Nat) : Int)) rfl rfl rfl rfl (by omega) (by rw [tmod_pos (by omega), hq])) ?_
                refine RD.op rfl rfl rfl (eff_indexM rfl rfl te34 rfl rfl rfl (by first | assumption | exact List.getElem?_eq_getElem (by omega)) rfl (by decide)) ?_
                refine RD.op rfl rfl rfl (eff_loadW rfl rfl ti30 rfl rfl rfl) ?_
                refine RD.op rfl rfl rfl (eff_callT (rsend_ret T ((frames l 9)[q]'(by omega)) hg5 (by omega) (by omega)) co21 rfl rfl rfl rfl) ?_
                refine RD.op rfl rfl rfl (eff_move (v := .t _) rfl rfl rfl) ?_
                refine RD.op rfl rfl rfl (eff_extract rfl rfl rfl rfl) ?_
                refine RD.op rfl rfl rfl (eff_extract rfl rfl rfl rfl) ?_
                refine RD.store rfl rfl rfl (eff_storeW (v := .t _) (els := [_]) (els' := [_]) rfl rfl ti37 rfl rfl rfl rfl rfl rfl rfl rfl rfl) ?_
                refine RD.op rfl rfl rfl (eff_assign (v := .t _) rfl rfl rfl) ?_
                refine RD.nil ?_
                have hst : StepOK l 9 (send T ((frames l 9)[q]'(by omega))) := send_step hg (List.getElem_mem _)
                show ∃ (P : Twn × Int) (n' : Nat), _
                first
                  | exact ⟨_, n + 1, hst, by omega, weak_keep (n := 167) ⟨rfl, rfl, rfl, rfl, rfl, rfl, rfl, rfl, rfl, rfl, rfl, rfl, rfl, rfl, rfl, rfl, rfl, rfl, rfl, rfl, rfl, rfl, rfl, rfl, rfl, rfl, rfl, rfl, trivial⟩ ⟨rfl, okE_one rfl, rfl, okE_one rfl, rfl, okE_one rfl, rfl, okE_one rfl, trivial⟩⟩
                  | exact ⟨_, n, hst, hn, weak_keep (n := 167) ⟨rfl, rfl, rfl, rfl, rfl, rfl, rfl, rfl, rfl, rfl, rfl, rfl, rfl, rfl, rfl, rfl, rfl, rfl, rfl, rfl, rfl, rfl, rfl, rfl, rfl, rfl, rfl, rfl, trivial⟩ ⟨rfl, okE_one rfl, rfl, okE_one rfl, rfl, okE_one rfl, rfl, okE_one rfl, trivial⟩⟩
                  | exact ⟨_, n, hst (T.poss[q2]'hqn2), hn, weak_keep (n := 167) ⟨rfl, rfl, rfl, rfl, rfl, rfl, rfl, rfl, rfl, rfl, rfl, rfl, rfl, rfl, rfl, rfl, rfl, rfl, rfl, rfl, rfl, rfl, rfl, rfl, rfl, rfl, rfl, rfl, trivial⟩ ⟨rfl, okE_one rfl, rfl, okE_one rfl, rfl, okE_one rfl, rfl, okE_one rfl, trivial⟩⟩
                  | exact ⟨_, n, hst (state nx hv ky ((around (wh[i]'hil) 1000000) / 12 % 2 == 0)), hn, weak_keep (n := 167) ⟨rfl, rfl, rfl, rfl, rfl, rfl, rfl, rfl, rfl, rfl, rfl, rfl, rfl, rfl, rfl, rfl, rfl, rfl, rfl, rfl, rfl, rfl, rfl, rfl, rfl, rfl, rfl, rfl, trivial⟩ ⟨rfl, okE_one rfl, rfl, okE_one rfl, rfl, okE_one rfl, rfl, okE_one rfl, trivial⟩⟩
              · try simp only [decide_eq_true_eq, decide_eq_false_iff_not, beq_iff_eq, bne_iff_ne, bne_eq_false_iff_eq, beq_eq_false_iff_ne, Bool.not_eq_true, Bool.not_eq_false, Bool.not_eq_true', Bool.not_eq_false', ne_eq] at h6
                refine awp_seq ?_
                refine awp_rd [(some 43, []), (some 44, []), (some 45, []), (some 46, []), (some 47, []), (some 48, []), (some 49, []), (some 50, []), (some 51, []), (some 52, []), (some 21, [21]), (none, [21])] [[], [0], [], [2], [], [4], [4, 5], [2, 3, 4, 5, 6], [0, 1, 2, 3, 4, 5, 6, 7], [0, 1, 2, 3, 4, 5, 6, 7, 8], [], [0, 1, 2, 3, 4, 5, 6, 7, 8, 9, 10]] tm rfl rfl rfl rfl ?_
                obtain ⟨q2, hq2, hqn2⟩ : ∃ q : Nat, (around (wh[i]'hil) 1000000) / 8 % (T.poss.length : Int) = (q : Int) ∧ q < T.poss.length := ⟨((around (wh[i]'hil) 1000000) / 8 % (T.poss.length : Int)).toNat, by have := Int.emod_nonneg ((around (wh[i]'hil) 1000000) / 8) (show (T.poss.length : Int) ≠ 0 by omega); omega, by have := Int.emod_lt_of_pos ((around (wh[i]'hil) 1000000) / 8) (show (0 : Int) < T.poss.length by omega); have := Int.emod_nonneg ((around (wh[i]'hil) 1000000) / 8) (show (T.poss.length : Int) ≠ 0 by omega); omega⟩
                refine RD.op rfl rfl rfl (eff_fieldAddr rfl rfl tf37_1 (by decide) rfl rfl rfl (Nat.le_of_ble_eq_true rfl)) ?_
                refine RD.op rfl rfl rfl (eff_load (y := .t _) rfl rfl ti35 rfl (.one rfl rfl rfl rfl)) ?_
                refine RD.op rfl rfl rfl (eff_move (v := .t _) rfl rfl rfl) ?_
                refine RD.op rfl rfl rfl (eff_quoE (r := (around (wh[i]'hil) 1000000) / 8) rfl rfl rfl rfl (by decide) (quoN (by omega) (by decide))) ?_
                refine RD.op rfl rfl rfl (eff_fieldAddr rfl rfl tf37_1 (by decide) rfl rfl rfl (Nat.le_of_ble_eq_true rfl)) ?_
                refine RD.op rfl rfl rfl (eff_load (y := .t _) rfl rfl ti35 rfl (.one rfl rfl rfl rfl)) ?_
                refine RD.op rfl rfl rfl (eff_lenM rfl rfl te35 rfl) ?_
                refine RD.op rfl rfl rfl (eff_remE (r := ((q2 : Nat) : Int)) rfl rfl rfl rfl (by omega) (by rw [tmod_pos (by omega), hq2])) ?_
                refine RD.op rfl rfl rfl (eff_indexM rfl rfl te35 rfl rfl rfl (by first | assumption | exact List.getElem?_eq_getElem (by omega)) rfl (by decide)) ?_
                refine RD.op rfl rfl rfl (eff_loadW rfl rfl ti23 rfl rfl rfl) ?_
                refine RD.new rfl rfl rfl (eff_allocK (k := 4) (id := 21) rfl rfl tz23 rfl rfl) ?_
                refine RD.store rfl rfl rfl (eff_storeW (v := .t _) (els := [_]) (els' := [_]) rfl rfl ti23 rfl rfl rfl rfl rfl rfl rfl rfl rfl) ?_
                refine RD.nil ?_
                refine awp_seq ?_
                refine awp_seq ?_
                refine awp_rw rfl ?_
                refine RW.op rfl rfl (eff_move (v := .t _) rfl rfl rfl) ?_
                refine RW.op rfl rfl (eff_quoE (r := (around (wh[i]'hil) 1000000) / 4) rfl rfl rfl rfl (by decide) (quoN (by omega) (by decide))) ?_
                refine RW.op rfl rfl (eff_remE (r := ((around (wh[i]'hil) 1000000) / 4) % 3) rfl rfl rfl rfl (by decide) (tmod_pos (by omega))) ?_
                refine RW.op rfl rfl (eff_iop rfl rfl rfl rfl rfl) ?_
                refine RW.nil ?_
                refine awp_cond rfl (fun h7 => ?_) (fun h7 => ?_)
                · try simp only [decide_eq_true_eq, decide_eq_false_iff_not, beq_iff_eq, bne_iff_ne, bne_eq_false_iff_eq, beq_eq_false_iff_ne, Bool.not_eq_true, Bool.not_eq_false, Bool.not_eq_true', Bool.not_eq_false', ne_eq] at h7
                  refine awp_rw rfl ?_
                  refine RW.op rfl rfl (eff_move (v := .t _) rfl rfl rfl) ?_
                  refine RW.op rfl rfl (eff_move (v := .t _) rfl rfl rfl) ?_
                  refine RW.op rfl rfl (eff_move (v := .t _) rfl rfl rfl) ?_
                  refine RW.op rfl rfl (eff_move (v := .t _) rfl rfl rfl) ?_
                  refine RW.op rfl rfl (eff_quoE (r := (around (wh[i]'hil) 1000000) / 12) rfl rfl rfl rfl (by decide) (quoN (by omega) (by decide))) ?_
                  refine RW.op rfl rfl (eff_remE (r := ((around (wh[i]'hil) 1000000) / 12) % 2) rfl rfl rfl rfl (by decide) (tmod_pos (by omega))) ?_
                  refine RW.op rfl rfl (eff_iop rfl rfl rfl rfl rfl) ?_
                  refine RW.op rfl rfl (eff_callT (state_ret nx hv ky _ hnx hhv hky) co12 rfl rfl rfl rfl) ?_
                  refine RW.store rfl rfl (eff_storeW (v := .t _) (els := [_]) (els' := [_]) rfl rfl ti23 rfl rfl rfl rfl rfl rfl rfl rfl rfl) ?_
                  refine RW.nil ?_
                  refine awp_seq ?_
                  refine awp_rw rfl ?_
                  refine RW.op rfl rfl (eff_load rfl rfl ti37 rfl (.whole rfl rfl rfl rfl rfl rfl)) ?_
                  refine RW.op rfl rfl (eff_load rfl rfl ti23 rfl (.whole rfl rfl rfl rfl rfl rfl)) ?_
                  refine RW.op rfl rfl (eff_callXT (thear_ret T _ (by first | exact state_hp _ _ _ _ | exact hg5 _ (List.getElem_mem _)) (by omega) (by omega) hg6) co22 rfl rfl rfl ⟨rfl, trivial⟩ rfl) ?_
                  refine RW.op rfl rfl (eff_move (v := .t _) rfl rfl rfl) ?_
                  refine RW.op rfl rfl (eff_extract rfl rfl rfl rfl) ?_
                  refine RW.op rfl rfl (eff_extract rfl rfl rfl rfl) ?_
                  refine RW.store rfl rfl (eff_storeW (v := .t _) (els := [_]) (els' := [_]) rfl rfl ti37 rfl rfl rfl rfl rfl rfl rfl rfl rfl) ?_
                  refine RW.op rfl rfl (eff_assign (v := .t _) rfl rfl rfl) ?_
                  refine RW.nil ?_
                  refine awp_rw rfl ?_
                  refine RW.op rfl rfl (eff_load rfl rfl ti37 rfl (.whole rfl rfl rfl rfl rfl rfl)) ?_
                  refine RW.op rfl rfl (eff_load rfl rfl ti23 rfl (.whole rfl rfl rfl rfl rfl rfl)) ?_
                  refine RW.op rfl rfl (eff_callT (rhear_ret T _ (by first | exact state_hp _ _ _ _ | exact hg5 _ (List.getElem_mem _)) (by omega) (by omega)) co23 rfl rfl rfl rfl) ?_
                  refine RW.op rfl rfl (eff_move (v := .t _) rfl rfl rfl) ?_
                  refine RW.op rfl rfl (eff_extract rfl rfl rfl rfl) ?_
                  refine RW.op rfl rfl (eff_extract rfl rfl rfl rfl) ?_
                  refine RW.store rfl rfl (eff_storeW (v := .t _) (els := [_]) (els' := [_]) rfl rfl ti37 rfl rfl rfl rfl rfl rfl rfl rfl rfl) ?_
                  refine RW.op rfl rfl (eff_assign (v := .t _) rfl rfl rfl) ?_
                  refine RW.nil ?_
                  have hst : ∀ r, StepOK l 9 (hear T r) := fun r => hear_step hg r
                  show ∃ (P : Twn × Int) (n' : Nat), _
                  first
                    | exact ⟨_, n + 1, hst, by omega, weak_keep (n := 167) ⟨rfl, rfl, rfl, rfl, rfl, rfl, rfl, rfl, rfl, rfl, rfl, rfl, rfl, rfl, rfl, rfl, rfl, rfl, rfl, rfl, rfl, rfl, rfl, rfl, rfl, rfl, rfl, rfl, trivial⟩ ⟨rfl, okE_one rfl, rfl, okE_one rfl, rfl, okE_one rfl, rfl, okE_one rfl, trivial⟩⟩
                    | exact ⟨_, n, hst, hn, weak_keep (n := 167) ⟨rfl, rfl, rfl, rfl, rfl, rfl, rfl, rfl, rfl, rfl, rfl, rfl, rfl, rfl, rfl, rfl, rfl, rfl, rfl, rfl, rfl, rfl, rfl, rfl, rfl, rfl, rfl, rfl, trivial⟩ ⟨rfl, okE_one rfl, rfl, okE_one rfl, rfl, okE_one rfl, rfl, okE_one rfl, trivial⟩⟩
                    | exact ⟨_, n, hst (T.poss[q2]'hqn2), hn, weak_keep (n := 167) ⟨rfl, rfl, rfl, rfl, rfl, rfl, rfl, rfl, rfl, rfl, rfl, rfl, rfl, rfl, rfl, rfl, rfl, rfl, rfl, rfl, rfl, rfl, rfl, rfl, rfl, rfl, rfl, rfl, trivial⟩ ⟨rfl, okE_one rfl, rfl, okE_one rfl, rfl, okE_one rfl, rfl, okE_one rfl, trivial⟩⟩
                    | exact ⟨_, n, hst (state nx hv ky ((around (wh[i]'hil) 1000000) / 12 % 2 == 0)), hn, weak_keep (n := 167) ⟨rfl, rfl, rfl, rfl, rfl, rfl, rfl, rfl, rfl, rfl, rfl, rfl, rfl, rfl, rfl, rfl, rfl, rfl, rfl, rfl, rfl, rfl, rfl, rfl, rfl, rfl, rfl, rfl, trivial⟩ ⟨rfl, okE_one rfl, rfl, okE_one rfl, rfl, okE_one rfl, rfl, okE_one rfl, trivial⟩⟩
                · try simp only [decide_eq_true_eq, decide_eq_false_iff_not, beq_iff_eq, bne_iff_ne, bne_eq_false_iff_eq, beq_eq_false_iff_ne, Bool.not_eq_true, Bool.not_eq_false, Bool.not_eq_true', Bool.not_eq_false', ne_eq] at h7
                  refine awp_skip ?_
                  refine awp_seq ?_
                  refine awp_rw rfl ?_
                  refine RW.op rfl rfl (eff_load rfl rfl ti37 rfl (.whole rfl rfl rfl rfl rfl rfl)) ?_
                  refine RW.op rfl rfl (eff_load rfl rfl ti23 rfl (.whole rfl rfl rfl rfl rfl rfl)) ?_
                  refine RW.op rfl rfl (eff_callXT (thear_ret T _ (by first | exact state_hp _ _ _ _ | exact hg5 _ (List.getElem_mem _)) (by omega) (by omega) hg6) co22 rfl rfl rfl ⟨rfl, trivial⟩ rfl) ?_
                  refine RW.op rfl rfl (eff_move (v := .t _) rfl rfl rfl) ?_
                  refine RW.op rfl rfl (eff_extract rfl rfl rfl rfl) ?_
                  refine RW.op rfl rfl (eff_extract rfl rfl rfl rfl) ?_
                  refine RW.store rfl rfl (eff_storeW (v := .t _) (els := [_]) (els' := [_]) rfl rfl ti37 rfl rfl rfl rfl rfl rfl rfl rfl rfl) ?_
                  refine RW.op rfl rfl (eff_assign (v := .t _) rfl rfl rfl) ?_
                  refine RW.nil ?_
                  refine awp_rw rfl ?_
                  refine RW.op rfl rfl (eff_load rfl rfl ti37 rfl (.whole rfl rfl rfl rfl rfl rfl)) ?_
                  refine RW.op rfl rfl (eff_load rfl rfl ti23 rfl (.whole rfl rfl rfl rfl rfl rfl)) ?_
                  refine RW.op rfl rfl (eff_callT (rhear_ret T _ (by first | exact state_hp _ _ _ _ | exact hg5 _ (List.getElem_mem _)) (by omega) (by omega)) co23 rfl rfl rfl rfl) ?_
                  refine RW.op rfl rfl (eff_move (v := .t _) rfl rfl rfl) ?_
                  refine RW.op rfl rfl (eff_extract rfl rfl rfl rfl) ?_
                  refine RW.op rfl rfl (eff_extract rfl rfl rfl rfl) ?_
                  refine RW.store rfl rfl (eff_storeW (v := .t _) (els := [_]) (els' := [_]) rfl rfl ti37 rfl rfl rfl rfl rfl rfl rfl rfl rfl) ?_
                  refine RW.op rfl rfl (eff_assign (v := .t _) rfl rfl rfl) ?_
                  refine RW.nil ?_
                  have hst : ∀ r, StepOK l 9 (hear T r) := fun r => hear_step hg r
                  show ∃ (P : Twn × Int) (n' : Nat), _
                  first
                    | exact ⟨_, n + 1, hst, by omega, weak_keep (n := 167) ⟨rfl, rfl, rfl, rfl, rfl, rfl, rfl, rfl, rfl, rfl, rfl, rfl, rfl, rfl, rfl, rfl, rfl, rfl, rfl, rfl, rfl, rfl, rfl, rfl, rfl, rfl, rfl, rfl, trivial⟩ ⟨rfl, okE_one rfl, rfl, okE_one rfl, rfl, okE_one rfl, rfl, okE_one rfl, trivial⟩⟩
                    | exact ⟨_, n, hst, hn, weak_keep (n := 167) ⟨rfl, rfl, rfl, rfl, rfl, rfl, rfl, rfl, rfl, rfl, rfl, rfl, rfl, rfl, rfl, rfl, rfl, rfl, rfl, rfl, rfl, rfl, rfl, rfl, rfl, rfl, rfl, rfl, trivial⟩ ⟨rfl, okE_one rfl, rfl, okE_one rfl, rfl, okE_one rfl, rfl, okE_one rfl, trivial⟩⟩
                    | exact ⟨_, n, hst (T.poss[q2]'hqn2), hn, weak_keep (n := 167) ⟨rfl, rfl, rfl, rfl, rfl, rfl, rfl, rfl, rfl, rfl, rfl, rfl, rfl, rfl, rfl, rfl, rfl, rfl, rfl, rfl, rfl, rfl, rfl, rfl, rfl, rfl, rfl, rfl, trivial⟩ ⟨rfl, okE_one rfl, rfl, okE_one rfl, rfl, okE_one rfl, rfl, okE_one rfl, trivial⟩⟩
                    | exact ⟨_, n, hst (state nx hv ky ((around (wh[i]'hil) 1000000) / 12 % 2 == 0)), hn, weak_keep (n := 167) ⟨rfl, rfl, rfl, rfl, rfl, rfl, rfl, rfl, rfl, rfl, rfl, rfl, rfl, rfl, rfl, rfl, rfl, rfl, rfl, rfl, rfl, rfl, rfl, rfl, rfl, rfl, rfl, rfl, trivial⟩ ⟨rfl, okE_one rfl, rfl, okE_one rfl, rfl, okE_one rfl, rfl, okE_one rfl, trivial⟩⟩
            · try simp only [decide_eq_true_eq, decide_eq_false_iff_not, beq_iff_eq, bne_iff_ne, bne_eq_false_iff_eq, beq_eq_false_iff_ne, Bool.not_eq_true, Bool.not_eq_false, Bool.not_eq_true', Bool.not_eq_false', ne_eq] at h5
              refine RW.gskip rfl rfl rfl rfl rfl (by decide) ?_
              refine RW.gskip rfl rfl rfl rfl rfl (by decide) ?_
              refine RW.op rfl rfl (eff_pick (v := .t _) rfl rfl rfl rfl) ?_
              refine RW.op rfl rfl (eff_assign (v := .t _) rfl rfl rfl) ?_
              refine RW.nil ?_
              refine awp_cond rfl (fun h => nomatch h) (fun _ => ?_)
              refine awp_seq ?_
              refine awp_rd [(some 43, []), (some 44, []), (some 45, []), (some 46, []), (some 47, []), (some 48, []), (some 49, []), (some 50, []), (some 51, []), (some 52, []), (some 21, [21]), (none, [21])] [[], [0], [], [2], [], [4], [4, 5], [2, 3, 4, 5, 6], [0, 1, 2, 3, 4, 5, 6, 7], [0, 1, 2, 3, 4, 5, 6, 7, 8], [], [0, 1, 2, 3, 4, 5, 6, 7, 8, 9, 10]] tm rfl rfl rfl rfl ?_
              obtain ⟨q2, hq2, hqn2⟩ : ∃ q : Nat, (around (wh[i]'hil) 1000000) / 8 % (T.poss.length : Int) = (q : Int) ∧ q < T.poss.length := ⟨((around (wh[i]'hil) 1000000) / 8 % (T.poss.length : Int)).toNat, by have := Int.emod_nonneg ((around (wh[i]'hil) 1000000) / 8) (show (T.poss.length : Int) ≠ 0 by omega); omega, by have := Int.emod_lt_of_pos ((around (wh[i]'hil) 1000000) / 8) (show (0 : Int) < T.poss.length by omega); have := Int.emod_nonneg ((around (wh[i]'hil) 1000000) / 8) (show (T.poss.length : Int) ≠ 0 by omega); omega⟩
              refine RD.op rfl rfl rfl (eff_fieldAddr rfl rfl tf37_1 (by decide) rfl rfl rfl (Nat.le_of_ble_eq_true rfl)) ?_
              refine RD.op rfl rfl rfl (eff_load (y := .t _) rfl rfl ti35 rfl (.one rfl rfl rfl rfl)) ?_
              refine RD.op rfl rfl rfl (eff_move (v := .t _) rfl rfl rfl) ?_
              refine RD.op rfl rfl rfl (eff_quoE (r := (around (wh[i]'hil) 1000000) / 8) rfl rfl rfl rfl (by decide) (quoN (by omega) (by decide))) ?_
              refine RD.op rfl rfl rfl (eff_fieldAddr rfl rfl tf37_1 (by decide) rfl rfl rfl (Nat.le_of_ble_eq_true rfl)) ?_
              refine RD.op rfl rfl rfl (eff_load (y := .t _) rfl rfl ti35 rfl (.one rfl rfl rfl rfl)) ?_
              refine RD.op rfl rfl rfl (eff_lenM rfl rfl te35 rfl) ?_
              refine RD.op rfl rfl rfl (eff_remE (r := ((q2 : Nat) : Int)) rfl rfl rfl rfl (by omega) (by rw [tmod_pos (by omega), hq2])) ?_
              refine RD.op rfl rfl rfl (eff_indexM rfl rfl te35 rfl rfl rfl (by first | assumption | exact List.getElem?_eq_getElem (by omega)) rfl (by decide)) ?_
              refine RD.op rfl rfl rfl (eff_loadW rfl rfl ti23 rfl rfl rfl) ?_
              refine RD.new rfl rfl rfl (eff_allocK (k := 4) (id := 21) rfl rfl tz23 rfl rfl) ?_
              refine RD.store rfl rfl rfl (eff_storeW (v := .t _) (els := [_]) (els' := [_]) rfl rfl ti23 rfl rfl rfl rfl rfl rfl rfl rfl rfl) ?_
              refine RD.nil ?_
              refine awp_seq ?_
              refine awp_seq ?_
              refine awp_rw rfl ?_
              refine RW.op rfl rfl (eff_move (v := .t _) rfl rfl rfl) ?_
              refine RW.op rfl rfl (eff_quoE (r := (around (wh[i]'hil) 1000000) / 4) rfl rfl rfl rfl (by decide) (quoN (by omega) (by decide))) ?_
              refine RW.op rfl rfl (eff_remE (r := ((around (wh[i]'hil) 1000000) / 4) % 3) rfl rfl rfl rfl (by decide) (tmod_pos (by omega))) ?_
              refine RW.op rfl rfl (eff_iop rfl rfl rfl rfl rfl) ?_
              refine RW.nil ?_
              refine awp_cond rfl (fun h8 => ?_) (fun h8 => ?_)
              · try simp only [decide_eq_true_eq, decide_eq_false_iff_not, beq_iff_eq, bne_iff_ne, bne_eq_false_iff_eq, beq_eq_false_iff_ne, Bool.not_eq_true, Bool.not_eq_false, Bool.not_eq_true', Bool.not_eq_false', ne_eq] at h8
                refine awp_rw rfl ?_
                refine RW.op rfl rfl (eff_move (v := .t _) rfl rfl rfl) ?_
                refine RW.op rfl rfl (eff_move (v := .t _) rfl rfl rfl) ?_
                refine RW.op rfl rfl (eff_move (v := .t _) rfl rfl rfl) ?_
                refine RW.op rfl rfl (eff_move (v := .t _) rfl rfl rfl) ?_
                refine RW.op rfl rfl (eff_quoE (r := (around (wh[i]'hil) 1000000) / 12) rfl rfl rfl rfl (by decide) (quoN (by omega) (by decide))) ?_
                refine RW.op rfl rfl (eff_remE (r := ((around (wh[i]'hil) 1000000) / 12) % 2) rfl rfl rfl rfl (by decide) (tmod_pos (by omega))) ?_
                refine RW.op rfl rfl (eff_iop rfl rfl rfl rfl rfl) ?_
                refine RW.op rfl rfl (eff_callT (state_ret nx hv ky _ hnx hhv hky) co12 rfl rfl rfl rfl) ?_
                refine RW.store rfl rfl (eff_storeW (v := .t _) (els := [_]) (els' := [_]) rfl rfl ti23 rfl rfl rfl rfl rfl rfl rfl rfl rfl) ?_
                refine RW.nil ?_
                refine awp_seq ?_
                refine awp_rw rfl ?_
                refine RW.op rfl rfl (eff_load rfl rfl ti37 rfl (.whole rfl rfl rfl rfl rfl rfl)) ?_
                refine RW.op rfl rfl (eff_load rfl rfl ti23 rfl (.whole rfl rfl rfl rfl rfl rfl)) ?_
                refine RW.op rfl rfl (eff_callXT (thear_ret T _ (by first | exact state_hp _ _ _ _ | exact hg5 _ (List.getElem_mem _)) (by omega) (by omega) hg6) co22 rfl rfl rfl ⟨rfl, trivial⟩ rfl) ?_
                refine RW.op rfl rfl (eff_move (v := .t _) rfl rfl rfl) ?_
                refine RW.op rfl rfl (eff_extract rfl rfl rfl rfl) ?_
                refine RW.op rfl rfl (eff_extract rfl rfl rfl rfl) ?_
                refine RW.store rfl rfl (eff_storeW (v := .t _) (els := [_]) (els' := [_]) rfl rfl ti37 rfl rfl rfl rfl rfl rfl rfl rfl rfl) ?_
                refine RW.op rfl rfl (eff_assign (v := .t _) rfl rfl rfl) ?_
                refine RW.nil ?_
                refine awp_rw rfl ?_
                refine RW.op rfl rfl (eff_load rfl rfl ti37 rfl (.whole rfl rfl rfl rfl rfl rfl)) ?_
                refine RW.op rfl rfl (eff_load rfl rfl ti23 rfl (.whole rfl rfl rfl rfl rfl rfl)) ?_
                refine RW.op rfl rfl (eff_callT (rhear_ret T _ (by first | exact state_hp _ _ _ _ | exact hg5 _ (List.getElem_mem _)) (by omega) (by omega)) co23 rfl rfl rfl rfl) ?_
                refine RW.op rfl rfl (eff_move (v := .t _) rfl rfl rfl) ?_
                refine RW.op rfl rfl (eff_extract rfl rfl rfl rfl) ?_
                refine RW.op rfl rfl (eff_extract rfl rfl rfl rfl) ?_
                refine RW.store rfl rfl (eff_storeW (v := .t _) (els := [_]) (els' := [_]) rfl rfl ti37 rfl rfl rfl rfl rfl rfl rfl rfl rfl) ?_
                refine RW.op rfl rfl (eff_assign (v := .t _) rfl rfl rfl) ?_
                refine RW.nil ?_
                have hst : ∀ r, StepOK l 9 (hear T r) := fun r => hear_step hg r
                show ∃ (P : Twn × Int) (n' : Nat), _
                first
                  | exact ⟨_, n + 1, hst, by omega, weak_keep (n := 167) ⟨rfl, rfl, rfl, rfl, rfl, rfl, rfl, rfl, rfl, rfl, rfl, rfl, rfl, rfl, rfl, rfl, rfl, rfl, rfl, rfl, rfl, rfl, rfl, rfl, rfl, rfl, rfl, rfl, trivial⟩ ⟨rfl, okE_one rfl, rfl, okE_one rfl, rfl, okE_one rfl, rfl, okE_one rfl, trivial⟩⟩
                  | exact ⟨_, n, hst, hn, weak_keep (n := 167) ⟨rfl, rfl, rfl, rfl, rfl, rfl, rfl, rfl, rfl, rfl, rfl, rfl, rfl, rfl, rfl, rfl, rfl, rfl, rfl, rfl, rfl, rfl, rfl, rfl, rfl, rfl, rfl, rfl, trivial⟩ ⟨rfl, okE_one rfl, rfl, okE_one rfl, rfl, okE_one rfl, rfl, okE_one rfl, trivial⟩⟩
                  | exact ⟨_, n, hst (T.poss[q2]'hqn2), hn, weak_keep (n := 167) ⟨rfl, rfl, rfl, rfl, rfl, rfl, rfl, rfl, rfl, rfl, rfl, rfl, rfl, rfl, rfl, rfl, rfl, rfl, rfl, rfl, rfl, rfl, rfl, rfl, rfl, rfl, rfl, rfl, trivial⟩ ⟨rfl, okE_one rfl, rfl, okE_one rfl, rfl, okE_one rfl, rfl, okE_one rfl, trivial⟩⟩
                  | exact ⟨_, n, hst (state nx hv ky ((around (wh[i]'hil) 1000000) / 12 % 2 == 0)), hn, weak_keep (n := 167) ⟨rfl, rfl, rfl, rfl, rfl, rfl, rfl, rfl, rfl, rfl, rfl, rfl, rfl, rfl, rfl, rfl, rfl, rfl, rfl, rfl, rfl, rfl, rfl, rfl, rfl, rfl, rfl, rfl, trivial⟩ ⟨rfl, okE_one rfl, rfl, okE_one rfl, rfl, okE_one rfl, rfl, okE_one rfl, trivial⟩⟩
              · try simp only [decide_eq_true_eq, decide_eq_false_iff_not, beq_iff_eq, bne_iff_ne, bne_eq_false_iff_eq, beq_eq_false_iff_ne, Bool.not_eq_true, Bool.not_eq_false, Bool.not_eq_true', Bool.not_eq_false', ne_eq] at h8
                refine awp_skip ?_
                refine awp_seq ?_
                refine awp_rw rfl ?_
                refine RW.op rfl rfl (eff_load rfl rfl ti37 rfl (.whole rfl rfl rfl rfl rfl rfl)) ?_
                refine RW.op rfl rfl (eff_load rfl rfl ti23 rfl (.whole rfl rfl rfl rfl rfl rfl)) ?_
                refine RW.op rfl rfl (eff_callXT (thear_ret T _ (by first | exact state_hp _ _ _ _ | exact hg5 _ (List.getElem_mem _)) (by omega) (by omega) hg6) co22 rfl rfl rfl ⟨rfl, trivial⟩ rfl) ?_
                refine RW.op rfl rfl (eff_move (v := .t _) rfl rfl rfl) ?_
                refine RW.op rfl rfl (eff_extract rfl rfl rfl rfl) ?_
                refine RW.op rfl rfl (eff_extract rfl rfl rfl rfl) ?_
                refine RW.store rfl rfl (eff_storeW (v := .t _) (els := [_]) (els' := [_]) rfl rfl ti37 rfl rfl rfl rfl rfl rfl rfl rfl rfl) ?_
                refine RW.op rfl rfl (eff_assign (v := .t _) rfl rfl rfl) ?_
                refine RW.nil ?_
                refine awp_rw rfl ?_
                refine RW.op rfl rfl (eff_load rfl rfl ti37 rfl (.whole rfl rfl rfl rfl rfl rfl)) ?_
                refine RW.op rfl rfl (eff_load rfl rfl ti23 rfl (.whole rfl rfl rfl rfl rfl rfl)) ?_
                refine RW.op rfl rfl (eff_callT (rhear_ret T _ (by first | exact state_hp _ _ _ _ | exact hg5 _ (List.getElem_mem _)) (by omega) (by omega)) co23 rfl rfl rfl rfl) ?_
                refine RW.op rfl rfl (eff_move (v := .t _) rfl rfl rfl) ?_
                refine RW.op rfl rfl (eff_extract rfl rfl rfl rfl) ?_
                refine RW.op rfl rfl (eff_extract rfl rfl rfl rfl) ?_
                refine RW.store rfl rfl (eff_storeW (v := .t _) (els := [_]) (els' := [_]) rfl rfl ti37 rfl rfl rfl rfl rfl rfl rfl rfl rfl) ?_
                refine RW.op rfl rfl (eff_assign (v := .t _) rfl rfl rfl) ?_
                refine RW.nil ?_
                have hst : ∀ r, StepOK l 9 (hear T r) := fun r => hear_step hg r
                show ∃ (P : Twn × Int) (n' : Nat), _
                first
                  | exact ⟨_, n + 1, hst, by omega, weak_keep (n := 167) ⟨rfl, rfl, rfl, rfl, rfl, rfl, rfl, rfl, rfl, rfl, rfl, rfl, rfl, rfl, rfl, rfl, rfl, rfl, rfl, rfl, rfl, rfl, rfl, rfl, rfl, rfl, rfl, rfl, trivial⟩ ⟨rfl, okE_one rfl, rfl, okE_one rfl, rfl, okE_one rfl, rfl, okE_one rfl, trivial⟩⟩
                  | exact ⟨_, n, hst, hn, weak_keep (n := 167) ⟨rfl, rfl, rfl, rfl, rfl, rfl, rfl, rfl, rfl, rfl, rfl, rfl, rfl, rfl, rfl, rfl, rfl, rfl, rfl, rfl, rfl, rfl, rfl, rfl, rfl, rfl, rfl, rfl, trivial⟩ ⟨rfl, okE_one rfl, rfl, okE_one rfl, rfl, okE_one rfl, rfl, okE_one rfl, trivial⟩⟩
                  | exact ⟨_, n, hst (T.poss[q2]'hqn2), hn, weak_keep (n := 167) ⟨rfl, rfl, rfl, rfl, rfl, rfl, rfl, rfl, rfl, rfl, rfl, rfl, rfl, rfl, rfl, rfl, rfl, rfl, rfl, rfl, rfl, rfl, rfl, rfl, rfl, rfl, rfl, rfl, trivial⟩ ⟨rfl, okE_one rfl, rfl, okE_one rfl, rfl, okE_one rfl, rfl, okE_one rfl, trivial⟩⟩
                  | exact ⟨_, n, hst (state nx hv ky ((around (wh[i]'hil) 1000000) / 12 % 2 == 0)), hn, weak_keep (n := 167) ⟨rfl, rfl, rfl, rfl, rfl, rfl, rfl, rfl, rfl, rfl, rfl, rfl, rfl, rfl, rfl, rfl, rfl, rfl, rfl, rfl, rfl, rfl, rfl, rfl, rfl, rfl, rfl, rfl, trivial⟩ ⟨rfl, okE_one rfl, rfl, okE_one rfl, rfl, okE_one rfl, rfl, okE_one rfl, trivial⟩⟩
        · try simp only [decide_eq_true_eq, decide_eq_false_iff_not, beq_iff_eq, bne_iff_ne, bne_eq_false_iff_eq, beq_eq_false_iff_ne, Bool.not_eq_true, Bool.not_eq_false, Bool.not_eq_true', Bool.not_eq_false', ne_eq] at h3
          refine RW.gskip rfl rfl rfl rfl rfl (by decide) ?_
          refine RW.gskip rfl rfl rfl rfl rfl (by decide) ?_
          refine RW.gskip rfl rfl rfl rfl rfl (by decide) ?_
          refine RW.gskip rfl rfl rfl rfl rfl (by decide) ?_
          refine RW.op rfl rfl (eff_pick (v := .t _) rfl rfl rfl rfl) ?_
          refine RW.op rfl rfl (eff_assign (v := .t _) rfl rfl rfl) ?_
          refine RW.nil ?_
          refine awp_cond rfl (fun h => nomatch h) (fun _ => ?_)
          refine awp_seq ?_
          refine awp_rw rfl ?_
          refine RW.op rfl rfl (eff_move (v := .t _) rfl rfl rfl) ?_
          refine RW.op rfl rfl (eff_remE (r := (around (wh[i]'hil) 1000000) % 4) rfl rfl rfl rfl (by decide) (tmod_pos (by omega))) ?_
          refine RW.op rfl rfl (eff_iop rfl rfl rfl rfl rfl) ?_
          refine RW.op rfl rfl (eff_move (v := .t _) rfl rfl rfl) ?_
          refine RW.split 111 rfl (fun h9 => ?_) (fun h9 => ?_)
          · try simp only [decide_eq_true_eq, decide_eq_false_iff_not, beq_iff_eq, bne_iff_ne, bne_eq_false_iff_eq, beq_eq_false_iff_ne, Bool.not_eq_true, Bool.not_eq_false, Bool.not_eq_true', Bool.not_eq_false', ne_eq] at h9
            refine RW.gop rfl rfl rfl rfl rfl rfl (eff_move (v := .t _) rfl rfl rfl) ?_
            refine RW.gop rfl rfl rfl rfl rfl rfl (eff_iop rfl rfl rfl rfl rfl) ?_
            refine RW.op rfl rfl (eff_pick (v := .t _) rfl rfl rfl rfl) ?_
            refine RW.op rfl rfl (eff_assign (v := .t _) rfl rfl rfl) ?_
            refine RW.nil ?_
            refine awp_cond rfl (fun h10 => ?_) (fun h10 => ?_)
            · try simp only [decide_eq_true_eq, decide_eq_false_iff_not, beq_iff_eq, bne_iff_ne, bne_eq_false_iff_eq, beq_eq_false_iff_ne, Bool.not_eq_true, Bool.not_eq_false, Bool.not_eq_true', Bool.not_eq_false', ne_eq] at h10
              refine awp_seq ?_
              refine awp_rd [(some 116, []), (some 117, []), (some 118, []), (some 119, []), (some 120, []), (some 121, []), (some 122, []), (some 123, []), (some 124, []), (some 115, []), (some 125, []), (some 126, []), (none, [19]), (some 17, [])] [[], [], [], [2], [], [2, 3, 4], [1, 2, 3, 4, 5], [1, 2, 3, 4, 5, 6], [0, 1, 2, 3, 4, 5, 6, 7], [0, 1, 2, 3, 4, 5, 6, 7, 8], [0, 1, 2, 3, 4, 5, 6, 7, 8, 9], [0, 1, 2, 3, 4, 5, 6, 7, 8, 9], [0, 1, 2, 3, 4, 5, 6, 7, 8, 9, 10], [0, 1, 2, 3, 4, 5, 6, 7, 8, 9, 10, 11, 12]] tm rfl rfl rfl rfl ?_
              have hn0 : 0 < n := by omega
              obtain ⟨q, hq, hqn⟩ : ∃ q : Nat, (around (wh[i]'hil) 1000000) / 4 % (n : Int) = (q : Int) ∧ q < n := ⟨((around (wh[i]'hil) 1000000) / 4 % (n : Int)).toNat, by have := Int.emod_nonneg ((around (wh[i]'hil) 1000000) / 4) (show (n : Int) ≠ 0 by omega); omega, by have := Int.emod_lt_of_pos ((around (wh[i]'hil) 1000000) / 4) (show (0 : Int) < n by omega); have := Int.emod_nonneg ((around (wh[i]'hil) 1000000) / 4) (show (n : Int) ≠ 0 by omega); omega⟩
              refine RD.op rfl rfl rfl (eff_load rfl rfl ti37 rfl (.whole rfl rfl rfl rfl rfl rfl)) ?_
              refine RD.op rfl rfl rfl (eff_move (v := .t _) rfl rfl rfl) ?_
              refine RD.op rfl rfl rfl (eff_move (v := .t _) rfl rfl rfl) ?_
              refine RD.op rfl rfl rfl (eff_quoE (r := (around (wh[i]'hil) 1000000) / 4) rfl rfl rfl rfl (by decide) (quoN (by omega) (by decide))) ?_
              refine RD.op rfl rfl rfl (eff_move (v := .t _) rfl rfl rfl) ?_
              refine RD.op rfl rfl rfl (eff_remE (r := ((q : Nat) : Int)) rfl rfl rfl rfl (by omega) (by rw [tmod_pos (by omega), hq])) ?_
              refine RD.op rfl rfl rfl (eff_indexM rfl rfl te34 rfl rfl rfl (by first | assumption | exact List.getElem?_eq_getElem (by omega)) rfl (by decide)) ?_
              refine RD.op rfl rfl rfl (eff_loadW rfl rfl ti30 rfl rfl rfl) ?_
              refine RD.op rfl rfl rfl (eff_callXT (tsend_ret T ((frames l 9)[q]'(by omega)) hg4 hg5 (by omega) (by omega) hg6 (frames_bod (List.getElem_mem _))) co20 rfl rfl rfl ⟨rfl, trivial⟩ rfl) ?_
              refine RD.op rfl rfl rfl (eff_move (v := .t _) rfl rfl rfl) ?_
              refine RD.op rfl rfl rfl (eff_extract rfl rfl rfl rfl) ?_
              refine RD.op rfl rfl rfl (eff_extract rfl rfl rfl rfl) ?_
              refine RD.store rfl rfl rfl (eff_storeW (v := .t _) (els := [_]) (els' := [_]) rfl rfl ti37 rfl rfl rfl rfl rfl rfl rfl rfl rfl) ?_
              refine RD.op rfl rfl rfl (eff_assign (v := .t _) rfl rfl rfl) ?_
              refine RD.nil ?_
              refine awp_rd [(some 128, []), (some 129, []), (some 130, []), (some 131, []), (some 132, []), (some 133, []), (some 134, []), (some 135, []), (some 136, []), (some 127, []), (some 137, []), (some 138, []), (none, [20]), (some 18, [])] [[], [], [], [2], [], [2, 3, 4], [1, 2, 3, 4, 5], [1, 2, 3, 4, 5, 6], [0, 1, 2, 3, 4, 5, 6, 7], [0, 1, 2, 3, 4, 5, 6, 7, 8], [0, 1, 2, 3, 4, 5, 6, 7, 8, 9], [0, 1, 2, 3, 4, 5, 6, 7, 8, 9], [0, 1, 2, 3, 4, 5, 6, 7, 8, 9, 10], [0, 1, 2, 3, 4, 5, 6, 7, 8, 9, 10, 11, 12]] tm rfl rfl rfl rfl ?_
              refine RD.op rfl rfl rfl (eff_load rfl rfl ti37 rfl (.whole rfl rfl rfl rfl rfl rfl)) ?_
              refine RD.op rfl rfl rfl (eff_move (v := .t _) rfl rfl rfl) ?_
              refine RD.op rfl rfl rfl (eff_move (v := .t _) rfl rfl rfl) ?_
              refine RD.op rfl rfl rfl (eff_quoE (r := (around (wh[i]'hil) 1000000) / 4) rfl rfl rfl rfl (by decide) (quoN (by omega) (by decide))) ?_
              refine RD.op rfl rfl rfl (eff_move (v := .t _) rfl rfl rfl) ?_
              refine RD.op rfl rfl rfl (eff_remE (r := ((q : Nat) : Int)) rfl rfl rfl rfl (by omega) (by rw [tmod_pos (by omega), hq])) ?_
              refine RD.op rfl rfl rfl (eff_indexM rfl rfl te34 rfl rfl rfl (by first | assumption | exact List.getElem?_eq_getElem (by omega)) rfl (by decide)) ?_
              refine RD.op rfl rfl rfl (eff_loadW rfl rfl ti30 rfl rfl rfl) ?_
              refine RD.op rfl rfl rfl (eff_callT (rsend_ret T ((frames l 9)[q]'(by omega)) hg5 (by omega) (by omega)) co21 rfl rfl rfl rfl) ?_
              refine RD.op rfl rfl rfl (eff_move (v := .t _) rfl rfl rfl) ?_
              refine RD.op rfl rfl rfl (eff_extract rfl rfl rfl rfl) ?_
              refine RD.op rfl rfl rfl (eff_extract rfl rfl rfl rfl) ?_
              refine RD.store rfl rfl rfl (eff_storeW (v := .t _) (els := [_]) (els' := [_]) rfl rfl ti37 rfl rfl rfl rfl rfl rfl rfl rfl rfl) ?_
              refine RD.op rfl rfl rfl (eff_assign (v := .t _) rfl rfl rfl) ?_
              refine RD.nil ?_
              have hst : StepOK l 9 (send T ((frames l 9)[q]'(by omega))) := send_step hg (List.getElem_mem _)
              show ∃ (P : Twn × Int) (n' : Nat), _
              first
                | exact ⟨_, n + 1, hst, by omega, weak_keep (n := 167) ⟨rfl, rfl, rfl, rfl, rfl, rfl, rfl, rfl, rfl, rfl, rfl, rfl, rfl, rfl, rfl, rfl, rfl, rfl, rfl, rfl, rfl, rfl, rfl, rfl, rfl, rfl, rfl, rfl, trivial⟩ ⟨rfl, okE_one rfl, rfl, okE_one rfl, rfl, okE_one rfl, rfl, okE_one rfl, trivial⟩⟩
                | exact ⟨_, n, hst, hn, weak_keep (n := 167) ⟨rfl, rfl, rfl, rfl, rfl, rfl, rfl, rfl, rfl, rfl, rfl, rfl, rfl, rfl, rfl, rfl, rfl, rfl, rfl, rfl, rfl, rfl, rfl, rfl, rfl, rfl, rfl, rfl, trivial⟩ ⟨rfl, okE_one rfl, rfl, okE_one rfl, rfl, okE_one rfl, rfl, okE_one rfl, trivial⟩⟩
                | exact ⟨_, n, hst (T.poss[q2]'hqn2), hn, weak_keep (n := 167) ⟨rfl, rfl, rfl, rfl, rfl, rfl, rfl, rfl, rfl, rfl, rfl, rfl, rfl, rfl, rfl, rfl, rfl, rfl, rfl, rfl, rfl, rfl, rfl, rfl, rfl, rfl, rfl, rfl, trivial⟩ ⟨rfl, okE_one rfl, rfl, okE_one rfl, rfl, okE_one rfl, rfl, okE_one rfl, trivial⟩⟩
                | exact ⟨_, n, hst (state nx hv ky ((around (wh[i]'hil) 1000000) / 12 % 2 == 0)), hn, weak_keep (n := 167) ⟨rfl, rfl, rfl, rfl, rfl, rfl, rfl, rfl, rfl, rfl, rfl, rfl, rfl, rfl, rfl, rfl, rfl, rfl, rfl, rfl, rfl, rfl, rfl, rfl, rfl, rfl, rfl, rfl, trivial⟩ ⟨rfl, okE_one rfl, rfl, okE_one rfl, rfl, okE_one rfl, rfl, okE_one rfl, trivial⟩⟩
            · try simp only [decide_eq_true_eq, decide_eq_false_iff_not, beq_iff_eq, bne_iff_ne, bne_eq_false_iff_eq, beq_eq_false_iff_ne, Bool.not_eq_true, Bool.not_eq_false, Bool.not_eq_true', Bool.not_eq_false', ne_eq] at h10
              refine awp_seq ?_
              refine awp_rd [(some 43, []), (some 44, []), (some 45, []), (some 46, []), (some 47, []), (some 48, []), (some 49, []), (some 50, []), (some 51, []), (some 52, []), (some 21, [21]), (none, [21])] [[], [0], [], [2], [], [4], [4, 5], [2, 3, 4, 5, 6], [0, 1, 2, 3, 4, 5, 6, 7], [0, 1, 2, 3, 4, 5, 6, 7, 8], [], [0, 1, 2, 3, 4, 5, 6, 7, 8, 9, 10]] tm rfl rfl rfl rfl ?_
              obtain ⟨q2, hq2, hqn2⟩ : ∃ q : Nat, (around (wh[i]'hil) 1000000) / 8 % (T.poss.length : Int) = (q : Int) ∧ q < T.poss.length := ⟨((around (wh[i]'hil) 1000000) / 8 % (T.poss.length : Int)).toNat, by have := Int.emod_nonneg ((around (wh[i]'hil) 1000000) / 8) (show (T.poss.length : Int) ≠ 0 by omega); omega, by have := Int.emod_lt_of_pos ((around (wh[i]'hil) 1000000) / 8) (show (0 : Int) < T.poss.length by omega); have := Int.emod_nonneg ((around (wh[i]'hil) 1000000) / 8) (show (T.poss.length : Int) ≠ 0 by omega); omega⟩
              refine RD.op rfl rfl rfl (eff_fieldAddr rfl rfl tf37_1 (by decide) rfl rfl rfl (Nat.le_of_ble_eq_true rfl)) ?_
              refine RD.op rfl rfl rfl (eff_load (y := .t _) rfl rfl ti35 rfl (.one rfl rfl rfl rfl)) ?_
              refine RD.op rfl rfl rfl (eff_move (v := .t _) rfl rfl rfl) ?_
              refine RD.op rfl rfl rfl (eff_quoE (r := (around (wh[i]'hil) 1000000) / 8) rfl rfl rfl rfl (by decide) (quoN (by omega) (by decide))) ?_
              refine RD.op rfl rfl rfl (eff_fieldAddr rfl rfl tf37_1 (by decide) rfl rfl rfl (Nat.le_of_ble_eq_true rfl)) ?_
              refine RD.op rfl rfl rfl (eff_load (y := .t _) rfl rfl ti35 rfl (.one rfl rfl rfl rfl)) ?_
              refine RD.op rfl rfl rfl (eff_lenM rfl rfl te35 rfl) ?_
              refine RD.op rfl rfl rfl (eff_remE (r := ((q2 : Nat) : Int)) rfl rfl rfl rfl (by omega) (by rw [tmod_pos (by omega), hq2])) ?_
              refine RD.op rfl rfl rfl (eff_indexM rfl rfl te35 rfl rfl rfl (by first | assumption | exact List.getElem?_eq_getElem (by omega)) rfl (by decide)) ?_
              refine RD.op rfl rfl rfl (eff_loadW rfl rfl ti23 rfl rfl rfl) ?_
              refine RD.new rfl rfl rfl (eff_allocK (k := 4) (id := 21) rfl rfl tz23 rfl rfl) ?_
              refine RD.store rfl rfl rfl (eff_storeW (v := .t _) (els := [_]) (els' := [_]) rfl rfl ti23 rfl rfl rfl rfl rfl rfl rfl rfl rfl) ?_
              refine RD.nil ?_
              refine awp_seq ?_
              refine awp_seq ?_
              refine awp_rw rfl ?_
              refine RW.op rfl rfl (eff_move (v := .t _) rfl rfl rfl) ?_
              refine RW.op rfl rfl (eff_quoE (r := (around (wh[i]'hil) 1000000) / 4) rfl rfl rfl rfl (by decide) (quoN (by omega) (by decide))) ?_
              refine RW.op rfl rfl (eff_remE (r := ((around (wh[i]'hil) 1000000) / 4) % 3) rfl rfl rfl rfl (by decide) (tmod_pos (by omega))) ?_
              refine RW.op rfl rfl (eff_iop rfl rfl rfl rfl rfl) ?_
              refine RW.nil ?_
              refine awp_cond rfl (fun h11 => ?_) (fun h11 => ?_)
              · try simp only [decide_eq_true_eq, decide_eq_false_iff_not, beq_iff_eq, bne_iff_ne, bne_eq_false_iff_eq, beq_eq_false_iff_ne, Bool.not_eq_true, Bool.not_eq_false, Bool.not_eq_true', Bool.not_eq_false', ne_eq] at h11
                refine awp_rw rfl ?_
                refine RW.op rfl rfl (eff_move (v := .t _) rfl rfl rfl) ?_
                refine RW.op rfl rfl (eff_move (v := .t _) rfl rfl rfl) ?_
                refine RW.op rfl rfl (eff_move (v := .t _) rfl rfl rfl) ?_
                refine RW.op rfl rfl (eff_move (v := .t _) rfl rfl rfl) ?_
                refine RW.op rfl rfl (eff_quoE (r := (around (wh[i]'hil) 1000000) / 12) rfl rfl rfl rfl (by decide) (quoN (by omega) (by decide))) ?_
                refine RW.op rfl rfl (eff_remE (r := ((around (wh[i]'hil) 1000000) / 12) % 2) rfl rfl rfl rfl (by decide) (tmod_pos (by omega))) ?_
                refine RW.op rfl rfl (eff_iop rfl rfl rfl rfl rfl) ?_
                refine RW.op rfl rfl (eff_callT (state_ret nx hv ky _ hnx hhv hky) co12 rfl rfl rfl rfl) ?_
                refine RW.store rfl rfl (eff_storeW (v := .t _) (els := [_]) (els' := [_]) rfl rfl ti23 rfl rfl rfl rfl rfl rfl rfl rfl rfl) ?_
                refine RW.nil ?_
                refine awp_seq ?_
                refine awp_rw rfl ?_
                refine RW.op rfl rfl (eff_load rfl rfl ti37 rfl (.whole rfl rfl rfl rfl rfl rfl)) ?_
                refine RW.op rfl rfl (eff_load rfl rfl ti23 rfl (.whole rfl rfl rfl rfl rfl rfl)) ?_
                refine RW.op rfl rfl (eff_callXT (thear_ret T _ (by first | exact state_hp _ _ _ _ | exact hg5 _ (List.getElem_mem _)) (by omega) (by omega) hg6) co22 rfl rfl rfl ⟨rfl, trivial⟩ rfl) ?_
                refine RW.op rfl rfl (eff_move (v := .t _) rfl rfl rfl) ?_
                refine RW.op rfl rfl (eff_extract rfl rfl rfl rfl) ?_
                refine RW.op rfl rfl (eff_extract rfl rfl rfl rfl) ?_
                refine RW.store rfl rfl (eff_storeW (v := .t _) (els := [_]) (els' := [_]) rfl rfl ti37 rfl rfl rfl rfl rfl rfl rfl rfl rfl) ?_
                refine RW.op rfl rfl (eff_assign (v := .t _) rfl rfl rfl) ?_
                refine RW.nil ?_
                refine awp_rw rfl ?_
                refine RW.op rfl rfl (eff_load rfl rfl ti37 rfl (.whole rfl rfl rfl rfl rfl rfl)) ?_
                refine RW.op rfl rfl (eff_load rfl rfl ti23 rfl (.whole rfl rfl rfl rfl rfl rfl)) ?_
                refine RW.op rfl rfl (eff_callT (rhear_ret T _ (by first | exact state_hp _ _ _ _ | exact hg5 _ (List.getElem_mem _)) (by omega) (by omega)) co23 rfl rfl rfl rfl) ?_
                refine RW.op rfl rfl (eff_move (v := .t _) rfl rfl rfl) ?_
                refine RW.op rfl rfl (eff_extract rfl rfl rfl rfl) ?_
                refine RW.op rfl rfl (eff_extract rfl rfl rfl rfl) ?_
                refine RW.store rfl rfl (eff_storeW (v := .t _) (els := [_]) (els' := [_]) rfl rfl ti37 rfl rfl rfl rfl rfl rfl rfl rfl rfl) ?_
                refine RW.op rfl rfl (eff_assign (v := .t _) rfl rfl rfl) ?_
                refine RW.nil ?_
                have hst : ∀ r, StepOK l 9 (hear T r) := fun r => hear_step hg r
                show ∃ (P : Twn × Int) (n' : Nat), _
                first
                  | exact ⟨_, n + 1, hst, by omega, weak_keep (n := 167) ⟨rfl, rfl, rfl, rfl, rfl, rfl, rfl, rfl, rfl, rfl, rfl, rfl, rfl, rfl, rfl, rfl, rfl, rfl, rfl, rfl, rfl, rfl, rfl, rfl, rfl, rfl, rfl, rfl, trivial⟩ ⟨rfl, okE_one rfl, rfl, okE_one rfl, rfl, okE_one rfl, rfl, okE_one rfl, trivial⟩⟩
                  | exact ⟨_, n, hst, hn, weak_keep (n := 167) ⟨rfl, rfl, rfl, rfl, rfl, rfl, rfl, rfl, rfl, rfl, rfl, rfl, rfl, rfl, rfl, rfl, rfl, rfl, rfl, rfl, rfl, rfl, rfl, rfl, rfl, rfl, rfl, rfl, trivial⟩ ⟨rfl, okE_one rfl, rfl, okE_one rfl, rfl, okE_one rfl, rfl, okE_one rfl, trivial⟩⟩
                  | exact ⟨_, n, hst (T.poss[q2]'hqn2), hn, weak_keep (n := 167) ⟨rfl, rfl, rfl, rfl, rfl, rfl, rfl, rfl, rfl, rfl, rfl, rfl, rfl, rfl, rfl, rfl, rfl, rfl, rfl, rfl, rfl, rfl, rfl, rfl, rfl, rfl, rfl, rfl, trivial⟩ ⟨rfl, okE_one rfl, rfl, okE_one rfl, rfl, okE_one rfl, rfl, okE_one rfl, trivial⟩⟩
                  | exact ⟨_, n, hst (state nx hv ky ((around (wh[i]'hil) 1000000) / 12 % 2 == 0)), hn, weak_keep (n := 167) ⟨rfl, rfl, rfl, rfl, rfl, rfl, rfl, rfl, rfl, rfl, rfl, rfl, rfl, rfl, rfl, rfl, rfl, rfl, rfl, rfl, rfl, rfl, rfl, rfl, rfl, rfl, rfl, rfl, trivial⟩ ⟨rfl, okE_one rfl, rfl, okE_one rfl, rfl, okE_one rfl, rfl, okE_one rfl, trivial⟩⟩
              · try simp only [decide_eq_true_eq, decide_eq_false_iff_not, beq_iff_eq, bne_iff_ne, bne_eq_false_iff_eq, beq_eq_false_iff_ne, Bool.not_eq_true, Bool.not_eq_false, Bool.not_eq_true', Bool.not_eq_false', ne_eq] at h11
                refine awp_skip ?_
                refine awp_seq ?_
                refine awp_rw rfl ?_
                refine RW.op rfl rfl (eff_load rfl rfl ti37 rfl (.whole rfl rfl rfl rfl rfl rfl)) ?_
                refine RW.op rfl rfl (eff_load rfl rfl ti23 rfl (.whole rfl rfl rfl rfl rfl rfl)) ?_
                refine RW.op rfl rfl (eff_callXT (thear_ret T _ (by first | exact state_hp _ _ _ _ | exact hg5 _ (List.getElem_mem _)) (by omega) (by omega) hg6) co22 rfl rfl rfl ⟨rfl, trivial⟩ rfl) ?_
                refine RW.op rfl rfl (eff_move (v := .t _) rfl rfl rfl) ?_
                refine RW.op rfl rfl (eff_extract rfl rfl rfl rfl) ?_
                refine RW.op rfl rfl (eff_extract rfl rfl rfl rfl) ?_
                refine RW.store rfl rfl (eff_storeW (v := .t _) (els := [_]) (els' := [_]) rfl rfl ti37 rfl rfl rfl rfl rfl rfl rfl rfl rfl) ?_
                refine RW.op rfl rfl (eff_assign (v := .t _) rfl rfl rfl) ?_
                refine RW.nil ?_
                refine awp_rw rfl ?_
                refine RW.op rfl rfl (eff_load rfl rfl ti37 rfl (.whole rfl rfl rfl rfl rfl rfl)) ?_
                refine RW.op rfl rfl (eff_load rfl rfl ti23 rfl (.whole rfl rfl rfl rfl rfl rfl)) ?_
                refine RW.op rfl rfl (eff_callT (rhear_ret T _ (by first | exact state_hp _ _ _ _ | exact hg5 _ (List.getElem_mem _)) (by omega) (by omega)) co23 rfl rfl rfl rfl) ?_
                refine RW.op rfl rfl (eff_move (v := .t _) rfl rfl rfl) ?_
                refine RW.op rfl rfl (eff_extract rfl rfl rfl rfl) ?_
                refine RW.op rfl rfl (eff_extract rfl rfl rfl rfl) ?_
                refine RW.store rfl rfl (eff_storeW (v := .t _) (els := [_]) (els' := [_]) rfl rfl ti37 rfl rfl rfl rfl rfl rfl rfl rfl rfl) ?_
                refine RW.op rfl rfl (eff_assign (v := .t _) rfl rfl rfl) ?_
                refine RW.nil ?_
                have hst : ∀ r, StepOK l 9 (hear T r) := fun r => hear_step hg r
                show ∃ (P : Twn × Int) (n' : Nat), _
                first
                  | exact ⟨_, n + 1, hst, by omega, weak_keep (n := 167) ⟨rfl, rfl, rfl, rfl, rfl, rfl, rfl, rfl, rfl, rfl, rfl, rfl, rfl, rfl, rfl, rfl, rfl, rfl, rfl, rfl, rfl, rfl, rfl, rfl, rfl, rfl, rfl, rfl, trivial⟩ ⟨rfl, okE_one rfl, rfl, okE_one rfl, rfl, okE_one rfl, rfl, okE_one rfl, trivial⟩⟩
                  | exact ⟨_, n, hst, hn, weak_keep (n := 167) ⟨rfl, rfl, rfl, rfl, rfl, rfl, rfl, rfl, rfl, rfl, rfl, rfl, rfl, rfl, rfl, rfl, rfl, rfl, rfl, rfl, rfl, rfl, rfl, rfl, rfl, rfl, rfl, rfl, trivial⟩ ⟨rfl, okE_one rfl, rfl, okE_one rfl, rfl, okE_one rfl, rfl, okE_one rfl, trivial⟩⟩
                  | exact ⟨_, n, hst (T.poss[q2]'hqn2), hn, weak_keep (n := 167) ⟨rfl, rfl, rfl, rfl, rfl, rfl, rfl, rfl, rfl, rfl, rfl, rfl, rfl, rfl, rfl, rfl, rfl, rfl, rfl, rfl, rfl, rfl, rfl, rfl, rfl, rfl, rfl, rfl, trivial⟩ ⟨rfl, okE_one rfl, rfl, okE_one rfl, rfl, okE_one rfl, rfl, okE_one rfl, trivial⟩⟩
                  | exact ⟨_, n, hst (state nx hv ky ((around (wh[i]'hil) 1000000) / 12 % 2 == 0)), hn, weak_keep (n := 167) ⟨rfl, rfl, rfl, rfl, rfl, rfl, rfl, rfl, rfl, rfl, rfl, rfl, rfl, rfl, rfl, rfl, rfl, rfl, rfl, rfl, rfl, rfl, rfl, rfl, rfl, rfl, rfl, rfl, trivial⟩ ⟨rfl, okE_one rfl, rfl, okE_one rfl, rfl, okE_one rfl, rfl, okE_one rfl, trivial⟩⟩
          · try simp only [decide_eq_true_eq, decide_eq_false_iff_not, beq_iff_eq, bne_iff_ne, bne_eq_false_iff_eq, beq_eq_false_iff_ne, Bool.not_eq_true, Bool.not_eq_false, Bool.not_eq_true', Bool.not_eq_false', ne_eq] at h9
            refine RW.gskip rfl rfl rfl rfl rfl (by decide) ?_
            refine RW.gskip rfl rfl rfl rfl rfl (by decide) ?_
            refine RW.op rfl rfl (eff_pick (v := .t _) rfl rfl rfl rfl) ?_
            refine RW.op rfl rfl (eff_assign (v := .t _) rfl rfl rfl) ?_
            refine RW.nil ?_
            refine awp_cond rfl (fun h => nomatch h) (fun _ => ?_)
            refine awp_seq ?_
            refine awp_rd [(some 43, []), (some 44, []), (some 45, []), (some 46, []), (some 47, []), (some 48, []), (some 49, []), (some 50, []), (some 51, []), (some 52, []), (some 21, [21]), (none, [21])] [[], [0], [], [2], [], [4], [4, 5], [2, 3, 4, 5, 6], [0, 1, 2, 3, 4, 5, 6, 7], [0, 1, 2, 3, 4, 5, 6, 7, 8], [], [0, 1, 2, 3, 4, 5, 6, 7, 8, 9, 10]] tm rfl rfl rfl rfl ?_
            obtain ⟨q2, hq2, hqn2⟩ : ∃ q : Nat, (around (wh[i]'hil) 1000000) / 8 % (T.poss.length : Int) = (q : Int) ∧ q < T.poss.length := ⟨((around (wh[i]'hil) 1000000) / 8 % (T.poss.length : Int)).toNat, by have := Int.emod_nonneg ((around (wh[i]'hil) 1000000) / 8) (show (T.poss.length : Int) ≠ 0 by omega); omega, by have := Int.emod_lt_of_pos ((around (wh[i]'hil) 1000000) / 8) (show (0 : Int) < T.poss.length by omega); have := Int.emod_nonneg ((around (wh[i]'hil) 1000000) / 8) (show (T.poss.length : Int) ≠ 0 by omega); omega⟩
            refine RD.op rfl rfl rfl (eff_fieldAddr rfl rfl tf37_1 (by decide) rfl rfl rfl (Nat.le_of_ble_eq_true rfl)) ?_
            refine RD.op rfl rfl rfl (eff_load (y := .t _) rfl rfl ti35 rfl (.one rfl rfl rfl rfl)) ?_
            refine RD.op rfl rfl rfl (eff_move (v := .t _) rfl rfl rfl) ?_
            refine RD.op rfl rfl rfl (eff_quoE (r := (around (wh[i]'hil) 1000000) / 8) rfl rfl rfl rfl (by decide) (quoN (by omega) (by decide))) ?_
            refine RD.op rfl rfl rfl (eff_fieldAddr rfl rfl tf37_1 (by decide) rfl rfl rfl (Nat.le_of_ble_eq_true rfl)) ?_
            refine RD.op rfl rfl rfl (eff_load (y := .t _) rfl rfl ti35 rfl (.one rfl rfl rfl rfl)) ?_
            refine RD.op rfl rfl rfl (eff_lenM rfl rfl te35 rfl) ?_
            refine RD.op rfl rfl rfl (eff_remE (r := ((q2 : Nat) : Int)) rfl rfl rfl rfl (by omega) (by rw [tmod_pos (by omega), hq2])) ?_
            refine RD.op rfl rfl rfl (eff_indexM rfl rfl te35 rfl rfl rfl (by first | assumption | exact List.getElem?_eq_getElem (by omega)) rfl (by decide)) ?_
            refine RD.op rfl rfl rfl (eff_loadW rfl rfl ti23 rfl rfl rfl) ?_
            refine RD.new rfl rfl rfl (eff_allocK (k := 4) (id := 21) rfl rfl tz23 rfl rfl) ?_
            refine RD.store rfl rfl rfl (eff_storeW (v := .t _) (els := [_]) (els' := [_]) rfl rfl ti23 rfl rfl rfl rfl rfl rfl rfl rfl rfl) ?_
            refine RD.nil ?_
            refine awp_seq ?_
            refine awp_seq ?_
            refine awp_rw rfl ?_
            refine RW.op rfl rfl (eff_move (v := .t _) rfl rfl rfl) ?_
            refine RW.op rfl rfl (eff_quoE (r := (around (wh[i]'hil) 1000000) / 4) rfl rfl rfl rfl (by decide) (quoN (by omega) (by decide))) ?_
            refine RW.op rfl rfl (eff_remE (r := ((around (wh[i]'hil) 1000000) / 4) % 3) rfl rfl rfl rfl (by decide) (tmod_pos (by omega))) ?_
            refine RW.op rfl rfl (eff_iop rfl rfl rfl rfl rfl) ?_
            refine RW.nil ?_
            refine awp_cond rfl (fun h12 => ?_) (fun h12 => ?_)
            · try simp only [decide_eq_true_eq, decide_eq_false_iff_not, beq_iff_eq, bne_iff_ne, bne_eq_false_iff_eq, beq_eq_false_iff_ne, Bool.not_eq_true, Bool.not_eq_false, Bool.not_eq_true', Bool.not_eq_false', ne_eq] at h12
              refine awp_rw rfl ?_
              refine RW.op rfl rfl (eff_move (v := .t _) rfl rfl rfl) ?_
              refine RW.op rfl rfl (eff_move (v := .t _) rfl rfl rfl) ?_
              refine RW.op rfl rfl (eff_move (v := .t _) rfl rfl rfl) ?_
              refine RW.op rfl rfl (eff_move (v := .t _) rfl rfl rfl) ?_
              refine RW.op rfl rfl (eff_quoE (r := (around (wh[i]'hil) 1000000) / 12) rfl rfl rfl rfl (by decide) (quoN (by omega) (by decide))) ?_
              refine RW.op rfl rfl (eff_remE (r := ((around (wh[i]'hil) 1000000) / 12) % 2) rfl rfl rfl rfl (by decide) (tmod_pos (by omega))) ?_
              refine RW.op rfl rfl (eff_iop rfl rfl rfl rfl rfl) ?_
              refine RW.op rfl rfl (eff_callT (state_ret nx hv ky _ hnx hhv hky) co12 rfl rfl rfl rfl) ?_
              refine RW.store rfl rfl (eff_storeW (v := .t _) (els := [_]) (els' := [_]) rfl rfl ti23 rfl rfl rfl rfl rfl rfl rfl rfl rfl) ?_
              refine RW.nil ?_
              refine awp_seq ?_
              refine awp_rw rfl ?_
              refine RW.op rfl rfl (eff_load rfl rfl ti37 rfl (.whole rfl rfl rfl rfl rfl rfl)) ?_
              refine RW.op rfl rfl (eff_load rfl rfl ti23 rfl (.whole rfl rfl rfl rfl rfl rfl)) ?_
              refine RW.op rfl rfl (eff_callXT (thear_ret T _ (by first | exact state_hp _ _ _ _ | exact hg5 _ (List.getElem_mem _)) (by omega) (by omega) hg6) co22 rfl rfl rfl ⟨rfl, trivial⟩ rfl) ?_
              refine RW.op rfl rfl (eff_move (v := .t _) rfl rfl rfl) ?_
              refine RW.op rfl rfl (eff_extract rfl rfl rfl rfl) ?_
              refine RW.op rfl rfl (eff_extract rfl rfl rfl rfl) ?_
              refine RW.store rfl rfl (eff_storeW (v := .t _) (els := [_]) (els' := [_]) rfl rfl ti37 rfl rfl rfl rfl rfl rfl rfl rfl rfl) ?_
              refine RW.op rfl rfl (eff_assign (v := .t _) rfl rfl rfl) ?_
              refine RW.nil ?_
              refine awp_rw rfl ?_
              refine RW.op rfl rfl (eff_load rfl rfl ti37 rfl (.whole rfl rfl rfl rfl rfl rfl)) ?_
              refine RW.op rfl rfl (eff_load rfl rfl ti23 rfl (.whole rfl rfl rfl rfl rfl rfl)) ?_
              refine RW.op rfl rfl (eff_callT (rhear_ret T _ (by first | exact state_hp _ _ _ _ | exact hg5 _ (List.getElem_mem _)) (by omega) (by omega)) co23 rfl rfl rfl rfl) ?_
              refine RW.op rfl rfl (eff_move (v := .t _) rfl rfl rfl) ?_
              refine RW.op rfl rfl (eff_extract rfl rfl rfl rfl) ?_
              refine RW.op rfl rfl (eff_extract rfl rfl rfl rfl) ?_
              refine RW.store rfl rfl (eff_storeW (v := .t _) (els := [_]) (els' := [_]) rfl rfl ti37 rfl rfl rfl rfl rfl rfl rfl rfl rfl) ?_
              refine RW.op rfl rfl (eff_assign (v := .t _) rfl rfl rfl) ?_
              refine RW.nil ?_
              have hst : ∀ r, StepOK l 9 (hear T r) := fun r => hear_step hg r
              show ∃ (P : Twn × Int) (n' : Nat), _
              first
                | exact ⟨_, n + 1, hst, by omega, weak_keep (n := 167) ⟨rfl, rfl, rfl, rfl, rfl, rfl, rfl, rfl, rfl, rfl, rfl, rfl, rfl, rfl, rfl, rfl, rfl, rfl, rfl, rfl, rfl, rfl, rfl, rfl, rfl, rfl, rfl, rfl, trivial⟩ ⟨rfl, okE_one rfl, rfl, okE_one rfl, rfl, okE_one rfl, rfl, okE_one rfl, trivial⟩⟩
                | exact ⟨_, n, hst, hn, weak_keep (n := 167) ⟨rfl, rfl, rfl, rfl, rfl, rfl, rfl, rfl, rfl, rfl, rfl, rfl, rfl, rfl, rfl, rfl, rfl, rfl, rfl, rfl, rfl, rfl, rfl, rfl, rfl, rfl, rfl, rfl, trivial⟩ ⟨rfl, okE_one rfl, rfl, okE_one rfl, rfl, okE_one rfl, rfl, okE_one rfl, trivial⟩⟩
                | exact ⟨_, n, hst (T.poss[q2]'hqn2), hn, weak_keep (n := 167) ⟨rfl, rfl, rfl, rfl, rfl, rfl, rfl, rfl, rfl, rfl, rfl, rfl, rfl, rfl, rfl, rfl, rfl, rfl, rfl, rfl, rfl, rfl, rfl, rfl, rfl, rfl, rfl, rfl, trivial⟩ ⟨rfl, okE_one rfl, rfl, okE_one rfl, rfl, okE_one rfl, rfl, okE_one rfl, trivial⟩⟩
                | exact ⟨_, n, hst (state nx hv ky ((around (wh[i]'hil) 1000000) / 12 % 2 == 0)), hn, weak_keep (n := 167) ⟨rfl, rfl, rfl, rfl, rfl, rfl, rfl, rfl, rfl, rfl, rfl, rfl, rfl, rfl, rfl, rfl, rfl, rfl, rfl, rfl, rfl, rfl, rfl, rfl, rfl, rfl, rfl, rfl, trivial⟩ ⟨rfl, okE_one rfl, rfl, okE_one rfl, rfl, okE_one rfl, rfl, okE_one rfl, trivial⟩⟩
            · try simp only [decide_eq_true_eq, decide_eq_false_iff_not, beq_iff_eq, bne_iff_ne, bne_eq_false_iff_eq, beq_eq_false_iff_ne, Bool.not_eq_true, Bool.not_eq_false, Bool.not_eq_true', Bool.not_eq_false', ne_eq] at h12
              refine awp_skip ?_
              refine awp_seq ?_
              refine awp_rw rfl ?_
              refine RW.op rfl rfl (eff_load rfl rfl ti37 rfl (.whole rfl rfl rfl rfl rfl rfl)) ?_
              refine RW.op rfl rfl (eff_load rfl rfl ti23 rfl (.whole rfl rfl rfl rfl rfl rfl)) ?_
              refine RW.op rfl rfl (eff_callXT (thear_ret T _ (by first | exact state_hp _ _ _ _ | exact hg5 _ (List.getElem_mem _)) (by omega) (by omega) hg6) co22 rfl rfl rfl ⟨rfl, trivial⟩ rfl) ?_
              refine RW.op rfl rfl (eff_move (v := .t _) rfl rfl rfl) ?_
              refine RW.op rfl rfl (eff_extract rfl rfl rfl rfl) ?_
              refine RW.op rfl rfl (eff_extract rfl rfl rfl rfl) ?_
              refine RW.store rfl rfl (eff_storeW (v := .t _) (els := [_]) (els' := [_]) rfl rfl ti37 rfl rfl rfl rfl rfl rfl rfl rfl rfl) ?_
              refine RW.op rfl rfl (eff_assign (v := .t _) rfl rfl rfl) ?_
              refine RW.nil ?_
              refine awp_rw rfl ?_
              refine RW.op rfl rfl (eff_load rfl rfl ti37 rfl (.whole rfl rfl rfl rfl rfl rfl)) ?_
              refine RW.op rfl rfl (eff_load rfl rfl ti23 rfl (.whole rfl rfl rfl rfl rfl rfl)) ?_
              refine RW.op rfl rfl (eff_callT (rhear_ret T _ (by first | exact state_hp _ _ _ _ | exact hg5 _ (List.getElem_mem _)) (by omega) (by omega)) co23 rfl rfl rfl rfl) ?_
              refine RW.op rfl rfl (eff_move (v := .t _) rfl rfl rfl) ?_
              refine RW.op rfl rfl (eff_extract rfl rfl rfl rfl) ?_
              refine RW.op rfl rfl (eff_extract rfl rfl rfl rfl) ?_
              refine RW.store rfl rfl (eff_storeW (v := .t _) (els := [_]) (els' := [_]) rfl rfl ti37 rfl rfl rfl rfl rfl rfl rfl rfl rfl) ?_
              refine RW.op rfl rfl (eff_assign (v := .t _) rfl rfl rfl) ?_
              refine RW.nil ?_
              have hst : ∀ r, StepOK l 9 (hear T r) := fun r => hear_step hg r
              show ∃ (P : Twn × Int) (n' : Nat), _
              first
                | exact ⟨_, n + 1, hst, by omega, weak_keep (n := 167) ⟨rfl, rfl, rfl, rfl, rfl, rfl, rfl, rfl, rfl, rfl, rfl, rfl, rfl, rfl, rfl, rfl, rfl, rfl, rfl, rfl, rfl, rfl, rfl, rfl, rfl, rfl, rfl, rfl, trivial⟩ ⟨rfl, okE_one rfl, rfl, okE_one rfl, rfl, okE_one rfl, rfl, okE_one rfl, trivial⟩⟩
                | exact ⟨_, n, hst, hn, weak_keep (n := 167) ⟨rfl, rfl, rfl, rfl, rfl, rfl, rfl, rfl, rfl, rfl, rfl, rfl, rfl, rfl, rfl, rfl, rfl, rfl, rfl, rfl, rfl, rfl, rfl, rfl, rfl, rfl, rfl, rfl, trivial⟩ ⟨rfl, okE_one rfl, rfl, okE_one rfl, rfl, okE_one rfl, rfl, okE_one rfl, trivial⟩⟩
                | exact ⟨_, n, hst (T.poss[q2]'hqn2), hn, weak_keep (n := 167) ⟨rfl, rfl, rfl, rfl, rfl, rfl, rfl, rfl, rfl, rfl, rfl, rfl, rfl, rfl, rfl, rfl, rfl, rfl, rfl, rfl, rfl, rfl, rfl, rfl, rfl, rfl, rfl, rfl, trivial⟩ ⟨rfl, okE_one rfl, rfl, okE_one rfl, rfl, okE_one rfl, rfl, okE_one rfl, trivial⟩⟩
                | exact ⟨_, n, hst (state nx hv ky ((around (wh[i]'hil) 1000000) / 12 % 2 == 0)), hn, weak_keep (n := 167) ⟨rfl, rfl, rfl, rfl, rfl, rfl, rfl, rfl, rfl, rfl, rfl, rfl, rfl, rfl, rfl, rfl, rfl, rfl, rfl, rfl, rfl, rfl, rfl, rfl, rfl, rfl, rfl, rfl, trivial⟩ ⟨rfl, okE_one rfl, rfl, okE_one rfl, rfl, okE_one rfl, rfl, okE_one rfl, trivial⟩⟩
      · rintro s1 ⟨P, n', hst, hn', hw⟩
        refine awp_weak hw ?_
        refine awp_seq ?_
        refine awp_seq ?_
        by_cases hc13 : P.2 = 0
        · refine awp_rw rfl ?_
          refine RW.op rfl rfl (eff_move (v := .t _) rfl rfl rfl) ?_
          refine RW.op rfl rfl (eff_move (v := .t _) rfl rfl rfl) ?_
          refine RW.op rfl rfl (eff_iop (r := .bool false) rfl rfl rfl rfl (by simp [iop])) ?_
          refine RW.op rfl rfl (eff_move (v := .t _) rfl rfl rfl) ?_
          refine RW.gop rfl rfl rfl rfl rfl rfl (eff_move (v := .t _) rfl rfl rfl) ?_
          refine RW.gop rfl rfl rfl rfl rfl rfl (eff_iop (r := .bool true) rfl rfl rfl rfl (by simp [iop, hc13])) ?_
          refine RW.gop rfl rfl rfl rfl rfl rfl (eff_move (v := .t _) rfl rfl rfl) ?_
          refine RW.gop rfl rfl rfl rfl rfl rfl (eff_load rfl rfl ti37 rfl (.whole rfl rfl rfl rfl rfl rfl)) ?_
          refine RW.gop rfl rfl rfl rfl rfl rfl (eff_load rfl rfl ti37 rfl (.whole rfl rfl rfl rfl rfl rfl)) ?_
          refine RW.gop rfl rfl rfl rfl rfl rfl (eff_callT (same_ret _ (by have := (hst.1 hc13).sent; omega) (by have := (hst.1 hc13).len; omega)) co24 rfl rfl rfl rfl) ?_
          refine RW.gop rfl rfl rfl rfl rfl rfl (eff_unop rfl rfl rfl rfl) ?_
          refine RW.gop rfl rfl rfl rfl rfl rfl (eff_pick (v := .t _) rfl rfl rfl rfl) ?_
          refine RW.op rfl rfl (eff_pick (v := .t _) rfl rfl rfl rfl) ?_
          refine RW.op rfl rfl (eff_move (v := .t _) rfl rfl rfl) ?_
          refine RW.gop rfl rfl rfl rfl rfl rfl (eff_move (v := .t _) rfl rfl rfl) ?_
          refine RW.gop rfl rfl rfl rfl rfl rfl (eff_iop (r := .bool false) rfl rfl rfl rfl (by simp [iop, hc13])) ?_
          refine RW.gop rfl rfl rfl rfl rfl rfl (eff_move (v := .t _) rfl rfl rfl) ?_
          refine RW.gskip rfl rfl rfl rfl rfl (by decide) ?_
          refine RW.gskip rfl rfl rfl rfl rfl (by decide) ?_
          refine RW.gskip rfl rfl rfl rfl rfl (by decide) ?_
          refine RW.gskip rfl rfl rfl rfl rfl (by decide) ?_
          refine RW.gop rfl rfl rfl rfl rfl rfl (eff_pick (v := .t _) rfl rfl rfl rfl) ?_
          refine RW.op rfl rfl (eff_pick (v := .t _) rfl rfl rfl rfl) ?_
          refine RW.nil ?_
          refine awp_cond rfl (fun h => nomatch h) (fun _ => ?_)
          refine awp_skip ?_
          refine awp_seq ?_
          refine awp_rw rfl ?_
          refine RW.op rfl rfl (eff_move (v := .t _) rfl rfl rfl) ?_
          refine RW.op rfl rfl (eff_iop (r := .bool true) rfl rfl rfl rfl (by simp [iop, hc13])) ?_
          refine RW.nil ?_
          refine awp_cond rfl (fun _ => ?_) (fun h => nomatch h)
          refine awp_seq ?_
          refine awp_rw rfl ?_
          refine RW.op rfl rfl (eff_load rfl rfl ti37 rfl (.whole rfl rfl rfl rfl rfl rfl)) ?_
          refine RW.store rfl rfl (eff_storeW (v := .t _) (els := [_]) (els' := [_]) rfl rfl ti37 rfl rfl rfl rfl rfl rfl rfl rfl rfl) ?_
          refine RW.nil ?_
          refine awp_rw rfl ?_
          refine RW.op rfl rfl (eff_load rfl rfl ti37 rfl (.whole rfl rfl rfl rfl rfl rfl)) ?_
          refine RW.store rfl rfl (eff_storeW (v := .t _) (els := [_]) (els' := [_]) rfl rfl ti37 rfl rfl rfl rfl rfl rfl rfl rfl rfl) ?_
          refine RW.nil ?_
          refine awp_rw rfl ?_
          refine RW.op rfl rfl (eff_move (v := .t _) rfl rfl rfl) ?_
          refine RW.op rfl rfl (eff_iop rfl rfl rfl rfl (iadd (by omega))) ?_
          refine RW.op rfl rfl (eff_assign (v := .t _) rfl rfl rfl) ?_
          refine RW.nil ?_
          refine ⟨_, ?_, _, weak_keep (n := 167) (fr' := [(1, .t (.sl (wh.map encI) false)), (2, .t (encI nx)), (3, .t (encI hv)), (4, .t (encI ky)), (11, .ptr 11 0 0 0), (12, .ptr 12 0 0 0), (13, .t (.sl ((frames l 9).map encF) false)), (14, .t (encI (_ : Nat))), (15, .t (encI ((i + 1) : Nat))), (168, .t deT)]) (st' := [(11, some ⟨2, 37, 0, [.t (encT _)]⟩), (12, some ⟨2, 37, 0, [.t (encT _)]⟩)]) ⟨rfl, rfl, rfl, rfl, rfl, rfl, rfl, rfl, rfl, rfl, rfl, rfl, rfl, rfl, rfl, rfl, rfl, rfl, rfl, rfl, trivial⟩ ⟨rfl, okE_one rfl, rfl, okE_one rfl, trivial⟩, i + 1, _, _, (by omega), (by omega), (by omega), (by first | exact hst.1 (by assumption) | exact hg), rfl, rfl⟩
          omega
        · refine awp_rw rfl ?_
          refine RW.op rfl rfl (eff_move (v := .t _) rfl rfl rfl) ?_
          refine RW.op rfl rfl (eff_move (v := .t _) rfl rfl rfl) ?_
          refine RW.op rfl rfl (eff_iop (r := .bool false) rfl rfl rfl rfl (by simp [iop])) ?_
          refine RW.op rfl rfl (eff_move (v := .t _) rfl rfl rfl) ?_
          refine RW.gop rfl rfl rfl rfl rfl rfl (eff_move (v := .t _) rfl rfl rfl) ?_
          refine RW.gop rfl rfl rfl rfl rfl rfl (eff_iop (r := .bool false) rfl rfl rfl rfl (by simp [iop, hc13])) ?_
          refine RW.gop rfl rfl rfl rfl rfl rfl (eff_move (v := .t _) rfl rfl rfl) ?_
          refine RW.gskip rfl rfl rfl rfl rfl (by decide) ?_
          refine RW.gskip rfl rfl rfl rfl rfl (by decide) ?_
          refine RW.gskip rfl rfl rfl rfl rfl (by decide) ?_
          refine RW.gskip rfl rfl rfl rfl rfl (by decide) ?_
          refine RW.gop rfl rfl rfl rfl rfl rfl (eff_pick (v := .t _) rfl rfl rfl rfl) ?_
          refine RW.op rfl rfl (eff_pick (v := .t _) rfl rfl rfl rfl) ?_
          refine RW.op rfl rfl (eff_move (v := .t _) rfl rfl rfl) ?_
          refine RW.gop rfl rfl rfl rfl rfl rfl (eff_move (v := .t _) rfl rfl rfl) ?_
          refine RW.gop rfl rfl rfl rfl rfl rfl (eff_iop (r := .bool true) rfl rfl rfl rfl (by simp [iop, hc13])) ?_
          refine RW.gop rfl rfl rfl rfl rfl rfl (eff_move (v := .t _) rfl rfl rfl) ?_
          refine RW.gop rfl rfl rfl rfl rfl rfl (eff_fieldAddr rfl rfl tf37_1 (by decide) rfl rfl rfl (Nat.le_of_ble_eq_true rfl)) ?_
          refine RW.gop rfl rfl rfl rfl rfl rfl (eff_load (y := .t _) rfl rfl ti35 rfl (.one rfl rfl rfl rfl)) ?_
          refine RW.gop rfl rfl rfl rfl rfl rfl (eff_lenM rfl rfl te35 rfl) ?_
          refine RW.gop rfl rfl rfl rfl rfl rfl (eff_iop (r := .bool false) rfl rfl rfl rfl (by simp [iop, hst.2 hc13])) ?_
          refine RW.gop rfl rfl rfl rfl rfl rfl (eff_pick (v := .t _) rfl rfl rfl rfl) ?_
          refine RW.op rfl rfl (eff_pick (v := .t _) rfl rfl rfl rfl) ?_
          refine RW.nil ?_
          refine awp_cond rfl (fun h => nomatch h) (fun _ => ?_)
          refine awp_skip ?_
          refine awp_seq ?_
          refine awp_rw rfl ?_
          refine RW.op rfl rfl (eff_move (v := .t _) rfl rfl rfl) ?_
          refine RW.op rfl rfl (eff_iop (r := .bool false) rfl rfl rfl rfl (by simp [iop, hc13])) ?_
          refine RW.nil ?_
          refine awp_cond rfl (fun h => nomatch h) (fun _ => ?_)
          refine awp_skip ?_
          refine awp_rw rfl ?_
          refine RW.op rfl rfl (eff_move (v := .t _) rfl rfl rfl) ?_
          refine RW.op rfl rfl (eff_iop rfl rfl rfl rfl (iadd (by omega))) ?_
          refine RW.op rfl rfl (eff_assign (v := .t _) rfl rfl rfl) ?_
          refine RW.nil ?_
          refine ⟨_, ?_, _, weak_keep (n := 167) (fr' := [(1, .t (.sl (wh.map encI) false)), (2, .t (encI nx)), (3, .t (encI hv)), (4, .t (encI ky)), (11, .ptr 11 0 0 0), (12, .ptr 12 0 0 0), (13, .t (.sl ((frames l 9).map encF) false)), (14, .t (encI (_ : Nat))), (15, .t (encI ((i + 1) : Nat))), (168, .t deT)]) (st' := [(11, some ⟨2, 37, 0, [.t (encT _)]⟩), (12, some ⟨2, 37, 0, [.t (encT _)]⟩)]) ⟨rfl, rfl, rfl, rfl, rfl, rfl, rfl, rfl, rfl, rfl, rfl, rfl, rfl, rfl, rfl, rfl, rfl, rfl, rfl, rfl, trivial⟩ ⟨rfl, okE_one rfl, rfl, okE_one rfl, trivial⟩, i + 1, _, _, (by omega), (by omega), (by omega), (by first | exact hst.1 (by assumption) | exact hg), rfl, rfl⟩
          omega
    · try simp only [decide_eq_true_eq, decide_eq_false_iff_not, beq_iff_eq, bne_iff_ne, bne_eq_false_iff_eq, beq_eq_false_iff_ne, Bool.not_eq_true, Bool.not_eq_false, Bool.not_eq_true', Bool.not_eq_false', ne_eq] at h2
      refine awp_exit ?_
      refine awp_seq ?_
      refine awp_rw rfl ?_
      refine RW.op rfl rfl (eff_callXT (lives_ret) co16 rfl rfl rfl ⟨rfl, trivial⟩ rfl) ?_
      refine RW.op rfl rfl (eff_assign (v := .t _) rfl rfl rfl) ?_
      refine RW.nil ?_
      refine awp_ret ?_
      first
        | exact ⟨Or.inr rfl, [_], ⟨.tmp (.t _), trivial⟩, .refl _⟩
        | exact ⟨Or.inr rfl, [_], ⟨.tmp (.t _), trivial⟩, (by repeat' first | exact trivial | exact Wk.refl _ | exact Wk.sl _ | refine And.intro ?_ ?_ | refine Wk.tupP ?_ | refine Wk.aggP ?_)⟩
        | exact ⟨Or.inr rfl, [_], ⟨.tmp (Res.ownT rfl rfl rfl rfl), trivial⟩, .refl _⟩
        | exact ⟨Or.inr rfl, [_], ⟨.tmp (Res.ownT rfl rfl rfl rfl), trivial⟩, (by repeat' first | exact trivial | exact Wk.refl _ | exact Wk.sl _ | refine And.intro ?_ ?_ | refine Wk.tupP ?_ | refine Wk.aggP ?_)⟩
  · try simp only [decide_eq_true_eq, decide_eq_false_iff_not, beq_iff_eq, bne_iff_ne, bne_eq_false_iff_eq, beq_eq_false_iff_ne, Bool.not_eq_true, Bool.not_eq_false, Bool.not_eq_true', Bool.not_eq_false', ne_eq] at h1
    refine RW.gskip rfl rfl rfl rfl rfl (by decide) ?_
    refine RW.gskip rfl rfl rfl rfl rfl (by decide) ?_
    refine RW.op rfl rfl (eff_pick (v := .t _) rfl rfl rfl rfl) ?_
    refine RW.nil ?_
    refine awp_cond rfl (fun h => nomatch h) (fun _ => ?_)
    refine awp_exit ?_
    refine awp_seq ?_
    refine awp_rw rfl ?_
    refine RW.op rfl rfl (eff_callXT (lives_ret) co16 rfl rfl rfl ⟨rfl, trivial⟩ rfl) ?_
    refine RW.op rfl rfl (eff_assign (v := .t _) rfl rfl rfl) ?_
    refine RW.nil ?_
    refine awp_ret ?_
    first
      | exact ⟨Or.inr rfl, [_], ⟨.tmp (.t _), trivial⟩, .refl _⟩
      | exact ⟨Or.inr rfl, [_], ⟨.tmp (.t _), trivial⟩, (by repeat' first | exact trivial | exact Wk.refl _ | exact Wk.sl _ | refine And.intro ?_ ?_ | refine Wk.tupP ?_ | refine Wk.aggP ?_)⟩
      | exact ⟨Or.inr rfl, [_], ⟨.tmp (Res.ownT rfl rfl rfl rfl), trivial⟩, .refl _⟩
      | exact ⟨Or.inr rfl, [_], ⟨.tmp (Res.ownT rfl rfl rfl rfl), trivial⟩, (by repeat' first | exact trivial | exact Wk.refl _ | exact Wk.sl _ | refine And.intro ?_ ?_ | refine Wk.tupP ?_ | refine Wk.aggP ?_)⟩

end Go.Tv.C34

end
section
open Go Go.Tv Go.Proofs Go.ChangeShapes Go.WideShapes Go.ChangeAt Go.RowKit
namespace Go.Tv.C34
set_option maxRecDepth 100000

theorem wfI64 {n : Int} (h : (Lit.int .i64 n).wf = true) : I64 n := by
  unfold I64
  simp [Lit.wf, IntKind.min, IntKind.max, IntKind.signed, IntKind.bits] at h; omega
theorem map_of {α : Type} {f : α → Tr} {p : α → Prop} : ∀ {els : List Tr}, (∀ x, x ∈ els → ∃ n, p n ∧ x = f n) → ∃ l : List α, els = l.map f ∧ ∀ n, n ∈ l → p n
  | [], _ => ⟨[], rfl, fun n h => by simp at h⟩
  | x :: els, h => by
    obtain ⟨n, hp, rfl⟩ := h x List.mem_cons_self
    obtain ⟨l, rfl, hl⟩ := map_of (els := els) (fun y hy => h y (List.mem_cons_of_mem _ hy))
    exact ⟨n :: l, rfl, fun m hm => (List.mem_cons.1 hm).elim (fun e => e ▸ hp) (hl m)⟩
theorem rd3 : Reads Tryd.prog 3 1 (fun ts => ∃ n, ts = [encI n] ∧ I64 n) := (reads_int Tryd.underlying3 (by kernel_rfl)).mono (fun ts ⟨n, h, hw⟩ => ⟨n, h, wfI64 hw⟩)
theorem rd26 : Reads Tryd.prog 26 1 (fun ts => ∃ l : List Int, ts = [.sl (l.map encI) false] ∧ l.length ≤ maxLen ∧ ∀ n, n ∈ l → I64 n) :=
  (reads_slice Tryd.underlying26 (by kernel_rfl) (by decide) (.inr rfl) rd3 (g := false)).mono (by
    rintro ts ⟨els, rfl, hm, h⟩
    obtain ⟨l, rfl, hl⟩ := map_of (f := encI) (p := I64) (fun x hx => by obtain ⟨_, ⟨n, rfl, hn⟩, rfl⟩ := h x hx; exact ⟨n, hn, rfl⟩)
    exact ⟨l, rfl, by simpa using hm, hl⟩)
def laid1 : List (String × DataW Unit) := [("math/bits.deBruijn32tab", Go.Proofs.YtofiemifpgcfhaaDoor.Rows.laid_math_bits_deBruijn32tab), ("math/bits.deBruijn64tab", Go.Proofs.YtofiemifpgcfhaaDoor.Rows.laid_math_bits_deBruijn64tab)]
theorem gDe : Tryd.prog.globalNamed "math/bits.deBruijn64tab" = some 1 := by kernel_rfl
theorem tDe : (Tryd.prog.globals[1]?).map (·.type) = some 119 := by kernel_rfl
theorem door_met (os : Os) (args : Array Value) : laidMetH Tryd.prog laid1 ((World.doorLaid Tryd.prog 400 os).forCall (fun _ _ => 0) ⟨#[], args, []⟩).memory :=
  laidMetH_of_parts3 (fuel := 8) (laidMet_of_run' 8 (by kernel_rfl) (by kernel_rfl)) (by kernel_rfl) (by kernel_rfl)
theorem tabs_of_laid {W : World} (h : laidMetH Tryd.prog laid1 W) : TabOK W (fun _ => False) [(1, deT)] := by
  intro g x hm
  simp only [List.mem_singleton, Prod.mk.injEq] at hm
  obtain ⟨rfl, rfl⟩ := hm
  exact tab_of_laid (l := deB) (k := .u8) h rfl (List.mem_cons_of_mem _ (List.mem_singleton.2 rfl)) (by intro e; cases e) gDe tDe Tryd.underlying119 Tryd.underlying5 (by kernel_rfl)
end Go.Tv.C34

end
section
namespace Go.Proofs.YtofiemifpgcfhaaDoor
open Go Go.Tv Go.Tv.C34 Go.ChangeShapes Go.WideShapes Go.ChangeAt Go.RowKit
set_option linter.unusedVariables false
set_option maxRecDepth 100000
theorem twinPlays_contract (H : Type) (enc : TypeId × Value → H) (W : World) (base : Nat) (args : Array Value) (ds gs : List (DataW H)) (before : List MemPlace)
    (hval : ∀ (j : Nat) t v, Tryd.f4.params[j]? = some t → args[j]? = some v → Value.okWide Tryd.prog W .any base t v)
    (hW : DataW.Whole enc Tryd.prog Tryd.f4.params.toList Rows.twinPlaysSpec.vars false W args.toList ds gs before) (hL : laidMetH Tryd.prog laid1 W) :
    Calls Tryd.prog 4 args W fun e W' => ∃ v, e = .returned v ∧ Rows.twinPlaysSpec.post enc Tryd.prog Tryd.f4 false true false false W args v W' := by
  have hW' := hW
  obtain ⟨p, q, hA0, hV, rfl, hfz, hnd⟩ := hW
  have hA : DataW.TrodAll enc Tryd.prog W 0 (fun _ => true) true Tryd.f4.params.toList args.toList ds p := hA0
  rw [Tryd.params4] at hA hval
  obtain ⟨v0, vs0, d0, ds0, p0, q0, hargs, rfl, rfl, h0, r0⟩ := trodAll_cons hA
  obtain ⟨v1, vs1, d1, ds1, p1, q1, rfl, rfl, rfl, h1, r1⟩ := trodAll_cons r0
  obtain ⟨v2, vs2, d2, ds2, p2, q2, rfl, rfl, rfl, h2, r2⟩ := trodAll_cons r1
  obtain ⟨v3, vs3, d3, ds3, p3, q3, rfl, rfl, rfl, h3, r3⟩ := trodAll_cons r2
  obtain ⟨v4, vs4, d4, ds4, p4, q4, rfl, rfl, rfl, h4, r4⟩ := trodAll_cons r3
  obtain ⟨rfl, rfl, rfl⟩ := trodAll_nil r4
  obtain rfl : args = #[v0, v1, v2, v3, v4] := by cases args; simp_all
  obtain ⟨rfl, rfl⟩ := trodVars_none hV
  have k0 := hval 0 26 v0 rfl rfl
  have k1 := hval 1 26 v1 rfl rfl
  have k2 := hval 2 3 v2 rfl rfl
  have k3 := hval 3 3 v3 rfl rfl
  have k4 := hval 4 3 v4 rfl rfl
  obtain ⟨x0, hx0, l, e0, m0, b0⟩ := arg_slice Tryd.underlying26 rd26 k0 h0
  obtain rfl : x0 = .sl (l.map Go.Tv.C34.encI) false := by simpa using e0
  unfold maxLen at m0
  have n0 : l.length ≤ 9223372036854775807 := by simpa using m0
  obtain ⟨x1, hx1, wh, e1, m1, b1⟩ := arg_slice Tryd.underlying26 rd26 k1 h1
  obtain rfl : x1 = .sl (wh.map Go.Tv.C34.encI) false := by simpa using e1
  unfold maxLen at m1
  have n1 : wh.length ≤ 9223372036854775807 := by simpa using m1
  obtain ⟨nx, rfl, wnx⟩ := arg_int Tryd.underlying3 k2 h2
  have i_nx := wfI64 wnx
  obtain ⟨hv, rfl, whv⟩ := arg_int Tryd.underlying3 k3 h3
  have i_hv := wfI64 whv
  obtain ⟨ky, rfl, wky⟩ := arg_int Tryd.underlying3 k4 h4
  have i_ky := wfI64 wky
  refine (law_callsT (law4 l wh nx hv ky b0 n0 b1 n1 i_nx i_hv i_ky) (tabs_of_laid hL) (vl_cons hx0 (vl_cons hx1 (vl_cons (.int _ _) (vl_cons (.int _ _) (vl_cons (.int _ _) vl_nil)))))).mono ?_
  rintro e W' ⟨rfl, hb⟩
  refine ⟨_, rfl, law_post (P := Tryd.prog) (by kernel_rfl) rfl (fun t ht => ?_) rfl Tryd.underlying4 hW' ⟨rfl, rfl, rfl⟩ hb⟩
  rw [Tryd.params4] at ht
  simp only [List.mem_cons, List.not_mem_nil, or_false] at ht
  rcases ht with rfl | rfl | rfl | rfl | rfl <;> exact ⟨by kernel_rfl, Nat.le_of_ble_eq_true (by kernel_rfl)⟩

theorem twinPlays_lifted (os : Os) (started : os.Started) (H : Type) (enc : TypeId × Value → H) :
    ReturnsInHanded {} Tryd.checked os 4 .any (fun w args => (Rows.twinPlaysSpec.pre enc Tryd.prog Tryd.f4 [] false w args ∧ laidMetH Tryd.prog laid1 w) ∧ sizedMet enc Tryd.prog Tryd.f4 (OpenSpec.ofChange Rows.twinPlaysSpec) false w args)
      (Rows.twinPlaysSpec.post enc Tryd.prog Tryd.f4 false true false false) := by
  refine returnsInHanded_of_change_and (C := Tryd.checked) (X := fun w _ => laidMetH Tryd.prog laid1 w) (fun _ _ _ hh h => h.of_heap hh) (by kernel_rfl) started (by kernel_rfl) Tryd.func4
    (ChangeSpec.witness_shaped (enc := enc) (C := Tryd.checked) (os := os) (X := fun w _ => laidMetH Tryd.prog laid1 w) false (World.doorLaid Tryd.prog 400 os) #[.slice none 0 0, .slice none 0 0, .int .i64 0, .int .i64 0, .int .i64 0] 8 rfl (World.shaped_of_RefB (by kernel_rfl) (by kernel_rfl)) (by kernel_rfl) (by kernel_rfl) (by kernel_rfl) (door_met os _)) ?_
  intro W base args ds gs before hval hW _ _ hL _
  exact twinPlays_contract H enc W base args ds gs before hval hW hL

theorem twinPlays_row_holds : Rows.TwinPlaysSaid :=
  OpenClaim.holds_of_wide 4 Tryd.f4 rfl rfl rfl rfl rfl rfl rfl ⟨rfl, rfl, rfl, rfl, rfl⟩ rfl rfl rfl rfl rfl (by kernel_rfl) Tryd.func4 (by kernel_rfl)
    (of_decide_eq_true (by kernel_rfl)) (by unfold Func.isWrapper; first | (rw [if_pos (by decide +kernel)]; kernel_rfl) | (rw [if_neg (by decide +kernel)]; exact ⟨rfl, rfl⟩))
    (fun os started H enc _ => twinPlays_lifted os started H enc)

theorem twinPlaysCard_holds : Rows.TwinPlaysCardSaid :=
  Claim7.holds_tied_plain_at .later [] [.data, .data] true _ false
    twinPlays_row_holds (fun _ h => by cases h) (by kernel_rfl) (fun _ h => by cases h) twinPlays_row_tie rfl ⟨rfl, rfl⟩ (by kernel_rfl) rfl
    (fun f fn hf hfn => by
      obtain rfl : f = 4 := Option.some.inj ((show Tryd.prog.funcNamed "perigee/perigeelaw34.TwinPlays" = some 4 by kernel_rfl).symm.trans hf) |>.symm
      obtain rfl : fn = Tryd.f4 := (Option.some.inj (Tryd.func4.symm.trans hfn)).symm
      exact ⟨by kernel_rfl, fun j t ht => by
        rw [Tryd.params4] at ht
        have hm : t ∈ [26, 26, 3, 3, 3] := by simpa using Array.mem_of_getElem? ht
        have hall : ([26, 26, 3, 3, 3].all fun u => !Tryd.prog.wantsStandIn u) = true := by kernel_rfl
        exact (show Tryd.prog.wantsStandIn t = false by simpa using List.all_eq_true.1 hall t hm)⟩)
    (by kernel_rfl)

end Go.Proofs.YtofiemifpgcfhaaDoor

end
