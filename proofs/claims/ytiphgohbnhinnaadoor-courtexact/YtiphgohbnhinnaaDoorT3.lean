/- Part of the proof that the laws of this seat return true for every input. No condition. -/
import Derived.Test.YtiphgohbnhinnaaDoorT2
set_option linter.unnecessarySimpa false
set_option linter.unusedVariables false
set_option linter.unusedSimpArgs false
section
open Go Go.Tv Go.Proofs
namespace Go.Tv.C36
set_option maxRecDepth 20000
set_option maxHeartbeats 2000000
set_option linter.unusedSimpArgs false
set_option linter.unusedVariables false
theorem modDist_ret (f : Frm) (x : Rep) : Ret Tryd.prog 58 [encI (f.seq % 256 - x.next % 256)] (encI (dist f x)) := by
  have h := modulo_ret (f.seq % 256 - x.next % 256)
  rwa [show (f.seq % 256 - x.next % 256) % 256 = dist f x from by unfold dist; omega] at h

theorem rapply_ret (S : Rep) (f : Frm) (hS : HP S) : Ret Tryd.prog 37 [encR S, encF f] (encR (apply S f)) := by
  obtain ⟨nx, hv0, ky, lk⟩ := S
  obtain ⟨h, rfl⟩ : ∃ h : Nat, hv0 = (h : Int) := ⟨hv0.toNat, by have := hS.1; simp only [] at this; omega⟩
  have hh : h < 32768 := by have := hS.2; simp only [] at this; omega
  have hdr := dist_range f ⟨nx, ((h : Nat) : Int), ky, lk⟩
  refine ret_of_awp Tryd.func37 rfl (Nat.le_of_ble_eq_true rfl) ?_
  refine awp_seq ?_
  refine awp_rw rfl ?_
  refine RW.new rfl rfl (eff_boxK (v := .t _) (k := 4) (id := 2) rfl rfl rfl rfl rfl rfl) ?_
  refine RW.new rfl rfl (eff_boxK (v := .t _) (k := 5) (id := 3) rfl rfl rfl rfl rfl rfl) ?_
  refine RW.new rfl rfl (eff_allocK (k := 4) (id := 4) rfl rfl tz23 rfl rfl) ?_
  refine RW.nil ?_
  refine awp_seq ?_
  refine awp_seq ?_
  refine awp_rw rfl ?_
  refine faT tf45_1 ?_
  refine l1T ti3 rfl rfl rfl rfl rfl (.one rfl rfl rfl rfl) ?_
  refine faT tf23_2 ?_
  refine l1T ti3 rfl rfl rfl rfl rfl (.one rfl rfl rfl rfl) ?_
  refine ioT ?_
  refine mvT ?_
  refine RW.split 12 rfl (fun h1 => ?_) (fun h1 => ?_)
  · try simp only [cl] at h1
    refine gkT ?_
    refine gkT ?_
    refine gkT ?_
    refine gkT ?_
    refine gkT ?_
    refine gkT ?_
    refine pkT ?_
    refine RW.nil ?_
    refine awp_cond rfl (fun _ => ?_) (fun h => nomatch h)
    refine awp_seq ?_
    refine awp_rw rfl ?_
    refine RW.op rfl rfl (eff_load rfl rfl ti23 rfl (.whole rfl rfl rfl rfl rfl rfl)) ?_
    refine RW.store rfl rfl (eff_storeW (v := .t _) (els := [_]) (els' := [_]) rfl rfl ti23 rfl rfl rfl rfl rfl rfl rfl rfl rfl) ?_
    refine RW.nil ?_
    refine awp_ret ?_
    (rw [apply_stay (Or.inl (by assumption))]; exact ⟨Or.inr rfl, [_], ⟨.cell rfl ti23 (.whole rfl rfl rfl rfl rfl rfl) (.t _), trivial⟩, .refl _⟩)
  · try simp only [cl] at h1
    refine RW.gop rfl rfl rfl rfl rfl rfl (eff_fieldAddr rfl rfl tf45_1 (by decide) rfl rfl rfl (Nat.le_of_ble_eq_true rfl)) ?_
    refine RW.gop rfl rfl rfl rfl rfl rfl (eff_load (y := .t _) rfl rfl ti3 rfl (.one rfl rfl rfl rfl)) ?_
    refine RW.gop rfl rfl rfl rfl rfl rfl (eff_fieldAddr rfl rfl tf23_2 (by decide) rfl rfl rfl (Nat.le_of_ble_eq_true rfl)) ?_
    refine RW.gop rfl rfl rfl rfl rfl rfl (eff_load (y := .t _) rfl rfl ti3 rfl (.one rfl rfl rfl rfl)) ?_
    refine RW.gop rfl rfl rfl rfl rfl rfl (eff_iop rfl rfl rfl rfl rfl) ?_
    refine RW.gop rfl rfl rfl rfl rfl rfl (eff_iop rfl rfl rfl rfl rfl) ?_
    refine pkT ?_
    refine RW.nil ?_
    refine awp_cond rfl (fun h2 => ?_) (fun h2 => ?_)
    · try simp only [cl] at h2
      refine awp_seq ?_
      refine awp_rw rfl ?_
      refine RW.op rfl rfl (eff_load rfl rfl ti23 rfl (.whole rfl rfl rfl rfl rfl rfl)) ?_
      refine RW.store rfl rfl (eff_storeW (v := .t _) (els := [_]) (els' := [_]) rfl rfl ti23 rfl rfl rfl rfl rfl rfl rfl rfl rfl) ?_
      refine RW.nil ?_
      refine awp_ret ?_
      (rw [apply_stay (Or.inr (by assumption))]; exact ⟨Or.inr rfl, [_], ⟨.cell rfl ti23 (.whole rfl rfl rfl rfl rfl rfl) (.t _), trivial⟩, .refl _⟩)
    · try simp only [cl] at h2
      refine awp_skip ?_
      refine awp_seq ?_
      refine awp_rw rfl ?_
      refine faT tf45_1 ?_
      refine l1T ti3 rfl rfl rfl rfl rfl (.one rfl rfl rfl rfl) ?_
      refine ioT ?_
      refine faT tf23_2 ?_
      refine RW.store rfl rfl (eff_storeS (v := .t _) (ys := [_, _, _, _]) (els := [_]) (els' := [_]) rfl rfl ti3 rfl rfl rfl rfl rfl rfl rfl (Nat.le_of_ble_eq_true rfl) rfl rfl) ?_
      refine RW.nil ?_
      refine awp_seq ?_
      refine awp_rd [(some 25, []), (some 26, []), (some 27, []), (some 28, []), (some 29, []), (some 30, []), (some 31, []), (some 32, []), (some 5, [])] [[], [0], [0, 1], [], [3], [0, 1, 2, 3, 4], [0, 1, 2, 3, 4, 5], [0, 1, 2, 3, 4, 5, 6], [0, 1, 2, 3, 4, 5, 6, 7]] tm rfl rfl rfl rfl ?_
      refine RD.op rfl rfl rfl (eff_fieldAddr rfl rfl tf45_0 (by decide) rfl rfl rfl (Nat.le_of_ble_eq_true rfl)) ?_
      refine RD.op rfl rfl rfl (eff_load (y := .t _) rfl rfl ti3 rfl (.one rfl rfl rfl rfl)) ?_
      refine RD.op rfl rfl rfl (eff_callT (modulo_ret _) co58 rfl rfl rfl rfl) ?_
      refine RD.op rfl rfl rfl (eff_fieldAddr rfl rfl tf23_0 (by decide) rfl rfl rfl (Nat.le_of_ble_eq_true rfl)) ?_
      refine RD.op rfl rfl rfl (eff_load (y := .t _) rfl rfl ti3 rfl (.one rfl rfl rfl rfl)) ?_
      refine RD.op rfl rfl rfl (eff_callT (modulo_ret _) co58 rfl rfl rfl rfl) ?_
      refine RD.op rfl rfl rfl (eff_iop rfl rfl rfl rfl (isub (by omega))) ?_
      refine RD.op rfl rfl rfl (eff_callT (modDist_ret f ⟨nx, ((h : Nat) : Int), ky, lk⟩) co58 rfl rfl rfl rfl) ?_
      refine RD.op rfl rfl rfl (eff_assign (v := .t _) rfl rfl rfl) ?_
      refine RD.nil ?_
      refine awp_seq ?_
      refine awp_seq ?_
      refine awp_rw rfl ?_
      refine faT tf45_2 ?_
      refine l1T ti4 rfl rfl rfl rfl rfl (.one rfl rfl rfl rfl) ?_
      refine RW.nil ?_
      refine awp_cond rfl (fun h3 => ?_) (fun h3 => ?_)
      · try simp only [cl] at h3
        refine awp_seq ?_
        refine awp_rw rfl ?_
        refine faT tf23_3 ?_
        refine RW.store rfl rfl (eff_storeS (v := .t _) (ys := [_, _, _, _]) (els := [_]) (els' := [_]) rfl rfl ti4 rfl rfl rfl rfl rfl rfl rfl (Nat.le_of_ble_eq_true rfl) rfl rfl) ?_
        refine RW.nil ?_
        refine awp_seq ?_
        refine awp_seq ?_
        refine awp_rw rfl ?_
        refine mvT ?_
        refine ioT ?_
        refine RW.nil ?_
        refine awp_cond rfl (fun h4 => ?_) (fun h4 => ?_)
        · try simp only [cl] at h4
          refine awp_rw rfl ?_
          refine faT tf23_0 ?_
          refine l1T ti3 rfl rfl rfl rfl rfl (.one rfl rfl rfl rfl) ?_
          refine mvT ?_
          refine ioT ?_
          refine faT tf23_0 ?_
          refine RW.store rfl rfl (eff_storeS (v := .t _) (ys := [_, _, _, _]) (els := [_]) (els' := [_]) rfl rfl ti3 rfl rfl rfl rfl rfl rfl rfl (Nat.le_of_ble_eq_true rfl) rfl rfl) ?_
          refine RW.nil ?_
          refine awp_seq ?_
          refine awp_rw rfl ?_
          refine faT tf23_1 ?_
          refine RW.store rfl rfl (eff_storeS (v := .t _) (ys := [_, _, _, _]) (els := [_]) (els' := [_]) rfl rfl ti3 rfl rfl rfl rfl rfl rfl rfl (Nat.le_of_ble_eq_true rfl) rfl rfl) ?_
          refine RW.nil ?_
          refine awp_seq ?_
          refine awp_rw rfl ?_
          refine RW.op rfl rfl (eff_load rfl rfl ti23 rfl (.whole rfl rfl rfl rfl rfl rfl)) ?_
          refine RW.store rfl rfl (eff_storeW (v := .t _) (els := [_]) (els' := [_]) rfl rfl ti23 rfl rfl rfl rfl rfl rfl rfl rfl rfl) ?_
          refine RW.nil ?_
          refine awp_ret ?_
          (rw [apply_unl (by rintro (h | h) <;> (try dsimp only [w64] at h) <;> omega) (by assumption) (if_pos (by assumption))]; exact ⟨Or.inr rfl, [_], ⟨.cell rfl ti23 (.whole rfl rfl rfl rfl rfl rfl) (.t _), trivial⟩, .refl _⟩)
        · try simp only [cl] at h4
          refine awp_skip ?_
          refine awp_seq ?_
          refine awp_rw rfl ?_
          refine faT tf23_1 ?_
          refine RW.store rfl rfl (eff_storeS (v := .t _) (ys := [_, _, _, _]) (els := [_]) (els' := [_]) rfl rfl ti3 rfl rfl rfl rfl rfl rfl rfl (Nat.le_of_ble_eq_true rfl) rfl rfl) ?_
          refine RW.nil ?_
          refine awp_seq ?_
          refine awp_rw rfl ?_
          refine RW.op rfl rfl (eff_load rfl rfl ti23 rfl (.whole rfl rfl rfl rfl rfl rfl)) ?_
          refine RW.store rfl rfl (eff_storeW (v := .t _) (els := [_]) (els' := [_]) rfl rfl ti23 rfl rfl rfl rfl rfl rfl rfl rfl rfl) ?_
          refine RW.nil ?_
          refine awp_ret ?_
          (rw [apply_unl (by rintro (h | h) <;> (try dsimp only [w64] at h) <;> omega) (by assumption) (if_neg (by assumption))]; exact ⟨Or.inr rfl, [_], ⟨.cell rfl ti23 (.whole rfl rfl rfl rfl rfl rfl) (.t _), trivial⟩, .refl _⟩)
      · try simp only [cl] at h3
        refine awp_skip ?_
        refine awp_seq ?_
        refine awp_seq ?_
        refine awp_rw rfl ?_
        refine faT tf23_3 ?_
        refine l1T ti4 rfl rfl rfl rfl rfl (.one rfl rfl rfl rfl) ?_
        refine RW.nil ?_
        refine awp_cond rfl (fun h5 => ?_) (fun h5 => ?_)
        · try simp only [cl] at h5
          refine awp_seq ?_
          refine awp_rw rfl ?_
          refine RW.op rfl rfl (eff_load rfl rfl ti23 rfl (.whole rfl rfl rfl rfl rfl rfl)) ?_
          refine RW.store rfl rfl (eff_storeW (v := .t _) (els := [_]) (els' := [_]) rfl rfl ti23 rfl rfl rfl rfl rfl rfl rfl rfl rfl) ?_
          refine RW.nil ?_
          refine awp_ret ?_
          (rw [apply_lock (by rintro (h | h) <;> (try dsimp only [w64] at h) <;> omega) (by assumption) (by assumption)]; exact ⟨Or.inr rfl, [_], ⟨.cell rfl ti23 (.whole rfl rfl rfl rfl rfl rfl) (.t _), trivial⟩, .refl _⟩)
        · try simp only [cl] at h5
          refine awp_skip ?_
          refine awp_seq ?_
          refine awp_seq ?_
          refine awp_rw rfl ?_
          refine mvT ?_
          refine ioT ?_
          refine RW.nil ?_
          refine awp_cond rfl (fun h6 => ?_) (fun h6 => ?_)
          · try simp only [cl] at h6
            refine awp_seq ?_
            refine awp_rw rfl ?_
            refine faT tf23_0 ?_
            refine l1T ti3 rfl rfl rfl rfl rfl (.one rfl rfl rfl rfl) ?_
            refine ioT ?_
            refine faT tf23_0 ?_
            refine RW.store rfl rfl (eff_storeS (v := .t _) (ys := [_, _, _, _]) (els := [_]) (els' := [_]) rfl rfl ti3 rfl rfl rfl rfl rfl rfl rfl (Nat.le_of_ble_eq_true rfl) rfl rfl) ?_
            refine RW.nil ?_
            refine awp_seq ?_
            refine awp_block ?_
            refine awp_loopW (fun m s => ∃ (k : Nat), (k ≤ 15) ∧ (trl 64 h = k + trl (64 - k) (hv h k)) ∧ m = hv h k ∧ s = ⟨92, [(2, .ptr 2 0 0 0), (4, .ptr 4 0 0 0)], [(2, some ⟨4, 23, 0, [.t (encR ⟨w64 (nx + (1 + ((k : Nat) : Int))), ((hv h k : Nat) : Int), w64 (f.key + 1), lk⟩)]⟩), (4, some ⟨4, 23, 0, [.t z23]⟩)]⟩) (_) (⟨_, weak_keep (n := 92) (fr' := [(2, .ptr 2 0 0 0), (4, .ptr 4 0 0 0)]) (st' := [(2, some ⟨4, 23, 0, [.t (encR ⟨w64 (nx + (1 + ((0 : Nat) : Int))), ((hv h 0 : Nat) : Int), w64 (f.key + 1), lk⟩)]⟩), (4, some ⟨4, 23, 0, [.t z23]⟩)]) ⟨rfl, rfl, rfl, rfl, trivial⟩ ⟨by first | rfl | (rw [← w64_step nx k]; rfl), okE_one rfl, rfl, okE_one rfl, trivial⟩, 0, (by omega), (by simp [hv]), rfl, rfl⟩) ?_
            rintro m s ⟨k, hk, htr, rfl, rfl⟩
            have hq := hv_le h k
            refine awp_seq ?_
            refine awp_seq ?_
            refine awp_rw rfl ?_
            refine faT tf23_1 ?_
            refine l1T ti3 rfl rfl rfl rfl rfl (.one rfl rfl rfl rfl) ?_
            refine RW.op rfl rfl (eff_remE (r := ((hv h k % 2 : Nat) : Int)) rfl rfl rfl rfl (by decide) (by rw [tmod_pos (Int.natCast_nonneg _)]; rfl)) ?_
            refine ioT ?_
            refine RW.nil ?_
            refine awp_cond rfl (fun h7 => ?_) (fun h7 => ?_)
            · try simp only [cl] at h7
              refine awp_skip ?_
              refine awp_block ?_
              refine awp_seq ?_
              refine awp_rw rfl ?_
              refine faT tf23_0 ?_
              refine l1T ti3 rfl rfl rfl rfl rfl (.one rfl rfl rfl rfl) ?_
              refine ioT ?_
              refine faT tf23_0 ?_
              refine RW.store rfl rfl (eff_storeS (v := .t _) (ys := [_, _, _, _]) (els := [_]) (els' := [_]) rfl rfl ti3 rfl rfl rfl rfl rfl rfl rfl (Nat.le_of_ble_eq_true rfl) rfl rfl) ?_
              refine RW.nil ?_
              refine awp_rw rfl ?_
              refine faT tf23_1 ?_
              refine l1T ti3 rfl rfl rfl rfl rfl (.one rfl rfl rfl rfl) ?_
              refine RW.op rfl rfl (eff_quoE (r := ((hv h (k + 1) : Nat) : Int)) rfl rfl rfl rfl (by decide) (half_hv h k hh)) ?_
              refine faT tf23_1 ?_
              refine RW.store rfl rfl (eff_storeS (v := .t _) (ys := [_, _, _, _]) (els := [_]) (els' := [_]) rfl rfl ti3 rfl rfl rfl rfl rfl rfl rfl (Nat.le_of_ble_eq_true rfl) rfl rfl) ?_
              refine RW.nil ?_
              have hodd : hv h k % 2 = 1 := by omega
              have hk15 : k ≠ 15 := by rintro rfl; rw [hv_big hh] at hodd; cases hodd
              have htr2 := trl_step hk htr hodd
              have hws := w64_step nx k
              have hhalf : hv h (k + 1) = hv h k / 2 := rfl
              refine ⟨_, ?_, _, weak_keep (n := 92) (fr' := [(2, .ptr 2 0 0 0), (4, .ptr 4 0 0 0)]) (st' := [(2, some ⟨4, 23, 0, [.t (encR ⟨w64 (nx + (1 + (((k + 1) : Nat) : Int))), ((hv h (k + 1) : Nat) : Int), w64 (f.key + 1), lk⟩)]⟩), (4, some ⟨4, 23, 0, [.t z23]⟩)]) ⟨rfl, rfl, rfl, rfl, trivial⟩ ⟨by first | rfl | (rw [← w64_step nx k]; rfl), okE_one rfl, rfl, okE_one rfl, trivial⟩, k + 1, (by omega), (by exact htr2), rfl, rfl⟩
              omega
            · try simp only [cl] at h7
              refine awp_exit ?_
              refine awp_seq ?_
              refine awp_rw rfl ?_
              have htr := trl_end htr (by omega)
              refine faT tf23_1 ?_
              refine l1T ti3 rfl rfl rfl rfl rfl (.one rfl rfl rfl rfl) ?_
              refine RW.op rfl rfl (eff_quoE (r := ((hv h (k + 1) : Nat) : Int)) rfl rfl rfl rfl (by decide) (half_hv h k hh)) ?_
              refine faT tf23_1 ?_
              refine RW.store rfl rfl (eff_storeS (v := .t _) (ys := [_, _, _, _]) (els := [_]) (els' := [_]) rfl rfl ti3 rfl rfl rfl rfl rfl rfl rfl (Nat.le_of_ble_eq_true rfl) rfl rfl) ?_
              refine RW.nil ?_
              refine awp_seq ?_
              refine awp_rw rfl ?_
              refine RW.op rfl rfl (eff_load rfl rfl ti23 rfl (.whole rfl rfl rfl rfl rfl rfl)) ?_
              refine RW.store rfl rfl (eff_storeW (v := .t _) (els := [_]) (els' := [_]) rfl rfl ti23 rfl rfl rfl rfl rfl rfl rfl rfl rfl) ?_
              refine RW.nil ?_
              refine awp_ret ?_
              (rw [apply_zero (by rintro (h | h) <;> (try dsimp only [w64] at h) <;> omega) (by assumption) (by assumption) (by assumption), show ones ((h : Nat) : Int) = k from htr, show (Int.toNat ((h : Nat) : Int)) / 2 ^ (1 + k) = hv h (k + 1) from by rw [hv_eq, Nat.add_comm 1 k]; rfl]; exact ⟨Or.inr rfl, [_], ⟨.cell rfl ti23 (.whole rfl rfl rfl rfl rfl rfl) (.t _), trivial⟩, .refl _⟩)
          · try simp only [cl] at h6
            refine awp_skip ?_
            refine awp_seq ?_
            refine awp_seq ?_
            refine awp_rw rfl ?_
            refine mvT ?_
            refine ioT ?_
            refine RW.nil ?_
            refine awp_cond rfl (fun h8 => ?_) (fun h8 => ?_)
            · try simp only [cl] at h8
              refine awp_seq ?_
              refine awp_rw rfl ?_
              refine faT tf23_1 ?_
              refine l1T ti3 rfl rfl rfl rfl rfl (.one rfl rfl rfl rfl) ?_
              refine mvT ?_
              refine RW.op rfl rfl (eff_iop rfl rfl rfl rfl (isubN (by omega) (by omega))) ?_
              refine RW.op rfl rfl (eff_callT (bit_ret h _ hh (by omega)) co59 rfl rfl rfl rfl) ?_
              refine asT ?_
              refine RW.nil ?_
              refine awp_seq ?_
              refine awp_seq ?_
              refine awp_rw rfl ?_
              refine mvT ?_
              refine RW.op rfl rfl (eff_unop rfl rfl rfl rfl) ?_
              refine RW.nil ?_
              refine awp_cond rfl (fun h9 => ?_) (fun h9 => ?_)
              · try simp only [cl] at h9
                refine awp_rd [(some 80, []), (some 81, []), (some 82, []), (some 83, []), (some 84, []), (some 85, []), (some 86, []), (none, [2])] [[], [0], [], [2], [2, 3], [0, 1, 2, 3, 4], [0, 1, 2, 3, 4, 5], [0, 1, 2, 3, 4, 5, 6]] tm rfl rfl rfl rfl ?_
                have hp15 : 2 ^ (dist f ⟨nx, ((h : Nat) : Int), ky, lk⟩ - 1).toNat < 2 ^ 15 := Nat.pow_lt_pow_right (by decide) (by omega)
                refine RD.op rfl rfl rfl (eff_fieldAddr rfl rfl tf23_1 (by decide) rfl rfl rfl (Nat.le_of_ble_eq_true rfl)) ?_
                refine RD.op rfl rfl rfl (eff_load (y := .t _) rfl rfl ti3 rfl (.one rfl rfl rfl rfl)) ?_
                refine mvD ?_
                refine RD.op rfl rfl rfl (eff_iop rfl rfl rfl rfl (isubN (by omega) (by omega))) ?_
                refine RD.op rfl rfl rfl (eff_callT (power_ret _ (by omega)) co60 rfl rfl rfl rfl) ?_
                refine RD.op rfl rfl rfl (eff_iop rfl rfl rfl rfl (addN (by omega))) ?_
                refine RD.op rfl rfl rfl (eff_fieldAddr rfl rfl tf23_1 (by decide) rfl rfl rfl (Nat.le_of_ble_eq_true rfl)) ?_
                refine RD.store rfl rfl rfl (eff_storeS (v := .t _) (ys := [_, _, _, _]) (els := [_]) (els' := [_]) rfl rfl ti3 rfl rfl rfl rfl rfl rfl rfl (Nat.le_of_ble_eq_true rfl) rfl rfl) ?_
                refine RD.nil ?_
                refine awp_seq ?_
                refine awp_rw rfl ?_
                refine RW.op rfl rfl (eff_load rfl rfl ti23 rfl (.whole rfl rfl rfl rfl rfl rfl)) ?_
                refine RW.store rfl rfl (eff_storeW (v := .t _) (els := [_]) (els' := [_]) rfl rfl ti23 rfl rfl rfl rfl rfl rfl rfl rfl rfl) ?_
                refine RW.nil ?_
                refine awp_ret ?_
                (rw [apply_near (by rintro (h | h) <;> (try dsimp only [w64] at h) <;> omega) (by assumption) (by assumption) (by assumption) (by assumption), show (Int.toNat ((h : Nat) : Int) ||| 2 ^ (dist f ⟨nx, ((h : Nat) : Int), ky, lk⟩ - 1).toNat) = h + 2 ^ (dist f ⟨nx, ((h : Nat) : Int), ky, lk⟩ - 1).toNat from (or_add hh (by omega) (by assumption)).symm]; exact ⟨Or.inr rfl, [_], ⟨.cell rfl ti23 (.whole rfl rfl rfl rfl rfl rfl) (.t _), trivial⟩, .refl _⟩)
              · try simp only [cl] at h9
                refine awp_skip ?_
                refine awp_seq ?_
                refine awp_rw rfl ?_
                refine RW.op rfl rfl (eff_load rfl rfl ti23 rfl (.whole rfl rfl rfl rfl rfl rfl)) ?_
                refine RW.store rfl rfl (eff_storeW (v := .t _) (els := [_]) (els' := [_]) rfl rfl ti23 rfl rfl rfl rfl rfl rfl rfl rfl rfl) ?_
                refine RW.nil ?_
                refine awp_ret ?_
                (rw [apply_near (by rintro (h | h) <;> (try dsimp only [w64] at h) <;> omega) (by assumption) (by assumption) (by assumption) (by assumption), show (Int.toNat ((h : Nat) : Int) ||| 2 ^ (dist f ⟨nx, ((h : Nat) : Int), ky, lk⟩ - 1).toNat) = h from or_set (by assumption)]; exact ⟨Or.inr rfl, [_], ⟨.cell rfl ti23 (.whole rfl rfl rfl rfl rfl rfl) (.t _), trivial⟩, .refl _⟩)
            · try simp only [cl] at h8
              refine awp_skip ?_
              refine awp_seq ?_
              refine awp_rw rfl ?_
              refine mvT ?_
              refine ioT ?_
              refine faT tf23_3 ?_
              refine RW.store rfl rfl (eff_storeS (v := .t _) (ys := [_, _, _, _]) (els := [_]) (els' := [_]) rfl rfl ti4 rfl rfl rfl rfl rfl rfl rfl (Nat.le_of_ble_eq_true rfl) rfl rfl) ?_
              refine RW.nil ?_
              refine awp_seq ?_
              refine awp_rw rfl ?_
              refine RW.op rfl rfl (eff_load rfl rfl ti23 rfl (.whole rfl rfl rfl rfl rfl rfl)) ?_
              refine RW.store rfl rfl (eff_storeW (v := .t _) (els := [_]) (els' := [_]) rfl rfl ti23 rfl rfl rfl rfl rfl rfl rfl rfl rfl) ?_
              refine RW.nil ?_
              refine awp_ret ?_
              (rw [apply_far (by rintro (h | h) <;> (try dsimp only [w64] at h) <;> omega) (by assumption) (by assumption) (by omega) rfl]; exact ⟨Or.inr rfl, [_], ⟨.cell rfl ti23 (.whole rfl rfl rfl rfl rfl rfl) (.t _), trivial⟩, .refl _⟩)

end Go.Tv.C36

end
section
open Go Go.Tv Go.Proofs
namespace Go.Tv.C36
set_option maxRecDepth 20000
set_option maxHeartbeats 2000000
set_option linter.unusedSimpArgs false
set_option linter.unusedVariables false
end Go.Tv.C36

end
section
open Go Go.Tv Go.Proofs
namespace Go.Tv.C36
set_option maxRecDepth 20000
set_option maxHeartbeats 2000000
set_option linter.unusedSimpArgs false
set_option linter.unusedVariables false
end Go.Tv.C36

end
section
open Go Go.Tv Go.Proofs
namespace Go.Tv.C36
set_option maxRecDepth 20000
set_option maxHeartbeats 2000000
set_option linter.unusedSimpArgs false
set_option linter.unusedVariables false
end Go.Tv.C36

end
section
open Go Go.Tv Go.Proofs
namespace Go.Tv.C36
set_option maxRecDepth 20000
set_option maxHeartbeats 2000000
set_option linter.unusedSimpArgs false
set_option linter.unusedVariables false
theorem tzn_ret (h : Nat) (hh : h < 32768) : RetT Tryd.prog 83 [(1, deT)] [.int .u64 ((18446744073709551615 - h : Nat) : Int)] (encI (ones ((h : Nat) : Int) : Nat)) := by
  rw [← tz_ones hh]; exact tz_ret _ (by omega)

theorem apply_ret (S : Rep) (f : Frm) (hS : HP S) : RetT Tryd.prog 77 [(1, deT)] [encR S, encF f] (encR (apply S f)) := by
  obtain ⟨nx, hv0, ky, lk⟩ := S
  obtain ⟨h, rfl⟩ : ∃ h : Nat, hv0 = (h : Int) := ⟨hv0.toNat, by have := hS.1; simp only [] at this; omega⟩
  have hh : h < 32768 := by have := hS.2; simp only [] at this; omega
  have hdr := dist_range f ⟨nx, ((h : Nat) : Int), ky, lk⟩
  have hon := ones_le ((h : Nat) : Int)
  refine retT_of_awp Tryd.func77 rfl (Nat.le_of_ble_eq_true rfl) ?_
  refine awp_seq ?_
  refine awp_rw rfl ?_
  refine RW.new rfl rfl (eff_boxK (v := .t _) (k := 4) (id := 2) rfl rfl rfl rfl rfl rfl) ?_
  refine RW.new rfl rfl (eff_boxK (v := .t _) (k := 5) (id := 3) rfl rfl rfl rfl rfl rfl) ?_
  refine RW.new rfl rfl (eff_allocK (k := 4) (id := 4) rfl rfl tz23 rfl rfl) ?_
  refine RW.nil ?_
  refine awp_seq ?_
  refine awp_seq ?_
  refine awp_rw rfl ?_
  refine faT tf45_1 ?_
  refine l1T ti3 rfl rfl rfl rfl rfl (.one rfl rfl rfl rfl) ?_
  refine faT tf23_2 ?_
  refine l1T ti3 rfl rfl rfl rfl rfl (.one rfl rfl rfl rfl) ?_
  refine ioT ?_
  refine mvT ?_
  refine RW.split 12 rfl (fun h1 => ?_) (fun h1 => ?_)
  · try simp only [cl] at h1
    refine gkT ?_
    refine gkT ?_
    refine gkT ?_
    refine gkT ?_
    refine gkT ?_
    refine gkT ?_
    refine pkT ?_
    refine RW.nil ?_
    refine awp_cond rfl (fun _ => ?_) (fun h => nomatch h)
    refine awp_seq ?_
    refine awp_rw rfl ?_
    refine RW.op rfl rfl (eff_load rfl rfl ti23 rfl (.whole rfl rfl rfl rfl rfl rfl)) ?_
    refine RW.store rfl rfl (eff_storeW (v := .t _) (els := [_]) (els' := [_]) rfl rfl ti23 rfl rfl rfl rfl rfl rfl rfl rfl rfl) ?_
    refine RW.nil ?_
    refine awp_ret ?_
    (rw [apply_stay (Or.inl (by assumption))]; exact ⟨Or.inr rfl, [_], ⟨.cell rfl ti23 (.whole rfl rfl rfl rfl rfl rfl) (.t _), trivial⟩, .refl _⟩)
  · try simp only [cl] at h1
    refine RW.gop rfl rfl rfl rfl rfl rfl (eff_fieldAddr rfl rfl tf45_1 (by decide) rfl rfl rfl (Nat.le_of_ble_eq_true rfl)) ?_
    refine RW.gop rfl rfl rfl rfl rfl rfl (eff_load (y := .t _) rfl rfl ti3 rfl (.one rfl rfl rfl rfl)) ?_
    refine RW.gop rfl rfl rfl rfl rfl rfl (eff_fieldAddr rfl rfl tf23_2 (by decide) rfl rfl rfl (Nat.le_of_ble_eq_true rfl)) ?_
    refine RW.gop rfl rfl rfl rfl rfl rfl (eff_load (y := .t _) rfl rfl ti3 rfl (.one rfl rfl rfl rfl)) ?_
    refine RW.gop rfl rfl rfl rfl rfl rfl (eff_iop rfl rfl rfl rfl rfl) ?_
    refine RW.gop rfl rfl rfl rfl rfl rfl (eff_iop rfl rfl rfl rfl rfl) ?_
    refine pkT ?_
    refine RW.nil ?_
    refine awp_cond rfl (fun h2 => ?_) (fun h2 => ?_)
    · try simp only [cl] at h2
      refine awp_seq ?_
      refine awp_rw rfl ?_
      refine RW.op rfl rfl (eff_load rfl rfl ti23 rfl (.whole rfl rfl rfl rfl rfl rfl)) ?_
      refine RW.store rfl rfl (eff_storeW (v := .t _) (els := [_]) (els' := [_]) rfl rfl ti23 rfl rfl rfl rfl rfl rfl rfl rfl rfl) ?_
      refine RW.nil ?_
      refine awp_ret ?_
      (rw [apply_stay (Or.inr (by assumption))]; exact ⟨Or.inr rfl, [_], ⟨.cell rfl ti23 (.whole rfl rfl rfl rfl rfl rfl) (.t _), trivial⟩, .refl _⟩)
    · try simp only [cl] at h2
      refine awp_skip ?_
      refine awp_seq ?_
      refine awp_rw rfl ?_
      refine faT tf45_1 ?_
      refine l1T ti3 rfl rfl rfl rfl rfl (.one rfl rfl rfl rfl) ?_
      refine ioT ?_
      refine faT tf23_2 ?_
      refine RW.store rfl rfl (eff_storeS (v := .t _) (ys := [_, _, _, _]) (els := [_]) (els' := [_]) rfl rfl ti3 rfl rfl rfl rfl rfl rfl rfl (Nat.le_of_ble_eq_true rfl) rfl rfl) ?_
      refine RW.nil ?_
      refine awp_seq ?_
      refine awp_rw rfl ?_
      refine faT tf45_0 ?_
      refine l1T ti3 rfl rfl rfl rfl rfl (.one rfl rfl rfl rfl) ?_
      refine RW.op rfl rfl (eff_convInt rfl rfl (by rw [tu3]; rfl) tu5 rfl) ?_
      refine faT tf23_0 ?_
      refine l1T ti3 rfl rfl rfl rfl rfl (.one rfl rfl rfl rfl) ?_
      refine RW.op rfl rfl (eff_convInt rfl rfl (by rw [tu3]; rfl) tu5 rfl) ?_
      refine RW.op rfl rfl (eff_iop (r := .int .u8 (dist f ⟨nx, ((h : Nat) : Int), ky, lk⟩)) rfl rfl rfl rfl (congrArg (fun z => some (Tr.int .u8 z)) (dist_u8 f ⟨nx, ((h : Nat) : Int), ky, lk⟩))) ?_
      refine RW.op rfl rfl (eff_convIntE (m := dist f ⟨nx, ((h : Nat) : Int), ky, lk⟩) rfl rfl (by rw [tu5]; rfl) tu3 rfl (dist_i64 f ⟨nx, ((h : Nat) : Int), ky, lk⟩)) ?_
      refine asT ?_
      refine RW.nil ?_
      refine awp_seq ?_
      refine awp_block ?_
      refine awp_seq ?_
      refine awp_rw rfl ?_
      refine faT tf45_2 ?_
      refine l1T ti4 rfl rfl rfl rfl rfl (.one rfl rfl rfl rfl) ?_
      refine asT ?_
      refine RW.nil ?_
      refine awp_cond rfl (fun h3 => ?_) (fun h3 => ?_)
      · try simp only [cl] at h3
        refine awp_seq ?_
        refine awp_rw rfl ?_
        refine faT tf23_3 ?_
        refine RW.store rfl rfl (eff_storeS (v := .t _) (ys := [_, _, _, _]) (els := [_]) (els' := [_]) rfl rfl ti4 rfl rfl rfl rfl rfl rfl rfl (Nat.le_of_ble_eq_true rfl) rfl rfl) ?_
        refine faT tf23_1 ?_
        refine RW.store rfl rfl (eff_storeS (v := .t _) (ys := [_, _, _, _]) (els := [_]) (els' := [_]) rfl rfl ti3 rfl rfl rfl rfl rfl rfl rfl (Nat.le_of_ble_eq_true rfl) rfl rfl) ?_
        refine RW.nil ?_
        refine awp_seq ?_
        refine awp_rw rfl ?_
        refine mvT ?_
        refine ioT ?_
        refine RW.nil ?_
        refine awp_cond rfl (fun h4 => ?_) (fun h4 => ?_)
        · try simp only [cl] at h4
          refine awp_rw rfl ?_
          refine faT tf23_0 ?_
          refine l1T ti3 rfl rfl rfl rfl rfl (.one rfl rfl rfl rfl) ?_
          refine mvT ?_
          refine ioT ?_
          refine faT tf23_0 ?_
          refine RW.store rfl rfl (eff_storeS (v := .t _) (ys := [_, _, _, _]) (els := [_]) (els' := [_]) rfl rfl ti3 rfl rfl rfl rfl rfl rfl rfl (Nat.le_of_ble_eq_true rfl) rfl rfl) ?_
          refine RW.nil ?_
          refine awp_seq ?_
          refine awp_rw rfl ?_
          refine RW.op rfl rfl (eff_load rfl rfl ti23 rfl (.whole rfl rfl rfl rfl rfl rfl)) ?_
          refine RW.store rfl rfl (eff_storeW (v := .t _) (els := [_]) (els' := [_]) rfl rfl ti23 rfl rfl rfl rfl rfl rfl rfl rfl rfl) ?_
          refine RW.nil ?_
          refine awp_ret ?_
          (rw [apply_unl (by rintro (h | h) <;> (try dsimp only [w64] at h) <;> omega) (by assumption) (if_pos (by assumption))]; exact ⟨Or.inr rfl, [_], ⟨.cell rfl ti23 (.whole rfl rfl rfl rfl rfl rfl) (.t _), trivial⟩, .refl _⟩)
        · try simp only [cl] at h4
          refine awp_skip ?_
          refine awp_seq ?_
          refine awp_rw rfl ?_
          refine RW.op rfl rfl (eff_load rfl rfl ti23 rfl (.whole rfl rfl rfl rfl rfl rfl)) ?_
          refine RW.store rfl rfl (eff_storeW (v := .t _) (els := [_]) (els' := [_]) rfl rfl ti23 rfl rfl rfl rfl rfl rfl rfl rfl rfl) ?_
          refine RW.nil ?_
          refine awp_ret ?_
          (rw [apply_unl (by rintro (h | h) <;> (try dsimp only [w64] at h) <;> omega) (by assumption) (if_neg (by assumption))]; exact ⟨Or.inr rfl, [_], ⟨.cell rfl ti23 (.whole rfl rfl rfl rfl rfl rfl) (.t _), trivial⟩, .refl _⟩)
      · try simp only [cl] at h3
        refine awp_seq ?_
        refine awp_rw rfl ?_
        refine faT tf23_3 ?_
        refine l1T ti4 rfl rfl rfl rfl rfl (.one rfl rfl rfl rfl) ?_
        refine asT ?_
        refine RW.nil ?_
        refine awp_cond rfl (fun h5 => ?_) (fun h5 => ?_)
        · try simp only [cl] at h5
          refine awp_skip ?_
          refine awp_seq ?_
          refine awp_rw rfl ?_
          refine RW.op rfl rfl (eff_load rfl rfl ti23 rfl (.whole rfl rfl rfl rfl rfl rfl)) ?_
          refine RW.store rfl rfl (eff_storeW (v := .t _) (els := [_]) (els' := [_]) rfl rfl ti23 rfl rfl rfl rfl rfl rfl rfl rfl rfl) ?_
          refine RW.nil ?_
          refine awp_ret ?_
          (rw [apply_lock (by rintro (h | h) <;> (try dsimp only [w64] at h) <;> omega) (by assumption) (by assumption)]; exact ⟨Or.inr rfl, [_], ⟨.cell rfl ti23 (.whole rfl rfl rfl rfl rfl rfl) (.t _), trivial⟩, .refl _⟩)
        · try simp only [cl] at h5
          refine awp_seq ?_
          refine awp_rw rfl ?_
          refine mvT ?_
          refine ioT ?_
          refine asT ?_
          refine RW.nil ?_
          refine awp_cond rfl (fun h6 => ?_) (fun h6 => ?_)
          · try simp only [cl] at h6
            refine awp_seq ?_
            refine awp_rw rfl ?_
            refine faT tf23_1 ?_
            refine l1T ti3 rfl rfl rfl rfl rfl (.one rfl rfl rfl rfl) ?_
            refine RW.op rfl rfl (eff_convIntE (m := ((h : Nat) : Int)) rfl rfl (by rw [tu3]; rfl) tu109 rfl (by show IntKind.u64.wrap ((h : Nat) : Int) = _; rw [wu64]; omega)) ?_
            refine RW.op rfl rfl (eff_unop rfl rfl rfl (xor_ones (x := h) (by omega))) ?_
            refine RW.op rfl rfl (eff_callXT (tzn_ret h hh) co83 rfl rfl rfl ⟨rfl, trivial⟩ rfl) ?_
            refine RW.op rfl rfl (eff_iop rfl rfl rfl rfl (iadd (by omega))) ?_
            refine asT ?_
            refine RW.nil ?_
            refine awp_rd [(some 57, []), (some 58, []), (some 59, []), (some 60, []), (some 61, []), (some 62, []), (some 63, []), (some 64, []), (some 65, []), (none, [2]), (some 66, []), (none, [2])] [[], [0], [], [0, 1, 2], [], [4], [], [4, 5, 6], [0, 1, 2, 3, 4, 5], [0, 1, 2, 3, 4, 5, 8], [0, 1, 2, 3, 4, 5, 6, 7, 8, 9], [0, 1, 2, 3, 4, 5, 6, 7, 8, 9, 10]] tm rfl rfl rfl rfl ?_
            refine RD.op rfl rfl rfl (eff_fieldAddr rfl rfl tf23_0 (by decide) rfl rfl rfl (Nat.le_of_ble_eq_true rfl)) ?_
            refine RD.op rfl rfl rfl (eff_load (y := .t _) rfl rfl ti3 rfl (.one rfl rfl rfl rfl)) ?_
            refine mvD ?_
            refine RD.op rfl rfl rfl (eff_iop rfl rfl rfl rfl rfl) ?_
            refine RD.op rfl rfl rfl (eff_fieldAddr rfl rfl tf23_1 (by decide) rfl rfl rfl (Nat.le_of_ble_eq_true rfl)) ?_
            refine RD.op rfl rfl rfl (eff_load (y := .t _) rfl rfl ti3 rfl (.one rfl rfl rfl rfl)) ?_
            refine mvD ?_
            refine RD.op rfl rfl rfl (eff_shrE (r := ((h / 2 ^ (1 + ones ((h : Nat) : Int)) : Nat) : Int)) rfl rfl rfl rfl (by omega) (shr_have (s := ⟨nx, ((h : Nat) : Int), ky, lk⟩) hS (ones ((h : Nat) : Int)) (by omega))) ?_
            refine RD.op rfl rfl rfl (eff_fieldAddr rfl rfl tf23_0 (by decide) rfl rfl rfl (Nat.le_of_ble_eq_true rfl)) ?_
            refine RD.store rfl rfl rfl (eff_storeS (v := .t _) (ys := [_, _, _, _]) (els := [_]) (els' := [_]) rfl rfl ti3 rfl rfl rfl rfl rfl rfl rfl (Nat.le_of_ble_eq_true rfl) rfl rfl) ?_
            refine RD.op rfl rfl rfl (eff_fieldAddr rfl rfl tf23_1 (by decide) rfl rfl rfl (Nat.le_of_ble_eq_true rfl)) ?_
            refine RD.store rfl rfl rfl (eff_storeS (v := .t _) (ys := [_, _, _, _]) (els := [_]) (els' := [_]) rfl rfl ti3 rfl rfl rfl rfl rfl rfl rfl (Nat.le_of_ble_eq_true rfl) rfl rfl) ?_
            refine RD.nil ?_
            refine awp_seq ?_
            refine awp_rw rfl ?_
            refine RW.op rfl rfl (eff_load rfl rfl ti23 rfl (.whole rfl rfl rfl rfl rfl rfl)) ?_
            refine RW.store rfl rfl (eff_storeW (v := .t _) (els := [_]) (els' := [_]) rfl rfl ti23 rfl rfl rfl rfl rfl rfl rfl rfl rfl) ?_
            refine RW.nil ?_
            refine awp_ret ?_
            (rw [apply_zero (by rintro (h | h) <;> (try dsimp only [w64] at h) <;> omega) (by assumption) (by assumption) (by assumption)]; exact ⟨Or.inr rfl, [_], ⟨.cell rfl ti23 (.whole rfl rfl rfl rfl rfl rfl) (.t _), trivial⟩, .refl _⟩)
          · try simp only [cl] at h6
            refine awp_seq ?_
            refine awp_rw rfl ?_
            refine mvT ?_
            refine ioT ?_
            refine asT ?_
            refine RW.nil ?_
            refine awp_cond rfl (fun h7 => ?_) (fun h7 => ?_)
            · try simp only [cl] at h7
              refine awp_rd [(some 70, []), (some 71, []), (some 72, []), (some 73, []), (some 74, []), (some 75, []), (some 76, []), (none, [2])] [[], [0], [], [2], [2, 3], [0, 1, 2, 3, 4], [0, 1, 2, 3, 4, 5], [0, 1, 2, 3, 4, 5, 6]] tm rfl rfl rfl rfl ?_
              have hp15 : 2 ^ (dist f ⟨nx, ((h : Nat) : Int), ky, lk⟩ - 1).toNat < 2 ^ 15 := Nat.pow_lt_pow_right (by decide) (by omega)
              refine RD.op rfl rfl rfl (eff_fieldAddr rfl rfl tf23_1 (by decide) rfl rfl rfl (Nat.le_of_ble_eq_true rfl)) ?_
              refine RD.op rfl rfl rfl (eff_load (y := .t _) rfl rfl ti3 rfl (.one rfl rfl rfl rfl)) ?_
              refine mvD ?_
              refine RD.op rfl rfl rfl (eff_iop rfl rfl rfl rfl (isub (by omega))) ?_
              refine RD.op rfl rfl rfl (eff_shlE (r := ((2 ^ (dist f ⟨nx, ((h : Nat) : Int), ky, lk⟩ - 1).toNat : Nat) : Int)) rfl rfl rfl rfl (by omega) (shl_one (by omega) (by omega))) ?_
              refine RD.op rfl rfl rfl (eff_iop (r := encI ((h ||| 2 ^ (dist f ⟨nx, ((h : Nat) : Int), ky, lk⟩ - 1).toNat : Nat) : Int)) rfl rfl rfl rfl (or_nat (by omega) (by omega))) ?_
              refine RD.op rfl rfl rfl (eff_fieldAddr rfl rfl tf23_1 (by decide) rfl rfl rfl (Nat.le_of_ble_eq_true rfl)) ?_
              refine RD.store rfl rfl rfl (eff_storeS (v := .t _) (ys := [_, _, _, _]) (els := [_]) (els' := [_]) rfl rfl ti3 rfl rfl rfl rfl rfl rfl rfl (Nat.le_of_ble_eq_true rfl) rfl rfl) ?_
              refine RD.nil ?_
              refine awp_seq ?_
              refine awp_rw rfl ?_
              refine RW.op rfl rfl (eff_load rfl rfl ti23 rfl (.whole rfl rfl rfl rfl rfl rfl)) ?_
              refine RW.store rfl rfl (eff_storeW (v := .t _) (els := [_]) (els' := [_]) rfl rfl ti23 rfl rfl rfl rfl rfl rfl rfl rfl rfl) ?_
              refine RW.nil ?_
              refine awp_ret ?_
              (rw [apply_near (by rintro (h | h) <;> (try dsimp only [w64] at h) <;> omega) (by assumption) (by assumption) (by assumption) (by assumption)]; exact ⟨Or.inr rfl, [_], ⟨.cell rfl ti23 (.whole rfl rfl rfl rfl rfl rfl) (.t _), trivial⟩, .refl _⟩)
            · try simp only [cl] at h7
              refine awp_seq ?_
              refine awp_rw rfl ?_
              refine mvT ?_
              refine ioT ?_
              refine asT ?_
              refine RW.nil ?_
              refine awp_cond rfl (fun h8 => ?_) (fun h8 => ?_)
              · try simp only [cl] at h8
                refine awp_rw rfl ?_
                refine faT tf23_3 ?_
                refine RW.store rfl rfl (eff_storeS (v := .t _) (ys := [_, _, _, _]) (els := [_]) (els' := [_]) rfl rfl ti4 rfl rfl rfl rfl rfl rfl rfl (Nat.le_of_ble_eq_true rfl) rfl rfl) ?_
                refine RW.nil ?_
                refine awp_seq ?_
                refine awp_rw rfl ?_
                refine RW.op rfl rfl (eff_load rfl rfl ti23 rfl (.whole rfl rfl rfl rfl rfl rfl)) ?_
                refine RW.store rfl rfl (eff_storeW (v := .t _) (els := [_]) (els' := [_]) rfl rfl ti23 rfl rfl rfl rfl rfl rfl rfl rfl rfl) ?_
                refine RW.nil ?_
                refine awp_ret ?_
                (rw [apply_far (by rintro (h | h) <;> (try dsimp only [w64] at h) <;> omega) (by assumption) (by assumption) (by omega) (decide_eq_true (by omega))]; exact ⟨Or.inr rfl, [_], ⟨.cell rfl ti23 (.whole rfl rfl rfl rfl rfl rfl) (.t _), trivial⟩, .refl _⟩)
              · try simp only [cl] at h8
                refine awp_skip ?_
                refine awp_seq ?_
                refine awp_rw rfl ?_
                refine RW.op rfl rfl (eff_load rfl rfl ti23 rfl (.whole rfl rfl rfl rfl rfl rfl)) ?_
                refine RW.store rfl rfl (eff_storeW (v := .t _) (els := [_]) (els' := [_]) rfl rfl ti23 rfl rfl rfl rfl rfl rfl rfl rfl rfl) ?_
                refine RW.nil ?_
                refine awp_ret ?_
                (rw [apply_far (b := lk) (by rintro (h | h) <;> (try dsimp only [w64] at h) <;> omega) (by assumption) (by assumption) (by omega) (by rw [decide_eq_false (by omega)]; exact (show lk = false by assumption).symm)]; exact ⟨Or.inr rfl, [_], ⟨.cell rfl ti23 (.whole rfl rfl rfl rfl rfl rfl) (.t _), trivial⟩, .refl _⟩)

theorem own_ret (l : List Frm) (hl : l.length ≤ 1000000) (hb : ∀ f, f ∈ l → f.body.length ≤ 1000000) : Ret Tryd.prog 72 [.sl (l.map encF) false] (.sl (l.map encF) false) := by
  refine ret_of_awp Tryd.func72 rfl (Nat.le_of_ble_eq_true rfl) ?_
  refine awp_seq ?_
  refine awp_rw rfl ?_
  refine asT ?_
  refine RW.nil ?_
  refine awp_seq ?_
  refine awp_rw rfl ?_
  refine mvT ?_
  refine RW.new rfl rfl (eff_callG (cloneF_retG l hl) co78 (fun id => id + 0) rfl rfl rfl ⟨.t _, trivial⟩ (.own _ _ _ _ rfl rfl) rfl trivial ⟨⟨treeEls_t, .inr rfl⟩, trivial⟩) ?_
  refine asO ?_
  refine RW.nil ?_
  refine awp_seq ?_
  refine awp_seq ?_
  refine awp_rw rfl ?_
  refine mvO ?_
  refine RW.op rfl rfl (eff_len rfl rfl te62 rfl rfl rfl) ?_
  refine mvT ?_
  refine RW.nil ?_
  refine awp_block ?_
  refine awp_loopW (fun m s => ∃ (i : Nat), (i ≤ l.length) ∧ m = l.length - i ∧ s = ⟨23, [(0, .own 5 1 0 l.length), (7, .own 5 1 0 l.length), (8, .t (encI l.length)), (9, .t (encI (i : Nat)))], [(5, some ⟨5, 45, 1, (l.map encF).map .t⟩)]⟩) (_) (⟨_, weak_keep (n := 23) (fr' := [(0, .own 5 1 0 l.length), (7, .own 5 1 0 l.length), (8, .t (encI l.length)), (9, .t (encI (0 : Nat)))]) (st' := [(5, some ⟨5, 45, 1, (l.map encF).map .t⟩)]) ⟨rfl, rfl, rfl, rfl, rfl, rfl, rfl, rfl, trivial⟩ ⟨rfl, okE_t, trivial⟩, 0, (by omega), rfl, rfl⟩) ?_
  rintro m s ⟨i, hi, rfl, rfl⟩
  refine awp_seq ?_
  refine awp_rw rfl ?_
  refine ioT ?_
  refine RW.nil ?_
  refine awp_seq ?_
  refine awp_cond rfl (fun h1 => ?_) (fun h1 => ?_)
  · try simp only [cl] at h1
    refine awp_skip ?_
    refine awp_seq ?_
    refine awp_block ?_
    refine awp_seq ?_
    refine awp_rw rfl ?_
    have hil : i < l.length := by omega
    have hbl := hb _ (List.getElem_mem hil)
    refine mvT ?_
    refine RW.op rfl rfl (eff_indexAddr rfl rfl te62 rfl rfl rfl rfl rfl rfl (by omega)) ?_
    refine RW.op rfl rfl (eff_load (y := .t (encF (l[i]'hil))) rfl rfl ti45 rfl (.whole rfl rfl (by rw [Nat.zero_add]; exact elF hil) rfl rfl rfl)) ?_
    refine RW.new rfl rfl (eff_allocK (k := 5) (id := 4) rfl rfl tz45 rfl rfl) ?_
    refine asT ?_
    refine RW.store rfl rfl (eff_storeW (v := .t _) (els := [_]) (els' := [_]) rfl rfl ti45 rfl rfl rfl rfl rfl rfl rfl rfl rfl) ?_
    refine RW.nil ?_
    refine awp_rw rfl ?_
    refine mvO ?_
    refine mvT ?_
    refine faT tf45_3 ?_
    refine l1T ti42 rfl rfl rfl rfl rfl (.one rfl rfl rfl rfl) ?_
    refine RW.op rfl rfl (eff_callT (cloneB_ret _ hbl) co79 rfl rfl rfl rfl) ?_
    refine RW.op rfl rfl (eff_indexAddr rfl rfl te62 rfl rfl rfl rfl rfl rfl (by omega)) ?_
    refine faT tf45_3 ?_
    refine RW.store rfl rfl (eff_storeS (v := .t _) (el := .t (encF (l[i]'hil))) (ys := [encI (l[i]'hil).seq, encI (l[i]'hil).key, .bool (l[i]'hil).unlock, .sl ((l[i]'hil).body.map encBy) false, .int .u64 (l[i]'hil).tag]) (els := (l.map encF).map .t) (els' := (l.map encF).map .t) rfl rfl ti42 rfl rfl rfl rfl rfl rfl (by rw [Nat.zero_add]; exact elF hil) (Nat.le_of_ble_eq_true rfl) rfl (by rw [Nat.zero_add]; exact setF_same hil)) ?_
    refine RW.nil ?_
    refine awp_rw rfl ?_
    refine RW.op rfl rfl (eff_iop rfl rfl rfl rfl (iadd (by omega))) ?_
    refine mvT ?_
    refine RW.nil ?_
    refine ⟨_, ?_, _, weak_keep (n := 23) (fr' := [(0, .own 5 1 0 l.length), (7, .own 5 1 0 l.length), (8, .t (encI l.length)), (9, .t (encI ((i + 1) : Nat)))]) (st' := [(5, some ⟨5, 45, 1, (l.map encF).map .t⟩)]) ⟨rfl, rfl, rfl, rfl, rfl, rfl, rfl, rfl, trivial⟩ ⟨rfl, okE_t, trivial⟩, i + 1, (by omega), rfl, rfl⟩
    omega
  · try simp only [cl] at h1
    refine awp_exit ?_
    refine awp_seq ?_
    refine awp_rw rfl ?_
    refine mvO ?_
    refine asO ?_
    refine RW.nil ?_
    refine awp_ret ?_
    exact ⟨Or.inr rfl, [_], ⟨.tmp (Res.ownM (xs := l.map encF) rfl (by simp)), trivial⟩, .refl _⟩

end Go.Tv.C36

end
section
namespace Go.Proofs
open Go.Shelf
def Tryd.sortIv_ren : Go.Shelf.Ren := ⟨fun | 6 => 80 | 15 => 85 | 14 => 84 | 28 => 99 | 29 => 100 | 20 => 91 | 21 => 92 | 22 => 93 | 23 => 94 | 24 => 95 | 25 => 96 | 26 => 97 | 27 => 98 | 46 => 102 | 47 => 103 | 48 => 104 | 49 => 105 | 50 => 106 | 57 => 107 | n => n, fun | 22 => 33 | 24 => 23 | 25 => 106 | 3 => 3 | 39 => 109 | 0 => 0 | 53 => 114 | 55 => 43 | 4 => 4 | 46 => 118 | 45 => 117 | 50 => 122 | 5 => 5 | 9 => 9 | 66 => 126 | 70 => 130 | 76 => 132 | 77 => 133 | n => n, fun | n => n⟩
theorem Tryd.sortIv : Go.Proofs.SlLaysF0.n6 Tryd.prog Tryd.sortIv_ren := {
  mixed := by kernel_rfl
  f6 := ⟨Tryd.f80.name, by decide, Tryd.func80.trans (congrArg some (by kernel_rfl))⟩
  f14 := ⟨Tryd.f84.name, by decide, Tryd.func84.trans (congrArg some (by kernel_rfl))⟩
  f15 := Tryd.func85.trans (congrArg some (by kernel_rfl))
  f20 := ⟨Tryd.f91.name, by decide, Tryd.func91.trans (congrArg some (by kernel_rfl))⟩
  f21 := ⟨Tryd.f92.name, by decide, Tryd.func92.trans (congrArg some (by kernel_rfl))⟩
  f22 := ⟨Tryd.f93.name, by decide, Tryd.func93.trans (congrArg some (by kernel_rfl))⟩
  f23 := ⟨Tryd.f94.name, by decide, Tryd.func94.trans (congrArg some (by kernel_rfl))⟩
  f24 := ⟨Tryd.f95.name, by decide, Tryd.func95.trans (congrArg some (by kernel_rfl))⟩
  f25 := ⟨Tryd.f96.name, by decide, Tryd.func96.trans (congrArg some (by kernel_rfl))⟩
  f26 := ⟨Tryd.f97.name, by decide, Tryd.func97.trans (congrArg some (by kernel_rfl))⟩
  f27 := ⟨Tryd.f98.name, by decide, Tryd.func98.trans (congrArg some (by kernel_rfl))⟩
  f28 := Tryd.func99.trans (congrArg some (by kernel_rfl))
  f29 := Tryd.func100.trans (congrArg some (by kernel_rfl))
  f46 := ⟨Tryd.f102.name, by decide, Tryd.func102.trans (congrArg some (by kernel_rfl))⟩
  f47 := Tryd.func103.trans (congrArg some (by kernel_rfl))
  f48 := Tryd.func104.trans (congrArg some (by kernel_rfl))
  f49 := ⟨Tryd.f105.name, by decide, Tryd.func105.trans (congrArg some (by kernel_rfl))⟩
  f50 := ⟨Tryd.f106.name, by decide, Tryd.func106.trans (congrArg some (by kernel_rfl))⟩
  f57 := ⟨Tryd.f107.name, by decide, Tryd.func107.trans (congrArg some (by kernel_rfl))⟩
  t0 := Tryd.underlying0
  a0 := Tryd.isAgg0
  z0 := Tryd.sizeOf0
  v0 := Tryd.zeroValue0
  t3 := Tryd.underlying3
  a3 := Tryd.isAgg3
  z3 := Tryd.sizeOf3
  v3 := Tryd.zeroValue3
  t4 := Tryd.underlying4
  a4 := Tryd.isAgg4
  z4 := Tryd.sizeOf4
  v4 := Tryd.zeroValue4
  t5 := Tryd.underlying5
  a5 := Tryd.isAgg5
  z5 := Tryd.sizeOf5
  v5 := Tryd.zeroValue5
  t9 := Tryd.underlying9
  a9 := Tryd.isAgg9
  z9 := Tryd.sizeOf9
  v9 := Tryd.zeroValue9
  t22 := Tryd.underlying33
  a22 := Tryd.isAgg33
  z22 := Tryd.sizeOf33
  v22 := Tryd.zeroValue33
  t25 := Tryd.underlying106
  a25 := Tryd.isAgg106
  z25 := Tryd.sizeOf106
  v25 := Tryd.zeroValue106
  t39 := Tryd.underlying109
  a39 := Tryd.isAgg109
  z39 := Tryd.sizeOf109
  v39 := Tryd.zeroValue109
  t45 := Tryd.underlying117
  a45 := Tryd.isAgg117
  z45 := Tryd.sizeOf117
  v45 := Tryd.zeroValue117
  t46 := Tryd.underlying118
  a46 := Tryd.isAgg118
  z46 := Tryd.sizeOf118
  v46 := Tryd.zeroValue118
  t50 := Tryd.underlying122
  a50 := Tryd.isAgg122
  z50 := Tryd.sizeOf122
  v50 := Tryd.zeroValue122
  t53 := Tryd.underlying114
  a53 := Tryd.isAgg114
  z53 := Tryd.sizeOf114
  v53 := Tryd.zeroValue114
  t55 := Tryd.underlying43
  a55 := Tryd.isAgg43
  z55 := Tryd.sizeOf43
  v55 := Tryd.zeroValue43
  t66 := Tryd.underlying126
  a66 := Tryd.isAgg126
  z66 := Tryd.sizeOf126
  v66 := Tryd.zeroValue126
  t70 := Tryd.underlying130
  a70 := Tryd.isAgg130
  z70 := Tryd.sizeOf130
  v70 := Tryd.zeroValue130
  t76 := Tryd.underlying132
  a76 := Tryd.isAgg132
  z76 := Tryd.sizeOf132
  v76 := Tryd.zeroValue132
  t77 := Tryd.underlying133
  a77 := Tryd.isAgg133
  z77 := Tryd.sizeOf133
  v77 := Tryd.zeroValue133 }
end Go.Proofs

end
section
open Go Go.Tv Go.Proofs
namespace Go.Tv.C36
set_option maxRecDepth 20000
set_option maxHeartbeats 2000000
set_option linter.unusedSimpArgs false
set_option linter.unusedVariables false
theorem spread_ret (l : List Rep) (f : Frm) (hl : Srt l) (hp : ∀ y, y ∈ l → HP y) : RetT Tryd.prog 71 [(1, deT)] [mset l, encF f] (mset (stepF l f)) := by
  refine retT_of_awr Tryd.func71 rfl (Nat.le_of_ble_eq_true rfl) ?_
  intro F0 w0
  refine awj_openS 0 (l := l) rfl (fun b0 lp hperm => ?_)
  refine awj_seq ?_
  refine awj_rj rfl ?_
  refine RJ.new rfl rfl (eff_boxK (v := .t _) (k := 5) (id := 3) rfl rfl rfl rfl rfl rfl) ?_
  refine RJ.op rfl rfl (eff_assign (v := .junk) rfl rfl rfl) ?_
  refine RJ.nil ?_
  refine awj_seq ?_
  refine awj_rj rfl ?_
  refine RJ.sMake rfl rfl rfl rfl (fun rO hrO => ?_)
  refine RJ.op rfl rfl (eff_assign (v := .t _) rfl rfl rfl) ?_
  refine RJ.nil ?_
  refine awj_seq ?_
  refine awj_seq ?_
  refine awj_rj rfl ?_
  refine RJ.op rfl rfl (eff_move (v := .t _) rfl rfl rfl) ?_
  refine RJ.sRange rfl rfl rfl rfl Tryd.underlying98 rfl (fun rI hrI => ?_)
  refine RJ.nil ?_
  show AWJ _ _ _ _ _ _ _ _
  have hne : rO ≠ rI := by intro e; subst e; rw [gget_same] at hrI; cases hrI
  refine awj_block ?_
  refine awj_loopW (fun m s g => ∃ (seen : List Nat) (cur : List Rep), (gget g rO = some (mapO KR XU (setL cur))) ∧ (gget g rI = some (itM b0 lp.length seen)) ∧ (seen.Nodup) ∧ (∀ j, j ∈ seen → j < lp.length) ∧ (cameF lp f seen cur) ∧ m = lp.length - seen.length ∧ s = ⟨21, [(3, .ptr 3 0 0 0), (5, .t (.mp rO)), (8, .t (.mpx b0 (mapL KR XU (setL lp)))), (9, .t (.adr rI 0)), (22, .t deT)], [(3, some ⟨5, 45, 0, [.t (encF f)]⟩)]⟩) (_) (⟨_, weak_keep (n := 21) (fr' := [(3, .ptr 3 0 0 0), (5, .t (.mp rO)), (8, .t (.mpx b0 (mapL KR XU (setL lp)))), (9, .t (.adr rI 0)), (22, .t deT)]) (st' := [(3, some ⟨5, 45, 0, [.t (encF f)]⟩)]) ⟨rfl, rfl, rfl, rfl, rfl, rfl, rfl, rfl, rfl, rfl, trivial⟩ ⟨rfl, okE_one rfl, trivial⟩, [], [], (by rw [gget_ne _ _ (Ne.symm hne)]; exact gget_same _ _ _), (by exact gget_same _ _ _), (by exact List.nodup_nil), (by intro j hj; simp at hj), (by exact cameF_nil _ _), rfl, rfl⟩) ?_
  rintro m s g ⟨seen, cur, hgO, hgI, hsn, hsb, hcm, rfl, rfl⟩
  refine awj_seq ?_
  refine awj_rj rfl ?_
  refine RJ.sNext (.tmp 8) rfl rfl rfl rfl rfl rfl hgI ?_ ?_
  · intro hall
    refine RJ.op rfl rfl (eff_extract rfl rfl rfl rfl) ?_
    refine RJ.nil ?_
    refine awj_seq ?_
    refine awj_cond rfl (fun h => nomatch h) (fun _ => ?_)
    refine awj_exit ?_
    refine awj_seq ?_
    refine awj_rj rfl ?_
    refine RJ.op rfl rfl (eff_move (v := .t _) rfl rfl rfl) ?_
    refine RJ.op rfl rfl (eff_assign (v := .t _) rfl rfl rfl) ?_
    refine RJ.nil ?_
    show AWJ _ _ _ _ _ _ _ _
    refine awj_freezeS 4 (l0 := cur) (stepF l f) rfl hgO (cameF_end hl hperm hcm hall) ?_
    refine awj_ret ?_
    exact ⟨Or.inr rfl, [_], ⟨.tmp (.t _), trivial⟩, .refl _⟩
  · intro q hq hqs
    refine RJ.op rfl rfl (eff_extract rfl rfl rfl rfl) ?_
    refine RJ.nil ?_
    refine awj_seq ?_
    refine awj_cond rfl (fun _ => ?_) (fun h => nomatch h)
    refine awj_skip ?_
    refine awj_block ?_
    refine awj_seq ?_
    refine awj_rj rfl ?_
    refine RJ.sEntry (.tmp 8) (seen := seen) hq rfl rfl rfl rfl rfl rfl (gget_same _ _ _) ?_
    refine RJ.op rfl rfl (eff_extract rfl rfl rfl rfl) ?_
    refine RJ.new rfl rfl (eff_allocK (k := 4) (id := 6) rfl rfl tz23 rfl rfl) ?_
    refine RJ.store rfl rfl (eff_storeW (v := .t _) (els := [_]) (els' := [_]) rfl rfl ti23 rfl rfl rfl rfl rfl rfl rfl rfl rfl) ?_
    refine RJ.nil ?_
    refine awj_seq ?_
    refine awj_rj rfl ?_
    refine RJ.op rfl rfl (eff_move (v := .t _) rfl rfl rfl) ?_
    refine RJ.op rfl rfl (eff_load rfl rfl ti23 rfl (.whole rfl rfl rfl rfl rfl rfl)) ?_
    refine RJ.sPut lp[q] cur rfl rfl (.inl rfl) Tryd.underlying98 rfl rfl rfl (by rw [gget_ne _ _ (Ne.symm hne)]; exact hgO) ?_
    refine RJ.nil ?_
    refine awj_rj rfl ?_
    refine RJ.op rfl rfl (eff_move (v := .t _) rfl rfl rfl) ?_
    refine RJ.op rfl rfl (eff_load rfl rfl ti23 rfl (.whole rfl rfl rfl rfl rfl rfl)) ?_
    refine RJ.op rfl rfl (eff_load rfl rfl ti45 rfl (.whole rfl rfl rfl rfl rfl rfl)) ?_
    refine RJ.op rfl rfl (eff_callXT (apply_ret _ _ (hp _ (hperm.mem_iff.1 (List.getElem_mem _)))) co77 rfl rfl rfl ⟨rfl, trivial⟩ rfl) ?_
    refine RJ.sPut (apply lp[q] f) (ins cur lp[q]) rfl rfl (.inl rfl) Tryd.underlying98 rfl rfl rfl (gget_same _ _ _) ?_
    refine RJ.nil ?_
    refine ⟨_, ?_, _, weak_keep (n := 21) (fr' := [(3, .ptr 3 0 0 0), (5, .t (.mp rO)), (8, .t (.mpx b0 (mapL KR XU (setL lp)))), (9, .t (.adr rI 0)), (22, .t deT)]) (st' := [(3, some ⟨5, 45, 0, [.t (encF f)]⟩)]) ⟨rfl, rfl, rfl, rfl, rfl, rfl, rfl, rfl, rfl, rfl, trivial⟩ ⟨rfl, okE_one rfl, trivial⟩, seen ++ [q], ins (ins cur lp[q]) (apply lp[q] f), (by exact gget_same _ _ _), (by rw [gget_ne _ _ hne, gget_ne _ _ hne]; exact gget_same _ _ _), (by exact seen_nodup hsn hqs), (by exact seen_bound hsb hq), (by exact cameF_step hcm hq), rfl, rfl⟩
    have hsl := seen_lt hsn hsb hq hqs
    simp only [List.length_append, List.length_singleton]
    omega

end Go.Tv.C36

end
section
open Go Go.Tv Go.Proofs
namespace Go.Tv.C36
set_option maxRecDepth 20000
set_option maxHeartbeats 2000000
set_option linter.unusedSimpArgs false
set_option linter.unusedVariables false
theorem sorted_ret (l : List Rep) (hl : Srt l) (hll : l.length ≤ 100000) : Ret Tryd.prog 74 [mset l] (.sl (l.map encR) false) := by
  refine ret_of_awr Tryd.func74 rfl (Nat.le_of_ble_eq_true rfl) ?_
  intro F0 w0
  refine awj_openS 0 (l := l) rfl (fun b0 lp hperm => ?_)
  have hpl := hperm.length_eq
  refine awj_seq ?_
  refine awj_rj rfl ?_
  refine RJ.op rfl rfl (eff_assign (v := .t _) rfl rfl rfl) ?_
  refine RJ.nil ?_
  refine awj_seq ?_
  refine awj_rj rfl ?_
  refine RJ.op rfl rfl (eff_assign (v := .t _) rfl rfl rfl) ?_
  refine RJ.nil ?_
  show AWJ _ _ _ _ _ _ _ _
  refine awj_weak (weak_adopt (d := 3) (id := 3) (k := 4) (ty := 23) rfl rfl) ?_
  refine awj_seq ?_
  refine awj_seq ?_
  refine awj_rj rfl ?_
  refine RJ.op rfl rfl (eff_move (v := .t _) rfl rfl rfl) ?_
  refine RJ.sRange rfl rfl rfl rfl Tryd.underlying98 rfl (fun rI hrI => ?_)
  refine RJ.nil ?_
  refine awj_block ?_
  refine awj_loopW (fun m s g => ∃ (seen : List Nat) (gn : Nat) (n : Nat) (els : List AV), (gget g rI = some (itM b0 lp.length seen)) ∧ (seen.Nodup) ∧ (∀ j, j ∈ seen → j < lp.length) ∧ (n = seen.length) ∧ (els = ((pick lp seen).map encR).map .t) ∧ m = lp.length - seen.length ∧ s = ⟨18, [(3, .own 3 gn 0 n), (5, .t (.mpx b0 (mapL KR XU (setL lp)))), (6, .t (.adr rI 0))], [(3, some ⟨4, 23, gn, els⟩)]⟩) (_) (⟨_, weak_keep (n := 18) (fr' := [(3, .own 3 0 0 0), (5, .t (.mpx b0 (mapL KR XU (setL lp)))), (6, .t (.adr rI 0))]) (st' := [(3, some ⟨4, 23, 0, ([])⟩)]) ⟨rfl, rfl, rfl, rfl, rfl, rfl, trivial⟩ ⟨rfl, (by first | exact okE_nil | (rw [he]; exact okE_t) | (rw [he]; intro x hx; simp only [List.mem_append, List.mem_map, List.mem_singleton] at hx; rcases hx with ⟨y, _, rfl⟩ | rfl <;> rfl)), trivial⟩, [], 0, 0, [], (by exact gget_same _ _ _), (by exact List.nodup_nil), (by intro j hj; simp at hj), (by rfl), (by rfl), rfl, rfl⟩) ?_
  rintro m s g ⟨seen, gn, n, els, hgI, hsn, hsb, hnn, he, rfl, rfl⟩
  refine awj_seq ?_
  refine awj_rj rfl ?_
  refine RJ.sNext (.tmp 5) rfl rfl rfl rfl rfl rfl hgI ?_ ?_
  · intro hall
    refine RJ.op rfl rfl (eff_extract rfl rfl rfl rfl) ?_
    refine RJ.nil ?_
    refine awj_seq ?_
    refine awj_cond rfl (fun h => nomatch h) (fun _ => ?_)
    refine awj_exit ?_
    refine awj_seq ?_
    refine awj_rj rfl ?_
    have hpa := pick_all hsn hsb hall ((hperm.nodup_iff).2 (srt_nodup hl))
    have hso : sortA cmpR (pick lp seen) = l := sort_srt hl (hpa.trans hperm)
    have hpn : (pick lp seen).length = l.length := (hpa.trans hperm).length_eq
    have hnl : n = (pick lp seen).length := by rw [hnn, pick_len hsb]
    refine RJ.op rfl rfl (eff_move (v := .own _ _ _ _) rfl rfl rfl) ?_
    refine RJ.new rfl rfl (eff_sortFunc Tryd.sortIv (cells := cellsR) (k := 4) (fun _ => rfl) (by decide) (cf := cmpR) cmpR_swo (g := 81) compare_ret co81 ti23 (id := 3) (gen := gn) (pick lp seen) (by omega) rfl co80 rfl rfl rfl rfl rfl rfl (he.trans (sortEls_eq _).symm) hnl ((sortEls_eq _).trans (by rw [hso]))) ?_
    refine RJ.nil ?_
    refine awj_seq ?_
    refine awj_rj rfl ?_
    refine RJ.op rfl rfl (eff_move (v := .own _ _ _ _) rfl rfl rfl) ?_
    refine RJ.op rfl rfl (eff_assign (v := .own _ _ _ _) rfl rfl rfl) ?_
    refine RJ.nil ?_
    refine awj_ret ?_
    exact ⟨Or.inr rfl, [_], ⟨.tmp (Res.ownT (xs := l.map encR) rfl rfl rfl (by rw [hnl, hpn]; simp)), trivial⟩, .refl _⟩
  · intro q hq hqs
    refine RJ.op rfl rfl (eff_extract rfl rfl rfl rfl) ?_
    refine RJ.nil ?_
    refine awj_seq ?_
    refine awj_cond rfl (fun _ => ?_) (fun h => nomatch h)
    refine awj_skip ?_
    refine awj_block ?_
    refine awj_seq ?_
    refine awj_rj rfl ?_
    refine RJ.sEntry (.tmp 5) (seen := seen) hq rfl rfl rfl rfl rfl rfl (gget_same _ _ _) ?_
    refine RJ.op rfl rfl (eff_extract rfl rfl rfl rfl) ?_
    refine RJ.new rfl rfl (eff_allocK (k := 4) (id := 4) rfl rfl tz23 rfl rfl) ?_
    refine RJ.store rfl rfl (eff_storeW (v := .t _) (els := [_]) (els' := [_]) rfl rfl ti23 rfl rfl rfl rfl rfl rfl rfl rfl rfl) ?_
    refine RJ.nil ?_
    refine awj_rj rfl ?_
    have hsl2 := seen_lt hsn hsb hq hqs
    refine RJ.op rfl rfl (eff_move (v := .own _ _ _ _) rfl rfl rfl) ?_
    refine RJ.op rfl rfl (eff_load rfl rfl ti23 rfl (.whole rfl rfl rfl rfl rfl rfl)) ?_
    refine RJ.new rfl rfl (eff_buildSliceL (id := 13) (els := [.t (.agg [_, _, _, _])]) rfl rfl te33 tz23 rfl (by decide) (by decide) rfl rfl rfl rfl) ?_
    refine RJ.new rfl rfl (eff_append (id := 3) (ys := [_]) rfl rfl ta33 rfl rfl rfl (by rw [he, hnn]; simp [pick_len hsb]) rfl rfl (srcOwn rfl rfl rfl rfl rfl rfl) (by simp) (by simp; omega) (by simp; omega)) ?_
    refine RJ.op rfl rfl (eff_assign (v := .own _ _ _ _) rfl rfl rfl) ?_
    refine RJ.nil ?_
    refine ⟨_, ?_, _, weak_keep (n := 18) (fr' := [(3, .own 3 _ 0 _), (5, .t (.mpx b0 (mapL KR XU (setL lp)))), (6, .t (.adr rI 0))]) (st' := [(3, some ⟨4, 23, _, _⟩)]) ⟨rfl, rfl, rfl, rfl, rfl, rfl, trivial⟩ ⟨rfl, (by first | exact okE_nil | (rw [he]; exact okE_t) | (rw [he]; intro x hx; simp only [List.mem_append, List.mem_map, List.mem_singleton] at hx; rcases hx with ⟨y, _, rfl⟩ | rfl <;> rfl)), trivial⟩, seen ++ [q], _, _, _, (by exact gget_same _ _ _), (by exact seen_nodup hsn hqs), (by exact seen_bound hsb hq), (by rw [hnn]; simp), (by rw [pick_step hq, he]; simp <;> rfl), rfl, rfl⟩
    have hsl := seen_lt hsn hsb hq hqs
    simp only [List.length_append, List.length_singleton]
    omega

theorem reach_ret (x : Rep) (l : List Frm) (hx : HP x) (hl : l.length ≤ 1000000) : RetT Tryd.prog 75 [(1, deT)] [encR x, .sl (l.map encF) false] (mset (reachF x l)) := by
  refine retT_of_awr Tryd.func75 rfl (Nat.le_of_ble_eq_true rfl) ?_
  intro F0 w0
  refine awj_seq ?_
  refine awj_rj rfl ?_
  refine RJ.new rfl rfl (eff_boxK (v := .t _) (k := 4) (id := 2) rfl rfl rfl rfl rfl rfl) ?_
  refine RJ.op rfl rfl (eff_assign (v := .junk) rfl rfl rfl) ?_
  refine RJ.nil ?_
  refine awj_seq ?_
  refine awj_rj rfl ?_
  refine RJ.sMake rfl rfl rfl rfl (fun rO hrO => ?_)
  refine RJ.op rfl rfl (eff_load rfl rfl ti23 rfl (.whole rfl rfl rfl rfl rfl rfl)) ?_
  refine RJ.sPut x [] rfl rfl (.inr rfl) Tryd.underlying98 rfl rfl rfl (gget_same _ _ _) ?_
  refine RJ.op rfl rfl (eff_move (v := .t _) rfl rfl rfl) ?_
  refine RJ.op rfl rfl (eff_assign (v := .t _) rfl rfl rfl) ?_
  refine RJ.nil ?_
  show AWJ _ _ _ _ _ _ _ _
  refine awj_freezeS 5 (l0 := ins [] x) [x] rfl (gget_same _ _ _) (by simp [ins]) ?_
  refine awj_seq ?_
  refine awj_seq ?_
  refine awj_rj rfl ?_
  refine RJ.op rfl rfl (eff_move (v := .t _) rfl rfl rfl) ?_
  refine RJ.op rfl rfl (eff_lenM rfl rfl te62 rfl) ?_
  refine RJ.op rfl rfl (eff_move (v := .t _) rfl rfl rfl) ?_
  refine RJ.nil ?_
  refine awj_block ?_
  refine awj_loopW (fun m s g => ∃ (i : Nat) (cur : List Rep), (i ≤ l.length) ∧ (cur = reachF x (l.take i)) ∧ m = l.length - i ∧ s = ⟨22, [(5, .t (mset cur)), (11, .t (.sl (l.map encF) false)), (12, .t (encI l.length)), (13, .t (encI (i : Nat))), (23, .t deT)], []⟩) (_) (⟨_, weak_keep (n := 22) (fr' := [(5, .t (mset ([x]))), (11, .t (.sl (l.map encF) false)), (12, .t (encI l.length)), (13, .t (encI (0 : Nat))), (23, .t deT)]) (st' := []) ⟨rfl, rfl, rfl, rfl, rfl, rfl, rfl, rfl, rfl, rfl, trivial⟩ trivial, 0, [x], (by omega), (by rfl), rfl, rfl⟩) ?_
  rintro m s g ⟨i, cur, hi, ho, rfl, rfl⟩
  refine awj_seq ?_
  refine awj_rj rfl ?_
  refine RJ.op rfl rfl (eff_iop rfl rfl rfl rfl rfl) ?_
  refine RJ.nil ?_
  refine awj_seq ?_
  refine awj_cond rfl (fun h1 => ?_) (fun h1 => ?_)
  · try simp only [cl] at h1
    refine awj_skip ?_
    refine awj_seq ?_
    refine awj_block ?_
    refine awj_seq ?_
    refine awj_rj rfl ?_
    refine RJ.op rfl rfl (eff_indexM rfl rfl te62 rfl rfl rfl (by first | assumption | exact List.getElem?_eq_getElem (by omega)) rfl (by decide)) ?_
    refine RJ.op rfl rfl (eff_loadW rfl rfl ti45 rfl rfl rfl) ?_
    refine RJ.new rfl rfl (eff_allocK (k := 5) (id := 7) rfl rfl tz45 rfl rfl) ?_
    refine RJ.store rfl rfl (eff_storeW (v := .t _) (els := [_]) (els' := [_]) rfl rfl ti45 rfl rfl rfl rfl rfl rfl rfl rfl rfl) ?_
    refine RJ.nil ?_
    refine awj_rj rfl ?_
    refine RJ.op rfl rfl (eff_move (v := .t _) rfl rfl rfl) ?_
    refine RJ.op rfl rfl (eff_load rfl rfl ti45 rfl (.whole rfl rfl rfl rfl rfl rfl)) ?_
    refine RJ.op rfl rfl (eff_callXT (spread_ret cur _ (by rw [ho]; exact srt_reach _ _) (by rw [ho]; exact reach_hp hx _)) co71 rfl rfl rfl ⟨rfl, trivial⟩ rfl) ?_
    refine RJ.op rfl rfl (eff_assign (v := .t _) rfl rfl rfl) ?_
    refine RJ.nil ?_
    refine awj_rj rfl ?_
    refine RJ.op rfl rfl (eff_iop rfl rfl rfl rfl (iadd (by omega))) ?_
    refine RJ.op rfl rfl (eff_move (v := .t _) rfl rfl rfl) ?_
    refine RJ.nil ?_
    refine ⟨_, ?_, _, weak_keep (n := 22) (fr' := [(5, .t (mset (stepF cur (l[i]'(by omega))))), (11, .t (.sl (l.map encF) false)), (12, .t (encI l.length)), (13, .t (encI ((i + 1) : Nat))), (23, .t deT)]) (st' := []) ⟨rfl, rfl, rfl, rfl, rfl, rfl, rfl, rfl, rfl, rfl, trivial⟩ trivial, i + 1, stepF cur (l[i]'(by omega)), (by omega), (by rw [reachF_take (by omega), ho]), rfl, rfl⟩
    omega
  · try simp only [cl] at h1
    refine awj_exit ?_
    refine awj_seq ?_
    refine awj_rj rfl ?_
    refine RJ.op rfl rfl (eff_move (v := .t _) rfl rfl rfl) ?_
    refine RJ.op rfl rfl (eff_assign (v := .t _) rfl rfl rfl) ?_
    refine RJ.nil ?_
    refine awj_ret ?_
    have hi2 : i = l.length := by omega
    subst hi2
    rw [List.take_length] at ho
    rw [← ho]
    exact ⟨Or.inr rfl, [_], ⟨.tmp (.t _), trivial⟩, .refl _⟩

end Go.Tv.C36

end
section
open Go Go.Tv Go.Proofs
namespace Go.Tv.C36
set_option maxRecDepth 20000
set_option maxHeartbeats 2000000
set_option linter.unusedSimpArgs false
set_option linter.unusedVariables false
theorem cloneO_retG (l : List Frm) (g : Nat) (hl : l.length ≤ 100000) (h0 : 0 < l.length) : RetG Tryd.prog 78 [(0, some ⟨5, 45, g, (l.map encF).map .t⟩)] [.own 0 g 0 l.length] [(0, some ⟨5, 45, g + 1, (l.map encF).map .t⟩), (5, some ⟨5, 45, 1, (l.map encF).map .t⟩)] (.own 5 1 0 l.length) := by
  refine retG_of_awp Tryd.func78 rfl (Nat.le_of_ble_eq_true rfl) ?_
  refine awp_seq ?_
  refine awp_rw rfl ?_
  refine asT ?_
  refine RW.nil ?_
  refine awp_seq ?_
  refine awp_seq ?_
  refine awp_rw rfl ?_
  refine mvO ?_
  refine RW.op rfl rfl (eff_ownNotNil rfl rfl te62 rfl rfl rfl h0) ?_
  refine RW.nil ?_
  refine awp_cond rfl (fun h => nomatch h) (fun _ => ?_)
  refine awp_skip ?_
  refine awp_seq ?_
  refine awp_rw rfl ?_
  refine RW.new rfl rfl (eff_buildSliceL (id := 5) (els := []) rfl rfl te62 tz45 rfl (by decide) (by decide) rfl rfl rfl rfl) ?_
  refine mvO ?_
  refine RW.new rfl rfl (eff_appendAny (id := 5) rfl rfl ta62 rfl rfl rfl rfl rfl rfl (srcOwn' (ys := (l.map encF).map .t) rfl rfl rfl rfl (by simp) (by rw [List.take_of_length_le (by simp)]; rfl)) (by simp; omega) (by simp; omega)) ?_
  refine asO ?_
  refine RW.nil ?_
  refine awp_ret ?_
  refine ⟨Or.inr rfl, [_], [.own 5 1 0 l.length], ⟨.tmp rfl, trivial⟩, rfl, Weak.trans (weak_raise (id := 0) (g + 1) rfl (by omega)) ?_, rfl⟩
  exact weak_keep ⟨(by show AV.own 5 _ 0 _ = AV.own 5 1 0 l.length; congr 1; simp), rfl, trivial⟩ ⟨rfl, okE_t, rfl, okE_t, trivial⟩

theorem ownO_retG (l : List Frm) (g : Nat) (hl : l.length ≤ 100000) (h0 : 0 < l.length) (hb : ∀ f, f ∈ l → f.body.length ≤ 1000000) : RetG Tryd.prog 72 [(0, some ⟨5, 45, g, (l.map encF).map .t⟩)] [.own 0 g 0 l.length] [(0, some ⟨5, 45, g + 1, (l.map encF).map .t⟩), (5, some ⟨5, 45, 1, (l.map encF).map .t⟩)] (.own 5 1 0 l.length) := by
  refine retG_of_awp Tryd.func72 rfl (Nat.le_of_ble_eq_true rfl) ?_
  refine awp_seq ?_
  refine awp_rw rfl ?_
  refine asT ?_
  refine RW.nil ?_
  refine awp_seq ?_
  refine awp_rw rfl ?_
  refine mvO ?_
  refine RW.new2 rfl rfl (eff_callG (cloneO_retG l g hl h0) co78 (fun id => id) rfl rfl rfl ⟨.own _ _ _ _ rfl rfl, trivial⟩ (.own _ _ _ _ rfl rfl) rfl ⟨⟨rfl, treeEls_t, ⟨_, rfl, Nat.lt_succ_self _⟩⟩, trivial⟩ ⟨⟨treeEls_t, .inl rfl⟩, ⟨treeEls_t, .inr rfl⟩, trivial⟩) ?_
  refine asO ?_
  refine RW.nil ?_
  refine awp_seq ?_
  refine awp_seq ?_
  refine awp_rw rfl ?_
  refine mvO ?_
  refine RW.op rfl rfl (eff_len rfl rfl te62 rfl rfl rfl) ?_
  refine mvT ?_
  refine RW.nil ?_
  refine awp_block ?_
  refine awp_loopW (fun m s => ∃ (i : Nat), (i ≤ l.length) ∧ m = l.length - i ∧ s = ⟨23, [(0, .own 5 1 0 l.length), (7, .own 5 1 0 l.length), (8, .t (encI l.length)), (9, .t (encI (i : Nat)))], [(0, some ⟨5, 45, g + 1, (l.map encF).map .t⟩), (5, some ⟨5, 45, 1, (l.map encF).map .t⟩)]⟩) (_) (⟨_, weak_keep (n := 23) (fr' := [(0, .own 5 1 0 l.length), (7, .own 5 1 0 l.length), (8, .t (encI l.length)), (9, .t (encI (0 : Nat)))]) (st' := [(0, some ⟨5, 45, g + 1, (l.map encF).map .t⟩), (5, some ⟨5, 45, 1, (l.map encF).map .t⟩)]) ⟨rfl, rfl, rfl, rfl, rfl, rfl, rfl, rfl, trivial⟩ ⟨rfl, okE_t, rfl, okE_t, trivial⟩, 0, (by omega), rfl, rfl⟩) ?_
  rintro m s ⟨i, hi, rfl, rfl⟩
  refine awp_seq ?_
  refine awp_rw rfl ?_
  refine ioT ?_
  refine RW.nil ?_
  refine awp_seq ?_
  refine awp_cond rfl (fun h1 => ?_) (fun h1 => ?_)
  · try simp only [cl] at h1
    refine awp_skip ?_
    refine awp_seq ?_
    refine awp_block ?_
    refine awp_seq ?_
    refine awp_rw rfl ?_
    have hil : i < l.length := by omega
    have hbl := hb _ (List.getElem_mem hil)
    refine mvT ?_
    refine RW.op rfl rfl (eff_indexAddr rfl rfl te62 rfl rfl rfl rfl rfl rfl (by omega)) ?_
    refine RW.op rfl rfl (eff_load (y := .t (encF (l[i]'hil))) rfl rfl ti45 rfl (.whole rfl rfl (by rw [Nat.zero_add]; exact elF hil) rfl rfl rfl)) ?_
    refine RW.new rfl rfl (eff_allocK (k := 5) (id := 4) rfl rfl tz45 rfl rfl) ?_
    refine asT ?_
    refine RW.store rfl rfl (eff_storeW (v := .t _) (els := [_]) (els' := [_]) rfl rfl ti45 rfl rfl rfl rfl rfl rfl rfl rfl rfl) ?_
    refine RW.nil ?_
    refine awp_rw rfl ?_
    refine mvO ?_
    refine mvT ?_
    refine faT tf45_3 ?_
    refine l1T ti42 rfl rfl rfl rfl rfl (.one rfl rfl rfl rfl) ?_
    refine RW.op rfl rfl (eff_callT (cloneB_ret _ hbl) co79 rfl rfl rfl rfl) ?_
    refine RW.op rfl rfl (eff_indexAddr rfl rfl te62 rfl rfl rfl rfl rfl rfl (by omega)) ?_
    refine faT tf45_3 ?_
    refine RW.store rfl rfl (eff_storeS (v := .t _) (el := .t (encF (l[i]'hil))) (ys := [encI (l[i]'hil).seq, encI (l[i]'hil).key, .bool (l[i]'hil).unlock, .sl ((l[i]'hil).body.map encBy) false, .int .u64 (l[i]'hil).tag]) (els := (l.map encF).map .t) (els' := (l.map encF).map .t) rfl rfl ti42 rfl rfl rfl rfl rfl rfl (by rw [Nat.zero_add]; exact elF hil) (Nat.le_of_ble_eq_true rfl) rfl (by rw [Nat.zero_add]; exact setF_same hil)) ?_
    refine RW.nil ?_
    refine awp_rw rfl ?_
    refine RW.op rfl rfl (eff_iop rfl rfl rfl rfl (iadd (by omega))) ?_
    refine mvT ?_
    refine RW.nil ?_
    refine ⟨_, ?_, _, weak_keep (n := 23) (fr' := [(0, .own 5 1 0 l.length), (7, .own 5 1 0 l.length), (8, .t (encI l.length)), (9, .t (encI ((i + 1) : Nat)))]) (st' := [(0, some ⟨5, 45, g + 1, (l.map encF).map .t⟩), (5, some ⟨5, 45, 1, (l.map encF).map .t⟩)]) ⟨rfl, rfl, rfl, rfl, rfl, rfl, rfl, rfl, trivial⟩ ⟨rfl, okE_t, rfl, okE_t, trivial⟩, i + 1, (by omega), rfl, rfl⟩
    omega
  · try simp only [cl] at h1
    refine awp_exit ?_
    refine awp_seq ?_
    refine awp_rw rfl ?_
    refine mvO ?_
    refine asO ?_
    refine RW.nil ?_
    refine awp_ret ?_
    exact ⟨Or.inr rfl, [_], [.own 5 1 0 l.length], ⟨.tmp rfl, trivial⟩, rfl, weak_keep ⟨rfl, rfl, trivial⟩ ⟨rfl, okE_t, rfl, okE_t, trivial⟩, rfl⟩

theorem ownO (l : List Frm) (g n : Nat) (E : List AV) (hn : n = l.length) (hE : E = (l.map encF).map .t) (hl : l.length ≤ 100000) (h0 : 0 < l.length) (hb : ∀ f, f ∈ l → f.body.length ≤ 1000000) :
    RetG Tryd.prog 72 [(0, some ⟨5, 45, g, E⟩)] [.own 0 g 0 n] [(0, some ⟨5, 45, g + 1, E⟩), (5, some ⟨5, 45, 1, (l.map encF).map .t⟩)] (.own 5 1 0 l.length) := by
  subst hn hE; exact ownO_retG l g hl h0 hb
theorem treeEls_app {xs : List Tr} {y : Tr} {k g : Nat} {ty : TypeId} : treeEls ⟨k, ty, g, xs.map .t ++ [.t y]⟩ := by
  intro x hx
  rcases List.mem_append.1 hx with h | h
  · obtain ⟨z, _, rfl⟩ := List.mem_map.1 h; exact ⟨z, rfl⟩
  · rw [List.mem_singleton.1 h]; exact ⟨y, rfl⟩

theorem tsend_ret (t : Twn) (f : Frm) (hs : Srt t.poss) (hp : ∀ y, y ∈ t.poss → HP y) (hl : t.poss.length ≤ 1000) (hsl : t.sent.length ≤ 1000) (hb : ∀ x, x ∈ t.sent → x.body.length ≤ 1000000) (hbf : f.body.length ≤ 1000000) : RetT Tryd.prog 63 [(1, deT)] [encT t, encF f] (.tup [encT (send t f).1, encI (send t f).2]) := by
  refine retT_of_awr Tryd.func63 rfl (Nat.le_of_ble_eq_true rfl) ?_
  intro F0 w0
  refine awj_seq ?_
  refine awj_rj rfl ?_
  refine RJ.new rfl rfl (eff_boxK (v := .t _) (k := 2) (id := 2) rfl rfl rfl rfl rfl rfl) ?_
  refine RJ.new rfl rfl (eff_boxK (v := .t _) (k := 5) (id := 3) rfl rfl rfl rfl rfl rfl) ?_
  refine RJ.new rfl rfl (eff_allocK (k := 2) (id := 4) rfl rfl tz64 rfl rfl) ?_
  refine RJ.op rfl rfl (eff_assign (v := .t _) rfl rfl rfl) ?_
  refine RJ.nil ?_
  refine awj_seq ?_
  refine awj_seq ?_
  refine awj_rj rfl ?_
  refine RJ.op rfl rfl (eff_fieldAddr rfl rfl tf64_0 (by decide) rfl rfl rfl (Nat.le_of_ble_eq_true rfl)) ?_
  refine RJ.op rfl rfl (eff_load (y := .t _) rfl rfl ti62 rfl (.one rfl rfl rfl rfl)) ?_
  refine RJ.op rfl rfl (eff_lenM rfl rfl te62 rfl) ?_
  refine RJ.op rfl rfl (eff_assign (v := .t _) rfl rfl rfl) ?_
  refine RJ.nil ?_
  refine awj_seq ?_
  by_cases hc1 : 0 < t.sent.length
  · refine awj_rd [(some 13, []), (some 14, []), (some 15, []), (some 16, []), (some 17, []), (some 18, []), (some 19, []), (some 20, []), (some 21, []), (some 22, []), (some 23, []), (some 24, []), (some 25, []), (some 26, [])] [[], [0], [0, 1], [0, 1, 2], [0, 1, 2, 3], [0, 1, 2], [0, 1, 2, 5], [0, 1, 2, 3, 4, 5, 6], [0, 1, 2, 3, 4, 5, 6, 7], [0, 1, 2, 3, 4, 5, 6, 7, 8], [0, 1, 2], [0, 1, 2, 10], [0, 1, 2, 3, 4, 5, 6, 7, 8, 9, 10, 11], [0, 1, 2, 3, 4, 5, 6, 7, 8, 9, 10, 11, 12]] tm rfl rfl rfl rfl ?_
    refine mvD ?_
    refine RD.op rfl rfl rfl (eff_iop (r := .bool true) rfl rfl rfl rfl (by show some (Tr.bool (decide _)) = _; rw [decide_eq_true (by omega)])) ?_
    refine mvD ?_
    refine RD.gop rfl rfl rfl rfl rfl rfl rfl (eff_fieldAddr rfl rfl tf64_0 (by decide) rfl rfl rfl (Nat.le_of_ble_eq_true rfl)) ?_
    refine RD.gop rfl rfl rfl rfl rfl rfl rfl (eff_load (y := .t _) rfl rfl ti62 rfl (.one rfl rfl rfl rfl)) ?_
    refine RD.gop rfl rfl rfl rfl rfl rfl rfl (eff_move (v := .t _) rfl rfl rfl) ?_
    refine RD.gop rfl rfl rfl rfl rfl rfl rfl (eff_iop rfl rfl rfl rfl (isub (by omega))) ?_
    refine RD.gop rfl rfl rfl rfl rfl rfl rfl (eff_indexM (i := t.sent.length - 1) rfl rfl te62 rfl rfl (by first | rfl | omega) (by exact List.getElem?_eq_getElem (by omega)) rfl (by decide)) ?_
    refine RD.gop rfl rfl rfl rfl rfl rfl rfl (eff_fieldAddrT rfl rfl tf45_1 (by decide) rfl) ?_
    refine RD.gop rfl rfl rfl rfl rfl rfl rfl (eff_loadT1 rfl rfl ti3 rfl rfl) ?_
    refine RD.gop rfl rfl rfl rfl rfl rfl rfl (eff_fieldAddr rfl rfl tf45_1 (by decide) rfl rfl rfl (Nat.le_of_ble_eq_true rfl)) ?_
    refine RD.gop rfl rfl rfl rfl rfl rfl rfl (eff_load (y := .t _) rfl rfl ti3 rfl (.one rfl rfl rfl rfl)) ?_
    refine RD.gop rfl rfl rfl rfl rfl rfl rfl (eff_iop rfl rfl rfl rfl rfl) ?_
    refine RD.op rfl rfl rfl (eff_pick (v := .t _) rfl rfl rfl rfl) ?_
    refine RD.nil ?_
    refine awj_cond rfl (fun h2 => ?_) (fun h2 => ?_)
    · try simp only [cl] at h2
      refine awj_seq ?_
      refine awj_rj rfl ?_
      refine RJ.op rfl rfl (eff_buildT (ys := [_, _]) rfl rfl tz64 tg64 rfl) ?_
      refine RJ.store rfl rfl (eff_storeW (v := .t _) (els := [_]) (els' := [_]) rfl rfl ti64 rfl rfl rfl rfl rfl rfl rfl rfl rfl) ?_
      refine RJ.op rfl rfl (eff_assign (v := .t _) rfl rfl rfl) ?_
      refine RJ.nil ?_
      refine awj_ret ?_
      first
        | (rw [send_late (by first | (rw [late_at (by omega)]; exact decide_eq_true (by first | assumption | omega)) | (exfalso; omega))]
           exact ⟨Or.inr rfl, [_, _], ⟨.cell rfl ti64 (.whole rfl rfl rfl rfl rfl rfl) (.t _), .tmp (.t _), trivial⟩, (by repeat' first | exact trivial | exact Wk.refl _ | exact Wk.sl _ | refine And.intro ?_ ?_ | refine Wk.tupP ?_ | refine Wk.aggP ?_)⟩)
        | (rw [send_many (by first | exact late_nil (by omega) | (rw [late_at (by omega)]; exact decide_eq_false (by first | assumption | omega))) (by omega)]
           exact ⟨Or.inr rfl, [_, _], ⟨.cell rfl ti64 (.whole rfl rfl rfl rfl rfl rfl) (.t _), .tmp (.t _), trivial⟩, (by repeat' first | exact trivial | exact Wk.refl _ | exact Wk.sl _ | refine And.intro ?_ ?_ | refine Wk.tupP ?_ | refine Wk.aggP ?_)⟩)
        | (rw [send_ok (by first | exact late_nil (by omega) | (rw [late_at (by omega)]; exact decide_eq_false (by first | assumption | omega))) (by omega)]
           exact ⟨Or.inr rfl, [_, _], ⟨.cell rfl ti64 (.whole rfl rfl rfl rfl rfl rfl) (Res.aggP (xs := [_, _]) ⟨Res.ownT (xs := (t.sent ++ [f]).map encF) rfl rfl rfl (by simp), .t _, trivial⟩), .tmp (.t _), trivial⟩, .refl _⟩)
    · try simp only [cl] at h2
      refine awj_skip ?_
      refine awj_seq ?_
      refine awj_rj rfl ?_
      refine RJ.sMake rfl rfl rfl rfl (fun rO hrO => ?_)
      refine RJ.op rfl rfl (eff_assign (v := .t _) rfl rfl rfl) ?_
      refine RJ.nil ?_
      refine awj_seq ?_
      refine awj_seq ?_
      refine awj_rj rfl ?_
      refine RJ.op rfl rfl (eff_fieldAddr rfl rfl tf64_1 (by decide) rfl rfl rfl (Nat.le_of_ble_eq_true rfl)) ?_
      refine RJ.op rfl rfl (eff_load (y := .t _) rfl rfl ti33 rfl (.one rfl rfl rfl rfl)) ?_
      refine RJ.op rfl rfl (eff_lenM rfl rfl te33 rfl) ?_
      refine RJ.op rfl rfl (eff_move (v := .t _) rfl rfl rfl) ?_
      refine RJ.nil ?_
      refine awj_block ?_
      refine awj_loopW (fun m s g => ∃ (i : Nat), (i ≤ t.poss.length) ∧ (gget g rO = some (mapO KR XU (setL (t.poss.take i)))) ∧ m = t.poss.length - i ∧ s = ⟨56, [(2, .ptr 2 0 0 0), (3, .ptr 3 0 0 0), (4, .ptr 4 0 0 0), (7, .t (.mp rO)), (30, .t (.sl (t.poss.map encR) false)), (31, .t (encI t.poss.length)), (32, .t (encI (i : Nat))), (57, .t deT)], [(2, some ⟨2, 64, 0, [.t (encT t)]⟩), (3, some ⟨5, 45, 0, [.t (encF f)]⟩), (4, some ⟨2, 64, 0, [.t z64]⟩)]⟩) (_) (⟨_, weak_keep (n := 56) (fr' := [(2, .ptr 2 0 0 0), (3, .ptr 3 0 0 0), (4, .ptr 4 0 0 0), (7, .t (.mp rO)), (30, .t (.sl (t.poss.map encR) false)), (31, .t (encI t.poss.length)), (32, .t (encI (0 : Nat))), (57, .t deT)]) (st' := [(2, some ⟨2, 64, 0, [.t (encT t)]⟩), (3, some ⟨5, 45, 0, [.t (encF f)]⟩), (4, some ⟨2, 64, 0, [.t z64]⟩)]) ⟨rfl, rfl, rfl, rfl, rfl, rfl, rfl, rfl, rfl, rfl, rfl, rfl, rfl, rfl, rfl, rfl, trivial⟩ ⟨rfl, okE_one rfl, rfl, okE_one rfl, rfl, okE_one rfl, trivial⟩, 0, (by omega), (by exact gget_same _ _ _), rfl, rfl⟩) ?_
      rintro m s g ⟨i, hi, hgO, rfl, rfl⟩
      refine awj_seq ?_
      refine awj_rj rfl ?_
      refine RJ.op rfl rfl (eff_iop rfl rfl rfl rfl rfl) ?_
      refine RJ.nil ?_
      refine awj_seq ?_
      refine awj_cond rfl (fun h3 => ?_) (fun h3 => ?_)
      · try simp only [cl] at h3
        refine awj_skip ?_
        refine awj_seq ?_
        refine awj_block ?_
        refine awj_seq ?_
        refine awj_rj rfl ?_
        refine RJ.op rfl rfl (eff_indexM rfl rfl te33 rfl rfl rfl (by first | assumption | exact List.getElem?_eq_getElem (by omega)) rfl (by decide)) ?_
        refine RJ.op rfl rfl (eff_loadW rfl rfl ti23 rfl rfl rfl) ?_
        refine RJ.new rfl rfl (eff_allocK (k := 4) (id := 9) rfl rfl tz23 rfl rfl) ?_
        refine RJ.store rfl rfl (eff_storeW (v := .t _) (els := [_]) (els' := [_]) rfl rfl ti23 rfl rfl rfl rfl rfl rfl rfl rfl rfl) ?_
        refine RJ.nil ?_
        refine awj_rj rfl ?_
        refine RJ.op rfl rfl (eff_move (v := .t _) rfl rfl rfl) ?_
        refine RJ.op rfl rfl (eff_load rfl rfl ti23 rfl (.whole rfl rfl rfl rfl rfl rfl)) ?_
        refine RJ.sPut (t.poss[i]'(by omega)) (t.poss.take i) rfl rfl (.inl rfl) Tryd.underlying98 rfl rfl rfl hgO ?_
        refine RJ.nil ?_
        refine awj_rj rfl ?_
        refine RJ.op rfl rfl (eff_iop rfl rfl rfl rfl (iadd (by omega))) ?_
        refine RJ.op rfl rfl (eff_move (v := .t _) rfl rfl rfl) ?_
        refine RJ.nil ?_
        refine ⟨_, ?_, _, weak_keep (n := 56) (fr' := [(2, .ptr 2 0 0 0), (3, .ptr 3 0 0 0), (4, .ptr 4 0 0 0), (7, .t (.mp rO)), (30, .t (.sl (t.poss.map encR) false)), (31, .t (encI t.poss.length)), (32, .t (encI ((i + 1) : Nat))), (57, .t deT)]) (st' := [(2, some ⟨2, 64, 0, [.t (encT t)]⟩), (3, some ⟨5, 45, 0, [.t (encF f)]⟩), (4, some ⟨2, 64, 0, [.t z64]⟩)]) ⟨rfl, rfl, rfl, rfl, rfl, rfl, rfl, rfl, rfl, rfl, rfl, rfl, rfl, rfl, rfl, rfl, trivial⟩ ⟨rfl, okE_one rfl, rfl, okE_one rfl, rfl, okE_one rfl, trivial⟩, i + 1, (by omega), (by rw [gget_same, ins_take (srt_nodup hs) (by omega)]), rfl, rfl⟩
        omega
      · try simp only [cl] at h3
        refine awj_exit ?_
        refine awj_seq ?_
        have hi2 : i = t.poss.length := by omega
        subst hi2
        rw [List.take_length] at hgO
        refine awj_freezeS 7 (l0 := t.poss) t.poss rfl hgO (.refl _) ?_
        have hfl := stepF_len t.poss f
        refine awj_rj rfl ?_
        refine RJ.op rfl rfl (eff_move (v := .t _) rfl rfl rfl) ?_
        refine RJ.op rfl rfl (eff_load rfl rfl ti45 rfl (.whole rfl rfl rfl rfl rfl rfl)) ?_
        refine RJ.op rfl rfl (eff_callXT (spread_ret t.poss f hs hp) co71 rfl rfl rfl ⟨rfl, trivial⟩ rfl) ?_
        refine RJ.op rfl rfl (eff_assign (v := .t _) rfl rfl rfl) ?_
        refine RJ.nil ?_
        refine awj_seq ?_
        refine awj_seq ?_
        refine awj_rj rfl ?_
        refine RJ.op rfl rfl (eff_move (v := .t _) rfl rfl rfl) ?_
        refine RJ.op rfl rfl (eff_lenS rfl rfl Tryd.underlying98 rfl) ?_
        refine RJ.op rfl rfl (eff_iop rfl rfl rfl rfl rfl) ?_
        refine RJ.nil ?_
        refine awj_cond rfl (fun h4 => ?_) (fun h4 => ?_)
        · try simp only [cl] at h4
          refine awj_seq ?_
          refine awj_rj rfl ?_
          refine RJ.op rfl rfl (eff_buildT (ys := [_, _]) rfl rfl tz64 tg64 rfl) ?_
          refine RJ.store rfl rfl (eff_storeW (v := .t _) (els := [_]) (els' := [_]) rfl rfl ti64 rfl rfl rfl rfl rfl rfl rfl rfl rfl) ?_
          refine RJ.op rfl rfl (eff_assign (v := .t _) rfl rfl rfl) ?_
          refine RJ.nil ?_
          refine awj_ret ?_
          first
            | (rw [send_late (by first | (rw [late_at (by omega)]; exact decide_eq_true (by first | assumption | omega)) | (exfalso; omega))]
               exact ⟨Or.inr rfl, [_, _], ⟨.cell rfl ti64 (.whole rfl rfl rfl rfl rfl rfl) (.t _), .tmp (.t _), trivial⟩, (by repeat' first | exact trivial | exact Wk.refl _ | exact Wk.sl _ | refine And.intro ?_ ?_ | refine Wk.tupP ?_ | refine Wk.aggP ?_)⟩)
            | (rw [send_many (by first | exact late_nil (by omega) | (rw [late_at (by omega)]; exact decide_eq_false (by first | assumption | omega))) (by omega)]
               exact ⟨Or.inr rfl, [_, _], ⟨.cell rfl ti64 (.whole rfl rfl rfl rfl rfl rfl) (.t _), .tmp (.t _), trivial⟩, (by repeat' first | exact trivial | exact Wk.refl _ | exact Wk.sl _ | refine And.intro ?_ ?_ | refine Wk.tupP ?_ | refine Wk.aggP ?_)⟩)
            | (rw [send_ok (by first | exact late_nil (by omega) | (rw [late_at (by omega)]; exact decide_eq_false (by first | assumption | omega))) (by omega)]
               exact ⟨Or.inr rfl, [_, _], ⟨.cell rfl ti64 (.whole rfl rfl rfl rfl rfl rfl) (Res.aggP (xs := [_, _]) ⟨Res.ownT (xs := (t.sent ++ [f]).map encF) rfl rfl rfl (by simp), .t _, trivial⟩), .tmp (.t _), trivial⟩, .refl _⟩)
        · try simp only [cl] at h4
          refine awj_skip ?_
          refine awj_seq ?_
          refine awj_rd [(some 46, []), (some 47, []), (some 48, []), (some 49, []), (some 50, [50]), (some 51, [51]), (some 52, [51, 56]), (some 53, []), (some 54, []), (some 55, []), (none, [4]), (some 5, [])] [[], [0], [0, 1], [], [3], [0, 1, 2, 3, 4], [0, 1, 2, 3, 4, 5], [], [0, 1, 2, 3, 4, 5, 6, 7], [0, 1, 2, 3, 4, 5, 6, 7, 8], [0, 1, 2, 3, 4, 5, 6, 7, 8, 9], [0, 1, 2, 3, 4, 5, 6, 7, 8, 9, 10]] tm rfl rfl rfl rfl ?_
          refine RD.op rfl rfl rfl (eff_fieldAddr rfl rfl tf64_0 (by decide) rfl rfl rfl (Nat.le_of_ble_eq_true rfl)) ?_
          refine RD.op rfl rfl rfl (eff_load (y := .t _) rfl rfl ti62 rfl (.one rfl rfl rfl rfl)) ?_
          refine RD.op rfl rfl rfl (eff_callT (clip_ret t.sent) co73 rfl rfl rfl rfl) ?_
          refine RD.op rfl rfl rfl (eff_load rfl rfl ti45 rfl (.whole rfl rfl rfl rfl rfl rfl)) ?_
          refine RD.new rfl rfl rfl (eff_buildSliceL (id := 50) (els := [.t (.agg [_, _, _, _, _])]) rfl rfl te62 tz45 rfl (by decide) (by decide) rfl rfl rfl rfl) ?_
          refine RD.new rfl rfl rfl (eff_appendNew (id := 51) (ys := [_]) rfl rfl ta62 rfl rfl (fun z hz => by obtain ⟨q, _, rfl⟩ := List.mem_map.1 hz; rfl) (srcOwn rfl rfl rfl rfl rfl rfl) (Nat.le_of_ble_eq_true rfl) (by simp; omega) (by simp; omega)) ?_
          refine RD.new2 rfl rfl rfl (eff_callG (ownO (t.sent ++ [f]) 0 _ _ (by simp) (by simp; rfl) (by simp; omega) (by simp) (by intro q hq; rcases List.mem_append.1 hq with h | h; exact hb q h; rw [List.mem_singleton.1 h]; exact hbf)) co72 (fun id => id + 51) rfl rfl rfl ⟨.own _ _ _ _ rfl rfl, trivial⟩ (.own _ _ _ _ rfl rfl) rfl ⟨⟨rfl, treeEls_app, ⟨_, rfl, Nat.lt_succ_self _⟩⟩, trivial⟩ ⟨⟨treeEls_app, .inl rfl⟩, ⟨treeEls_t, .inr rfl⟩, trivial⟩) ?_
          refine mvD ?_
          refine RD.op rfl rfl rfl (eff_callT (sorted_ret _ (srt_stepF hs) (by omega)) co74 rfl rfl rfl rfl) ?_
          refine RD.op rfl rfl rfl (eff_buildA (ys := [_, _]) rfl rfl tz64 tg64 rfl rfl) ?_
          refine RD.store rfl rfl rfl (eff_storeW (v := .agg _) (els := [_]) (els' := [_]) rfl rfl ti64 rfl rfl rfl rfl rfl rfl rfl rfl rfl) ?_
          refine RD.op rfl rfl rfl (eff_assign (v := .t _) rfl rfl rfl) ?_
          refine RD.nil ?_
          refine awj_ret ?_
          first
            | (rw [send_late (by first | (rw [late_at (by omega)]; exact decide_eq_true (by first | assumption | omega)) | (exfalso; omega))]
               exact ⟨Or.inr rfl, [_, _], ⟨.cell rfl ti64 (.whole rfl rfl rfl rfl rfl rfl) (.t _), .tmp (.t _), trivial⟩, (by repeat' first | exact trivial | exact Wk.refl _ | exact Wk.sl _ | refine And.intro ?_ ?_ | refine Wk.tupP ?_ | refine Wk.aggP ?_)⟩)
            | (rw [send_many (by first | exact late_nil (by omega) | (rw [late_at (by omega)]; exact decide_eq_false (by first | assumption | omega))) (by omega)]
               exact ⟨Or.inr rfl, [_, _], ⟨.cell rfl ti64 (.whole rfl rfl rfl rfl rfl rfl) (.t _), .tmp (.t _), trivial⟩, (by repeat' first | exact trivial | exact Wk.refl _ | exact Wk.sl _ | refine And.intro ?_ ?_ | refine Wk.tupP ?_ | refine Wk.aggP ?_)⟩)
            | (rw [send_ok (by first | exact late_nil (by omega) | (rw [late_at (by omega)]; exact decide_eq_false (by first | assumption | omega))) (by omega)]
               exact ⟨Or.inr rfl, [_, _], ⟨.cell rfl ti64 (.whole rfl rfl rfl rfl rfl rfl) (Res.aggP (xs := [_, _]) ⟨Res.ownT (xs := (t.sent ++ [f]).map encF) rfl rfl rfl (by simp), .t _, trivial⟩), .tmp (.t _), trivial⟩, .refl _⟩)
  · refine awj_rd [(some 13, []), (some 14, []), (some 15, []), (some 16, []), (some 17, []), (some 18, []), (some 19, []), (some 20, []), (some 21, []), (some 22, []), (some 23, []), (some 24, []), (some 25, []), (some 26, [])] [[], [0], [0, 1], [0, 1, 2], [0, 1, 2, 3], [0, 1, 2], [0, 1, 2, 5], [0, 1, 2, 3, 4, 5, 6], [0, 1, 2, 3, 4, 5, 6, 7], [0, 1, 2, 3, 4, 5, 6, 7, 8], [0, 1, 2], [0, 1, 2, 10], [0, 1, 2, 3, 4, 5, 6, 7, 8, 9, 10, 11], [0, 1, 2, 3, 4, 5, 6, 7, 8, 9, 10, 11, 12]] tm rfl rfl rfl rfl ?_
    refine mvD ?_
    refine RD.op rfl rfl rfl (eff_iop (r := .bool false) rfl rfl rfl rfl (by show some (Tr.bool (decide _)) = _; rw [decide_eq_false (by omega)])) ?_
    refine mvD ?_
    refine gkD ?_
    refine gkD ?_
    refine gkD ?_
    refine gkD ?_
    refine gkD ?_
    refine gkD ?_
    refine gkD ?_
    refine gkD ?_
    refine gkD ?_
    refine gkD ?_
    refine RD.op rfl rfl rfl (eff_pick (v := .t _) rfl rfl rfl rfl) ?_
    refine RD.nil ?_
    refine awj_cond rfl (fun h => nomatch h) (fun _ => ?_)
    refine awj_skip ?_
    refine awj_seq ?_
    refine awj_rj rfl ?_
    refine RJ.sMake rfl rfl rfl rfl (fun rO hrO => ?_)
    refine RJ.op rfl rfl (eff_assign (v := .t _) rfl rfl rfl) ?_
    refine RJ.nil ?_
    refine awj_seq ?_
    refine awj_seq ?_
    refine awj_rj rfl ?_
    refine RJ.op rfl rfl (eff_fieldAddr rfl rfl tf64_1 (by decide) rfl rfl rfl (Nat.le_of_ble_eq_true rfl)) ?_
    refine RJ.op rfl rfl (eff_load (y := .t _) rfl rfl ti33 rfl (.one rfl rfl rfl rfl)) ?_
    refine RJ.op rfl rfl (eff_lenM rfl rfl te33 rfl) ?_
    refine RJ.op rfl rfl (eff_move (v := .t _) rfl rfl rfl) ?_
    refine RJ.nil ?_
    refine awj_block ?_
    refine awj_loopW (fun m s g => ∃ (i : Nat), (i ≤ t.poss.length) ∧ (gget g rO = some (mapO KR XU (setL (t.poss.take i)))) ∧ m = t.poss.length - i ∧ s = ⟨56, [(2, .ptr 2 0 0 0), (3, .ptr 3 0 0 0), (4, .ptr 4 0 0 0), (7, .t (.mp rO)), (30, .t (.sl (t.poss.map encR) false)), (31, .t (encI t.poss.length)), (32, .t (encI (i : Nat))), (57, .t deT)], [(2, some ⟨2, 64, 0, [.t (encT t)]⟩), (3, some ⟨5, 45, 0, [.t (encF f)]⟩), (4, some ⟨2, 64, 0, [.t z64]⟩)]⟩) (_) (⟨_, weak_keep (n := 56) (fr' := [(2, .ptr 2 0 0 0), (3, .ptr 3 0 0 0), (4, .ptr 4 0 0 0), (7, .t (.mp rO)), (30, .t (.sl (t.poss.map encR) false)), (31, .t (encI t.poss.length)), (32, .t (encI (0 : Nat))), (57, .t deT)]) (st' := [(2, some ⟨2, 64, 0, [.t (encT t)]⟩), (3, some ⟨5, 45, 0, [.t (encF f)]⟩), (4, some ⟨2, 64, 0, [.t z64]⟩)]) ⟨rfl, rfl, rfl, rfl, rfl, rfl, rfl, rfl, rfl, rfl, rfl, rfl, rfl, rfl, rfl, rfl, trivial⟩ ⟨rfl, okE_one rfl, rfl, okE_one rfl, rfl, okE_one rfl, trivial⟩, 0, (by omega), (by exact gget_same _ _ _), rfl, rfl⟩) ?_
    rintro m s g ⟨i, hi, hgO, rfl, rfl⟩
    refine awj_seq ?_
    refine awj_rj rfl ?_
    refine RJ.op rfl rfl (eff_iop rfl rfl rfl rfl rfl) ?_
    refine RJ.nil ?_
    refine awj_seq ?_
    refine awj_cond rfl (fun h5 => ?_) (fun h5 => ?_)
    · try simp only [cl] at h5
      refine awj_skip ?_
      refine awj_seq ?_
      refine awj_block ?_
      refine awj_seq ?_
      refine awj_rj rfl ?_
      refine RJ.op rfl rfl (eff_indexM rfl rfl te33 rfl rfl rfl (by first | assumption | exact List.getElem?_eq_getElem (by omega)) rfl (by decide)) ?_
      refine RJ.op rfl rfl (eff_loadW rfl rfl ti23 rfl rfl rfl) ?_
      refine RJ.new rfl rfl (eff_allocK (k := 4) (id := 9) rfl rfl tz23 rfl rfl) ?_
      refine RJ.store rfl rfl (eff_storeW (v := .t _) (els := [_]) (els' := [_]) rfl rfl ti23 rfl rfl rfl rfl rfl rfl rfl rfl rfl) ?_
      refine RJ.nil ?_
      refine awj_rj rfl ?_
      refine RJ.op rfl rfl (eff_move (v := .t _) rfl rfl rfl) ?_
      refine RJ.op rfl rfl (eff_load rfl rfl ti23 rfl (.whole rfl rfl rfl rfl rfl rfl)) ?_
      refine RJ.sPut (t.poss[i]'(by omega)) (t.poss.take i) rfl rfl (.inl rfl) Tryd.underlying98 rfl rfl rfl hgO ?_
      refine RJ.nil ?_
      refine awj_rj rfl ?_
      refine RJ.op rfl rfl (eff_iop rfl rfl rfl rfl (iadd (by omega))) ?_
      refine RJ.op rfl rfl (eff_move (v := .t _) rfl rfl rfl) ?_
      refine RJ.nil ?_
      refine ⟨_, ?_, _, weak_keep (n := 56) (fr' := [(2, .ptr 2 0 0 0), (3, .ptr 3 0 0 0), (4, .ptr 4 0 0 0), (7, .t (.mp rO)), (30, .t (.sl (t.poss.map encR) false)), (31, .t (encI t.poss.length)), (32, .t (encI ((i + 1) : Nat))), (57, .t deT)]) (st' := [(2, some ⟨2, 64, 0, [.t (encT t)]⟩), (3, some ⟨5, 45, 0, [.t (encF f)]⟩), (4, some ⟨2, 64, 0, [.t z64]⟩)]) ⟨rfl, rfl, rfl, rfl, rfl, rfl, rfl, rfl, rfl, rfl, rfl, rfl, rfl, rfl, rfl, rfl, trivial⟩ ⟨rfl, okE_one rfl, rfl, okE_one rfl, rfl, okE_one rfl, trivial⟩, i + 1, (by omega), (by rw [gget_same, ins_take (srt_nodup hs) (by omega)]), rfl, rfl⟩
      omega
    · try simp only [cl] at h5
      refine awj_exit ?_
      refine awj_seq ?_
      have hi2 : i = t.poss.length := by omega
      subst hi2
      rw [List.take_length] at hgO
      refine awj_freezeS 7 (l0 := t.poss) t.poss rfl hgO (.refl _) ?_
      have hfl := stepF_len t.poss f
      refine awj_rj rfl ?_
      refine RJ.op rfl rfl (eff_move (v := .t _) rfl rfl rfl) ?_
      refine RJ.op rfl rfl (eff_load rfl rfl ti45 rfl (.whole rfl rfl rfl rfl rfl rfl)) ?_
      refine RJ.op rfl rfl (eff_callXT (spread_ret t.poss f hs hp) co71 rfl rfl rfl ⟨rfl, trivial⟩ rfl) ?_
      refine RJ.op rfl rfl (eff_assign (v := .t _) rfl rfl rfl) ?_
      refine RJ.nil ?_
      refine awj_seq ?_
      refine awj_seq ?_
      refine awj_rj rfl ?_
      refine RJ.op rfl rfl (eff_move (v := .t _) rfl rfl rfl) ?_
      refine RJ.op rfl rfl (eff_lenS rfl rfl Tryd.underlying98 rfl) ?_
      refine RJ.op rfl rfl (eff_iop rfl rfl rfl rfl rfl) ?_
      refine RJ.nil ?_
      refine awj_cond rfl (fun h6 => ?_) (fun h6 => ?_)
      · try simp only [cl] at h6
        refine awj_seq ?_
        refine awj_rj rfl ?_
        refine RJ.op rfl rfl (eff_buildT (ys := [_, _]) rfl rfl tz64 tg64 rfl) ?_
        refine RJ.store rfl rfl (eff_storeW (v := .t _) (els := [_]) (els' := [_]) rfl rfl ti64 rfl rfl rfl rfl rfl rfl rfl rfl rfl) ?_
        refine RJ.op rfl rfl (eff_assign (v := .t _) rfl rfl rfl) ?_
        refine RJ.nil ?_
        refine awj_ret ?_
        first
          | (rw [send_late (by first | (rw [late_at (by omega)]; exact decide_eq_true (by first | assumption | omega)) | (exfalso; omega))]
             exact ⟨Or.inr rfl, [_, _], ⟨.cell rfl ti64 (.whole rfl rfl rfl rfl rfl rfl) (.t _), .tmp (.t _), trivial⟩, (by repeat' first | exact trivial | exact Wk.refl _ | exact Wk.sl _ | refine And.intro ?_ ?_ | refine Wk.tupP ?_ | refine Wk.aggP ?_)⟩)
          | (rw [send_many (by first | exact late_nil (by omega) | (rw [late_at (by omega)]; exact decide_eq_false (by first | assumption | omega))) (by omega)]
             exact ⟨Or.inr rfl, [_, _], ⟨.cell rfl ti64 (.whole rfl rfl rfl rfl rfl rfl) (.t _), .tmp (.t _), trivial⟩, (by repeat' first | exact trivial | exact Wk.refl _ | exact Wk.sl _ | refine And.intro ?_ ?_ | refine Wk.tupP ?_ | refine Wk.aggP ?_)⟩)
          | (rw [send_ok (by first | exact late_nil (by omega) | (rw [late_at (by omega)]; exact decide_eq_false (by first | assumption | omega))) (by omega)]
             exact ⟨Or.inr rfl, [_, _], ⟨.cell rfl ti64 (.whole rfl rfl rfl rfl rfl rfl) (Res.aggP (xs := [_, _]) ⟨Res.ownT (xs := (t.sent ++ [f]).map encF) rfl rfl rfl (by simp), .t _, trivial⟩), .tmp (.t _), trivial⟩, .refl _⟩)
      · try simp only [cl] at h6
        refine awj_skip ?_
        refine awj_seq ?_
        refine awj_rd [(some 46, []), (some 47, []), (some 48, []), (some 49, []), (some 50, [50]), (some 51, [51]), (some 52, [51, 56]), (some 53, []), (some 54, []), (some 55, []), (none, [4]), (some 5, [])] [[], [0], [0, 1], [], [3], [0, 1, 2, 3, 4], [0, 1, 2, 3, 4, 5], [], [0, 1, 2, 3, 4, 5, 6, 7], [0, 1, 2, 3, 4, 5, 6, 7, 8], [0, 1, 2, 3, 4, 5, 6, 7, 8, 9], [0, 1, 2, 3, 4, 5, 6, 7, 8, 9, 10]] tm rfl rfl rfl rfl ?_
        refine RD.op rfl rfl rfl (eff_fieldAddr rfl rfl tf64_0 (by decide) rfl rfl rfl (Nat.le_of_ble_eq_true rfl)) ?_
        refine RD.op rfl rfl rfl (eff_load (y := .t _) rfl rfl ti62 rfl (.one rfl rfl rfl rfl)) ?_
        refine RD.op rfl rfl rfl (eff_callT (clip_ret t.sent) co73 rfl rfl rfl rfl) ?_
        refine RD.op rfl rfl rfl (eff_load rfl rfl ti45 rfl (.whole rfl rfl rfl rfl rfl rfl)) ?_
        refine RD.new rfl rfl rfl (eff_buildSliceL (id := 50) (els := [.t (.agg [_, _, _, _, _])]) rfl rfl te62 tz45 rfl (by decide) (by decide) rfl rfl rfl rfl) ?_
        refine RD.new rfl rfl rfl (eff_appendNew (id := 51) (ys := [_]) rfl rfl ta62 rfl rfl (fun z hz => by obtain ⟨q, _, rfl⟩ := List.mem_map.1 hz; rfl) (srcOwn rfl rfl rfl rfl rfl rfl) (Nat.le_of_ble_eq_true rfl) (by simp; omega) (by simp; omega)) ?_
        refine RD.new2 rfl rfl rfl (eff_callG (ownO (t.sent ++ [f]) 0 _ _ (by simp) (by simp; rfl) (by simp; omega) (by simp) (by intro q hq; rcases List.mem_append.1 hq with h | h; exact hb q h; rw [List.mem_singleton.1 h]; exact hbf)) co72 (fun id => id + 51) rfl rfl rfl ⟨.own _ _ _ _ rfl rfl, trivial⟩ (.own _ _ _ _ rfl rfl) rfl ⟨⟨rfl, treeEls_app, ⟨_, rfl, Nat.lt_succ_self _⟩⟩, trivial⟩ ⟨⟨treeEls_app, .inl rfl⟩, ⟨treeEls_t, .inr rfl⟩, trivial⟩) ?_
        refine mvD ?_
        refine RD.op rfl rfl rfl (eff_callT (sorted_ret _ (srt_stepF hs) (by omega)) co74 rfl rfl rfl rfl) ?_
        refine RD.op rfl rfl rfl (eff_buildA (ys := [_, _]) rfl rfl tz64 tg64 rfl rfl) ?_
        refine RD.store rfl rfl rfl (eff_storeW (v := .agg _) (els := [_]) (els' := [_]) rfl rfl ti64 rfl rfl rfl rfl rfl rfl rfl rfl rfl) ?_
        refine RD.op rfl rfl rfl (eff_assign (v := .t _) rfl rfl rfl) ?_
        refine RD.nil ?_
        refine awj_ret ?_
        first
          | (rw [send_late (by first | (rw [late_at (by omega)]; exact decide_eq_true (by first | assumption | omega)) | (exfalso; omega))]
             exact ⟨Or.inr rfl, [_, _], ⟨.cell rfl ti64 (.whole rfl rfl rfl rfl rfl rfl) (.t _), .tmp (.t _), trivial⟩, (by repeat' first | exact trivial | exact Wk.refl _ | exact Wk.sl _ | refine And.intro ?_ ?_ | refine Wk.tupP ?_ | refine Wk.aggP ?_)⟩)
          | (rw [send_many (by first | exact late_nil (by omega) | (rw [late_at (by omega)]; exact decide_eq_false (by first | assumption | omega))) (by omega)]
             exact ⟨Or.inr rfl, [_, _], ⟨.cell rfl ti64 (.whole rfl rfl rfl rfl rfl rfl) (.t _), .tmp (.t _), trivial⟩, (by repeat' first | exact trivial | exact Wk.refl _ | exact Wk.sl _ | refine And.intro ?_ ?_ | refine Wk.tupP ?_ | refine Wk.aggP ?_)⟩)
          | (rw [send_ok (by first | exact late_nil (by omega) | (rw [late_at (by omega)]; exact decide_eq_false (by first | assumption | omega))) (by omega)]
             exact ⟨Or.inr rfl, [_, _], ⟨.cell rfl ti64 (.whole rfl rfl rfl rfl rfl rfl) (Res.aggP (xs := [_, _]) ⟨Res.ownT (xs := (t.sent ++ [f]).map encF) rfl rfl rfl (by simp), .t _, trivial⟩), .tmp (.t _), trivial⟩, .refl _⟩)

end Go.Tv.C36

end
section
open Go Go.Tv Go.Proofs
namespace Go.Tv.C36
set_option maxRecDepth 20000
set_option maxHeartbeats 2000000
set_option linter.unusedSimpArgs false
set_option linter.unusedVariables false
theorem thear_ret (t : Twn) (r : Rep) (hr : HP r) (hl : t.poss.length ≤ 1000) (hs : t.sent.length ≤ 1000) (hb : ∀ x, x ∈ t.sent → x.body.length ≤ 1000000) : RetT Tryd.prog 64 [(1, deT)] [encT t, encR r] (.tup [encT (hear t r).1, encI (hear t r).2]) := by
  refine retT_of_awp Tryd.func64 rfl (Nat.le_of_ble_eq_true rfl) ?_
  refine awp_seq ?_
  refine awp_rw rfl ?_
  refine RW.new rfl rfl (eff_boxK (v := .t _) (k := 2) (id := 2) rfl rfl rfl rfl rfl rfl) ?_
  refine RW.new rfl rfl (eff_boxK (v := .t _) (k := 4) (id := 3) rfl rfl rfl rfl rfl rfl) ?_
  refine RW.new rfl rfl (eff_allocK (k := 2) (id := 4) rfl rfl tz64 rfl rfl) ?_
  refine asT ?_
  refine RW.nil ?_
  refine awp_seq ?_
  refine awp_rw rfl ?_
  refine asT ?_
  refine RW.nil ?_
  show AWP _ _ _ _
  refine awp_weak (weak_adopt (d := 6) (id := 6) (k := 5) (ty := 45) rfl rfl) ?_
  refine awp_seq ?_
  refine awp_seq ?_
  refine awp_rw rfl ?_
  refine faT tf64_0 ?_
  refine l1T ti62 rfl rfl rfl rfl rfl (.one rfl rfl rfl rfl) ?_
  refine RW.op rfl rfl (eff_lenM rfl rfl te62 rfl) ?_
  refine mvT ?_
  refine RW.nil ?_
  refine awp_block ?_
  refine awp_loopW (fun m s => ∃ (i : Nat) (gn : Nat) (n : Nat) (els : List AV), (i ≤ t.sent.length) ∧ (n = (open_ (t.sent.take i) r).length) ∧ (els = ((open_ (t.sent.take i) r).map encF).map .t) ∧ m = t.sent.length - i ∧ s = ⟨57, [(2, .ptr 2 0 0 0), (3, .ptr 3 0 0 0), (4, .ptr 4 0 0 0), (6, .own 6 gn 0 n), (14, .t (.sl (t.sent.map encF) false)), (15, .t (encI t.sent.length)), (16, .t (encI (i : Nat))), (58, .t deT)], [(2, some ⟨2, 64, 0, [.t (encT t)]⟩), (3, some ⟨4, 23, 0, [.t (encR r)]⟩), (4, some ⟨2, 64, 0, [.t z64]⟩), (6, some ⟨5, 45, gn, els⟩)]⟩) (_) (⟨_, weak_keep (n := 57) (fr' := [(2, .ptr 2 0 0 0), (3, .ptr 3 0 0 0), (4, .ptr 4 0 0 0), (6, .own 6 0 0 0), (14, .t (.sl (t.sent.map encF) false)), (15, .t (encI t.sent.length)), (16, .t (encI (0 : Nat))), (58, .t deT)]) (st' := [(2, some ⟨2, 64, 0, [.t (encT t)]⟩), (3, some ⟨4, 23, 0, [.t (encR r)]⟩), (4, some ⟨2, 64, 0, [.t z64]⟩), (6, some ⟨5, 45, 0, ([])⟩)]) ⟨rfl, rfl, rfl, rfl, rfl, rfl, rfl, rfl, rfl, rfl, rfl, rfl, rfl, rfl, rfl, rfl, trivial⟩ ⟨rfl, okE_one rfl, rfl, okE_one rfl, rfl, okE_one rfl, rfl, (by first | exact okE_nil | (rw [he]; exact okE_t) | (rw [he]; intro x hx; simp only [List.mem_append, List.mem_map, List.mem_singleton] at hx; rcases hx with ⟨y, _, rfl⟩ | rfl <;> rfl)), trivial⟩, 0, 0, 0, [], (by omega), (by rfl), (by rfl), rfl, rfl⟩) ?_
  rintro m s ⟨i, gn, n, els, hi, hnn, he, rfl, rfl⟩
  have hol : (open_ (t.sent.take i) r).length ≤ t.sent.length := open_len _ _ _
  refine awp_seq ?_
  refine awp_rw rfl ?_
  refine ioT ?_
  refine RW.nil ?_
  refine awp_seq ?_
  refine awp_cond rfl (fun h1 => ?_) (fun h1 => ?_)
  · try simp only [cl] at h1
    refine awp_skip ?_
    refine awp_seq ?_
    refine awp_block ?_
    refine awp_seq ?_
    refine awp_rw rfl ?_
    refine RW.op rfl rfl (eff_indexM rfl rfl te62 rfl rfl rfl (by first | assumption | exact List.getElem?_eq_getElem (by omega)) rfl (by decide)) ?_
    refine RW.op rfl rfl (eff_loadW rfl rfl ti45 rfl rfl rfl) ?_
    refine RW.new rfl rfl (eff_allocK (k := 5) (id := 8) rfl rfl tz45 rfl rfl) ?_
    refine RW.store rfl rfl (eff_storeW (v := .t _) (els := [_]) (els' := [_]) rfl rfl ti45 rfl rfl rfl rfl rfl rfl rfl rfl rfl) ?_
    refine RW.nil ?_
    refine awp_seq ?_
    refine awp_rw rfl ?_
    refine faT tf45_1 ?_
    refine l1T ti3 rfl rfl rfl rfl rfl (.one rfl rfl rfl rfl) ?_
    refine faT tf23_2 ?_
    refine l1T ti3 rfl rfl rfl rfl rfl (.one rfl rfl rfl rfl) ?_
    refine ioT ?_
    refine RW.nil ?_
    refine awp_cond rfl (fun h2 => ?_) (fun h2 => ?_)
    · try simp only [cl] at h2
      refine awp_rw rfl ?_
      refine mvO ?_
      refine RW.op rfl rfl (eff_load rfl rfl ti45 rfl (.whole rfl rfl rfl rfl rfl rfl)) ?_
      refine RW.new rfl rfl (eff_buildSliceL (id := 27) (els := [.t (.agg [_, _, _, _, _])]) rfl rfl te62 tz45 rfl (by decide) (by decide) rfl rfl rfl rfl) ?_
      refine RW.new rfl rfl (eff_append (id := 6) (ys := [_]) rfl rfl ta62 rfl rfl rfl (by rw [he, hnn]; simp) rfl rfl (srcOwn rfl rfl rfl rfl rfl rfl) (by simp) (by simp; omega) (by simp; omega)) ?_
      refine asO ?_
      refine RW.nil ?_
      refine awp_rw rfl ?_
      refine RW.op rfl rfl (eff_iop rfl rfl rfl rfl (iadd (by omega))) ?_
      refine mvT ?_
      refine RW.nil ?_
      have hil : i < t.sent.length := by omega
      have ho : open_ (t.sent.take (i + 1)) r = (open_ (t.sent.take i) r) ++ [t.sent[i]'hil] := open_take hil (by omega)
      refine ⟨_, ?_, _, weak_keep (n := 57) (fr' := [(2, .ptr 2 0 0 0), (3, .ptr 3 0 0 0), (4, .ptr 4 0 0 0), (6, .own 6 _ 0 _), (14, .t (.sl (t.sent.map encF) false)), (15, .t (encI t.sent.length)), (16, .t (encI ((i + 1) : Nat))), (58, .t deT)]) (st' := [(2, some ⟨2, 64, 0, [.t (encT t)]⟩), (3, some ⟨4, 23, 0, [.t (encR r)]⟩), (4, some ⟨2, 64, 0, [.t z64]⟩), (6, some ⟨5, 45, _, _⟩)]) ⟨rfl, rfl, rfl, rfl, rfl, rfl, rfl, rfl, rfl, rfl, rfl, rfl, rfl, rfl, rfl, rfl, trivial⟩ ⟨rfl, okE_one rfl, rfl, okE_one rfl, rfl, okE_one rfl, rfl, (by first | exact okE_nil | (rw [he]; exact okE_t) | (rw [he]; intro x hx; simp only [List.mem_append, List.mem_map, List.mem_singleton] at hx; rcases hx with ⟨y, _, rfl⟩ | rfl <;> rfl)), trivial⟩, i + 1, _, _, _, (by omega), (by rw [ho]; simp [hnn]), (by rw [ho]; simp [he] <;> rfl), rfl, rfl⟩
      omega
    · try simp only [cl] at h2
      refine awp_skip ?_
      refine awp_rw rfl ?_
      refine RW.op rfl rfl (eff_iop rfl rfl rfl rfl (iadd (by omega))) ?_
      refine mvT ?_
      refine RW.nil ?_
      have hil : i < t.sent.length := by omega
      have ho : open_ (t.sent.take (i + 1)) r = (open_ (t.sent.take i) r) := open_skip hil (by omega)
      refine ⟨_, ?_, _, weak_keep (n := 57) (fr' := [(2, .ptr 2 0 0 0), (3, .ptr 3 0 0 0), (4, .ptr 4 0 0 0), (6, .own 6 _ 0 _), (14, .t (.sl (t.sent.map encF) false)), (15, .t (encI t.sent.length)), (16, .t (encI ((i + 1) : Nat))), (58, .t deT)]) (st' := [(2, some ⟨2, 64, 0, [.t (encT t)]⟩), (3, some ⟨4, 23, 0, [.t (encR r)]⟩), (4, some ⟨2, 64, 0, [.t z64]⟩), (6, some ⟨5, 45, _, _⟩)]) ⟨rfl, rfl, rfl, rfl, rfl, rfl, rfl, rfl, rfl, rfl, rfl, rfl, rfl, rfl, rfl, rfl, trivial⟩ ⟨rfl, okE_one rfl, rfl, okE_one rfl, rfl, okE_one rfl, rfl, (by first | exact okE_nil | (rw [he]; exact okE_t) | (rw [he]; intro x hx; simp only [List.mem_append, List.mem_map, List.mem_singleton] at hx; rcases hx with ⟨y, _, rfl⟩ | rfl <;> rfl)), trivial⟩, i + 1, _, _, _, (by omega), (by rw [ho]; simp [hnn]), (by rw [ho]; simp [he] <;> rfl), rfl, rfl⟩
      omega
  · try simp only [cl] at h1
    refine awp_exit ?_
    refine awp_seq ?_
    have hi2 : i = t.sent.length := by omega
    subst hi2
    rw [List.take_length] at hnn he
    refine awp_weak (weak_frz (n := 57) (fr' := [(2, .ptr 2 0 0 0), (3, .ptr 3 0 0 0), (4, .ptr 4 0 0 0), (6, .t (.sl ((open_ t.sent r).map encF) false)), (58, .t deT)]) (st' := [(2, some ⟨2, 64, 0, [.t (encT t)]⟩), (3, some ⟨4, 23, 0, [.t (encR r)]⟩), (4, some ⟨2, 64, 0, [.t z64]⟩)]) [(6, some ⟨5, 45, gn, els⟩)] ⟨rfl, trivial⟩ ⟨rfl, rfl, rfl, trivial⟩ ⟨wa_eq rfl rfl, wa_eq rfl rfl, wa_eq rfl rfl, .res (Res.ownT (xs := (open_ t.sent r).map encF) rfl rfl he (by rw [hnn]; simp)) (.refl _), wa_eq rfl rfl, trivial⟩ ⟨rfl, okE_one rfl, rfl, okE_one rfl, rfl, okE_one rfl, trivial⟩) ?_
    have hol2 : (open_ t.sent r).length ≤ t.sent.length := List.length_filter_le _ _
    refine awp_rw rfl ?_
    refine RW.op rfl rfl (eff_load rfl rfl ti23 rfl (.whole rfl rfl rfl rfl rfl rfl)) ?_
    refine mvT ?_
    refine RW.op rfl rfl (eff_callXT (reach_ret r (open_ t.sent r) hr (by omega)) co75 rfl rfl rfl ⟨rfl, trivial⟩ rfl) ?_
    refine asT ?_
    refine RW.nil ?_
    refine awp_seq ?_
    refine awp_rw rfl ?_
    refine asT ?_
    refine RW.nil ?_
    show AWP _ _ _ _
    refine awp_weak (weak_adopt (d := 10) (id := 10) (k := 4) (ty := 23) rfl rfl) ?_
    refine awp_seq ?_
    refine awp_seq ?_
    refine awp_rw rfl ?_
    refine faT tf64_1 ?_
    refine l1T ti33 rfl rfl rfl rfl rfl (.one rfl rfl rfl rfl) ?_
    refine RW.op rfl rfl (eff_lenM rfl rfl te33 rfl) ?_
    refine mvT ?_
    refine RW.nil ?_
    refine awp_block ?_
    refine awp_loopW (fun m s => ∃ (k : Nat) (gm : Nat) (n2 : Nat) (els2 : List AV), (k ≤ t.poss.length) ∧ (n2 = ((t.poss.take k).filter (fun x => decide (x ∈ reachF r (open_ t.sent r)))).length) ∧ (els2 = (((t.poss.take k).filter (fun x => decide (x ∈ reachF r (open_ t.sent r)))).map encR).map .t) ∧ m = t.poss.length - k ∧ s = ⟨57, [(2, .ptr 2 0 0 0), (4, .ptr 4 0 0 0), (9, .t (mset (reachF r (open_ t.sent r)))), (10, .own 10 gm 0 n2), (34, .t (.sl (t.poss.map encR) false)), (35, .t (encI t.poss.length)), (36, .t (encI (k : Nat))), (58, .t deT)], [(2, some ⟨2, 64, 0, [.t (encT t)]⟩), (4, some ⟨2, 64, 0, [.t z64]⟩), (10, some ⟨4, 23, gm, els2⟩)]⟩) (_) (⟨_, weak_keep (n := 57) (fr' := [(2, .ptr 2 0 0 0), (4, .ptr 4 0 0 0), (9, .t (mset (reachF r (open_ t.sent r)))), (10, .own 10 0 0 0), (34, .t (.sl (t.poss.map encR) false)), (35, .t (encI t.poss.length)), (36, .t (encI (0 : Nat))), (58, .t deT)]) (st' := [(2, some ⟨2, 64, 0, [.t (encT t)]⟩), (4, some ⟨2, 64, 0, [.t z64]⟩), (10, some ⟨4, 23, 0, ([])⟩)]) ⟨rfl, rfl, rfl, rfl, rfl, rfl, rfl, rfl, rfl, rfl, rfl, rfl, rfl, rfl, rfl, rfl, trivial⟩ ⟨rfl, okE_one rfl, rfl, okE_one rfl, rfl, (by first | exact okE_nil | (rw [he2]; exact okE_t) | (rw [he2]; intro x hx; simp only [List.mem_append, List.mem_map, List.mem_singleton] at hx; rcases hx with ⟨y, _, rfl⟩ | rfl <;> rfl)), trivial⟩, 0, 0, 0, [], (by omega), (by simp), (by simp), rfl, rfl⟩) ?_
    rintro m s ⟨k, gm, n2, els2, hk, hnn2, he2, rfl, rfl⟩
    have hfl0 : n2 ≤ k := by rw [hnn2]; exact Nat.le_trans (List.length_filter_le _ _) (by simp; omega)
    refine awp_seq ?_
    refine awp_rw rfl ?_
    refine ioT ?_
    refine RW.nil ?_
    refine awp_seq ?_
    refine awp_cond rfl (fun h3 => ?_) (fun h3 => ?_)
    · try simp only [cl] at h3
      refine awp_skip ?_
      refine awp_seq ?_
      refine awp_block ?_
      refine awp_seq ?_
      refine awp_rw rfl ?_
      refine RW.op rfl rfl (eff_indexM rfl rfl te33 rfl rfl rfl (by first | assumption | exact List.getElem?_eq_getElem (by omega)) rfl (by decide)) ?_
      refine RW.op rfl rfl (eff_loadW rfl rfl ti23 rfl rfl rfl) ?_
      refine RW.new rfl rfl (eff_allocK (k := 4) (id := 12) rfl rfl tz23 rfl rfl) ?_
      refine RW.store rfl rfl (eff_storeW (v := .t _) (els := [_]) (els' := [_]) rfl rfl ti23 rfl rfl rfl rfl rfl rfl rfl rfl rfl) ?_
      refine RW.nil ?_
      refine awp_seq ?_
      refine awp_rw rfl ?_
      refine mvT ?_
      refine RW.op rfl rfl (eff_load rfl rfl ti23 rfl (.whole rfl rfl rfl rfl rfl rfl)) ?_
      refine RW.op rfl rfl (eff_hasS (t.poss[k]'(by omega)) (srt_nodup (srt_reach r _)) Tryd.underlying98 tz4 rfl rfl rfl rfl) ?_
      refine RW.nil ?_
      refine awp_cond rfl (fun h4 => ?_) (fun h4 => ?_)
      · try simp only [cl] at h4
        refine awp_rw rfl ?_
        refine mvO ?_
        refine RW.op rfl rfl (eff_load rfl rfl ti23 rfl (.whole rfl rfl rfl rfl rfl rfl)) ?_
        refine RW.new rfl rfl (eff_buildSliceL (id := 45) (els := [.t (.agg [_, _, _, _])]) rfl rfl te33 tz23 rfl (by decide) (by decide) rfl rfl rfl rfl) ?_
        refine RW.new rfl rfl (eff_append (id := 10) (ys := [_]) rfl rfl ta33 rfl rfl rfl (by rw [he2, hnn2]; simp) rfl rfl (srcOwn rfl rfl rfl rfl rfl rfl) (by simp) (by simp; omega) (by simp; omega)) ?_
        refine asO ?_
        refine RW.nil ?_
        refine awp_rw rfl ?_
        refine RW.op rfl rfl (eff_iop rfl rfl rfl rfl (iadd (by omega))) ?_
        refine mvT ?_
        refine RW.nil ?_
        have hft : (t.poss.take (k + 1)).filter (fun x => decide (x ∈ reachF r (open_ t.sent r))) = _ := (left_take (by omega)).trans (congrArg _ (by first | exact if_pos (by assumption) | exact if_neg (by assumption)))
        refine ⟨_, ?_, _, weak_keep (n := 57) (fr' := [(2, .ptr 2 0 0 0), (4, .ptr 4 0 0 0), (9, .t (mset (reachF r (open_ t.sent r)))), (10, .own 10 _ 0 _), (34, .t (.sl (t.poss.map encR) false)), (35, .t (encI t.poss.length)), (36, .t (encI ((k + 1) : Nat))), (58, .t deT)]) (st' := [(2, some ⟨2, 64, 0, [.t (encT t)]⟩), (4, some ⟨2, 64, 0, [.t z64]⟩), (10, some ⟨4, 23, _, _⟩)]) ⟨rfl, rfl, rfl, rfl, rfl, rfl, rfl, rfl, rfl, rfl, rfl, rfl, rfl, rfl, rfl, rfl, trivial⟩ ⟨rfl, okE_one rfl, rfl, okE_one rfl, rfl, (by first | exact okE_nil | (rw [he2]; exact okE_t) | (rw [he2]; intro x hx; simp only [List.mem_append, List.mem_map, List.mem_singleton] at hx; rcases hx with ⟨y, _, rfl⟩ | rfl <;> rfl)), trivial⟩, k + 1, _, _, _, (by omega), (by rw [hft, hnn2]; simp), (by rw [hft, he2]; simp <;> rfl), rfl, rfl⟩
        omega
      · try simp only [cl] at h4
        refine awp_skip ?_
        refine awp_rw rfl ?_
        refine RW.op rfl rfl (eff_iop rfl rfl rfl rfl (iadd (by omega))) ?_
        refine mvT ?_
        refine RW.nil ?_
        have hft : (t.poss.take (k + 1)).filter (fun x => decide (x ∈ reachF r (open_ t.sent r))) = _ := (left_take (by omega)).trans (congrArg _ (by first | exact if_pos (by assumption) | exact if_neg (by assumption)))
        refine ⟨_, ?_, _, weak_keep (n := 57) (fr' := [(2, .ptr 2 0 0 0), (4, .ptr 4 0 0 0), (9, .t (mset (reachF r (open_ t.sent r)))), (10, .own 10 _ 0 _), (34, .t (.sl (t.poss.map encR) false)), (35, .t (encI t.poss.length)), (36, .t (encI ((k + 1) : Nat))), (58, .t deT)]) (st' := [(2, some ⟨2, 64, 0, [.t (encT t)]⟩), (4, some ⟨2, 64, 0, [.t z64]⟩), (10, some ⟨4, 23, _, _⟩)]) ⟨rfl, rfl, rfl, rfl, rfl, rfl, rfl, rfl, rfl, rfl, rfl, rfl, rfl, rfl, rfl, rfl, trivial⟩ ⟨rfl, okE_one rfl, rfl, okE_one rfl, rfl, (by first | exact okE_nil | (rw [he2]; exact okE_t) | (rw [he2]; intro x hx; simp only [List.mem_append, List.mem_map, List.mem_singleton] at hx; rcases hx with ⟨y, _, rfl⟩ | rfl <;> rfl)), trivial⟩, k + 1, _, _, _, (by omega), (by rw [hft, hnn2]; simp), (by rw [hft, he2]; simp <;> rfl), rfl, rfl⟩
        omega
    · try simp only [cl] at h3
      refine awp_exit ?_
      refine awp_seq ?_
      refine awp_seq ?_
      refine awp_rw rfl ?_
      refine mvO ?_
      refine RW.op rfl rfl (eff_len rfl rfl te33 rfl rfl rfl) ?_
      refine ioT ?_
      refine RW.nil ?_
      refine awp_cond rfl (fun h5 => ?_) (fun h5 => ?_)
      · try simp only [cl] at h5
        refine awp_seq ?_
        refine awp_rw rfl ?_
        refine RW.op rfl rfl (eff_buildT (ys := [_, _]) rfl rfl tz64 tg64 rfl) ?_
        refine RW.store rfl rfl (eff_storeW (v := .t _) (els := [_]) (els' := [_]) rfl rfl ti64 rfl rfl rfl rfl rfl rfl rfl rfl rfl) ?_
        refine asT ?_
        refine RW.nil ?_
        refine awp_ret ?_
        have hk2 : k = t.poss.length := by omega
        subst hk2
        have htl : t.poss.take t.poss.length = t.poss := List.take_length
        have hlf : left_ t r = (t.poss.take t.poss.length).filter (fun x => decide (x ∈ reachF r (open_ t.sent r))) := by rw [htl]; rfl
        first
          | (rw [hear_no (by rw [hlf]; omega)]
             exact ⟨Or.inr rfl, [_, _], ⟨.cell rfl ti64 (.whole rfl rfl rfl rfl rfl rfl) (.t _), .tmp (.t _), trivial⟩, (by repeat' first | exact trivial | exact Wk.refl _ | exact Wk.sl _ | refine And.intro ?_ ?_ | refine Wk.tupP ?_ | refine Wk.aggP ?_)⟩)
          | (rw [hear_ok (by rw [hlf]; omega), hlf]
             exact ⟨Or.inr rfl, [_, _], ⟨.cell rfl ti64 (.whole rfl rfl rfl rfl rfl rfl) (Res.aggP (xs := [_, _]) ⟨.t _, Res.ownT (xs := ((t.poss.take t.poss.length).filter (fun x => decide (x ∈ reachF r (open_ t.sent r)))).map encR) rfl rfl he2 (by rw [hnn2]; simp), trivial⟩), .tmp (.t _), trivial⟩, .refl _⟩)
      · try simp only [cl] at h5
        refine awp_skip ?_
        refine awp_seq ?_
        refine awp_rw rfl ?_
        refine faT tf64_0 ?_
        refine l1T ti62 rfl rfl rfl rfl rfl (.one rfl rfl rfl rfl) ?_
        refine RW.op rfl rfl (eff_callT (own_ret t.sent (by omega) hb) co72 rfl rfl rfl rfl) ?_
        refine mvO ?_
        refine RW.op rfl rfl (eff_buildA (ys := [_, _]) rfl rfl tz64 tg64 rfl rfl) ?_
        refine RW.store rfl rfl (eff_storeW (v := .agg _) (els := [_]) (els' := [_]) rfl rfl ti64 rfl rfl rfl rfl rfl rfl rfl rfl rfl) ?_
        refine asT ?_
        refine RW.nil ?_
        refine awp_ret ?_
        have hk2 : k = t.poss.length := by omega
        subst hk2
        have htl : t.poss.take t.poss.length = t.poss := List.take_length
        have hlf : left_ t r = (t.poss.take t.poss.length).filter (fun x => decide (x ∈ reachF r (open_ t.sent r))) := by rw [htl]; rfl
        first
          | (rw [hear_no (by rw [hlf]; omega)]
             exact ⟨Or.inr rfl, [_, _], ⟨.cell rfl ti64 (.whole rfl rfl rfl rfl rfl rfl) (.t _), .tmp (.t _), trivial⟩, (by repeat' first | exact trivial | exact Wk.refl _ | exact Wk.sl _ | refine And.intro ?_ ?_ | refine Wk.tupP ?_ | refine Wk.aggP ?_)⟩)
          | (rw [hear_ok (by rw [hlf]; omega), hlf]
             exact ⟨Or.inr rfl, [_, _], ⟨.cell rfl ti64 (.whole rfl rfl rfl rfl rfl rfl) (Res.aggP (xs := [_, _]) ⟨.t _, Res.ownT (xs := ((t.poss.take t.poss.length).filter (fun x => decide (x ∈ reachF r (open_ t.sent r)))).map encR) rfl rfl he2 (by rw [hnn2]; simp), trivial⟩), .tmp (.t _), trivial⟩, .refl _⟩)

end Go.Tv.C36

end
section
open Go Go.Tv Go.Proofs
namespace Go.Tv.C36
set_option maxRecDepth 20000
set_option maxHeartbeats 2000000
set_option linter.unusedSimpArgs false
set_option linter.unusedVariables false
theorem frames_ret (l : List Int) (mo : Nat) (hI : ∀ x, x ∈ l → I64 x) (hl : l.length ≤ 9223372036854775807) (hm : mo ≤ 20) : Ret Tryd.prog 36 [.sl (l.map encI) false, encI (mo : Nat)] (.sl ((frames l mo).map encF) false) := by
  refine ret_of_awp Tryd.func36 rfl (Nat.le_of_ble_eq_true rfl) ?_
  refine awp_seq ?_
  refine awp_rw rfl ?_
  refine asT ?_
  refine RW.nil ?_
  refine awp_seq ?_
  refine awp_rw rfl ?_
  refine asT ?_
  refine RW.nil ?_
  show AWP _ _ _ _
  refine awp_weak (weak_adopt (d := 5) (id := 5) (k := 5) (ty := 45) rfl rfl) ?_
  refine awp_seq ?_
  refine awp_rw rfl ?_
  refine asT ?_
  refine RW.nil ?_
  refine awp_seq ?_
  refine awp_seq ?_
  refine awp_rw rfl ?_
  refine asT ?_
  refine RW.nil ?_
  refine awp_block ?_
  refine awp_loopW (fun m s => ∃ (i : Nat) (gn : Nat) (n : Nat) (key : Int) (els : List AV), (i ≤ l.length) ∧ (i ≤ mo) ∧ (n = i) ∧ (key = keyAt l i) ∧ (els = (((List.range i).map (frameAt l)).map encF).map .t) ∧ m = l.length - i ∧ s = ⟨59, [(0, .t (.sl (l.map encI) false)), (1, .t (encI (mo : Nat))), (5, .own 5 gn 0 n), (6, .t (encI key)), (7, .t (encI (i : Nat)))], [(5, some ⟨5, 45, gn, els⟩)]⟩) (_) (⟨_, weak_keep (n := 59) (fr' := [(0, .t (.sl (l.map encI) false)), (1, .t (encI (mo : Nat))), (5, .own 5 0 0 0), (6, .t (encI 0)), (7, .t (encI (0 : Nat)))]) (st' := [(5, some ⟨5, 45, 0, ([])⟩)]) ⟨rfl, rfl, rfl, rfl, rfl, rfl, rfl, rfl, rfl, rfl, trivial⟩ ⟨rfl, (by first | exact okE_nil | (rw [he]; exact okE_t) | (rw [he]; intro x hx; simp only [List.mem_append, List.mem_map, List.mem_singleton] at hx; rcases hx with ⟨y, _, rfl⟩ | rfl <;> rfl)), trivial⟩, 0, 0, 0, 0, [], (by omega), (by omega), (by rfl), (by rfl), (by rfl), rfl, rfl⟩) ?_
  rintro m s ⟨i, gn, n, key, els, hi, him, hnn, hky, he, rfl, rfl⟩
  have hkr := keyAt_range l i
  rw [← hky] at hkr
  refine awp_seq ?_
  refine awp_seq ?_
  refine awp_rw rfl ?_
  refine mvT ?_
  refine mvT ?_
  refine RW.op rfl rfl (eff_lenM rfl rfl te26 rfl) ?_
  refine ioT ?_
  refine mvT ?_
  refine RW.split 14 rfl (fun h1 => ?_) (fun h1 => ?_)
  · try simp only [cl] at h1
    refine RW.gop rfl rfl rfl rfl rfl rfl (eff_move (v := .t _) rfl rfl rfl) ?_
    refine RW.gop rfl rfl rfl rfl rfl rfl (eff_move (v := .t _) rfl rfl rfl) ?_
    refine RW.gop rfl rfl rfl rfl rfl rfl (eff_iop rfl rfl rfl rfl rfl) ?_
    refine pkT ?_
    refine RW.nil ?_
    refine awp_cond rfl (fun h2 => ?_) (fun h2 => ?_)
    · try simp only [cl] at h2
      refine awp_skip ?_
      refine awp_seq ?_
      refine awp_block ?_
      refine awp_seq ?_
      refine awp_rw rfl ?_
      have hil : i < l.length := by omega
      refine mvT ?_
      refine mvT ?_
      refine RW.op rfl rfl (eff_indexM rfl rfl te26 rfl rfl rfl (by first | assumption | exact List.getElem?_eq_getElem (by omega)) rfl (by decide)) ?_
      refine RW.op rfl rfl (eff_loadW1 rfl rfl ti3 rfl rfl) ?_
      refine RW.op rfl rfl (eff_callT (around_ret _ _ (hI _ (List.getElem_mem _)) (by omega)) co13 rfl rfl rfl rfl) ?_
      refine asT ?_
      refine RW.nil ?_
      refine awp_seq ?_
      refine awp_rw rfl ?_
      have har := around_range (n := l[i]'hil) (m := 1000000) (by decide)
      have him2 : 0 ≤ imax 0 ((i : Int) - 3) ∧ imax 0 ((i : Int) - 3) ≤ 20 := by unfold imax; split <;> omega
      refine mvT ?_
      refine mvT ?_
      refine RW.op rfl rfl (eff_iop rfl rfl rfl rfl (isub (by omega))) ?_
      refine RW.op rfl rfl (eff_max rfl rfl rfl rfl) ?_
      refine mvT ?_
      refine RW.op rfl rfl (eff_remE (r := (around (l[i]'hil) 1000000) % 7) rfl rfl rfl rfl (by decide) (tmod_pos (by omega))) ?_
      refine RW.op rfl rfl (eff_iop rfl rfl rfl rfl (iadd (by omega))) ?_
      refine RW.op rfl rfl (eff_buildT (ys := [_, _, _, _, _]) rfl rfl tz45 tg45 rfl) ?_
      refine RW.new rfl rfl (eff_allocK (k := 5) (id := 9) rfl rfl tz45 rfl rfl) ?_
      refine RW.store rfl rfl (eff_storeW (v := .t _) (els := [_]) (els' := [_]) rfl rfl ti45 rfl rfl rfl rfl rfl rfl rfl rfl rfl) ?_
      refine RW.nil ?_
      refine awp_seq ?_
      refine awp_seq ?_
      refine awp_rw rfl ?_
      refine mvT ?_
      refine RW.op rfl rfl (eff_quoE (r := (around (l[i]'hil) 1000000) / 7) rfl rfl rfl rfl (by decide) (quoN (by omega) (by decide))) ?_
      refine RW.op rfl rfl (eff_remE (r := ((around (l[i]'hil) 1000000) / 7) % 12) rfl rfl rfl rfl (by decide) (tmod_pos (by omega))) ?_
      refine RW.nil ?_
      refine awp_block ?_
      refine awp_seq ?_
      refine awp_rw rfl ?_
      refine ioT ?_
      refine asT ?_
      refine RW.nil ?_
      refine awp_cond rfl (fun h3 => ?_) (fun h3 => ?_)
      · try simp only [cl] at h3
        refine awp_rw rfl ?_
        refine faT tf45_2 ?_
        refine RW.store rfl rfl (eff_storeS (v := .t _) (ys := [_, _, _, _, _]) (els := [_]) (els' := [_]) rfl rfl ti4 rfl rfl rfl rfl rfl rfl rfl (Nat.le_of_ble_eq_true rfl) rfl rfl) ?_
        refine RW.nil ?_
        refine awp_seq ?_
        refine awp_rw rfl ?_
        refine mvO ?_
        refine RW.op rfl rfl (eff_load rfl rfl ti45 rfl (.whole rfl rfl rfl rfl rfl rfl)) ?_
        first
          | (have hfr : frameAt l i = ⟨imax 0 ((i : Int) - 3) + (around (l[i]'hil) 1000000) % 7, key, true, [], 0⟩ := by unfold frameAt; rw [getD_get hil, ← hky]; exact frm_0 (by omega)
             refine RW.weak (weak_slot 47 (y := encF ⟨imax 0 ((i : Int) - 3) + (around (l[i]'hil) 1000000) % 7, key, true, [], 0⟩) rfl (by repeat' first | exact trivial | exact Wk.refl _ | exact Wk.sl _ | refine And.intro ?_ ?_ | refine Wk.tupP ?_ | refine Wk.aggP ?_)) rfl ?_)
          | (have hfr : frameAt l i = ⟨(around (l[i]'hil) 1000000) / 84 % 300, key, false, [], 0⟩ := by unfold frameAt; rw [getD_get hil, ← hky]; exact frm_1 (by omega) (by omega)
             refine RW.weak (weak_slot 47 (y := encF ⟨(around (l[i]'hil) 1000000) / 84 % 300, key, false, [], 0⟩) rfl (by repeat' first | exact trivial | exact Wk.refl _ | exact Wk.sl _ | refine And.intro ?_ ?_ | refine Wk.tupP ?_ | refine Wk.aggP ?_)) rfl ?_)
          | (have hfr : frameAt l i = ⟨imax 0 ((i : Int) - 3) + (around (l[i]'hil) 1000000) % 7, key, false, [], 0⟩ := by unfold frameAt; rw [getD_get hil, ← hky]; exact frm_2 (by omega) (by omega)
             refine RW.weak (weak_slot 47 (y := encF ⟨imax 0 ((i : Int) - 3) + (around (l[i]'hil) 1000000) % 7, key, false, [], 0⟩) rfl (by repeat' first | exact trivial | exact Wk.refl _ | exact Wk.sl _ | refine And.intro ?_ ?_ | refine Wk.tupP ?_ | refine Wk.aggP ?_)) rfl ?_)
        refine RW.new rfl rfl (eff_buildSliceL (id := 48) (els := [.t (.agg [_, _, _, _, _])]) rfl rfl te62 tz45 rfl (by decide) (by decide) rfl rfl rfl rfl) ?_
        refine RW.new rfl rfl (eff_append (id := 5) (ys := [_]) rfl rfl ta62 rfl rfl rfl (by rw [he, hnn]; simp) rfl rfl (srcOwn rfl rfl rfl rfl rfl rfl) (by simp) (by simp; omega) (by simp; omega)) ?_
        refine asO ?_
        refine RW.nil ?_
        refine awp_rw rfl ?_
        refine mvT ?_
        refine RW.op rfl rfl (eff_iop rfl rfl rfl rfl (iadd (by omega))) ?_
        refine mvT ?_
        refine RW.op rfl rfl (eff_quoE (r := (around (l[i]'hil) 1000000) / 84) rfl rfl rfl rfl (by decide) (quoN (by omega) (by decide))) ?_
        refine RW.op rfl rfl (eff_remE (r := ((around (l[i]'hil) 1000000) / 84) % 40) rfl rfl rfl rfl (by decide) (tmod_pos (by omega))) ?_
        refine RW.op rfl rfl (eff_quoE (r := ((around (l[i]'hil) 1000000) / 84 % 40) / 39) rfl rfl rfl rfl (by decide) (quoN (by omega) (by decide))) ?_
        refine RW.op rfl rfl (eff_iop rfl rfl rfl rfl (imul (by omega))) ?_
        refine RW.op rfl rfl (eff_iop rfl rfl rfl rfl (iadd (by omega))) ?_
        refine asT ?_
        refine RW.nil ?_
        refine awp_rw rfl ?_
        refine mvT ?_
        refine RW.op rfl rfl (eff_iop rfl rfl rfl rfl (iadd (by omega))) ?_
        refine asT ?_
        refine RW.nil ?_
        have hkn : keyAt l (i + 1) = key + 1 + (around (l[i]'hil) 1000000) / 84 % 40 / 39 * 5000 := by show nxt _ _ = _; rw [getD_get hil, ← hky]; rfl
        refine ⟨_, ?_, _, weak_keep (n := 59) (fr' := [(0, .t (.sl (l.map encI) false)), (1, .t (encI (mo : Nat))), (5, .own 5 _ 0 _), (6, .t (encI _)), (7, .t (encI ((i + 1) : Nat)))]) (st' := [(5, some ⟨5, 45, _, _⟩)]) ⟨rfl, rfl, rfl, rfl, rfl, rfl, rfl, rfl, rfl, rfl, trivial⟩ ⟨rfl, (by first | exact okE_nil | (rw [he]; exact okE_t) | (rw [he]; intro x hx; simp only [List.mem_append, List.mem_map, List.mem_singleton] at hx; rcases hx with ⟨y, _, rfl⟩ | rfl <;> rfl)), trivial⟩, i + 1, _, _, _, _, (by omega), (by omega), (by rw [hnn]; simp), (by exact hkn.symm), (by rw [range_succ, he]; simp only [List.map_append, List.map_cons, List.map_nil]; rw [hfr]; rfl), rfl, rfl⟩
        omega
      · try simp only [cl] at h3
        refine awp_seq ?_
        refine awp_rw rfl ?_
        refine ioT ?_
        refine asT ?_
        refine RW.nil ?_
        refine awp_cond rfl (fun h4 => ?_) (fun h4 => ?_)
        · try simp only [cl] at h4
          refine awp_rw rfl ?_
          refine mvT ?_
          refine RW.op rfl rfl (eff_quoE (r := (around (l[i]'hil) 1000000) / 84) rfl rfl rfl rfl (by decide) (quoN (by omega) (by decide))) ?_
          refine RW.op rfl rfl (eff_remE (r := ((around (l[i]'hil) 1000000) / 84) % 300) rfl rfl rfl rfl (by decide) (tmod_pos (by omega))) ?_
          refine faT tf45_0 ?_
          refine RW.store rfl rfl (eff_storeS (v := .t _) (ys := [_, _, _, _, _]) (els := [_]) (els' := [_]) rfl rfl ti3 rfl rfl rfl rfl rfl rfl rfl (Nat.le_of_ble_eq_true rfl) rfl rfl) ?_
          refine RW.nil ?_
          refine awp_seq ?_
          refine awp_rw rfl ?_
          refine mvO ?_
          refine RW.op rfl rfl (eff_load rfl rfl ti45 rfl (.whole rfl rfl rfl rfl rfl rfl)) ?_
          first
            | (have hfr : frameAt l i = ⟨imax 0 ((i : Int) - 3) + (around (l[i]'hil) 1000000) % 7, key, true, [], 0⟩ := by unfold frameAt; rw [getD_get hil, ← hky]; exact frm_0 (by omega)
               refine RW.weak (weak_slot 47 (y := encF ⟨imax 0 ((i : Int) - 3) + (around (l[i]'hil) 1000000) % 7, key, true, [], 0⟩) rfl (by repeat' first | exact trivial | exact Wk.refl _ | exact Wk.sl _ | refine And.intro ?_ ?_ | refine Wk.tupP ?_ | refine Wk.aggP ?_)) rfl ?_)
            | (have hfr : frameAt l i = ⟨(around (l[i]'hil) 1000000) / 84 % 300, key, false, [], 0⟩ := by unfold frameAt; rw [getD_get hil, ← hky]; exact frm_1 (by omega) (by omega)
               refine RW.weak (weak_slot 47 (y := encF ⟨(around (l[i]'hil) 1000000) / 84 % 300, key, false, [], 0⟩) rfl (by repeat' first | exact trivial | exact Wk.refl _ | exact Wk.sl _ | refine And.intro ?_ ?_ | refine Wk.tupP ?_ | refine Wk.aggP ?_)) rfl ?_)
            | (have hfr : frameAt l i = ⟨imax 0 ((i : Int) - 3) + (around (l[i]'hil) 1000000) % 7, key, false, [], 0⟩ := by unfold frameAt; rw [getD_get hil, ← hky]; exact frm_2 (by omega) (by omega)
               refine RW.weak (weak_slot 47 (y := encF ⟨imax 0 ((i : Int) - 3) + (around (l[i]'hil) 1000000) % 7, key, false, [], 0⟩) rfl (by repeat' first | exact trivial | exact Wk.refl _ | exact Wk.sl _ | refine And.intro ?_ ?_ | refine Wk.tupP ?_ | refine Wk.aggP ?_)) rfl ?_)
          refine RW.new rfl rfl (eff_buildSliceL (id := 48) (els := [.t (.agg [_, _, _, _, _])]) rfl rfl te62 tz45 rfl (by decide) (by decide) rfl rfl rfl rfl) ?_
          refine RW.new rfl rfl (eff_append (id := 5) (ys := [_]) rfl rfl ta62 rfl rfl rfl (by rw [he, hnn]; simp) rfl rfl (srcOwn rfl rfl rfl rfl rfl rfl) (by simp) (by simp; omega) (by simp; omega)) ?_
          refine asO ?_
          refine RW.nil ?_
          refine awp_rw rfl ?_
          refine mvT ?_
          refine RW.op rfl rfl (eff_iop rfl rfl rfl rfl (iadd (by omega))) ?_
          refine mvT ?_
          refine RW.op rfl rfl (eff_quoE (r := (around (l[i]'hil) 1000000) / 84) rfl rfl rfl rfl (by decide) (quoN (by omega) (by decide))) ?_
          refine RW.op rfl rfl (eff_remE (r := ((around (l[i]'hil) 1000000) / 84) % 40) rfl rfl rfl rfl (by decide) (tmod_pos (by omega))) ?_
          refine RW.op rfl rfl (eff_quoE (r := ((around (l[i]'hil) 1000000) / 84 % 40) / 39) rfl rfl rfl rfl (by decide) (quoN (by omega) (by decide))) ?_
          refine RW.op rfl rfl (eff_iop rfl rfl rfl rfl (imul (by omega))) ?_
          refine RW.op rfl rfl (eff_iop rfl rfl rfl rfl (iadd (by omega))) ?_
          refine asT ?_
          refine RW.nil ?_
          refine awp_rw rfl ?_
          refine mvT ?_
          refine RW.op rfl rfl (eff_iop rfl rfl rfl rfl (iadd (by omega))) ?_
          refine asT ?_
          refine RW.nil ?_
          have hkn : keyAt l (i + 1) = key + 1 + (around (l[i]'hil) 1000000) / 84 % 40 / 39 * 5000 := by show nxt _ _ = _; rw [getD_get hil, ← hky]; rfl
          refine ⟨_, ?_, _, weak_keep (n := 59) (fr' := [(0, .t (.sl (l.map encI) false)), (1, .t (encI (mo : Nat))), (5, .own 5 _ 0 _), (6, .t (encI _)), (7, .t (encI ((i + 1) : Nat)))]) (st' := [(5, some ⟨5, 45, _, _⟩)]) ⟨rfl, rfl, rfl, rfl, rfl, rfl, rfl, rfl, rfl, rfl, trivial⟩ ⟨rfl, (by first | exact okE_nil | (rw [he]; exact okE_t) | (rw [he]; intro x hx; simp only [List.mem_append, List.mem_map, List.mem_singleton] at hx; rcases hx with ⟨y, _, rfl⟩ | rfl <;> rfl)), trivial⟩, i + 1, _, _, _, _, (by omega), (by omega), (by rw [hnn]; simp), (by exact hkn.symm), (by rw [range_succ, he]; simp only [List.map_append, List.map_cons, List.map_nil]; rw [hfr]; rfl), rfl, rfl⟩
          omega
        · try simp only [cl] at h4
          refine awp_skip ?_
          refine awp_seq ?_
          refine awp_rw rfl ?_
          refine mvO ?_
          refine RW.op rfl rfl (eff_load rfl rfl ti45 rfl (.whole rfl rfl rfl rfl rfl rfl)) ?_
          first
            | (have hfr : frameAt l i = ⟨imax 0 ((i : Int) - 3) + (around (l[i]'hil) 1000000) % 7, key, true, [], 0⟩ := by unfold frameAt; rw [getD_get hil, ← hky]; exact frm_0 (by omega)
               refine RW.weak (weak_slot 47 (y := encF ⟨imax 0 ((i : Int) - 3) + (around (l[i]'hil) 1000000) % 7, key, true, [], 0⟩) rfl (by repeat' first | exact trivial | exact Wk.refl _ | exact Wk.sl _ | refine And.intro ?_ ?_ | refine Wk.tupP ?_ | refine Wk.aggP ?_)) rfl ?_)
            | (have hfr : frameAt l i = ⟨(around (l[i]'hil) 1000000) / 84 % 300, key, false, [], 0⟩ := by unfold frameAt; rw [getD_get hil, ← hky]; exact frm_1 (by omega) (by omega)
               refine RW.weak (weak_slot 47 (y := encF ⟨(around (l[i]'hil) 1000000) / 84 % 300, key, false, [], 0⟩) rfl (by repeat' first | exact trivial | exact Wk.refl _ | exact Wk.sl _ | refine And.intro ?_ ?_ | refine Wk.tupP ?_ | refine Wk.aggP ?_)) rfl ?_)
            | (have hfr : frameAt l i = ⟨imax 0 ((i : Int) - 3) + (around (l[i]'hil) 1000000) % 7, key, false, [], 0⟩ := by unfold frameAt; rw [getD_get hil, ← hky]; exact frm_2 (by omega) (by omega)
               refine RW.weak (weak_slot 47 (y := encF ⟨imax 0 ((i : Int) - 3) + (around (l[i]'hil) 1000000) % 7, key, false, [], 0⟩) rfl (by repeat' first | exact trivial | exact Wk.refl _ | exact Wk.sl _ | refine And.intro ?_ ?_ | refine Wk.tupP ?_ | refine Wk.aggP ?_)) rfl ?_)
          refine RW.new rfl rfl (eff_buildSliceL (id := 48) (els := [.t (.agg [_, _, _, _, _])]) rfl rfl te62 tz45 rfl (by decide) (by decide) rfl rfl rfl rfl) ?_
          refine RW.new rfl rfl (eff_append (id := 5) (ys := [_]) rfl rfl ta62 rfl rfl rfl (by rw [he, hnn]; simp) rfl rfl (srcOwn rfl rfl rfl rfl rfl rfl) (by simp) (by simp; omega) (by simp; omega)) ?_
          refine asO ?_
          refine RW.nil ?_
          refine awp_rw rfl ?_
          refine mvT ?_
          refine RW.op rfl rfl (eff_iop rfl rfl rfl rfl (iadd (by omega))) ?_
          refine mvT ?_
          refine RW.op rfl rfl (eff_quoE (r := (around (l[i]'hil) 1000000) / 84) rfl rfl rfl rfl (by decide) (quoN (by omega) (by decide))) ?_
          refine RW.op rfl rfl (eff_remE (r := ((around (l[i]'hil) 1000000) / 84) % 40) rfl rfl rfl rfl (by decide) (tmod_pos (by omega))) ?_
          refine RW.op rfl rfl (eff_quoE (r := ((around (l[i]'hil) 1000000) / 84 % 40) / 39) rfl rfl rfl rfl (by decide) (quoN (by omega) (by decide))) ?_
          refine RW.op rfl rfl (eff_iop rfl rfl rfl rfl (imul (by omega))) ?_
          refine RW.op rfl rfl (eff_iop rfl rfl rfl rfl (iadd (by omega))) ?_
          refine asT ?_
          refine RW.nil ?_
          refine awp_rw rfl ?_
          refine mvT ?_
          refine RW.op rfl rfl (eff_iop rfl rfl rfl rfl (iadd (by omega))) ?_
          refine asT ?_
          refine RW.nil ?_
          have hkn : keyAt l (i + 1) = key + 1 + (around (l[i]'hil) 1000000) / 84 % 40 / 39 * 5000 := by show nxt _ _ = _; rw [getD_get hil, ← hky]; rfl
          refine ⟨_, ?_, _, weak_keep (n := 59) (fr' := [(0, .t (.sl (l.map encI) false)), (1, .t (encI (mo : Nat))), (5, .own 5 _ 0 _), (6, .t (encI _)), (7, .t (encI ((i + 1) : Nat)))]) (st' := [(5, some ⟨5, 45, _, _⟩)]) ⟨rfl, rfl, rfl, rfl, rfl, rfl, rfl, rfl, rfl, rfl, trivial⟩ ⟨rfl, (by first | exact okE_nil | (rw [he]; exact okE_t) | (rw [he]; intro x hx; simp only [List.mem_append, List.mem_map, List.mem_singleton] at hx; rcases hx with ⟨y, _, rfl⟩ | rfl <;> rfl)), trivial⟩, i + 1, _, _, _, _, (by omega), (by omega), (by rw [hnn]; simp), (by exact hkn.symm), (by rw [range_succ, he]; simp only [List.map_append, List.map_cons, List.map_nil]; rw [hfr]; rfl), rfl, rfl⟩
          omega
    · try simp only [cl] at h2
      refine awp_exit ?_
      refine awp_seq ?_
      refine awp_rw rfl ?_
      refine mvO ?_
      refine asO ?_
      refine RW.nil ?_
      refine awp_ret ?_
      have hmi : i = min l.length mo := by omega
      exact ⟨Or.inr rfl, [_], ⟨.tmp (Res.ownT (xs := (frames l mo).map encF) rfl rfl (by unfold frames; rw [← hmi]; exact he) (by rw [hnn]; simp [frames_len]; omega)), trivial⟩, .refl _⟩
  · try simp only [cl] at h1
    refine gkT ?_
    refine gkT ?_
    refine gkT ?_
    refine pkT ?_
    refine RW.nil ?_
    refine awp_cond rfl (fun h => nomatch h) (fun _ => ?_)
    refine awp_exit ?_
    refine awp_seq ?_
    refine awp_rw rfl ?_
    refine mvO ?_
    refine asO ?_
    refine RW.nil ?_
    refine awp_ret ?_
    have hmi : i = min l.length mo := by omega
    exact ⟨Or.inr rfl, [_], ⟨.tmp (Res.ownT (xs := (frames l mo).map encF) rfl rfl (by unfold frames; rw [← hmi]; exact he) (by rw [hnn]; simp [frames_len]; omega)), trivial⟩, .refl _⟩

end Go.Tv.C36

end
section
open Go Go.Tv Go.Proofs
namespace Go.Tv.C36
set_option maxRecDepth 20000
set_option maxHeartbeats 2000000
set_option linter.unusedSimpArgs false
set_option linter.unusedVariables false
theorem rsent_ret (l : List Rcd) (n : Nat) (hn : n ≤ l.length) (hl : l.length ≤ 1000000) (hq : ∀ r, r ∈ l → 0 ≤ r.frame.seq ∧ r.frame.seq ≤ 1000000) : Ret Tryd.prog 24 [.sl (l.map encC) false, encI (n : Nat)] (encI (sentN (l.take n))) := by
  refine ret_of_awp Tryd.func24 rfl (Nat.le_of_ble_eq_true rfl) ?_
  refine awp_seq ?_
  refine awp_rw rfl ?_
  refine asT ?_
  refine RW.nil ?_
  refine awp_seq ?_
  refine awp_rw rfl ?_
  refine asT ?_
  refine RW.nil ?_
  refine awp_seq ?_
  refine awp_seq ?_
  refine awp_rw rfl ?_
  refine asT ?_
  refine RW.nil ?_
  refine awp_block ?_
  refine awp_loopW (fun m s => ∃ (i : Nat) (v : Int), (i ≤ n) ∧ (v = sentN (l.take i)) ∧ m = n - i ∧ s = ⟨37, [(0, .t (.sl (l.map encC) false)), (1, .t (encI (n : Nat))), (5, .t (encI v)), (6, .t (encI (i : Nat)))], []⟩) (_) (⟨_, weak_keep (n := 37) (fr' := [(0, .t (.sl (l.map encC) false)), (1, .t (encI (n : Nat))), (5, .t (encI 0)), (6, .t (encI (0 : Nat)))]) (st' := []) ⟨rfl, rfl, rfl, rfl, rfl, rfl, rfl, rfl, trivial⟩ trivial, 0, 0, (by omega), (by rfl), rfl, rfl⟩) ?_
  rintro m s ⟨i, v, hi, hv, rfl, rfl⟩
  refine awp_seq ?_
  refine awp_seq ?_
  refine awp_rw rfl ?_
  refine mvT ?_
  refine mvT ?_
  refine ioT ?_
  refine RW.nil ?_
  refine awp_cond rfl (fun h1 => ?_) (fun h1 => ?_)
  · try simp only [cl] at h1
    refine awp_skip ?_
    refine awp_seq ?_
    refine awp_block ?_
    refine awp_seq ?_
    refine awp_rw rfl ?_
    have hil : i < l.length := by omega
    have hvr := sentN_range hq i (by omega)
    rw [← hv] at hvr
    have hqi := hq _ (List.getElem_mem hil)
    refine mvT ?_
    refine mvT ?_
    refine RW.op rfl rfl (eff_indexM rfl rfl te32 rfl rfl rfl (by first | assumption | exact List.getElem?_eq_getElem (by omega)) rfl (by decide)) ?_
    refine RW.op rfl rfl (eff_fieldAddrT rfl rfl tf47_1 (by decide) rfl) ?_
    refine RW.op rfl rfl (eff_loadT1 rfl rfl ti3 rfl rfl) ?_
    refine ioT ?_
    refine mvT ?_
    refine RW.split 18 rfl (fun h2 => ?_) (fun h2 => ?_)
    · try simp only [cl] at h2
      refine RW.gop rfl rfl rfl rfl rfl rfl (eff_move (v := .t _) rfl rfl rfl) ?_
      refine RW.gop rfl rfl rfl rfl rfl rfl (eff_move (v := .t _) rfl rfl rfl) ?_
      refine RW.gop rfl rfl rfl rfl rfl rfl (eff_indexM rfl rfl te32 rfl rfl rfl (by first | assumption | exact List.getElem?_eq_getElem (by omega)) rfl (by decide)) ?_
      refine RW.gop rfl rfl rfl rfl rfl rfl (eff_fieldAddrT rfl rfl tf47_2 (by decide) rfl) ?_
      refine RW.gop rfl rfl rfl rfl rfl rfl (eff_fieldAddrT rfl rfl tf45_2 (by decide) rfl) ?_
      refine RW.gop rfl rfl rfl rfl rfl rfl (eff_loadT1 rfl rfl ti4 rfl rfl) ?_
      refine RW.gop rfl rfl rfl rfl rfl rfl (eff_unop rfl rfl rfl rfl) ?_
      refine pkT ?_
      refine RW.nil ?_
      refine awp_cond rfl (fun h3 => ?_) (fun h3 => ?_)
      · try simp only [cl] at h3
        refine awp_rw rfl ?_
        refine mvT ?_
        refine mvT ?_
        refine mvT ?_
        refine RW.op rfl rfl (eff_indexM rfl rfl te32 rfl rfl rfl (by first | assumption | exact List.getElem?_eq_getElem (by omega)) rfl (by decide)) ?_
        refine RW.op rfl rfl (eff_fieldAddrT rfl rfl tf47_2 (by decide) rfl) ?_
        refine RW.op rfl rfl (eff_fieldAddrT rfl rfl tf45_0 (by decide) rfl) ?_
        refine RW.op rfl rfl (eff_loadT1 rfl rfl ti3 rfl rfl) ?_
        refine RW.op rfl rfl (eff_iop rfl rfl rfl rfl (iadd (by omega))) ?_
        refine RW.op rfl rfl (eff_max rfl rfl rfl rfl) ?_
        refine asT ?_
        refine RW.nil ?_
        refine awp_rw rfl ?_
        refine mvT ?_
        refine RW.op rfl rfl (eff_iop rfl rfl rfl rfl (iadd (by omega))) ?_
        refine asT ?_
        refine RW.nil ?_
        have hst : sentN (l.take (i + 1)) = sentS v l[i] := by rw [sentN_take (by omega), hv]
        refine ⟨_, ?_, _, weak_keep (n := 37) (fr' := [(0, .t (.sl (l.map encC) false)), (1, .t (encI (n : Nat))), (5, .t (encI _)), (6, .t (encI ((i + 1) : Nat)))]) (st' := []) ⟨rfl, rfl, rfl, rfl, rfl, rfl, rfl, rfl, trivial⟩ trivial, i + 1, _, (by omega), (by first | exact (hst.trans (by unfold sentS; rw [if_pos ⟨by assumption, by assumption⟩])).symm | exact (hst.trans (by unfold sentS; rw [if_neg (fun hh => by simp_all)])).symm), rfl, rfl⟩
        omega
      · try simp only [cl] at h3
        refine awp_skip ?_
        refine awp_rw rfl ?_
        refine mvT ?_
        refine RW.op rfl rfl (eff_iop rfl rfl rfl rfl (iadd (by omega))) ?_
        refine asT ?_
        refine RW.nil ?_
        have hst : sentN (l.take (i + 1)) = sentS v l[i] := by rw [sentN_take (by omega), hv]
        refine ⟨_, ?_, _, weak_keep (n := 37) (fr' := [(0, .t (.sl (l.map encC) false)), (1, .t (encI (n : Nat))), (5, .t (encI _)), (6, .t (encI ((i + 1) : Nat)))]) (st' := []) ⟨rfl, rfl, rfl, rfl, rfl, rfl, rfl, rfl, trivial⟩ trivial, i + 1, _, (by omega), (by first | exact (hst.trans (by unfold sentS; rw [if_pos ⟨by assumption, by assumption⟩])).symm | exact (hst.trans (by unfold sentS; rw [if_neg (fun hh => by simp_all)])).symm), rfl, rfl⟩
        omega
    · try simp only [cl] at h2
      refine gkT ?_
      refine gkT ?_
      refine gkT ?_
      refine gkT ?_
      refine gkT ?_
      refine gkT ?_
      refine gkT ?_
      refine pkT ?_
      refine RW.nil ?_
      refine awp_cond rfl (fun h => nomatch h) (fun _ => ?_)
      refine awp_skip ?_
      refine awp_rw rfl ?_
      refine mvT ?_
      refine RW.op rfl rfl (eff_iop rfl rfl rfl rfl (iadd (by omega))) ?_
      refine asT ?_
      refine RW.nil ?_
      have hst : sentN (l.take (i + 1)) = sentS v l[i] := by rw [sentN_take (by omega), hv]
      refine ⟨_, ?_, _, weak_keep (n := 37) (fr' := [(0, .t (.sl (l.map encC) false)), (1, .t (encI (n : Nat))), (5, .t (encI _)), (6, .t (encI ((i + 1) : Nat)))]) (st' := []) ⟨rfl, rfl, rfl, rfl, rfl, rfl, rfl, rfl, trivial⟩ trivial, i + 1, _, (by omega), (by first | exact (hst.trans (by unfold sentS; rw [if_pos ⟨by assumption, by assumption⟩])).symm | exact (hst.trans (by unfold sentS; rw [if_neg (fun hh => by simp_all)])).symm), rfl, rfl⟩
      omega
  · try simp only [cl] at h1
    refine awp_exit ?_
    refine awp_seq ?_
    refine awp_rw rfl ?_
    refine mvT ?_
    refine asT ?_
    refine RW.nil ?_
    refine awp_ret ?_
    obtain rfl : i = n := by omega
    rw [← hv]
    exact ⟨Or.inr rfl, [_], ⟨.tmp (.t _), trivial⟩, .refl _⟩

theorem sent_ret (l : List Rcd) (hl : l.length ≤ 1000000) (hq : ∀ r, r ∈ l → 0 ≤ r.frame.seq ∧ r.frame.seq ≤ 1000000) : Ret Tryd.prog 41 [.sl (l.map encC) false] (encI (sentN l)) := by
  refine ret_of_awp Tryd.func41 rfl (Nat.le_of_ble_eq_true rfl) ?_
  refine awp_seq ?_
  refine awp_rw rfl ?_
  refine asT ?_
  refine RW.nil ?_
  refine awp_seq ?_
  refine awp_rw rfl ?_
  refine asT ?_
  refine RW.nil ?_
  refine awp_seq ?_
  refine awp_seq ?_
  refine awp_rw rfl ?_
  refine mvT ?_
  refine RW.op rfl rfl (eff_lenM rfl rfl te32 rfl) ?_
  refine mvT ?_
  refine RW.nil ?_
  refine awp_block ?_
  refine awp_loopW (fun m s => ∃ (i : Nat) (v : Int), (i ≤ l.length) ∧ (v = sentN (l.take i)) ∧ m = l.length - i ∧ s = ⟨29, [(3, .t (encI v)), (6, .t (.sl (l.map encC) false)), (7, .t (encI (l.length : Nat))), (8, .t (encI (i : Nat)))], []⟩) (_) (⟨_, weak_keep (n := 29) (fr' := [(3, .t (encI 0)), (6, .t (.sl (l.map encC) false)), (7, .t (encI (l.length : Nat))), (8, .t (encI (0 : Nat)))]) (st' := []) ⟨rfl, rfl, rfl, rfl, rfl, rfl, rfl, rfl, trivial⟩ trivial, 0, 0, (by omega), (by rfl), rfl, rfl⟩) ?_
  rintro m s ⟨i, v, hi, hv, rfl, rfl⟩
  refine awp_seq ?_
  refine awp_rw rfl ?_
  refine ioT ?_
  refine RW.nil ?_
  refine awp_seq ?_
  refine awp_cond rfl (fun h1 => ?_) (fun h1 => ?_)
  · try simp only [cl] at h1
    refine awp_skip ?_
    refine awp_seq ?_
    refine awp_block ?_
    refine awp_seq ?_
    refine awp_rw rfl ?_
    have hil : i < l.length := by omega
    have hvr := sentN_range hq i (by omega)
    rw [← hv] at hvr
    have hqi := hq _ (List.getElem_mem hil)
    refine RW.op rfl rfl (eff_indexM rfl rfl te32 rfl rfl rfl (by first | assumption | exact List.getElem?_eq_getElem (by omega)) rfl (by decide)) ?_
    refine RW.op rfl rfl (eff_loadW rfl rfl ti47 rfl rfl rfl) ?_
    refine RW.new rfl rfl (eff_allocK (k := 15) (id := 5) rfl rfl tz47 rfl rfl) ?_
    refine RW.store rfl rfl (eff_storeW (v := .t _) (els := [_]) (els' := [_]) rfl rfl ti47 rfl rfl rfl rfl rfl rfl rfl rfl rfl) ?_
    refine RW.nil ?_
    refine awp_seq ?_
    refine awp_rw rfl ?_
    refine faT tf47_1 ?_
    refine l1T ti3 rfl rfl rfl rfl rfl (.one rfl rfl rfl rfl) ?_
    refine ioT ?_
    refine mvT ?_
    refine RW.split 15 rfl (fun h2 => ?_) (fun h2 => ?_)
    · try simp only [cl] at h2
      refine RW.gop rfl rfl rfl rfl rfl rfl (eff_fieldAddr rfl rfl tf47_2 (by decide) rfl rfl rfl (Nat.le_of_ble_eq_true rfl)) ?_
      refine RW.gop rfl rfl rfl rfl rfl rfl (eff_fieldAddr rfl rfl tf45_2 (by decide) rfl rfl rfl (Nat.le_of_ble_eq_true rfl)) ?_
      refine RW.gop rfl rfl rfl rfl rfl rfl (eff_load (y := .t _) rfl rfl ti4 rfl (.one rfl rfl rfl rfl)) ?_
      refine RW.gop rfl rfl rfl rfl rfl rfl (eff_unop rfl rfl rfl rfl) ?_
      refine pkT ?_
      refine RW.nil ?_
      refine awp_cond rfl (fun h3 => ?_) (fun h3 => ?_)
      · try simp only [cl] at h3
        refine awp_rw rfl ?_
        refine mvT ?_
        refine faT tf47_2 ?_
        refine faT tf45_0 ?_
        refine l1T ti3 rfl rfl rfl rfl rfl (.one rfl rfl rfl rfl) ?_
        refine RW.op rfl rfl (eff_iop rfl rfl rfl rfl (iadd (by omega))) ?_
        refine RW.op rfl rfl (eff_max rfl rfl rfl rfl) ?_
        refine asT ?_
        refine RW.nil ?_
        refine awp_rw rfl ?_
        refine RW.op rfl rfl (eff_iop rfl rfl rfl rfl (iadd (by omega))) ?_
        refine mvT ?_
        refine RW.nil ?_
        have hst : sentN (l.take (i + 1)) = sentS v l[i] := by rw [sentN_take (by omega), hv]
        refine ⟨_, ?_, _, weak_keep (n := 29) (fr' := [(3, .t (encI _)), (6, .t (.sl (l.map encC) false)), (7, .t (encI (l.length : Nat))), (8, .t (encI ((i + 1) : Nat)))]) (st' := []) ⟨rfl, rfl, rfl, rfl, rfl, rfl, rfl, rfl, trivial⟩ trivial, i + 1, _, (by omega), (by first | exact (hst.trans (by unfold sentS; rw [if_pos ⟨by assumption, by assumption⟩])).symm | exact (hst.trans (by unfold sentS; rw [if_neg (fun hh => by simp_all)])).symm), rfl, rfl⟩
        omega
      · try simp only [cl] at h3
        refine awp_skip ?_
        refine awp_rw rfl ?_
        refine RW.op rfl rfl (eff_iop rfl rfl rfl rfl (iadd (by omega))) ?_
        refine mvT ?_
        refine RW.nil ?_
        have hst : sentN (l.take (i + 1)) = sentS v l[i] := by rw [sentN_take (by omega), hv]
        refine ⟨_, ?_, _, weak_keep (n := 29) (fr' := [(3, .t (encI _)), (6, .t (.sl (l.map encC) false)), (7, .t (encI (l.length : Nat))), (8, .t (encI ((i + 1) : Nat)))]) (st' := []) ⟨rfl, rfl, rfl, rfl, rfl, rfl, rfl, rfl, trivial⟩ trivial, i + 1, _, (by omega), (by first | exact (hst.trans (by unfold sentS; rw [if_pos ⟨by assumption, by assumption⟩])).symm | exact (hst.trans (by unfold sentS; rw [if_neg (fun hh => by simp_all)])).symm), rfl, rfl⟩
        omega
    · try simp only [cl] at h2
      refine gkT ?_
      refine gkT ?_
      refine gkT ?_
      refine gkT ?_
      refine pkT ?_
      refine RW.nil ?_
      refine awp_cond rfl (fun h => nomatch h) (fun _ => ?_)
      refine awp_skip ?_
      refine awp_rw rfl ?_
      refine RW.op rfl rfl (eff_iop rfl rfl rfl rfl (iadd (by omega))) ?_
      refine mvT ?_
      refine RW.nil ?_
      have hst : sentN (l.take (i + 1)) = sentS v l[i] := by rw [sentN_take (by omega), hv]
      refine ⟨_, ?_, _, weak_keep (n := 29) (fr' := [(3, .t (encI _)), (6, .t (.sl (l.map encC) false)), (7, .t (encI (l.length : Nat))), (8, .t (encI ((i + 1) : Nat)))]) (st' := []) ⟨rfl, rfl, rfl, rfl, rfl, rfl, rfl, rfl, trivial⟩ trivial, i + 1, _, (by omega), (by first | exact (hst.trans (by unfold sentS; rw [if_pos ⟨by assumption, by assumption⟩])).symm | exact (hst.trans (by unfold sentS; rw [if_neg (fun hh => by simp_all)])).symm), rfl, rfl⟩
      omega
  · try simp only [cl] at h1
    refine awp_exit ?_
    refine awp_seq ?_
    refine awp_rw rfl ?_
    refine mvT ?_
    refine asT ?_
    refine RW.nil ?_
    refine awp_ret ?_
    have hi2 : i = l.length := by omega
    subst hi2
    rw [List.take_length] at hv
    rw [← hv]
    exact ⟨Or.inr rfl, [_], ⟨.tmp (.t _), trivial⟩, .refl _⟩

theorem rights_ret (T : Twn) (d : Dec) (n : Int) (hp : ∀ y, y ∈ T.poss → HP y) (hx : ∀ y, y ∈ T.poss → NX 1000000 y) (hd : -2000000 ≤ d.seq ∧ d.seq ≤ 2000000) (hl : T.poss.length ≤ 1000) : Ret Tryd.prog 40 [encT T, encD d, encI n] (.sl ((rights T d n).map encR) false) := by
  refine ret_of_awp Tryd.func40 rfl (Nat.le_of_ble_eq_true rfl) ?_
  refine awp_seq ?_
  refine awp_rw rfl ?_
  refine RW.new rfl rfl (eff_boxK (v := .t _) (k := 2) (id := 3) rfl rfl rfl rfl rfl rfl) ?_
  refine RW.new rfl rfl (eff_boxK (v := .t _) (k := 4) (id := 4) rfl rfl rfl rfl rfl rfl) ?_
  refine asT ?_
  refine RW.nil ?_
  refine awp_seq ?_
  refine awp_rw rfl ?_
  refine asT ?_
  refine RW.nil ?_
  show AWP _ _ _ _
  refine awp_weak (weak_adopt (d := 7) (id := 7) (k := 4) (ty := 23) rfl rfl) ?_
  refine awp_seq ?_
  refine awp_seq ?_
  refine awp_rw rfl ?_
  refine faT tf64_1 ?_
  refine l1T ti33 rfl rfl rfl rfl rfl (.one rfl rfl rfl rfl) ?_
  refine RW.op rfl rfl (eff_lenM rfl rfl te33 rfl) ?_
  refine mvT ?_
  refine RW.nil ?_
  refine awp_block ?_
  refine awp_loopW (fun m s => ∃ (i : Nat) (gn : Nat) (m2 : Nat) (els : List AV), (i ≤ T.poss.length) ∧ (m2 = ((T.poss.take i).filter (fun s => rightD d s n)).length) ∧ (els = (((T.poss.take i).filter (fun s => rightD d s n)).map encR).map .t) ∧ m = T.poss.length - i ∧ s = ⟨27, [(2, .t (encI n)), (4, .ptr 4 0 0 0), (7, .own 7 gn 0 m2), (11, .t (.sl (T.poss.map encR) false)), (12, .t (encI (T.poss.length : Nat))), (13, .t (encI (i : Nat)))], [(4, some ⟨4, 28, 0, [.t (encD d)]⟩), (7, some ⟨4, 23, gn, els⟩)]⟩) (_) (⟨_, weak_keep (n := 27) (fr' := [(2, .t (encI n)), (4, .ptr 4 0 0 0), (7, .own 7 0 0 0), (11, .t (.sl (T.poss.map encR) false)), (12, .t (encI (T.poss.length : Nat))), (13, .t (encI (0 : Nat)))]) (st' := [(4, some ⟨4, 28, 0, [.t (encD d)]⟩), (7, some ⟨4, 23, 0, ([])⟩)]) ⟨rfl, rfl, rfl, rfl, rfl, rfl, rfl, rfl, rfl, rfl, rfl, rfl, trivial⟩ ⟨rfl, okE_one rfl, rfl, (by first | exact okE_nil | (rw [he]; exact okE_t) | (rw [he]; intro x hx; simp only [List.mem_append, List.mem_map, List.mem_singleton] at hx; rcases hx with ⟨y, _, rfl⟩ | rfl <;> rfl)), trivial⟩, 0, 0, 0, [], (by omega), (by simp), (by simp), rfl, rfl⟩) ?_
  rintro m s ⟨i, gn, m2, els, hi, hnn, he, rfl, rfl⟩
  have hfl : m2 ≤ i := by rw [hnn]; exact Nat.le_trans (List.length_filter_le _ _) (by simp; omega)
  refine awp_seq ?_
  refine awp_rw rfl ?_
  refine ioT ?_
  refine RW.nil ?_
  refine awp_seq ?_
  refine awp_cond rfl (fun h1 => ?_) (fun h1 => ?_)
  · try simp only [cl] at h1
    refine awp_skip ?_
    refine awp_seq ?_
    refine awp_block ?_
    refine awp_seq ?_
    refine awp_rw rfl ?_
    have hil : i < T.poss.length := by omega
    refine RW.op rfl rfl (eff_indexM rfl rfl te33 rfl rfl rfl (by first | assumption | exact List.getElem?_eq_getElem (by omega)) rfl (by decide)) ?_
    refine RW.op rfl rfl (eff_loadW rfl rfl ti23 rfl rfl rfl) ?_
    refine RW.new rfl rfl (eff_allocK (k := 4) (id := 9) rfl rfl tz23 rfl rfl) ?_
    refine RW.store rfl rfl (eff_storeW (v := .t _) (els := [_]) (els' := [_]) rfl rfl ti23 rfl rfl rfl rfl rfl rfl rfl rfl rfl) ?_
    refine RW.nil ?_
    refine awp_seq ?_
    refine awp_rw rfl ?_
    refine RW.op rfl rfl (eff_load rfl rfl ti28 rfl (.whole rfl rfl rfl rfl rfl rfl)) ?_
    refine RW.op rfl rfl (eff_load rfl rfl ti23 rfl (.whole rfl rfl rfl rfl rfl rfl)) ?_
    refine mvT ?_
    refine RW.op rfl rfl (eff_callT (right_ret d _ n (hp _ (List.getElem_mem _)) (hx _ (List.getElem_mem _)) hd) co14 rfl rfl rfl rfl) ?_
    refine RW.nil ?_
    refine awp_cond rfl (fun h2 => ?_) (fun h2 => ?_)
    · try simp only [cl] at h2
      refine awp_rw rfl ?_
      refine mvO ?_
      refine RW.op rfl rfl (eff_load rfl rfl ti23 rfl (.whole rfl rfl rfl rfl rfl rfl)) ?_
      refine RW.new rfl rfl (eff_buildSliceL (id := 23) (els := [.t (.agg [_, _, _, _])]) rfl rfl te33 tz23 rfl (by decide) (by decide) rfl rfl rfl rfl) ?_
      refine RW.new rfl rfl (eff_append (id := 7) (ys := [_]) rfl rfl ta33 rfl rfl rfl (by rw [he, hnn]; simp) rfl rfl (srcOwn rfl rfl rfl rfl rfl rfl) (by simp) (by simp; omega) (by simp; omega)) ?_
      refine asO ?_
      refine RW.nil ?_
      refine awp_rw rfl ?_
      refine RW.op rfl rfl (eff_iop rfl rfl rfl rfl (iadd (by omega))) ?_
      refine mvT ?_
      refine RW.nil ?_
      have hft : (T.poss.take (i + 1)).filter (fun s => rightD d s n) = _ := (filter_take_succ (by omega)).trans (congrArg _ (by first | exact if_pos (by assumption) | exact if_neg (by simp only [Bool.not_eq_true]; assumption)))
      refine ⟨_, ?_, _, weak_keep (n := 27) (fr' := [(2, .t (encI n)), (4, .ptr 4 0 0 0), (7, .own 7 _ 0 _), (11, .t (.sl (T.poss.map encR) false)), (12, .t (encI (T.poss.length : Nat))), (13, .t (encI ((i + 1) : Nat)))]) (st' := [(4, some ⟨4, 28, 0, [.t (encD d)]⟩), (7, some ⟨4, 23, _, _⟩)]) ⟨rfl, rfl, rfl, rfl, rfl, rfl, rfl, rfl, rfl, rfl, rfl, rfl, trivial⟩ ⟨rfl, okE_one rfl, rfl, (by first | exact okE_nil | (rw [he]; exact okE_t) | (rw [he]; intro x hx; simp only [List.mem_append, List.mem_map, List.mem_singleton] at hx; rcases hx with ⟨y, _, rfl⟩ | rfl <;> rfl)), trivial⟩, i + 1, _, _, _, (by omega), (by rw [hft, hnn]; simp), (by rw [hft, he]; simp <;> rfl), rfl, rfl⟩
      omega
    · try simp only [cl] at h2
      refine awp_skip ?_
      refine awp_rw rfl ?_
      refine RW.op rfl rfl (eff_iop rfl rfl rfl rfl (iadd (by omega))) ?_
      refine mvT ?_
      refine RW.nil ?_
      have hft : (T.poss.take (i + 1)).filter (fun s => rightD d s n) = _ := (filter_take_succ (by omega)).trans (congrArg _ (by first | exact if_pos (by assumption) | exact if_neg (by simp only [Bool.not_eq_true]; assumption)))
      refine ⟨_, ?_, _, weak_keep (n := 27) (fr' := [(2, .t (encI n)), (4, .ptr 4 0 0 0), (7, .own 7 _ 0 _), (11, .t (.sl (T.poss.map encR) false)), (12, .t (encI (T.poss.length : Nat))), (13, .t (encI ((i + 1) : Nat)))]) (st' := [(4, some ⟨4, 28, 0, [.t (encD d)]⟩), (7, some ⟨4, 23, _, _⟩)]) ⟨rfl, rfl, rfl, rfl, rfl, rfl, rfl, rfl, rfl, rfl, rfl, rfl, trivial⟩ ⟨rfl, okE_one rfl, rfl, (by first | exact okE_nil | (rw [he]; exact okE_t) | (rw [he]; intro x hx; simp only [List.mem_append, List.mem_map, List.mem_singleton] at hx; rcases hx with ⟨y, _, rfl⟩ | rfl <;> rfl)), trivial⟩, i + 1, _, _, _, (by omega), (by rw [hft, hnn]; simp), (by rw [hft, he]; simp <;> rfl), rfl, rfl⟩
      omega
  · try simp only [cl] at h1
    refine awp_exit ?_
    refine awp_seq ?_
    refine awp_rw rfl ?_
    refine mvO ?_
    refine asO ?_
    refine RW.nil ?_
    refine awp_ret ?_
    have hi2 : i = T.poss.length := by omega
    subst hi2
    rw [List.take_length] at hnn he
    exact ⟨Or.inr rfl, [_], ⟨.tmp (Res.ownT (xs := (rights T d n).map encR) rfl rfl he (by rw [hnn]; simp [rights])), trivial⟩, .refl _⟩

end Go.Tv.C36

end
section
open Go Go.Tv Go.Proofs
namespace Go.Tv.C36
set_option maxRecDepth 20000
set_option maxHeartbeats 2000000
set_option linter.unusedSimpArgs false
set_option linter.unusedVariables false
end Go.Tv.C36

end
section
open Go Go.Tv Go.Proofs
namespace Go.Tv.C36
set_option maxRecDepth 20000
set_option maxHeartbeats 2000000
set_option linter.unusedSimpArgs false
set_option linter.unusedVariables false
theorem replay0_ret (vis : FuncId) (l : List Rcd) (hO : OKL l) (hv : ∀ (i : Nat) (T : Twn), Ret Tryd.prog vis [encI (i : Nat), encT T] (.tup [])) (hco : callOK Tryd.prog vis = true) : RetT Tryd.prog 38 [(1, deT)] [.sl (l.map encC) false, .fn vis []] (.tup [encT (allOf l).1, encI (allOf l).2]) := by
  refine retT_of_awp Tryd.func38 rfl (Nat.le_of_ble_eq_true rfl) ?_
  refine awp_seq ?_
  refine awp_rw rfl ?_
  refine RW.new rfl rfl (eff_allocK (k := 2) (id := 4) rfl rfl tz64 rfl rfl) ?_
  refine asT ?_
  refine RW.nil ?_
  refine awp_seq ?_
  refine awp_seq ?_
  refine awp_rw rfl ?_
  refine mvT ?_
  refine RW.op rfl rfl (eff_lenM rfl rfl te32 rfl) ?_
  refine ioT ?_
  refine RW.nil ?_
  refine awp_cond rfl (fun h1 => ?_) (fun h1 => ?_)
  · try simp only [cl] at h1
    refine awp_seq ?_
    refine awp_rw rfl ?_
    refine RW.op rfl rfl (eff_buildT (ys := [_, _]) rfl rfl tz64 tg64 rfl) ?_
    refine RW.store rfl rfl (eff_storeW (v := .t _) (els := [_]) (els' := [_]) rfl rfl ti64 rfl rfl rfl rfl rfl rfl rfl rfl rfl) ?_
    refine asT ?_
    refine RW.nil ?_
    refine awp_ret ?_
    rw [all_lim h1]
    exact ⟨Or.inr rfl, [_, _], ⟨.cell rfl ti64 (.whole rfl rfl rfl rfl rfl rfl) (.t _), .tmp (.t _), trivial⟩, (by repeat' first | exact trivial | exact Wk.refl _ | exact Wk.sl _ | refine And.intro ?_ ?_ | refine Wk.tupP ?_ | refine Wk.aggP ?_)⟩
  · try simp only [cl] at h1
    refine awp_skip ?_
    refine awp_seq ?_
    refine awp_rw rfl ?_
    refine RW.op rfl rfl (eff_callT (new17_ret) co61 rfl rfl rfl rfl) ?_
    refine RW.new rfl rfl (eff_allocK (k := 2) (id := 6) rfl rfl tz64 rfl rfl) ?_
    refine RW.store rfl rfl (eff_storeW (v := .t _) (els := [_]) (els' := [_]) rfl rfl ti64 rfl rfl rfl rfl rfl rfl rfl rfl rfl) ?_
    refine RW.nil ?_
    refine awp_seq ?_
    refine awp_seq ?_
    refine awp_rw rfl ?_
    refine mvT ?_
    refine RW.op rfl rfl (eff_lenM rfl rfl te32 rfl) ?_
    refine mvT ?_
    refine RW.nil ?_
    refine awp_block ?_
    refine awp_loopW (fun m s => ∃ (i : Nat) (T : Twn), (i ≤ l.length) ∧ (T = (runTo l i).1) ∧ ((runTo l i).2 = 0) ∧ m = l.length - i ∧ s = ⟨63, [(0, .t (.sl (l.map encC) false)), (1, .t (.fn vis [])), (4, .ptr 4 0 0 0), (6, .ptr 6 0 0 0), (17, .t (.sl (l.map encC) false)), (18, .t (encI (l.length : Nat))), (19, .t (encI (i : Nat))), (64, .t deT)], [(4, some ⟨2, 64, 0, [.t z64]⟩), (6, some ⟨2, 64, 0, [.t (encT T)]⟩)]⟩) (_) (⟨_, weak_keep (n := 63) (fr' := [(0, .t (.sl (l.map encC) false)), (1, .t (.fn vis [])), (4, .ptr 4 0 0 0), (6, .ptr 6 0 0 0), (17, .t (.sl (l.map encC) false)), (18, .t (encI (l.length : Nat))), (19, .t (encI (0 : Nat))), (64, .t deT)]) (st' := [(4, some ⟨2, 64, 0, [.t z64]⟩), (6, some ⟨2, 64, 0, [.t (encT newT)]⟩)]) ⟨rfl, rfl, rfl, rfl, rfl, rfl, rfl, rfl, rfl, rfl, rfl, rfl, rfl, rfl, rfl, rfl, trivial⟩ ⟨rfl, okE_one rfl, rfl, okE_one rfl, trivial⟩, 0, newT, (by omega), (by rfl), (by rfl), rfl, rfl⟩) ?_
    rintro m s ⟨i, T, hi, hT, hok, rfl, rfl⟩
    refine awp_seq ?_
    refine awp_rw rfl ?_
    refine ioT ?_
    refine RW.nil ?_
    refine awp_seq ?_
    refine awp_cond rfl (fun h2 => ?_) (fun h2 => ?_)
    · try simp only [cl] at h2
      refine awp_skip ?_
      refine awp_seq ?_
      refine awp_block ?_
      refine awp_seq ?_
      refine awp_rw rfl ?_
      have hil : i < l.length := by omega
      have hFit := runTo_fit12 hO (by omega) hok
      rw [← hT] at hFit
      refine mvT ?_
      refine RW.op rfl rfl (eff_indexM rfl rfl te32 rfl rfl rfl (by first | assumption | exact List.getElem?_eq_getElem (by omega)) rfl (by decide)) ?_
      refine RW.op rfl rfl (eff_loadW rfl rfl ti47 rfl rfl rfl) ?_
      refine RW.new rfl rfl (eff_allocK (k := 15) (id := 8) rfl rfl tz47 rfl rfl) ?_
      refine asT ?_
      refine RW.store rfl rfl (eff_storeW (v := .t _) (els := [_]) (els' := [_]) rfl rfl ti47 rfl rfl rfl rfl rfl rfl rfl rfl rfl) ?_
      refine RW.nil ?_
      refine awp_seq ?_
      refine awp_seq ?_
      refine awp_rw rfl ?_
      refine mvT ?_
      refine mvT ?_
      refine RW.op rfl rfl (eff_callT (form_ret l i hil (by have := hO.len; omega)) co62 rfl rfl rfl rfl) ?_
      refine asT ?_
      refine RW.nil ?_
      refine awp_seq ?_
      refine awp_rw rfl ?_
      refine mvT ?_
      refine ioT ?_
      refine RW.nil ?_
      refine awp_cond rfl (fun h3 => ?_) (fun h3 => ?_)
      · try simp only [cl] at h3
        refine awp_seq ?_
        refine awp_rw rfl ?_
        refine RW.op rfl rfl (eff_buildT (ys := [_, _]) rfl rfl tz64 tg64 rfl) ?_
        refine mvT ?_
        refine RW.store rfl rfl (eff_storeW (v := .t _) (els := [_]) (els' := [_]) rfl rfl ti64 rfl rfl rfl rfl rfl rfl rfl rfl rfl) ?_
        refine asT ?_
        refine RW.nil ?_
        refine awp_ret ?_
        rw [all_bad h1 hil (run_form hok (by omega)) (by omega)]
        exact ⟨Or.inr rfl, [_, _], ⟨.cell rfl ti64 (.whole rfl rfl rfl rfl rfl rfl) (.t _), .tmp (.t _), trivial⟩, (by repeat' first | exact trivial | exact Wk.refl _ | exact Wk.sl _ | refine And.intro ?_ ?_ | refine Wk.tupP ?_ | refine Wk.aggP ?_)⟩
      · try simp only [cl] at h3
        refine awp_skip ?_
        refine awp_seq ?_
        refine awp_rw rfl ?_
        have hfo : form l i = 0 := by omega
        refine mvT ?_
        refine mvT ?_
        refine RW.op rfl rfl (eff_load rfl rfl ti64 rfl (.whole rfl rfl rfl rfl rfl rfl)) ?_
        refine RW.op rfl rfl (eff_callT (hv i T) hco rfl rfl rfl rfl) ?_
        refine RW.nil ?_
        refine awp_seq ?_
        refine awp_rw rfl ?_
        refine asT ?_
        refine RW.nil ?_
        refine awp_seq ?_
        refine awp_rw rfl ?_
        refine RW.op rfl rfl (eff_load rfl rfl ti64 rfl (.whole rfl rfl rfl rfl rfl rfl)) ?_
        refine RW.new rfl rfl (eff_allocK (k := 2) (id := 11) rfl rfl tz64 rfl rfl) ?_
        refine RW.store rfl rfl (eff_storeW (v := .t _) (els := [_]) (els' := [_]) rfl rfl ti64 rfl rfl rfl rfl rfl rfl rfl rfl rfl) ?_
        refine RW.nil ?_
        refine awp_seq ?_
        refine awp_seq ?_
        refine awp_rw rfl ?_
        refine faT tf47_1 ?_
        refine l1T ti3 rfl rfl rfl rfl rfl (.one rfl rfl rfl rfl) ?_
        refine RW.nil ?_
        refine awp_block ?_
        refine awp_seq ?_
        refine awp_rw rfl ?_
        refine ioT ?_
        refine asT ?_
        refine RW.nil ?_
        refine awp_cond rfl (fun h4 => ?_) (fun h4 => ?_)
        · try simp only [cl] at h4
          refine awp_rw rfl ?_
          refine RW.op rfl rfl (eff_load rfl rfl ti64 rfl (.whole rfl rfl rfl rfl rfl rfl)) ?_
          refine faT tf47_2 ?_
          refine RW.op rfl rfl (eff_loadS (ys := [_, _, _, _, _]) rfl rfl ti45 rfl rfl rfl rfl rfl rfl) ?_
          refine RW.op rfl rfl (eff_callXT (tsend_ret T _ hFit.srt hFit.hp (by have := hFit.len; omega) (by have := hFit.sl; omega) hFit.bod (hO.bod _ (List.getElem_mem hil))) co63 rfl rfl rfl ⟨rfl, trivial⟩ rfl) ?_
          refine mvT ?_
          refine RW.op rfl rfl (eff_extract rfl rfl rfl rfl) ?_
          refine RW.op rfl rfl (eff_extract rfl rfl rfl rfl) ?_
          refine RW.store rfl rfl (eff_storeW (v := .t _) (els := [_]) (els' := [_]) rfl rfl ti64 rfl rfl rfl rfl rfl rfl rfl rfl rfl) ?_
          refine asT ?_
          refine RW.nil ?_
          refine awp_seq ?_
          refine awp_seq ?_
          refine awp_rw rfl ?_
          refine mvT ?_
          refine ioT ?_
          refine RW.nil ?_
          refine awp_cond rfl (fun h5 => ?_) (fun h5 => ?_)
          · try simp only [cl] at h5
            refine awp_seq ?_
            refine awp_rw rfl ?_
            refine RW.op rfl rfl (eff_buildT (ys := [_, _]) rfl rfl tz64 tg64 rfl) ?_
            refine mvT ?_
            refine RW.store rfl rfl (eff_storeW (v := .t _) (els := [_]) (els' := [_]) rfl rfl ti64 rfl rfl rfl rfl rfl rfl rfl rfl rfl) ?_
            refine asT ?_
            refine RW.nil ?_
            refine awp_ret ?_
            rw [all_bad h1 hil (bad_send hil hT hok hfo (by omega) (by omega)) (by omega)]
            exact ⟨Or.inr rfl, [_, _], ⟨.cell rfl ti64 (.whole rfl rfl rfl rfl rfl rfl) (.t _), .tmp (.t _), trivial⟩, (by repeat' first | exact trivial | exact Wk.refl _ | exact Wk.sl _ | refine And.intro ?_ ?_ | refine Wk.tupP ?_ | refine Wk.aggP ?_)⟩
          · try simp only [cl] at h5
            refine awp_skip ?_
            refine awp_rw rfl ?_
            refine RW.op rfl rfl (eff_load rfl rfl ti64 rfl (.whole rfl rfl rfl rfl rfl rfl)) ?_
            refine RW.store rfl rfl (eff_storeW (v := .t _) (els := [_]) (els' := [_]) rfl rfl ti64 rfl rfl rfl rfl rfl rfl rfl rfl rfl) ?_
            refine RW.nil ?_
            refine awp_rw rfl ?_
            refine RW.op rfl rfl (eff_iop rfl rfl rfl rfl (iadd (by omega))) ?_
            refine mvT ?_
            refine RW.nil ?_
            refine ⟨_, ?_, _, weak_keep (n := 63) (fr' := [(0, .t (.sl (l.map encC) false)), (1, .t (.fn vis [])), (4, .ptr 4 0 0 0), (6, .ptr 6 0 0 0), (17, .t (.sl (l.map encC) false)), (18, .t (encI (l.length : Nat))), (19, .t (encI ((i + 1) : Nat))), (64, .t deT)]) (st' := [(4, some ⟨2, 64, 0, [.t z64]⟩), (6, some ⟨2, 64, 0, [.t (encT _)]⟩)]) ⟨rfl, rfl, rfl, rfl, rfl, rfl, rfl, rfl, rfl, rfl, rfl, rfl, rfl, rfl, rfl, rfl, trivial⟩ ⟨rfl, okE_one rfl, rfl, okE_one rfl, trivial⟩, i + 1, _, (by omega), (by first | rw [run_send hil hT hok hfo (by omega) (by omega)] | rw [run_hear hil hT hok hfo (by omega) (by omega)] | rw [run_dec hil hT hok hfo (by omega) (by omega)]), (by first | rw [run_send hil hT hok hfo (by omega) (by omega)] | rw [run_hear hil hT hok hfo (by omega) (by omega)] | rw [run_dec hil hT hok hfo (by omega) (by omega)]), rfl, rfl⟩
            omega
        · try simp only [cl] at h4
          refine awp_seq ?_
          refine awp_rw rfl ?_
          refine ioT ?_
          refine asT ?_
          refine RW.nil ?_
          refine awp_cond rfl (fun h6 => ?_) (fun h6 => ?_)
          · try simp only [cl] at h6
            refine awp_rw rfl ?_
            refine RW.op rfl rfl (eff_load rfl rfl ti64 rfl (.whole rfl rfl rfl rfl rfl rfl)) ?_
            refine faT tf47_3 ?_
            refine RW.op rfl rfl (eff_loadS (ys := [_, _, _, _]) rfl rfl ti23 rfl rfl rfl rfl rfl rfl) ?_
            refine RW.op rfl rfl (eff_callXT (thear_ret T _ (hO.hp _ (List.getElem_mem hil)) (by have := hFit.len; omega) (by have := hFit.sl; omega) hFit.bod) co64 rfl rfl rfl ⟨rfl, trivial⟩ rfl) ?_
            refine mvT ?_
            refine RW.op rfl rfl (eff_extract rfl rfl rfl rfl) ?_
            refine RW.op rfl rfl (eff_extract rfl rfl rfl rfl) ?_
            refine RW.store rfl rfl (eff_storeW (v := .t _) (els := [_]) (els' := [_]) rfl rfl ti64 rfl rfl rfl rfl rfl rfl rfl rfl rfl) ?_
            refine asT ?_
            refine RW.nil ?_
            refine awp_seq ?_
            refine awp_seq ?_
            refine awp_rw rfl ?_
            refine mvT ?_
            refine ioT ?_
            refine RW.nil ?_
            refine awp_cond rfl (fun h7 => ?_) (fun h7 => ?_)
            · try simp only [cl] at h7
              refine awp_seq ?_
              refine awp_rw rfl ?_
              refine RW.op rfl rfl (eff_buildT (ys := [_, _]) rfl rfl tz64 tg64 rfl) ?_
              refine mvT ?_
              refine RW.store rfl rfl (eff_storeW (v := .t _) (els := [_]) (els' := [_]) rfl rfl ti64 rfl rfl rfl rfl rfl rfl rfl rfl rfl) ?_
              refine asT ?_
              refine RW.nil ?_
              refine awp_ret ?_
              rw [all_bad h1 hil (bad_hear hil hT hok hfo (by omega) (by omega)) (by omega)]
              exact ⟨Or.inr rfl, [_, _], ⟨.cell rfl ti64 (.whole rfl rfl rfl rfl rfl rfl) (.t _), .tmp (.t _), trivial⟩, (by repeat' first | exact trivial | exact Wk.refl _ | exact Wk.sl _ | refine And.intro ?_ ?_ | refine Wk.tupP ?_ | refine Wk.aggP ?_)⟩
            · try simp only [cl] at h7
              refine awp_skip ?_
              refine awp_rw rfl ?_
              refine RW.op rfl rfl (eff_load rfl rfl ti64 rfl (.whole rfl rfl rfl rfl rfl rfl)) ?_
              refine RW.store rfl rfl (eff_storeW (v := .t _) (els := [_]) (els' := [_]) rfl rfl ti64 rfl rfl rfl rfl rfl rfl rfl rfl rfl) ?_
              refine RW.nil ?_
              refine awp_rw rfl ?_
              refine RW.op rfl rfl (eff_iop rfl rfl rfl rfl (iadd (by omega))) ?_
              refine mvT ?_
              refine RW.nil ?_
              refine ⟨_, ?_, _, weak_keep (n := 63) (fr' := [(0, .t (.sl (l.map encC) false)), (1, .t (.fn vis [])), (4, .ptr 4 0 0 0), (6, .ptr 6 0 0 0), (17, .t (.sl (l.map encC) false)), (18, .t (encI (l.length : Nat))), (19, .t (encI ((i + 1) : Nat))), (64, .t deT)]) (st' := [(4, some ⟨2, 64, 0, [.t z64]⟩), (6, some ⟨2, 64, 0, [.t (encT _)]⟩)]) ⟨rfl, rfl, rfl, rfl, rfl, rfl, rfl, rfl, rfl, rfl, rfl, rfl, rfl, rfl, rfl, rfl, trivial⟩ ⟨rfl, okE_one rfl, rfl, okE_one rfl, trivial⟩, i + 1, _, (by omega), (by first | rw [run_send hil hT hok hfo (by omega) (by omega)] | rw [run_hear hil hT hok hfo (by omega) (by omega)] | rw [run_dec hil hT hok hfo (by omega) (by omega)]), (by first | rw [run_send hil hT hok hfo (by omega) (by omega)] | rw [run_hear hil hT hok hfo (by omega) (by omega)] | rw [run_dec hil hT hok hfo (by omega) (by omega)]), rfl, rfl⟩
              omega
          · try simp only [cl] at h6
            refine awp_skip ?_
            refine awp_seq ?_
            refine awp_seq ?_
            refine awp_rw rfl ?_
            refine mvT ?_
            refine ioT ?_
            refine RW.nil ?_
            refine awp_cond rfl (fun h8 => ?_) (fun h8 => ?_)
            · try simp only [cl] at h8
              refine awp_seq ?_
              refine awp_rw rfl ?_
              refine RW.op rfl rfl (eff_buildT (ys := [_, _]) rfl rfl tz64 tg64 rfl) ?_
              refine mvT ?_
              refine RW.store rfl rfl (eff_storeW (v := .t _) (els := [_]) (els' := [_]) rfl rfl ti64 rfl rfl rfl rfl rfl rfl rfl rfl rfl) ?_
              refine asT ?_
              refine RW.nil ?_
              refine awp_ret ?_
              exact absurd trivial ‹¬ True›
            · try simp only [cl] at h8
              refine awp_skip ?_
              refine awp_rw rfl ?_
              refine RW.op rfl rfl (eff_load rfl rfl ti64 rfl (.whole rfl rfl rfl rfl rfl rfl)) ?_
              refine RW.store rfl rfl (eff_storeW (v := .t _) (els := [_]) (els' := [_]) rfl rfl ti64 rfl rfl rfl rfl rfl rfl rfl rfl rfl) ?_
              refine RW.nil ?_
              refine awp_rw rfl ?_
              refine RW.op rfl rfl (eff_iop rfl rfl rfl rfl (iadd (by omega))) ?_
              refine mvT ?_
              refine RW.nil ?_
              refine ⟨_, ?_, _, weak_keep (n := 63) (fr' := [(0, .t (.sl (l.map encC) false)), (1, .t (.fn vis [])), (4, .ptr 4 0 0 0), (6, .ptr 6 0 0 0), (17, .t (.sl (l.map encC) false)), (18, .t (encI (l.length : Nat))), (19, .t (encI ((i + 1) : Nat))), (64, .t deT)]) (st' := [(4, some ⟨2, 64, 0, [.t z64]⟩), (6, some ⟨2, 64, 0, [.t (encT _)]⟩)]) ⟨rfl, rfl, rfl, rfl, rfl, rfl, rfl, rfl, rfl, rfl, rfl, rfl, rfl, rfl, rfl, rfl, trivial⟩ ⟨rfl, okE_one rfl, rfl, okE_one rfl, trivial⟩, i + 1, _, (by omega), (by first | rw [run_send hil hT hok hfo (by omega) (by omega)] | rw [run_hear hil hT hok hfo (by omega) (by omega)] | rw [run_dec hil hT hok hfo (by omega) (by omega)]), (by first | rw [run_send hil hT hok hfo (by omega) (by omega)] | rw [run_hear hil hT hok hfo (by omega) (by omega)] | rw [run_dec hil hT hok hfo (by omega) (by omega)]), rfl, rfl⟩
              omega
    · try simp only [cl] at h2
      refine awp_exit ?_
      refine awp_seq ?_
      refine awp_rw rfl ?_
      refine RW.op rfl rfl (eff_load rfl rfl ti64 rfl (.whole rfl rfl rfl rfl rfl rfl)) ?_
      refine RW.store rfl rfl (eff_storeW (v := .t _) (els := [_]) (els' := [_]) rfl rfl ti64 rfl rfl rfl rfl rfl rfl rfl rfl rfl) ?_
      refine asT ?_
      refine RW.nil ?_
      refine awp_ret ?_
      have hi2 : i = l.length := by omega
      subst hi2
      rw [all_ok h1 hok, ← hT]
      exact ⟨Or.inr rfl, [_, _], ⟨.cell rfl ti64 (.whole rfl rfl rfl rfl rfl rfl) (.t _), .tmp (.t _), trivial⟩, (by repeat' first | exact trivial | exact Wk.refl _ | exact Wk.sl _ | refine And.intro ?_ ?_ | refine Wk.tupP ?_ | refine Wk.aggP ?_)⟩

theorem vis47_ret (i : Nat) (T : Twn) : Ret Tryd.prog 47 [encI (i : Nat), encT T] (.tup []) := by
  refine ret_of_awp Tryd.func47 rfl (Nat.le_of_ble_eq_true rfl) ?_
  refine awp_rw rfl ?_
  refine RW.new rfl rfl (eff_boxK (v := .t _) (k := 2) (id := 3) rfl rfl rfl rfl rfl rfl) ?_
  refine RW.nil ?_
  exact ⟨Or.inl rfl, [], trivial, .refl _⟩

theorem vis48_ret (i : Nat) (T : Twn) : Ret Tryd.prog 48 [encI (i : Nat), encT T] (.tup []) := by
  refine ret_of_awp Tryd.func48 rfl (Nat.le_of_ble_eq_true rfl) ?_
  refine awp_rw rfl ?_
  refine RW.new rfl rfl (eff_boxK (v := .t _) (k := 2) (id := 3) rfl rfl rfl rfl rfl rfl) ?_
  refine RW.nil ?_
  exact ⟨Or.inl rfl, [], trivial, .refl _⟩

theorem check_ret (l : List Rcd) (hO : OKL l) : RetT Tryd.prog 27 [(1, deT)] [.sl (l.map encC) false] (encI (allOf l).2) := by
  refine retT_of_awp Tryd.func27 rfl (Nat.le_of_ble_eq_true rfl) ?_
  refine awp_seq ?_
  refine awp_rw rfl ?_
  refine asT ?_
  refine RW.nil ?_
  refine awp_seq ?_
  refine awp_rw rfl ?_
  refine mvT ?_
  refine RW.op rfl rfl (eff_callXT (replay0_ret 47 l hO vis47_ret co47) co38 rfl rfl rfl ⟨rfl, trivial⟩ rfl) ?_
  refine mvT ?_
  refine RW.op rfl rfl (eff_extract rfl rfl rfl rfl) ?_
  refine RW.op rfl rfl (eff_extract rfl rfl rfl rfl) ?_
  refine RW.new rfl rfl (eff_allocK (k := 2) (id := 3) rfl rfl tz64 rfl rfl) ?_
  refine RW.store rfl rfl (eff_storeW (v := .t _) (els := [_]) (els' := [_]) rfl rfl ti64 rfl rfl rfl rfl rfl rfl rfl rfl rfl) ?_
  refine asT ?_
  refine RW.nil ?_
  refine awp_seq ?_
  refine awp_rw rfl ?_
  refine mvT ?_
  refine asT ?_
  refine RW.nil ?_
  refine awp_ret ?_
  exact ⟨Or.inr rfl, [_], ⟨.tmp (.t _), trivial⟩, .refl _⟩

theorem known_ret (l : List Rcd) (t : Int) (hO : OKL l) : RetT Tryd.prog 28 [(1, deT)] [.sl (l.map encC) false, encI t] (.tup [encT (known l t).1, encI (known l t).2]) := by
  refine retT_of_awp Tryd.func28 rfl (Nat.le_of_ble_eq_true rfl) ?_
  refine awp_seq ?_
  refine awp_rw rfl ?_
  refine RW.new rfl rfl (eff_allocK (k := 2) (id := 4) rfl rfl tz64 rfl rfl) ?_
  refine asT ?_
  refine RW.nil ?_
  refine awp_seq ?_
  refine awp_seq ?_
  refine awp_rw rfl ?_
  refine mvT ?_
  refine RW.op rfl rfl (eff_callXT (check_ret l hO) co27 rfl rfl rfl ⟨rfl, trivial⟩ rfl) ?_
  refine asT ?_
  refine RW.nil ?_
  refine awp_seq ?_
  refine awp_rw rfl ?_
  refine mvT ?_
  refine ioT ?_
  refine RW.nil ?_
  refine awp_cond rfl (fun h1 => ?_) (fun h1 => ?_)
  · try simp only [cl] at h1
    refine awp_seq ?_
    refine awp_rw rfl ?_
    refine RW.op rfl rfl (eff_buildT (ys := [_, _]) rfl rfl tz64 tg64 rfl) ?_
    refine mvT ?_
    refine RW.store rfl rfl (eff_storeW (v := .t _) (els := [_]) (els' := [_]) rfl rfl ti64 rfl rfl rfl rfl rfl rfl rfl rfl rfl) ?_
    refine asT ?_
    refine RW.nil ?_
    refine awp_ret ?_
    rw [known_bad (all_zt h1) h1]
    exact ⟨Or.inr rfl, [_, _], ⟨.cell rfl ti64 (.whole rfl rfl rfl rfl rfl rfl) (.t _), .tmp (.t _), trivial⟩, (by repeat' first | exact trivial | exact Wk.refl _ | exact Wk.sl _ | refine And.intro ?_ ?_ | refine Wk.tupP ?_ | refine Wk.aggP ?_)⟩
  · try simp only [cl] at h1
    refine awp_skip ?_
    refine awp_seq ?_
    refine awp_rw rfl ?_
    refine asT ?_
    refine RW.nil ?_
    refine awp_seq ?_
    refine awp_block ?_
    refine awp_loopW (fun m s => ∃ (n : Nat), (n ≤ l.length) ∧ (∀ r, r ∈ l.take n → r.tick ≤ t) ∧ m = l.length - n ∧ s = ⟨35, [(0, .t (.sl (l.map encC) false)), (1, .t (encI t)), (4, .ptr 4 0 0 0), (7, .t (encI (n : Nat))), (36, .t deT)], [(4, some ⟨2, 64, 0, [.t z64]⟩)]⟩) (_) (⟨_, weak_keep (n := 35) (fr' := [(0, .t (.sl (l.map encC) false)), (1, .t (encI t)), (4, .ptr 4 0 0 0), (7, .t (encI (0 : Nat))), (36, .t deT)]) (st' := [(4, some ⟨2, 64, 0, [.t z64]⟩)]) ⟨rfl, rfl, rfl, rfl, rfl, rfl, rfl, rfl, rfl, rfl, trivial⟩ ⟨rfl, okE_one rfl, trivial⟩, 0, (by omega), (by simp), rfl, rfl⟩) ?_
    rintro m s ⟨n, hn, ha, rfl, rfl⟩
    refine awp_seq ?_
    refine awp_seq ?_
    refine awp_rw rfl ?_
    have hlen := hO.len
    refine mvT ?_
    refine mvT ?_
    refine RW.op rfl rfl (eff_lenM rfl rfl te32 rfl) ?_
    refine ioT ?_
    refine mvT ?_
    refine RW.split 18 rfl (fun h2 => ?_) (fun h2 => ?_)
    · try simp only [cl] at h2
      refine RW.gop rfl rfl rfl rfl rfl rfl (eff_move (v := .t _) rfl rfl rfl) ?_
      refine RW.gop rfl rfl rfl rfl rfl rfl (eff_move (v := .t _) rfl rfl rfl) ?_
      refine RW.gop rfl rfl rfl rfl rfl rfl (eff_indexM rfl rfl te32 rfl rfl rfl (by first | assumption | exact List.getElem?_eq_getElem (by omega)) rfl (by decide)) ?_
      refine RW.gop rfl rfl rfl rfl rfl rfl (eff_fieldAddrT rfl rfl tf47_0 (by decide) rfl) ?_
      refine RW.gop rfl rfl rfl rfl rfl rfl (eff_loadT1 rfl rfl ti3 rfl rfl) ?_
      refine RW.gop rfl rfl rfl rfl rfl rfl (eff_move (v := .t _) rfl rfl rfl) ?_
      refine RW.gop rfl rfl rfl rfl rfl rfl (eff_iop rfl rfl rfl rfl rfl) ?_
      refine pkT ?_
      refine RW.nil ?_
      refine awp_cond rfl (fun h3 => ?_) (fun h3 => ?_)
      · try simp only [cl] at h3
        refine awp_skip ?_
        refine awp_block ?_
        refine awp_rw rfl ?_
        refine mvT ?_
        refine RW.op rfl rfl (eff_iop rfl rfl rfl rfl (iadd (by omega))) ?_
        refine asT ?_
        refine RW.nil ?_
        refine ⟨_, ?_, _, weak_keep (n := 35) (fr' := [(0, .t (.sl (l.map encC) false)), (1, .t (encI t)), (4, .ptr 4 0 0 0), (7, .t (encI ((n + 1) : Nat))), (36, .t deT)]) (st' := [(4, some ⟨2, 64, 0, [.t z64]⟩)]) ⟨rfl, rfl, rfl, rfl, rfl, rfl, rfl, rfl, rfl, rfl, trivial⟩ ⟨rfl, okE_one rfl, trivial⟩, n + 1, (by omega), (by intro r hr; rcases (mem_take_succ (by omega)).1 hr with h | h; exact ha r h; rw [h]; assumption), rfl, rfl⟩
        omega
      · try simp only [cl] at h3
        refine awp_exit ?_
        refine awp_seq ?_
        refine awp_rw rfl ?_
        refine mvT ?_
        refine mvT ?_
        refine RW.op rfl rfl (eff_sliceM (g := encC) (l := none) (h := some n) (r := l.take n) rfl rfl te32 rfl (fun _ => rfl) .no (.yes rfl rfl) (Nat.zero_le _) (by simp; omega) (by simp)) ?_
        refine RW.op rfl rfl (eff_callXT (replay0_ret 48 (l.take n) (hO.take n) vis48_ret co48) co38 rfl rfl rfl ⟨rfl, trivial⟩ rfl) ?_
        refine RW.op rfl rfl (eff_extract rfl rfl rfl rfl) ?_
        refine RW.op rfl rfl (eff_extract rfl rfl rfl rfl) ?_
        refine RW.store rfl rfl (eff_storeW (v := .t _) (els := [_]) (els' := [_]) rfl rfl ti64 rfl rfl rfl rfl rfl rfl rfl rfl rfl) ?_
        refine asT ?_
        refine RW.nil ?_
        refine awp_ret ?_
        have hup : upTo l t = n := upTo_eq hn ha (fun h => by first | (exfalso; omega) | assumption)
        have hal : (allOf l).2 = 0 := by omega
        rw [known_ok hal, hup, ← all_take hal hn]
        exact ⟨Or.inr rfl, [_, _], ⟨.cell rfl ti64 (.whole rfl rfl rfl rfl rfl rfl) (.t _), .tmp (.t _), trivial⟩, .refl _⟩
    · try simp only [cl] at h2
      refine gkT ?_
      refine gkT ?_
      refine gkT ?_
      refine gkT ?_
      refine gkT ?_
      refine gkT ?_
      refine gkT ?_
      refine pkT ?_
      refine RW.nil ?_
      refine awp_cond rfl (fun h => nomatch h) (fun _ => ?_)
      refine awp_exit ?_
      refine awp_seq ?_
      refine awp_rw rfl ?_
      refine mvT ?_
      refine mvT ?_
      refine RW.op rfl rfl (eff_sliceM (g := encC) (l := none) (h := some n) (r := l.take n) rfl rfl te32 rfl (fun _ => rfl) .no (.yes rfl rfl) (Nat.zero_le _) (by simp; omega) (by simp)) ?_
      refine RW.op rfl rfl (eff_callXT (replay0_ret 48 (l.take n) (hO.take n) vis48_ret co48) co38 rfl rfl rfl ⟨rfl, trivial⟩ rfl) ?_
      refine RW.op rfl rfl (eff_extract rfl rfl rfl rfl) ?_
      refine RW.op rfl rfl (eff_extract rfl rfl rfl rfl) ?_
      refine RW.store rfl rfl (eff_storeW (v := .t _) (els := [_]) (els' := [_]) rfl rfl ti64 rfl rfl rfl rfl rfl rfl rfl rfl rfl) ?_
      refine asT ?_
      refine RW.nil ?_
      refine awp_ret ?_
      have hup : upTo l t = n := upTo_eq hn ha (fun h => by first | (exfalso; omega) | assumption)
      have hal : (allOf l).2 = 0 := by omega
      rw [known_ok hal, hup, ← all_take hal hn]
      exact ⟨Or.inr rfl, [_, _], ⟨.cell rfl ti64 (.whole rfl rfl rfl rfl rfl rfl) (.t _), .tmp (.t _), trivial⟩, .refl _⟩

end Go.Tv.C36

end
section
open Go Go.Tv Go.Proofs
namespace Go.Tv.C36
set_option maxRecDepth 20000
set_option maxHeartbeats 2000000
set_option linter.unusedSimpArgs false
set_option linter.unusedVariables false
theorem dvis_t (l : List Rcd) (d : Dec) (i : Nat) (T : Twn) (ys : List Tr) (fl : Bool) (hi : i < l.length) (hl : l.length ≤ 1000000) : RetK Tryd.prog 65 [(1007, some ⟨1, 4, 0, [.t (.bool true)]⟩), (1002, some ⟨1, 32, 0, [.t (.sl (l.map encC) false)]⟩), (1003, some ⟨4, 28, 0, [.t (encD d)]⟩), (1006, some ⟨1, 33, 0, [.t (.sl ys fl)]⟩)] [.t (encI (i : Nat)), .t (encT T), .ptr 1007 0 0 0, .ptr 1002 0 0 0, .ptr 1003 0 0 0, .ptr 1006 0 0 0] [(1007, some ⟨1, 4, 0, [.t (.bool true)]⟩), (1002, some ⟨1, 32, 0, [.t (.sl (l.map encC) false)]⟩), (1003, some ⟨4, 28, 0, [.t (encD d)]⟩), (1006, some ⟨1, 33, 0, [.t (.sl ys fl)]⟩)] (.tup []) [(2, .ptr 1007 0 0 0), (3, .ptr 1002 0 0 0), (4, .ptr 1003 0 0 0), (5, .ptr 1006 0 0 0)] := by
  refine retK_of_awj (kp := fun i => Nat.beq i 2 || Nat.beq i 3 || Nat.beq i 4 || Nat.beq i 5) Tryd.func65 rfl (Nat.le_of_ble_eq_true rfl) (by simp) ?_
  intro F0 w0
  refine awj_seq ?_
  refine awj_rj rfl ?_
  refine RJ.new rfl rfl (eff_boxK (v := .t _) (k := 2) (id := 7) rfl rfl rfl rfl rfl rfl) ?_
  refine RJ.nil ?_
  refine awj_seq ?_
  refine awj_rd [(some 8, []), (some 9, []), (some 10, []), (some 11, []), (some 12, []), (some 13, []), (some 14, []), (some 15, []), (some 16, []), (some 17, []), (some 18, []), (some 19, []), (some 20, []), (some 21, []), (some 22, []), (some 23, []), (some 24, []), (some 25, []), (some 26, [])] [[], [0], [0, 1], [0, 1, 2], [0, 1, 2], [0, 1, 2, 3, 4], [0, 1, 2, 3, 4, 5], [0, 1, 2, 3, 4, 5, 6], [0, 1, 2, 3, 4, 5, 6, 7], [0, 1, 2, 3, 4, 5, 6, 7, 8], [0, 1, 2, 3, 4, 5, 6, 7, 8, 9], [0, 1, 2, 3, 4, 5, 6, 7, 8, 9, 10], [0, 1, 2, 3, 4, 5, 6, 7, 8, 9, 10], [0, 1, 2, 3, 4, 5, 6, 7, 8, 9, 10, 11, 12], [0, 1, 2, 3, 4, 5, 6, 7, 8, 9, 10, 11, 12, 13], [0, 1, 2, 3, 4, 5, 6, 7, 8, 9, 10, 11, 12, 13, 14], [0, 1, 2, 3, 4, 5, 6, 7, 8, 9, 10], [0, 1, 2, 3, 4, 5, 6, 7, 8, 9, 10, 11, 12, 13, 14, 15, 16], [0, 1, 2, 3, 4, 5, 6, 7, 8, 9, 10, 11, 12, 13, 14, 15, 16, 17]] tm rfl rfl rfl rfl ?_
  refine RD.op rfl rfl rfl (eff_load (y := .t _) rfl rfl ti4 rfl (.one rfl rfl rfl rfl)) ?_
  refine RD.op rfl rfl rfl (eff_unop rfl rfl rfl rfl) ?_
  refine mvD ?_
  refine gkD ?_
  refine gkD ?_
  refine gkD ?_
  refine gkD ?_
  refine gkD ?_
  refine gkD ?_
  refine RD.op rfl rfl rfl (eff_pick (v := .t _) rfl rfl rfl rfl) ?_
  refine mvD ?_
  refine gkD ?_
  refine gkD ?_
  refine gkD ?_
  refine gkD ?_
  refine gkD ?_
  refine gkD ?_
  refine gkD ?_
  refine RD.op rfl rfl rfl (eff_pick (v := .t _) rfl rfl rfl rfl) ?_
  refine RD.nil ?_
  refine awj_cond rfl (fun h => nomatch h) (fun _ => ?_)
  refine awj_skip ?_
  exact ⟨Or.inl rfl, [], [], trivial, rfl, weak_keep ⟨rfl, rfl, rfl, rfl, rfl, rfl, rfl, rfl, trivial⟩ ⟨rfl, okE_one rfl, rfl, okE_one rfl, rfl, okE_one rfl, rfl, okE_one rfl, trivial⟩, rfl⟩

theorem dvis_n (l : List Rcd) (d : Dec) (i : Nat) (T : Twn) (ys : List Tr) (fl : Bool) (hi : i < l.length) (hl : l.length ≤ 1000000) (hn : isD l d i = false) : RetK Tryd.prog 65 [(1007, some ⟨1, 4, 0, [.t (.bool false)]⟩), (1002, some ⟨1, 32, 0, [.t (.sl (l.map encC) false)]⟩), (1003, some ⟨4, 28, 0, [.t (encD d)]⟩), (1006, some ⟨1, 33, 0, [.t (.sl ys fl)]⟩)] [.t (encI (i : Nat)), .t (encT T), .ptr 1007 0 0 0, .ptr 1002 0 0 0, .ptr 1003 0 0 0, .ptr 1006 0 0 0] [(1007, some ⟨1, 4, 0, [.t (.bool false)]⟩), (1002, some ⟨1, 32, 0, [.t (.sl (l.map encC) false)]⟩), (1003, some ⟨4, 28, 0, [.t (encD d)]⟩), (1006, some ⟨1, 33, 0, [.t (.sl ys fl)]⟩)] (.tup []) [(2, .ptr 1007 0 0 0), (3, .ptr 1002 0 0 0), (4, .ptr 1003 0 0 0), (5, .ptr 1006 0 0 0)] := by
  refine retK_of_awj (kp := fun i => Nat.beq i 2 || Nat.beq i 3 || Nat.beq i 4 || Nat.beq i 5) Tryd.func65 rfl (Nat.le_of_ble_eq_true rfl) (by simp) ?_
  intro F0 w0
  refine awj_seq ?_
  refine awj_rj rfl ?_
  refine RJ.new rfl rfl (eff_boxK (v := .t _) (k := 2) (id := 7) rfl rfl rfl rfl rfl rfl) ?_
  refine RJ.nil ?_
  refine awj_seq ?_
  by_cases hc1 : (l[i]'hi).kind = 3
  · refine awj_rd [(some 8, []), (some 9, []), (some 10, []), (some 11, []), (some 12, []), (some 13, []), (some 14, []), (some 15, []), (some 16, []), (some 17, []), (some 18, []), (some 19, []), (some 20, []), (some 21, []), (some 22, []), (some 23, []), (some 24, []), (some 25, []), (some 26, [])] [[], [0], [0, 1], [0, 1, 2], [0, 1, 2], [0, 1, 2, 3, 4], [0, 1, 2, 3, 4, 5], [0, 1, 2, 3, 4, 5, 6], [0, 1, 2, 3, 4, 5, 6, 7], [0, 1, 2, 3, 4, 5, 6, 7, 8], [0, 1, 2, 3, 4, 5, 6, 7, 8, 9], [0, 1, 2, 3, 4, 5, 6, 7, 8, 9, 10], [0, 1, 2, 3, 4, 5, 6, 7, 8, 9, 10], [0, 1, 2, 3, 4, 5, 6, 7, 8, 9, 10, 11, 12], [0, 1, 2, 3, 4, 5, 6, 7, 8, 9, 10, 11, 12, 13], [0, 1, 2, 3, 4, 5, 6, 7, 8, 9, 10, 11, 12, 13, 14], [0, 1, 2, 3, 4, 5, 6, 7, 8, 9, 10], [0, 1, 2, 3, 4, 5, 6, 7, 8, 9, 10, 11, 12, 13, 14, 15, 16], [0, 1, 2, 3, 4, 5, 6, 7, 8, 9, 10, 11, 12, 13, 14, 15, 16, 17]] tm rfl rfl rfl rfl ?_
    refine RD.op rfl rfl rfl (eff_load (y := .t _) rfl rfl ti4 rfl (.one rfl rfl rfl rfl)) ?_
    refine RD.op rfl rfl rfl (eff_unop rfl rfl rfl rfl) ?_
    refine mvD ?_
    refine RD.gop rfl rfl rfl rfl rfl rfl rfl (eff_load (y := .t _) rfl rfl ti32 rfl (.one rfl rfl rfl rfl)) ?_
    refine RD.gop rfl rfl rfl rfl rfl rfl rfl (eff_move (v := .t _) rfl rfl rfl) ?_
    refine RD.gop rfl rfl rfl rfl rfl rfl rfl (eff_indexM rfl rfl te32 rfl rfl rfl (by first | assumption | exact List.getElem?_eq_getElem (by omega)) rfl (by decide)) ?_
    refine RD.gop rfl rfl rfl rfl rfl rfl rfl (eff_fieldAddrT rfl rfl tf47_1 (by decide) rfl) ?_
    refine RD.gop rfl rfl rfl rfl rfl rfl rfl (eff_loadT1 rfl rfl ti3 rfl rfl) ?_
    refine RD.gop rfl rfl rfl rfl rfl rfl rfl (eff_iop (r := .bool true) rfl rfl rfl rfl (by simp [iop, hc1])) ?_
    refine RD.op rfl rfl rfl (eff_pick (v := .t _) rfl rfl rfl rfl) ?_
    refine mvD ?_
    refine RD.gop rfl rfl rfl rfl rfl rfl rfl (eff_load (y := .t _) rfl rfl ti32 rfl (.one rfl rfl rfl rfl)) ?_
    refine RD.gop rfl rfl rfl rfl rfl rfl rfl (eff_move (v := .t _) rfl rfl rfl) ?_
    refine RD.gop rfl rfl rfl rfl rfl rfl rfl (eff_indexM (i := i) rfl rfl te32 rfl rfl (by first | rfl | omega) (by first | assumption | exact List.getElem?_eq_getElem (by omega)) rfl (by decide)) ?_
    refine RD.gop rfl rfl rfl rfl rfl rfl rfl (eff_fieldAddrT rfl rfl tf47_4 (by decide) rfl) ?_
    refine RD.gop rfl rfl rfl rfl rfl rfl rfl (eff_loadT (ys := [_, _, _, _]) rfl rfl ti28 rfl rfl rfl) ?_
    refine RD.gop rfl rfl rfl rfl rfl rfl rfl (eff_load rfl rfl ti28 rfl (.whole rfl rfl rfl rfl rfl rfl)) ?_
    refine RD.gop rfl rfl rfl rfl rfl rfl rfl (eff_structEqlAB (cells := cellsD) (a := (l[i]'hi).dec) (b := d) (r := false) rfl rfl ts28s ti28 th28 cellsD_inj cellsD_kind rfl rfl (decide_eq_false (fun hd => by rw [isD_at hi, decide_eq_true ⟨hc1, hd⟩] at hn; cases hn))) ?_
    refine RD.op rfl rfl rfl (eff_pick (v := .t _) rfl rfl rfl rfl) ?_
    refine RD.nil ?_
    refine awj_cond rfl (fun h => nomatch h) (fun _ => ?_)
    refine awj_skip ?_
    exact ⟨Or.inl rfl, [], [], trivial, rfl, weak_keep ⟨rfl, rfl, rfl, rfl, rfl, rfl, rfl, rfl, trivial⟩ ⟨rfl, okE_one rfl, rfl, okE_one rfl, rfl, okE_one rfl, rfl, okE_one rfl, trivial⟩, rfl⟩
  · refine awj_rd [(some 8, []), (some 9, []), (some 10, []), (some 11, []), (some 12, []), (some 13, []), (some 14, []), (some 15, []), (some 16, []), (some 17, []), (some 18, []), (some 19, []), (some 20, []), (some 21, []), (some 22, []), (some 23, []), (some 24, []), (some 25, []), (some 26, [])] [[], [0], [0, 1], [0, 1, 2], [0, 1, 2], [0, 1, 2, 3, 4], [0, 1, 2, 3, 4, 5], [0, 1, 2, 3, 4, 5, 6], [0, 1, 2, 3, 4, 5, 6, 7], [0, 1, 2, 3, 4, 5, 6, 7, 8], [0, 1, 2, 3, 4, 5, 6, 7, 8, 9], [0, 1, 2, 3, 4, 5, 6, 7, 8, 9, 10], [0, 1, 2, 3, 4, 5, 6, 7, 8, 9, 10], [0, 1, 2, 3, 4, 5, 6, 7, 8, 9, 10, 11, 12], [0, 1, 2, 3, 4, 5, 6, 7, 8, 9, 10, 11, 12, 13], [0, 1, 2, 3, 4, 5, 6, 7, 8, 9, 10, 11, 12, 13, 14], [0, 1, 2, 3, 4, 5, 6, 7, 8, 9, 10], [0, 1, 2, 3, 4, 5, 6, 7, 8, 9, 10, 11, 12, 13, 14, 15, 16], [0, 1, 2, 3, 4, 5, 6, 7, 8, 9, 10, 11, 12, 13, 14, 15, 16, 17]] tm rfl rfl rfl rfl ?_
    refine RD.op rfl rfl rfl (eff_load (y := .t _) rfl rfl ti4 rfl (.one rfl rfl rfl rfl)) ?_
    refine RD.op rfl rfl rfl (eff_unop rfl rfl rfl rfl) ?_
    refine mvD ?_
    refine RD.gop rfl rfl rfl rfl rfl rfl rfl (eff_load (y := .t _) rfl rfl ti32 rfl (.one rfl rfl rfl rfl)) ?_
    refine RD.gop rfl rfl rfl rfl rfl rfl rfl (eff_move (v := .t _) rfl rfl rfl) ?_
    refine RD.gop rfl rfl rfl rfl rfl rfl rfl (eff_indexM rfl rfl te32 rfl rfl rfl (by first | assumption | exact List.getElem?_eq_getElem (by omega)) rfl (by decide)) ?_
    refine RD.gop rfl rfl rfl rfl rfl rfl rfl (eff_fieldAddrT rfl rfl tf47_1 (by decide) rfl) ?_
    refine RD.gop rfl rfl rfl rfl rfl rfl rfl (eff_loadT1 rfl rfl ti3 rfl rfl) ?_
    refine RD.gop rfl rfl rfl rfl rfl rfl rfl (eff_iop (r := .bool false) rfl rfl rfl rfl (by simp [iop, hc1])) ?_
    refine RD.op rfl rfl rfl (eff_pick (v := .t _) rfl rfl rfl rfl) ?_
    refine mvD ?_
    refine gkD ?_
    refine gkD ?_
    refine gkD ?_
    refine gkD ?_
    refine gkD ?_
    refine gkD ?_
    refine gkD ?_
    refine RD.op rfl rfl rfl (eff_pick (v := .t _) rfl rfl rfl rfl) ?_
    refine RD.nil ?_
    refine awj_cond rfl (fun h => nomatch h) (fun _ => ?_)
    refine awj_skip ?_
    exact ⟨Or.inl rfl, [], [], trivial, rfl, weak_keep ⟨rfl, rfl, rfl, rfl, rfl, rfl, rfl, rfl, trivial⟩ ⟨rfl, okE_one rfl, rfl, okE_one rfl, rfl, okE_one rfl, rfl, okE_one rfl, trivial⟩, rfl⟩

theorem dvis_y (l : List Rcd) (d : Dec) (i : Nat) (T : Twn) (ys : List Tr) (fl : Bool) (hi : i < l.length) (hl : l.length ≤ 1000000) (hn : isD l d i = true) (hT : T = (runTo l i).1) (hF : Fit 12 T) (hq : ∀ r, r ∈ l → 0 ≤ r.frame.seq ∧ r.frame.seq ≤ 1000000) (hd : -2000000 ≤ d.seq ∧ d.seq ≤ 2000000) : RetK Tryd.prog 65 [(1007, some ⟨1, 4, 0, [.t (.bool false)]⟩), (1002, some ⟨1, 32, 0, [.t (.sl (l.map encC) false)]⟩), (1003, some ⟨4, 28, 0, [.t (encD d)]⟩), (1006, some ⟨1, 33, 0, [.t (.sl ys fl)]⟩)] [.t (encI (i : Nat)), .t (encT T), .ptr 1007 0 0 0, .ptr 1002 0 0 0, .ptr 1003 0 0 0, .ptr 1006 0 0 0] [(1007, some ⟨1, 4, 0, [.t (.bool true)]⟩), (1002, some ⟨1, 32, 0, [.t (.sl (l.map encC) false)]⟩), (1003, some ⟨4, 28, 0, [.t (encD d)]⟩), (1006, some ⟨1, 33, 0, [.t (.sl ((rightsAt l d i).map encR) false)]⟩)] (.tup []) [(2, .ptr 1007 0 0 0), (3, .ptr 1002 0 0 0), (4, .ptr 1003 0 0 0), (5, .ptr 1006 0 0 0)] := by
  have hk3 : (l[i]'hi).kind = 3 ∧ (l[i]'hi).dec = d := by
    rw [isD_at hi] at hn; exact of_decide_eq_true hn
  refine retK_of_awj (kp := fun i => Nat.beq i 2 || Nat.beq i 3 || Nat.beq i 4 || Nat.beq i 5) Tryd.func65 rfl (Nat.le_of_ble_eq_true rfl) (by simp) ?_
  intro F0 w0
  refine awj_seq ?_
  refine awj_rj rfl ?_
  refine RJ.new rfl rfl (eff_boxK (v := .t _) (k := 2) (id := 7) rfl rfl rfl rfl rfl rfl) ?_
  refine RJ.nil ?_
  refine awj_seq ?_
  refine awj_rd [(some 8, []), (some 9, []), (some 10, []), (some 11, []), (some 12, []), (some 13, []), (some 14, []), (some 15, []), (some 16, []), (some 17, []), (some 18, []), (some 19, []), (some 20, []), (some 21, []), (some 22, []), (some 23, []), (some 24, []), (some 25, []), (some 26, [])] [[], [0], [0, 1], [0, 1, 2], [0, 1, 2], [0, 1, 2, 3, 4], [0, 1, 2, 3, 4, 5], [0, 1, 2, 3, 4, 5, 6], [0, 1, 2, 3, 4, 5, 6, 7], [0, 1, 2, 3, 4, 5, 6, 7, 8], [0, 1, 2, 3, 4, 5, 6, 7, 8, 9], [0, 1, 2, 3, 4, 5, 6, 7, 8, 9, 10], [0, 1, 2, 3, 4, 5, 6, 7, 8, 9, 10], [0, 1, 2, 3, 4, 5, 6, 7, 8, 9, 10, 11, 12], [0, 1, 2, 3, 4, 5, 6, 7, 8, 9, 10, 11, 12, 13], [0, 1, 2, 3, 4, 5, 6, 7, 8, 9, 10, 11, 12, 13, 14], [0, 1, 2, 3, 4, 5, 6, 7, 8, 9, 10], [0, 1, 2, 3, 4, 5, 6, 7, 8, 9, 10, 11, 12, 13, 14, 15, 16], [0, 1, 2, 3, 4, 5, 6, 7, 8, 9, 10, 11, 12, 13, 14, 15, 16, 17]] tm rfl rfl rfl rfl ?_
  refine RD.op rfl rfl rfl (eff_load (y := .t _) rfl rfl ti4 rfl (.one rfl rfl rfl rfl)) ?_
  refine RD.op rfl rfl rfl (eff_unop rfl rfl rfl rfl) ?_
  refine mvD ?_
  refine RD.gop rfl rfl rfl rfl rfl rfl rfl (eff_load (y := .t _) rfl rfl ti32 rfl (.one rfl rfl rfl rfl)) ?_
  refine RD.gop rfl rfl rfl rfl rfl rfl rfl (eff_move (v := .t _) rfl rfl rfl) ?_
  refine RD.gop rfl rfl rfl rfl rfl rfl rfl (eff_indexM rfl rfl te32 rfl rfl rfl (by first | assumption | exact List.getElem?_eq_getElem (by omega)) rfl (by decide)) ?_
  refine RD.gop rfl rfl rfl rfl rfl rfl rfl (eff_fieldAddrT rfl rfl tf47_1 (by decide) rfl) ?_
  refine RD.gop rfl rfl rfl rfl rfl rfl rfl (eff_loadT1 rfl rfl ti3 rfl rfl) ?_
  refine RD.gop rfl rfl rfl rfl rfl rfl rfl (eff_iop (r := .bool true) rfl rfl rfl rfl (by simp [iop, hk3.1])) ?_
  refine RD.op rfl rfl rfl (eff_pick (v := .t _) rfl rfl rfl rfl) ?_
  refine mvD ?_
  refine RD.gop rfl rfl rfl rfl rfl rfl rfl (eff_load (y := .t _) rfl rfl ti32 rfl (.one rfl rfl rfl rfl)) ?_
  refine RD.gop rfl rfl rfl rfl rfl rfl rfl (eff_move (v := .t _) rfl rfl rfl) ?_
  refine RD.gop rfl rfl rfl rfl rfl rfl rfl (eff_indexM (i := i) rfl rfl te32 rfl rfl (by first | rfl | omega) (by first | assumption | exact List.getElem?_eq_getElem (by omega)) rfl (by decide)) ?_
  refine RD.gop rfl rfl rfl rfl rfl rfl rfl (eff_fieldAddrT rfl rfl tf47_4 (by decide) rfl) ?_
  refine RD.gop rfl rfl rfl rfl rfl rfl rfl (eff_loadT (ys := [_, _, _, _]) rfl rfl ti28 rfl rfl rfl) ?_
  refine RD.gop rfl rfl rfl rfl rfl rfl rfl (eff_load rfl rfl ti28 rfl (.whole rfl rfl rfl rfl rfl rfl)) ?_
  refine RD.gop rfl rfl rfl rfl rfl rfl rfl (eff_structEqlAB (cells := cellsD) (a := (l[i]'hi).dec) (b := d) (r := true) rfl rfl ts28s ti28 th28 cellsD_inj cellsD_kind rfl rfl (decide_eq_true hk3.2)) ?_
  refine RD.op rfl rfl rfl (eff_pick (v := .t _) rfl rfl rfl rfl) ?_
  refine RD.nil ?_
  refine awj_cond rfl (fun _ => ?_) (fun h => nomatch h)
  refine awj_rd [(some 27, []), (some 28, []), (some 29, []), (some 30, []), (some 31, []), (some 32, []), (some 33, []), (none, [1007]), (none, [1006])] [[], [], [], [], [2, 3], [2, 3, 4], [0, 1, 2, 3, 4, 5], [0, 1, 2, 3, 4, 5, 6], [0, 1, 2, 3, 4, 5, 6, 7]] tm rfl rfl rfl rfl ?_
  refine RD.op rfl rfl rfl (eff_load rfl rfl ti64 rfl (.whole rfl rfl rfl rfl rfl rfl)) ?_
  refine RD.op rfl rfl rfl (eff_load rfl rfl ti28 rfl (.whole rfl rfl rfl rfl rfl rfl)) ?_
  refine RD.op rfl rfl rfl (eff_load (y := .t _) rfl rfl ti32 rfl (.one rfl rfl rfl rfl)) ?_
  refine mvD ?_
  refine RD.op rfl rfl rfl (eff_sliceM (g := encC) (l := none) (h := some i) (r := l.take i) rfl rfl te32 rfl (fun _ => rfl) .no (.yes rfl rfl) (Nat.zero_le _) (by simp; omega) (by simp)) ?_
  refine RD.op rfl rfl rfl (eff_callT (sent_ret (l.take i) (by rw [List.length_take]; omega) (fun r hr => hq r (List.mem_of_mem_take hr))) co41 rfl rfl rfl rfl) ?_
  refine RD.op rfl rfl rfl (eff_callT (rights_ret T d _ hF.hp (fun y hy => (hF.nx y hy).mono (by decide)) hd (by have := hF.len; omega)) co40 rfl rfl rfl rfl) ?_
  refine RD.store rfl rfl rfl (eff_storeW (v := .t _) (els := [_]) (els' := [_]) rfl rfl ti4 rfl rfl rfl rfl rfl rfl rfl rfl rfl) ?_
  refine RD.store rfl rfl rfl (eff_storeW (v := .t _) (els := [_]) (els' := [_]) rfl rfl ti33 rfl rfl rfl rfl rfl rfl rfl rfl rfl) ?_
  refine RD.nil ?_
  rw [show rightsAt l d i = rights T d (sentN (l.take i)) from by rw [hT]; rfl]
  exact ⟨Or.inl rfl, [], [], trivial, rfl, weak_keep ⟨rfl, rfl, rfl, rfl, rfl, rfl, rfl, rfl, trivial⟩ ⟨rfl, okE_one rfl, rfl, okE_one rfl, rfl, okE_one rfl, rfl, okE_one rfl, trivial⟩, rfl⟩

theorem dvis_ret (l : List Rcd) (d : Dec) (i : Nat) (T : Twn) (hi : i < l.length) (hl : l.length ≤ 1000000) (hT : T = (runTo l i).1) (hF : Fit 12 T) (hq : ∀ r, r ∈ l → 0 ≤ r.frame.seq ∧ r.frame.seq ≤ 1000000) (hf : form l i = 0) :
    RetK Tryd.prog 65 [(1007, some ⟨1, 4, 0, [.t (.bool (fdN l d i))]⟩), (1002, some ⟨1, 32, 0, [.t (.sl (l.map encC) false)]⟩), (1003, some ⟨4, 28, 0, [.t (encD d)]⟩), (1006, some ⟨1, 33, 0, [.t (.sl ((outN l d i).map encR) (!fdN l d i))]⟩)] [.t (encI (i : Nat)), .t (encT T), .ptr 1007 0 0 0, .ptr 1002 0 0 0, .ptr 1003 0 0 0, .ptr 1006 0 0 0] [(1007, some ⟨1, 4, 0, [.t (.bool (fdN l d (i + 1)))]⟩), (1002, some ⟨1, 32, 0, [.t (.sl (l.map encC) false)]⟩), (1003, some ⟨4, 28, 0, [.t (encD d)]⟩), (1006, some ⟨1, 33, 0, [.t (.sl ((outN l d (i + 1)).map encR) (!fdN l d (i + 1)))]⟩)] (.tup []) [(2, .ptr 1007 0 0 0), (3, .ptr 1002 0 0 0), (4, .ptr 1003 0 0 0), (5, .ptr 1006 0 0 0)] := by
  cases h : fdN l d i with
  | true =>
    obtain ⟨e1, e2⟩ := fd_old h
    rw [e1, e2]
    exact dvis_t l d i T _ _ hi hl
  | false =>
    cases hn : isD l d i with
    | false =>
      obtain ⟨e1, e2⟩ := fd_no h hn
      rw [e1, e2]
      exact dvis_n l d i T _ _ hi hl hn
    | true =>
      obtain ⟨e1, e2⟩ := fd_yes h hn
      rw [e1, e2]
      have hk3 : (l[i]'hi).kind = 3 ∧ (l[i]'hi).dec = d := by
        rw [isD_at hi] at hn; exact of_decide_eq_true hn
      have := form_dec hi hf hk3.1
      rw [hk3.2] at this
      exact dvis_y l d i T _ _ hi hl hn hT hF hq (by omega)

end Go.Tv.C36

end
section
open Go Go.Tv Go.Proofs
namespace Go.Tv.C36
set_option maxRecDepth 20000
set_option maxHeartbeats 2000000
set_option linter.unusedSimpArgs false
set_option linter.unusedVariables false
theorem replay65_ret (l : List Rcd) (d : Dec) (hO : OKL l) : RetKT Tryd.prog 38 [(1, deT)] [(1007, some ⟨1, 4, 0, [.t (.bool (fdN l d 0))]⟩), (1002, some ⟨1, 32, 0, [.t (.sl (l.map encC) false)]⟩), (1003, some ⟨4, 28, 0, [.t (encD d)]⟩), (1006, some ⟨1, 33, 0, [.t (.sl ((outN l d 0).map encR) (!fdN l d 0))]⟩)] [.t (.sl (l.map encC) false), .fn 65 [.ptr 1007 0 0 0, .ptr 1002 0 0 0, .ptr 1003 0 0 0, .ptr 1006 0 0 0]] [(1007, some ⟨1, 4, 0, [.t (.bool (fdN l d (nvis l)))]⟩), (1002, some ⟨1, 32, 0, [.t (.sl (l.map encC) false)]⟩), (1003, some ⟨4, 28, 0, [.t (encD d)]⟩), (1006, some ⟨1, 33, 0, [.t (.sl ((outN l d (nvis l)).map encR) (!fdN l d (nvis l)))]⟩)] (.tup [.t (encT (allOf l).1), .t (encI (allOf l).2)]) [(1, .fn 65 [.ptr 1007 0 0 0, .ptr 1002 0 0 0, .ptr 1003 0 0 0, .ptr 1006 0 0 0])] := by
  refine retKT_of_awj (kp := fun i => Nat.beq i 1) Tryd.func38 rfl (Nat.le_of_ble_eq_true rfl) (by simp) ?_
  intro F0 w0
  refine awj_seq ?_
  refine awj_rj rfl ?_
  refine RJ.new rfl rfl (eff_allocK (k := 2) (id := 4) rfl rfl tz64 rfl rfl) ?_
  refine RJ.op rfl rfl (eff_assign (v := .t _) rfl rfl rfl) ?_
  refine RJ.nil ?_
  refine awj_seq ?_
  refine awj_seq ?_
  refine awj_rj rfl ?_
  refine RJ.op rfl rfl (eff_move (v := .t _) rfl rfl rfl) ?_
  refine RJ.op rfl rfl (eff_lenM rfl rfl te32 rfl) ?_
  refine RJ.op rfl rfl (eff_iop rfl rfl rfl rfl rfl) ?_
  refine RJ.nil ?_
  refine awj_cond rfl (fun h1 => ?_) (fun h1 => ?_)
  · try simp only [cl] at h1
    refine awj_seq ?_
    refine awj_rj rfl ?_
    refine RJ.op rfl rfl (eff_buildT (ys := [_, _]) rfl rfl tz64 tg64 rfl) ?_
    refine RJ.store rfl rfl (eff_storeW (v := .t _) (els := [_]) (els' := [_]) rfl rfl ti64 rfl rfl rfl rfl rfl rfl rfl rfl rfl) ?_
    refine RJ.op rfl rfl (eff_assign (v := .t _) rfl rfl rfl) ?_
    refine RJ.nil ?_
    refine awj_ret ?_
    rw [all_lim h1, nvis_lim h1]
    exact ⟨Or.inr rfl, [_, _], [.t (encT zt), .t _], ⟨.cell rfl ti64 (.whole rfl rfl rfl rfl rfl rfl), .tmp rfl, trivial⟩, rfl, Weak.trans (weak_slot 0 (y := encT zt) rfl (by repeat' first | exact trivial | exact Wk.refl _ | exact Wk.sl _ | refine And.intro ?_ ?_ | refine Wk.tupP ?_ | refine Wk.aggP ?_)) (weak_keep ⟨rfl, rfl, rfl, rfl, rfl, rfl, trivial⟩ ⟨rfl, okE_one rfl, rfl, okE_one rfl, rfl, okE_one rfl, rfl, okE_one rfl, trivial⟩), rfl⟩
  · try simp only [cl] at h1
    refine awj_skip ?_
    refine awj_seq ?_
    refine awj_rj rfl ?_
    refine RJ.op rfl rfl (eff_callT (new17_ret) co61 rfl rfl rfl rfl) ?_
    refine RJ.new rfl rfl (eff_allocK (k := 2) (id := 6) rfl rfl tz64 rfl rfl) ?_
    refine RJ.store rfl rfl (eff_storeW (v := .t _) (els := [_]) (els' := [_]) rfl rfl ti64 rfl rfl rfl rfl rfl rfl rfl rfl rfl) ?_
    refine RJ.nil ?_
    refine awj_seq ?_
    refine awj_seq ?_
    refine awj_rj rfl ?_
    refine RJ.op rfl rfl (eff_move (v := .t _) rfl rfl rfl) ?_
    refine RJ.op rfl rfl (eff_lenM rfl rfl te32 rfl) ?_
    refine RJ.op rfl rfl (eff_move (v := .t _) rfl rfl rfl) ?_
    refine RJ.nil ?_
    refine awj_block ?_
    refine awj_loopW (fun m s g => ∃ (i : Nat) (T : Twn), (i ≤ l.length) ∧ (T = (runTo l i).1) ∧ ((runTo l i).2 = 0) ∧ m = l.length - i ∧ s = ⟨63, [(0, .t (.sl (l.map encC) false)), (1, .fn 65 [.ptr 1007 0 0 0, .ptr 1002 0 0 0, .ptr 1003 0 0 0, .ptr 1006 0 0 0]), (4, .ptr 4 0 0 0), (6, .ptr 6 0 0 0), (17, .t (.sl (l.map encC) false)), (18, .t (encI (l.length : Nat))), (19, .t (encI (i : Nat))), (64, .t deT)], [(4, some ⟨2, 64, 0, [.t z64]⟩), (6, some ⟨2, 64, 0, [.t (encT T)]⟩), (1007, some ⟨1, 4, 0, [.t (.bool (fdN l d i))]⟩), (1002, some ⟨1, 32, 0, [.t (.sl (l.map encC) false)]⟩), (1003, some ⟨4, 28, 0, [.t (encD d)]⟩), (1006, some ⟨1, 33, 0, [.t (.sl ((outN l d i).map encR) (!fdN l d i))]⟩)]⟩) (_) (⟨_, weak_keep (n := 63) (fr' := [(0, .t (.sl (l.map encC) false)), (1, .fn 65 [.ptr 1007 0 0 0, .ptr 1002 0 0 0, .ptr 1003 0 0 0, .ptr 1006 0 0 0]), (4, .ptr 4 0 0 0), (6, .ptr 6 0 0 0), (17, .t (.sl (l.map encC) false)), (18, .t (encI (l.length : Nat))), (19, .t (encI (0 : Nat))), (64, .t deT)]) (st' := [(4, some ⟨2, 64, 0, [.t z64]⟩), (6, some ⟨2, 64, 0, [.t (encT newT)]⟩), (1007, some ⟨1, 4, 0, [.t (.bool (fdN l d 0))]⟩), (1002, some ⟨1, 32, 0, [.t (.sl (l.map encC) false)]⟩), (1003, some ⟨4, 28, 0, [.t (encD d)]⟩), (1006, some ⟨1, 33, 0, [.t (.sl ((outN l d 0).map encR) (!fdN l d 0))]⟩)]) ⟨rfl, rfl, rfl, rfl, rfl, rfl, rfl, rfl, rfl, rfl, rfl, rfl, rfl, rfl, rfl, rfl, trivial⟩ ⟨rfl, okE_one rfl, rfl, okE_one rfl, rfl, okE_one rfl, rfl, okE_one rfl, rfl, okE_one rfl, rfl, okE_one rfl, trivial⟩, 0, newT, (by omega), (by rfl), (by rfl), rfl, rfl⟩) ?_
    rintro m s g ⟨i, T, hi, hT, hok, rfl, rfl⟩
    refine awj_seq ?_
    refine awj_rj rfl ?_
    refine RJ.op rfl rfl (eff_iop rfl rfl rfl rfl rfl) ?_
    refine RJ.nil ?_
    refine awj_seq ?_
    refine awj_cond rfl (fun h2 => ?_) (fun h2 => ?_)
    · try simp only [cl] at h2
      refine awj_skip ?_
      refine awj_seq ?_
      refine awj_block ?_
      refine awj_seq ?_
      refine awj_rj rfl ?_
      have hil : i < l.length := by omega
      have hFit := runTo_fit12 hO (by omega) hok
      rw [← hT] at hFit
      refine RJ.op rfl rfl (eff_move (v := .t _) rfl rfl rfl) ?_
      refine RJ.op rfl rfl (eff_indexM rfl rfl te32 rfl rfl rfl (by first | assumption | exact List.getElem?_eq_getElem (by omega)) rfl (by decide)) ?_
      refine RJ.op rfl rfl (eff_loadW rfl rfl ti47 rfl rfl rfl) ?_
      refine RJ.new rfl rfl (eff_allocK (k := 15) (id := 8) rfl rfl tz47 rfl rfl) ?_
      refine RJ.op rfl rfl (eff_assign (v := .t _) rfl rfl rfl) ?_
      refine RJ.store rfl rfl (eff_storeW (v := .t _) (els := [_]) (els' := [_]) rfl rfl ti47 rfl rfl rfl rfl rfl rfl rfl rfl rfl) ?_
      refine RJ.nil ?_
      refine awj_seq ?_
      refine awj_seq ?_
      refine awj_rj rfl ?_
      refine RJ.op rfl rfl (eff_move (v := .t _) rfl rfl rfl) ?_
      refine RJ.op rfl rfl (eff_move (v := .t _) rfl rfl rfl) ?_
      refine RJ.op rfl rfl (eff_callT (form_ret l i hil (by have := hO.len; omega)) co62 rfl rfl rfl rfl) ?_
      refine RJ.op rfl rfl (eff_assign (v := .t _) rfl rfl rfl) ?_
      refine RJ.nil ?_
      refine awj_seq ?_
      refine awj_rj rfl ?_
      refine RJ.op rfl rfl (eff_move (v := .t _) rfl rfl rfl) ?_
      refine RJ.op rfl rfl (eff_iop rfl rfl rfl rfl rfl) ?_
      refine RJ.nil ?_
      refine awj_cond rfl (fun h3 => ?_) (fun h3 => ?_)
      · try simp only [cl] at h3
        refine awj_seq ?_
        refine awj_rj rfl ?_
        refine RJ.op rfl rfl (eff_buildT (ys := [_, _]) rfl rfl tz64 tg64 rfl) ?_
        refine RJ.op rfl rfl (eff_move (v := .t _) rfl rfl rfl) ?_
        refine RJ.store rfl rfl (eff_storeW (v := .t _) (els := [_]) (els' := [_]) rfl rfl ti64 rfl rfl rfl rfl rfl rfl rfl rfl rfl) ?_
        refine RJ.op rfl rfl (eff_assign (v := .t _) rfl rfl rfl) ?_
        refine RJ.nil ?_
        refine awj_ret ?_
        have hfx : form l i ≠ 0 := by omega
        rw [all_bad h1 hil (run_form hok hfx) hfx, nvis_form h1 hil hok hfx]
        exact ⟨Or.inr rfl, [_, _], [.t (encT zt), .t _], ⟨.cell rfl ti64 (.whole rfl rfl rfl rfl rfl rfl), .tmp rfl, trivial⟩, rfl, Weak.trans (weak_slot 0 (y := encT zt) rfl (by repeat' first | exact trivial | exact Wk.refl _ | exact Wk.sl _ | refine And.intro ?_ ?_ | refine Wk.tupP ?_ | refine Wk.aggP ?_)) (weak_keep ⟨rfl, rfl, rfl, rfl, rfl, rfl, trivial⟩ ⟨rfl, okE_one rfl, rfl, okE_one rfl, rfl, okE_one rfl, rfl, okE_one rfl, trivial⟩), rfl⟩
      · try simp only [cl] at h3
        refine awj_skip ?_
        refine awj_seq ?_
        refine awj_rj rfl ?_
        have hfo : form l i = 0 := by omega
        refine RJ.op rfl rfl (eff_move (v := .fn _ _) rfl rfl rfl) ?_
        refine RJ.op rfl rfl (eff_move (v := .t _) rfl rfl rfl) ?_
        refine RJ.op rfl rfl (eff_load rfl rfl ti64 rfl (.whole rfl rfl rfl rfl rfl rfl)) ?_
        refine RJ.new4 rfl rfl (eff_callKF (dvis_ret l d i T hil (by have := hO.len; omega) hT hFit hO.seq hfo) co65 (fun id => id) rfl rfl rfl ⟨.t _, .t _, .ptr _ _ _ _ rfl rfl, .ptr _ _ _ _ rfl rfl, .ptr _ _ _ _ rfl rfl, .ptr _ _ _ _ rfl rfl, trivial⟩ (.tup _ _ rfl (fun i c d h _ => by simp at h)) rfl ⟨⟨rfl, self_one, ⟨_, rfl, .inr ⟨rfl, rfl, rfl, rfl, 2, rfl, (by simp)⟩⟩⟩, ⟨rfl, self_one, ⟨_, rfl, .inr ⟨rfl, rfl, rfl, rfl, 3, rfl, (by simp)⟩⟩⟩, ⟨rfl, self_one, ⟨_, rfl, .inr ⟨rfl, rfl, rfl, rfl, 4, rfl, (by simp)⟩⟩⟩, ⟨rfl, self_one, ⟨_, rfl, .inr ⟨rfl, rfl, rfl, rfl, 5, rfl, (by simp)⟩⟩⟩, trivial⟩ ⟨⟨self_one, .inl rfl⟩, ⟨self_one, .inl rfl⟩, ⟨self_one, .inl rfl⟩, ⟨self_one, .inl rfl⟩, trivial⟩) ?_
        refine RJ.nil ?_
        refine awj_seq ?_
        refine awj_rj rfl ?_
        refine RJ.op rfl rfl (eff_assign (v := .t _) rfl rfl rfl) ?_
        refine RJ.nil ?_
        refine awj_seq ?_
        refine awj_rj rfl ?_
        refine RJ.op rfl rfl (eff_load rfl rfl ti64 rfl (.whole rfl rfl rfl rfl rfl rfl)) ?_
        refine RJ.new rfl rfl (eff_allocK (k := 2) (id := 11) rfl rfl tz64 rfl rfl) ?_
        refine RJ.store rfl rfl (eff_storeW (v := .t _) (els := [_]) (els' := [_]) rfl rfl ti64 rfl rfl rfl rfl rfl rfl rfl rfl rfl) ?_
        refine RJ.nil ?_
        refine awj_seq ?_
        refine awj_seq ?_
        refine awj_rj rfl ?_
        refine RJ.op rfl rfl (eff_fieldAddr rfl rfl tf47_1 (by decide) rfl rfl rfl (Nat.le_of_ble_eq_true rfl)) ?_
        refine RJ.op rfl rfl (eff_load (y := .t _) rfl rfl ti3 rfl (.one rfl rfl rfl rfl)) ?_
        refine RJ.nil ?_
        refine awj_block ?_
        refine awj_seq ?_
        refine awj_rj rfl ?_
        refine RJ.op rfl rfl (eff_iop rfl rfl rfl rfl rfl) ?_
        refine RJ.op rfl rfl (eff_assign (v := .t _) rfl rfl rfl) ?_
        refine RJ.nil ?_
        refine awj_cond rfl (fun h4 => ?_) (fun h4 => ?_)
        · try simp only [cl] at h4
          refine awj_rj rfl ?_
          refine RJ.op rfl rfl (eff_load rfl rfl ti64 rfl (.whole rfl rfl rfl rfl rfl rfl)) ?_
          refine RJ.op rfl rfl (eff_fieldAddr rfl rfl tf47_2 (by decide) rfl rfl rfl (Nat.le_of_ble_eq_true rfl)) ?_
          refine RJ.op rfl rfl (eff_loadS (ys := [_, _, _, _, _]) rfl rfl ti45 rfl rfl rfl rfl rfl rfl) ?_
          refine RJ.op rfl rfl (eff_callXT (tsend_ret T _ hFit.srt hFit.hp (by have := hFit.len; omega) (by have := hFit.sl; omega) hFit.bod (hO.bod _ (List.getElem_mem hil))) co63 rfl rfl rfl ⟨rfl, trivial⟩ rfl) ?_
          refine RJ.op rfl rfl (eff_move (v := .t _) rfl rfl rfl) ?_
          refine RJ.op rfl rfl (eff_extract rfl rfl rfl rfl) ?_
          refine RJ.op rfl rfl (eff_extract rfl rfl rfl rfl) ?_
          refine RJ.store rfl rfl (eff_storeW (v := .t _) (els := [_]) (els' := [_]) rfl rfl ti64 rfl rfl rfl rfl rfl rfl rfl rfl rfl) ?_
          refine RJ.op rfl rfl (eff_assign (v := .t _) rfl rfl rfl) ?_
          refine RJ.nil ?_
          refine awj_seq ?_
          refine awj_seq ?_
          refine awj_rj rfl ?_
          refine RJ.op rfl rfl (eff_move (v := .t _) rfl rfl rfl) ?_
          refine RJ.op rfl rfl (eff_iop rfl rfl rfl rfl rfl) ?_
          refine RJ.nil ?_
          refine awj_cond rfl (fun h5 => ?_) (fun h5 => ?_)
          · try simp only [cl] at h5
            refine awj_seq ?_
            refine awj_rj rfl ?_
            refine RJ.op rfl rfl (eff_buildT (ys := [_, _]) rfl rfl tz64 tg64 rfl) ?_
            refine RJ.op rfl rfl (eff_move (v := .t _) rfl rfl rfl) ?_
            refine RJ.store rfl rfl (eff_storeW (v := .t _) (els := [_]) (els' := [_]) rfl rfl ti64 rfl rfl rfl rfl rfl rfl rfl rfl rfl) ?_
            refine RJ.op rfl rfl (eff_assign (v := .t _) rfl rfl rfl) ?_
            refine RJ.nil ?_
            refine awj_ret ?_
            have hrb := bad_send hil hT hok hfo (by omega) (by omega)
            rw [all_bad h1 hil hrb (by omega), nvis_bad h1 hil hok hfo hrb (by omega)]
            exact ⟨Or.inr rfl, [_, _], [.t (encT zt), .t _], ⟨.cell rfl ti64 (.whole rfl rfl rfl rfl rfl rfl), .tmp rfl, trivial⟩, rfl, Weak.trans (weak_slot 0 (y := encT zt) rfl (by repeat' first | exact trivial | exact Wk.refl _ | exact Wk.sl _ | refine And.intro ?_ ?_ | refine Wk.tupP ?_ | refine Wk.aggP ?_)) (weak_keep ⟨rfl, rfl, rfl, rfl, rfl, rfl, trivial⟩ ⟨rfl, okE_one rfl, rfl, okE_one rfl, rfl, okE_one rfl, rfl, okE_one rfl, trivial⟩), rfl⟩
          · try simp only [cl] at h5
            refine awj_skip ?_
            refine awj_rj rfl ?_
            refine RJ.op rfl rfl (eff_load rfl rfl ti64 rfl (.whole rfl rfl rfl rfl rfl rfl)) ?_
            refine RJ.store rfl rfl (eff_storeW (v := .t _) (els := [_]) (els' := [_]) rfl rfl ti64 rfl rfl rfl rfl rfl rfl rfl rfl rfl) ?_
            refine RJ.nil ?_
            refine awj_rj rfl ?_
            refine RJ.op rfl rfl (eff_iop rfl rfl rfl rfl (iadd (by omega))) ?_
            refine RJ.op rfl rfl (eff_move (v := .t _) rfl rfl rfl) ?_
            refine RJ.nil ?_
            refine ⟨_, ?_, _, weak_keep (n := 63) (fr' := [(0, .t (.sl (l.map encC) false)), (1, .fn 65 [.ptr 1007 0 0 0, .ptr 1002 0 0 0, .ptr 1003 0 0 0, .ptr 1006 0 0 0]), (4, .ptr 4 0 0 0), (6, .ptr 6 0 0 0), (17, .t (.sl (l.map encC) false)), (18, .t (encI (l.length : Nat))), (19, .t (encI ((i + 1) : Nat))), (64, .t deT)]) (st' := [(4, some ⟨2, 64, 0, [.t z64]⟩), (6, some ⟨2, 64, 0, [.t (encT _)]⟩), (1007, some ⟨1, 4, 0, [.t (.bool (fdN l d (i + 1)))]⟩), (1002, some ⟨1, 32, 0, [.t (.sl (l.map encC) false)]⟩), (1003, some ⟨4, 28, 0, [.t (encD d)]⟩), (1006, some ⟨1, 33, 0, [.t (.sl ((outN l d (i + 1)).map encR) (!fdN l d (i + 1)))]⟩)]) ⟨rfl, rfl, rfl, rfl, rfl, rfl, rfl, rfl, rfl, rfl, rfl, rfl, rfl, rfl, rfl, rfl, trivial⟩ ⟨rfl, okE_one rfl, rfl, okE_one rfl, rfl, okE_one rfl, rfl, okE_one rfl, rfl, okE_one rfl, rfl, okE_one rfl, trivial⟩, i + 1, _, (by omega), (by first | rw [run_send hil hT hok hfo (by omega) (by omega)] | rw [run_hear hil hT hok hfo (by omega) (by omega)] | rw [run_dec hil hT hok hfo (by omega) (by omega)]), (by first | rw [run_send hil hT hok hfo (by omega) (by omega)] | rw [run_hear hil hT hok hfo (by omega) (by omega)] | rw [run_dec hil hT hok hfo (by omega) (by omega)]), rfl, rfl⟩
            omega
        · try simp only [cl] at h4
          refine awj_seq ?_
          refine awj_rj rfl ?_
          refine RJ.op rfl rfl (eff_iop rfl rfl rfl rfl rfl) ?_
          refine RJ.op rfl rfl (eff_assign (v := .t _) rfl rfl rfl) ?_
          refine RJ.nil ?_
          refine awj_cond rfl (fun h6 => ?_) (fun h6 => ?_)
          · try simp only [cl] at h6
            refine awj_rj rfl ?_
            refine RJ.op rfl rfl (eff_load rfl rfl ti64 rfl (.whole rfl rfl rfl rfl rfl rfl)) ?_
            refine RJ.op rfl rfl (eff_fieldAddr rfl rfl tf47_3 (by decide) rfl rfl rfl (Nat.le_of_ble_eq_true rfl)) ?_
            refine RJ.op rfl rfl (eff_loadS (ys := [_, _, _, _]) rfl rfl ti23 rfl rfl rfl rfl rfl rfl) ?_
            refine RJ.op rfl rfl (eff_callXT (thear_ret T _ (hO.hp _ (List.getElem_mem hil)) (by have := hFit.len; omega) (by have := hFit.sl; omega) hFit.bod) co64 rfl rfl rfl ⟨rfl, trivial⟩ rfl) ?_
            refine RJ.op rfl rfl (eff_move (v := .t _) rfl rfl rfl) ?_
            refine RJ.op rfl rfl (eff_extract rfl rfl rfl rfl) ?_
            refine RJ.op rfl rfl (eff_extract rfl rfl rfl rfl) ?_
            refine RJ.store rfl rfl (eff_storeW (v := .t _) (els := [_]) (els' := [_]) rfl rfl ti64 rfl rfl rfl rfl rfl rfl rfl rfl rfl) ?_
            refine RJ.op rfl rfl (eff_assign (v := .t _) rfl rfl rfl) ?_
            refine RJ.nil ?_
            refine awj_seq ?_
            refine awj_seq ?_
            refine awj_rj rfl ?_
            refine RJ.op rfl rfl (eff_move (v := .t _) rfl rfl rfl) ?_
            refine RJ.op rfl rfl (eff_iop rfl rfl rfl rfl rfl) ?_
            refine RJ.nil ?_
            refine awj_cond rfl (fun h7 => ?_) (fun h7 => ?_)
            · try simp only [cl] at h7
              refine awj_seq ?_
              refine awj_rj rfl ?_
              refine RJ.op rfl rfl (eff_buildT (ys := [_, _]) rfl rfl tz64 tg64 rfl) ?_
              refine RJ.op rfl rfl (eff_move (v := .t _) rfl rfl rfl) ?_
              refine RJ.store rfl rfl (eff_storeW (v := .t _) (els := [_]) (els' := [_]) rfl rfl ti64 rfl rfl rfl rfl rfl rfl rfl rfl rfl) ?_
              refine RJ.op rfl rfl (eff_assign (v := .t _) rfl rfl rfl) ?_
              refine RJ.nil ?_
              refine awj_ret ?_
              have hrb := bad_hear hil hT hok hfo (by omega) (by omega)
              rw [all_bad h1 hil hrb (by omega), nvis_bad h1 hil hok hfo hrb (by omega)]
              exact ⟨Or.inr rfl, [_, _], [.t (encT zt), .t _], ⟨.cell rfl ti64 (.whole rfl rfl rfl rfl rfl rfl), .tmp rfl, trivial⟩, rfl, Weak.trans (weak_slot 0 (y := encT zt) rfl (by repeat' first | exact trivial | exact Wk.refl _ | exact Wk.sl _ | refine And.intro ?_ ?_ | refine Wk.tupP ?_ | refine Wk.aggP ?_)) (weak_keep ⟨rfl, rfl, rfl, rfl, rfl, rfl, trivial⟩ ⟨rfl, okE_one rfl, rfl, okE_one rfl, rfl, okE_one rfl, rfl, okE_one rfl, trivial⟩), rfl⟩
            · try simp only [cl] at h7
              refine awj_skip ?_
              refine awj_rj rfl ?_
              refine RJ.op rfl rfl (eff_load rfl rfl ti64 rfl (.whole rfl rfl rfl rfl rfl rfl)) ?_
              refine RJ.store rfl rfl (eff_storeW (v := .t _) (els := [_]) (els' := [_]) rfl rfl ti64 rfl rfl rfl rfl rfl rfl rfl rfl rfl) ?_
              refine RJ.nil ?_
              refine awj_rj rfl ?_
              refine RJ.op rfl rfl (eff_iop rfl rfl rfl rfl (iadd (by omega))) ?_
              refine RJ.op rfl rfl (eff_move (v := .t _) rfl rfl rfl) ?_
              refine RJ.nil ?_
              refine ⟨_, ?_, _, weak_keep (n := 63) (fr' := [(0, .t (.sl (l.map encC) false)), (1, .fn 65 [.ptr 1007 0 0 0, .ptr 1002 0 0 0, .ptr 1003 0 0 0, .ptr 1006 0 0 0]), (4, .ptr 4 0 0 0), (6, .ptr 6 0 0 0), (17, .t (.sl (l.map encC) false)), (18, .t (encI (l.length : Nat))), (19, .t (encI ((i + 1) : Nat))), (64, .t deT)]) (st' := [(4, some ⟨2, 64, 0, [.t z64]⟩), (6, some ⟨2, 64, 0, [.t (encT _)]⟩), (1007, some ⟨1, 4, 0, [.t (.bool (fdN l d (i + 1)))]⟩), (1002, some ⟨1, 32, 0, [.t (.sl (l.map encC) false)]⟩), (1003, some ⟨4, 28, 0, [.t (encD d)]⟩), (1006, some ⟨1, 33, 0, [.t (.sl ((outN l d (i + 1)).map encR) (!fdN l d (i + 1)))]⟩)]) ⟨rfl, rfl, rfl, rfl, rfl, rfl, rfl, rfl, rfl, rfl, rfl, rfl, rfl, rfl, rfl, rfl, trivial⟩ ⟨rfl, okE_one rfl, rfl, okE_one rfl, rfl, okE_one rfl, rfl, okE_one rfl, rfl, okE_one rfl, rfl, okE_one rfl, trivial⟩, i + 1, _, (by omega), (by first | rw [run_send hil hT hok hfo (by omega) (by omega)] | rw [run_hear hil hT hok hfo (by omega) (by omega)] | rw [run_dec hil hT hok hfo (by omega) (by omega)]), (by first | rw [run_send hil hT hok hfo (by omega) (by omega)] | rw [run_hear hil hT hok hfo (by omega) (by omega)] | rw [run_dec hil hT hok hfo (by omega) (by omega)]), rfl, rfl⟩
              omega
          · try simp only [cl] at h6
            refine awj_skip ?_
            refine awj_seq ?_
            refine awj_seq ?_
            refine awj_rj rfl ?_
            refine RJ.op rfl rfl (eff_move (v := .t _) rfl rfl rfl) ?_
            refine RJ.op rfl rfl (eff_iop rfl rfl rfl rfl rfl) ?_
            refine RJ.nil ?_
            refine awj_cond rfl (fun h8 => ?_) (fun h8 => ?_)
            · try simp only [cl] at h8
              refine awj_seq ?_
              refine awj_rj rfl ?_
              refine RJ.op rfl rfl (eff_buildT (ys := [_, _]) rfl rfl tz64 tg64 rfl) ?_
              refine RJ.op rfl rfl (eff_move (v := .t _) rfl rfl rfl) ?_
              refine RJ.store rfl rfl (eff_storeW (v := .t _) (els := [_]) (els' := [_]) rfl rfl ti64 rfl rfl rfl rfl rfl rfl rfl rfl rfl) ?_
              refine RJ.op rfl rfl (eff_assign (v := .t _) rfl rfl rfl) ?_
              refine RJ.nil ?_
              refine awj_ret ?_
              exact absurd trivial ‹¬ True›
            · try simp only [cl] at h8
              refine awj_skip ?_
              refine awj_rj rfl ?_
              refine RJ.op rfl rfl (eff_load rfl rfl ti64 rfl (.whole rfl rfl rfl rfl rfl rfl)) ?_
              refine RJ.store rfl rfl (eff_storeW (v := .t _) (els := [_]) (els' := [_]) rfl rfl ti64 rfl rfl rfl rfl rfl rfl rfl rfl rfl) ?_
              refine RJ.nil ?_
              refine awj_rj rfl ?_
              refine RJ.op rfl rfl (eff_iop rfl rfl rfl rfl (iadd (by omega))) ?_
              refine RJ.op rfl rfl (eff_move (v := .t _) rfl rfl rfl) ?_
              refine RJ.nil ?_
              refine ⟨_, ?_, _, weak_keep (n := 63) (fr' := [(0, .t (.sl (l.map encC) false)), (1, .fn 65 [.ptr 1007 0 0 0, .ptr 1002 0 0 0, .ptr 1003 0 0 0, .ptr 1006 0 0 0]), (4, .ptr 4 0 0 0), (6, .ptr 6 0 0 0), (17, .t (.sl (l.map encC) false)), (18, .t (encI (l.length : Nat))), (19, .t (encI ((i + 1) : Nat))), (64, .t deT)]) (st' := [(4, some ⟨2, 64, 0, [.t z64]⟩), (6, some ⟨2, 64, 0, [.t (encT _)]⟩), (1007, some ⟨1, 4, 0, [.t (.bool (fdN l d (i + 1)))]⟩), (1002, some ⟨1, 32, 0, [.t (.sl (l.map encC) false)]⟩), (1003, some ⟨4, 28, 0, [.t (encD d)]⟩), (1006, some ⟨1, 33, 0, [.t (.sl ((outN l d (i + 1)).map encR) (!fdN l d (i + 1)))]⟩)]) ⟨rfl, rfl, rfl, rfl, rfl, rfl, rfl, rfl, rfl, rfl, rfl, rfl, rfl, rfl, rfl, rfl, trivial⟩ ⟨rfl, okE_one rfl, rfl, okE_one rfl, rfl, okE_one rfl, rfl, okE_one rfl, rfl, okE_one rfl, rfl, okE_one rfl, trivial⟩, i + 1, _, (by omega), (by first | rw [run_send hil hT hok hfo (by omega) (by omega)] | rw [run_hear hil hT hok hfo (by omega) (by omega)] | rw [run_dec hil hT hok hfo (by omega) (by omega)]), (by first | rw [run_send hil hT hok hfo (by omega) (by omega)] | rw [run_hear hil hT hok hfo (by omega) (by omega)] | rw [run_dec hil hT hok hfo (by omega) (by omega)]), rfl, rfl⟩
              omega
    · try simp only [cl] at h2
      refine awj_exit ?_
      refine awj_seq ?_
      refine awj_rj rfl ?_
      refine RJ.op rfl rfl (eff_load rfl rfl ti64 rfl (.whole rfl rfl rfl rfl rfl rfl)) ?_
      refine RJ.store rfl rfl (eff_storeW (v := .t _) (els := [_]) (els' := [_]) rfl rfl ti64 rfl rfl rfl rfl rfl rfl rfl rfl rfl) ?_
      refine RJ.op rfl rfl (eff_assign (v := .t _) rfl rfl rfl) ?_
      refine RJ.nil ?_
      refine awj_ret ?_
      have hi2 : i = l.length := by omega
      subst hi2
      rw [all_ok h1 hok, nvis_ok h1 hok, ← hT]
      exact ⟨Or.inr rfl, [_, _], [.t (encT T), .t _], ⟨.cell rfl ti64 (.whole rfl rfl rfl rfl rfl rfl), .tmp rfl, trivial⟩, rfl, Weak.trans (weak_slot 0 (y := encT T) rfl (by repeat' first | exact trivial | exact Wk.refl _ | exact Wk.sl _ | refine And.intro ?_ ?_ | refine Wk.tupP ?_ | refine Wk.aggP ?_)) (weak_keep ⟨rfl, rfl, rfl, rfl, rfl, rfl, trivial⟩ ⟨rfl, okE_one rfl, rfl, okE_one rfl, rfl, okE_one rfl, rfl, okE_one rfl, trivial⟩), rfl⟩

end Go.Tv.C36

end
section
open Go Go.Tv Go.Proofs
namespace Go.Tv.C36
set_option maxRecDepth 20000
set_option maxHeartbeats 2000000
set_option linter.unusedSimpArgs false
set_option linter.unusedVariables false
theorem defence_ret (l : List Rcd) (d : Dec) (hO : OKL l) : RetT Tryd.prog 43 [(1, deT)] [.sl (l.map encC) false, encD d] (.tup [.sl ((defence l d).1.map encR) false, encI (defence l d).2]) := by
  refine retT_of_awp Tryd.func43 rfl (Nat.le_of_ble_eq_true rfl) ?_
  refine awp_seq ?_
  refine awp_rw rfl ?_
  refine RW.new rfl rfl (eff_boxK (v := .t _) (k := 1) (id := 2) rfl rfl rfl rfl rfl rfl) ?_
  refine RW.new rfl rfl (eff_boxK (v := .t _) (k := 4) (id := 3) rfl rfl rfl rfl rfl rfl) ?_
  refine asT ?_
  refine asT ?_
  refine RW.nil ?_
  refine awp_seq ?_
  refine awp_rw rfl ?_
  refine RW.new rfl rfl (eff_allocK (k := 1) (id := 6) rfl rfl tz33 rfl rfl) ?_
  refine RW.nil ?_
  refine awp_seq ?_
  refine awp_rw rfl ?_
  refine RW.new rfl rfl (eff_allocK (k := 1) (id := 7) rfl rfl tz4 rfl rfl) ?_
  refine RW.store rfl rfl (eff_storeW (v := .t _) (els := [_]) (els' := [_]) rfl rfl ti4 rfl rfl rfl rfl rfl rfl rfl rfl rfl) ?_
  refine RW.nil ?_
  refine awp_seq ?_
  refine awp_rw rfl ?_
  refine l1T ti32 rfl rfl rfl rfl rfl (.one rfl rfl rfl rfl) ?_
  refine RW.op rfl rfl (eff_makeFunc rfl rfl rfl rfl) ?_
  refine RW.new4 rfl rfl (eff_callKT (r' := .tup [.t _, .t _]) (replay65_ret l d hO) co38 (fun id => id - 1000) rfl rfl rfl ⟨rfl, trivial⟩ ⟨.t _, .fnL ⟨.ptr _ _ _ _ rfl rfl, .ptr _ _ _ _ rfl rfl, .ptr _ _ _ _ rfl rfl, .ptr _ _ _ _ rfl rfl, trivial⟩, trivial⟩ (.tupL ⟨.t _, .t _, trivial⟩) rfl ⟨⟨rfl, self_one, ⟨_, rfl, .inr ⟨rfl, rfl, rfl, rfl, 1, _, rfl, List.mem_singleton.2 rfl, .inr ⟨_, _, 0, rfl, rfl⟩⟩⟩⟩, ⟨rfl, self_one, ⟨_, rfl, .inr ⟨rfl, rfl, rfl, rfl, 1, _, rfl, List.mem_singleton.2 rfl, .inr ⟨_, _, 1, rfl, rfl⟩⟩⟩⟩, ⟨rfl, self_one, ⟨_, rfl, .inr ⟨rfl, rfl, rfl, rfl, 1, _, rfl, List.mem_singleton.2 rfl, .inr ⟨_, _, 2, rfl, rfl⟩⟩⟩⟩, ⟨rfl, self_one, ⟨_, rfl, .inr ⟨rfl, rfl, rfl, rfl, 1, _, rfl, List.mem_singleton.2 rfl, .inr ⟨_, _, 3, rfl, rfl⟩⟩⟩⟩, trivial⟩ ⟨⟨self_one, .inl rfl⟩, ⟨self_one, .inl rfl⟩, ⟨self_one, .inl rfl⟩, ⟨self_one, .inl rfl⟩, trivial⟩) ?_
  refine RW.op rfl rfl (eff_move (v := .tup _) rfl rfl rfl) ?_
  refine RW.op rfl rfl (eff_extractA rfl rfl rfl rfl) ?_
  refine RW.op rfl rfl (eff_extractA rfl rfl rfl rfl) ?_
  refine RW.new rfl rfl (eff_allocK (k := 2) (id := 8) rfl rfl tz64 rfl rfl) ?_
  refine RW.store rfl rfl (eff_storeW (v := .t _) (els := [_]) (els' := [_]) rfl rfl ti64 rfl rfl rfl rfl rfl rfl rfl rfl rfl) ?_
  refine asT ?_
  refine RW.nil ?_
  refine awp_seq ?_
  refine awp_block ?_
  refine awp_seq ?_
  refine awp_rw rfl ?_
  refine mvT ?_
  refine ioT ?_
  refine asT ?_
  refine RW.nil ?_
  refine awp_cond rfl (fun h1 => ?_) (fun h1 => ?_)
  · try simp only [cl] at h1
    refine awp_seq ?_
    refine awp_rw rfl ?_
    refine mvT ?_
    refine asT ?_
    refine asT ?_
    refine RW.nil ?_
    refine awp_ret ?_
    rw [defence_bad (all_zt h1) h1]
    exact ⟨Or.inr rfl, [_, _], ⟨.tmp (.t _), .tmp (.t _), trivial⟩, (by repeat' first | exact trivial | exact Wk.refl _ | exact Wk.sl _ | refine And.intro ?_ ?_ | refine Wk.tupP ?_ | refine Wk.aggP ?_)⟩
  · try simp only [cl] at h1
    refine awp_seq ?_
    refine awp_rw rfl ?_
    refine l1T ti4 rfl rfl rfl rfl rfl (.one rfl rfl rfl rfl) ?_
    refine RW.op rfl rfl (eff_unop rfl rfl rfl rfl) ?_
    refine asT ?_
    refine RW.nil ?_
    refine awp_cond rfl (fun h2 => ?_) (fun h2 => ?_)
    · try simp only [cl] at h2
      refine awp_seq ?_
      refine awp_rw rfl ?_
      refine asT ?_
      refine asT ?_
      refine RW.nil ?_
      refine awp_ret ?_
      rw [defence_none (by omega) (by first | assumption | simpa using h2)]
      exact ⟨Or.inr rfl, [_, _], ⟨.tmp (.t _), .tmp (.t _), trivial⟩, (by repeat' first | exact trivial | exact Wk.refl _ | exact Wk.sl _ | refine And.intro ?_ ?_ | refine Wk.tupP ?_ | refine Wk.aggP ?_)⟩
    · try simp only [cl] at h2
      refine awp_skip ?_
      refine awp_seq ?_
      refine awp_rw rfl ?_
      refine l1T ti33 rfl rfl rfl rfl rfl (.one rfl rfl rfl rfl) ?_
      refine asT ?_
      refine asT ?_
      refine RW.nil ?_
      refine awp_ret ?_
      rw [defence_some (by omega) (by first | assumption | simpa using h2)]
      exact ⟨Or.inr rfl, [_, _], ⟨.tmp (.t _), .tmp (.t _), trivial⟩, (by repeat' first | exact trivial | exact Wk.refl _ | exact Wk.sl _ | (rw [h2]; exact Wk.refl _) | refine And.intro ?_ ?_ | refine Wk.tupP ?_ | refine Wk.aggP ?_)⟩

theorem judge_ret (l : List Rcd) (d : Dec) (hO : OKL l) : RetT Tryd.prog 22 [(1, deT)] [.sl (l.map encC) false, encD d] (.tup [encV (judge l d).1, encI (judge l d).2]) := by
  refine retT_of_awp Tryd.func22 rfl (Nat.le_of_ble_eq_true rfl) ?_
  refine awp_seq ?_
  refine awp_rw rfl ?_
  refine RW.new rfl rfl (eff_boxK (v := .t _) (k := 4) (id := 3) rfl rfl rfl rfl rfl rfl) ?_
  refine RW.new rfl rfl (eff_allocK (k := 5) (id := 4) rfl rfl tz49 rfl rfl) ?_
  refine asT ?_
  refine RW.nil ?_
  refine awp_seq ?_
  refine awp_rw rfl ?_
  refine mvT ?_
  refine RW.op rfl rfl (eff_load rfl rfl ti28 rfl (.whole rfl rfl rfl rfl rfl rfl)) ?_
  refine RW.op rfl rfl (eff_callXT (defence_ret l d hO) co43 rfl rfl rfl ⟨rfl, trivial⟩ rfl) ?_
  refine mvT ?_
  refine RW.op rfl rfl (eff_extract rfl rfl rfl rfl) ?_
  refine RW.op rfl rfl (eff_extract rfl rfl rfl rfl) ?_
  refine asT ?_
  refine asT ?_
  refine RW.nil ?_
  refine awp_seq ?_
  refine awp_seq ?_
  refine awp_rw rfl ?_
  refine mvT ?_
  refine ioT ?_
  refine RW.nil ?_
  refine awp_cond rfl (fun h1 => ?_) (fun h1 => ?_)
  · try simp only [cl] at h1
    refine awp_seq ?_
    refine awp_rw rfl ?_
    refine RW.op rfl rfl (eff_buildT (ys := [_, _, _, _, _]) rfl rfl tz49 tg49 rfl) ?_
    refine mvT ?_
    refine RW.store rfl rfl (eff_storeW (v := .t _) (els := [_]) (els' := [_]) rfl rfl ti49 rfl rfl rfl rfl rfl rfl rfl rfl rfl) ?_
    refine asT ?_
    refine RW.nil ?_
    refine awp_ret ?_
    rw [judge_err h1]
    exact ⟨Or.inr rfl, [_, _], ⟨.cell rfl ti49 (.whole rfl rfl rfl rfl rfl rfl) (.t _), .tmp (.t _), trivial⟩, .refl _⟩
  · try simp only [cl] at h1
    refine awp_skip ?_
    refine awp_seq ?_
    refine awp_seq ?_
    refine awp_rw rfl ?_
    have hdl := defence_len hO d
    refine mvT ?_
    refine RW.op rfl rfl (eff_lenM rfl rfl te33 rfl) ?_
    refine ioT ?_
    refine RW.nil ?_
    refine awp_cond rfl (fun h2 => ?_) (fun h2 => ?_)
    · try simp only [cl] at h2
      refine awp_seq ?_
      refine awp_rw rfl ?_
      refine RW.op rfl rfl (eff_buildT (ys := [_, _, _, _, _]) rfl rfl tz49 tg49 rfl) ?_
      refine RW.store rfl rfl (eff_storeW (v := .t _) (els := [_]) (els' := [_]) rfl rfl ti49 rfl rfl rfl rfl rfl rfl rfl rfl rfl) ?_
      refine asT ?_
      refine RW.nil ?_
      refine awp_ret ?_
      rw [judge_nil (by omega) h2]
      exact ⟨Or.inr rfl, [_, _], ⟨.cell rfl ti49 (.whole rfl rfl rfl rfl rfl rfl) (.t _), .tmp (.t _), trivial⟩, .refl _⟩
    · try simp only [cl] at h2
      refine awp_skip ?_
      refine awp_seq ?_
      refine awp_rw rfl ?_
      have hd0 : 0 < (defence l d).1.length := by omega
      refine mvT ?_
      refine RW.op rfl rfl (eff_indexM (i := 0) rfl rfl te33 rfl rfl (by first | rfl | omega) (by exact List.getElem?_eq_getElem (by omega)) rfl (by decide)) ?_
      refine RW.op rfl rfl (eff_loadW rfl rfl ti23 rfl rfl rfl) ?_
      refine RW.op rfl rfl (eff_buildT (ys := [_, _, _, _, _]) rfl rfl tz49 tg49 rfl) ?_
      refine RW.store rfl rfl (eff_storeW (v := .t _) (els := [_]) (els' := [_]) rfl rfl ti49 rfl rfl rfl rfl rfl rfl rfl rfl rfl) ?_
      refine asT ?_
      refine RW.nil ?_
      refine awp_ret ?_
      rw [judge_cons (by omega) hd0]
      exact ⟨Or.inr rfl, [_, _], ⟨.cell rfl ti49 (.whole rfl rfl rfl rfl rfl rfl) (.t _), .tmp (.t _), trivial⟩, .refl _⟩

end Go.Tv.C36

end
section
open Go Go.Tv Go.Proofs
namespace Go.Tv.C36
set_option maxRecDepth 20000
set_option maxHeartbeats 2000000
set_option linter.unusedSimpArgs false
set_option linter.unusedVariables false
theorem hRn {R : List Rep} {k : Int} (h : (decide (k = 3) && R.isEmpty) = false) (hk : k = 3) : (R.length : Int) ≠ 0 := by
  intro hl
  rw [decide_eq_true hk, List.length_eq_zero_iff.1 (show R.length = 0 by omega)] at h
  cases h

theorem hvis_n (l : List Rcd) (i : Nat) (T : Twn) (hi : i < l.length) (hl : l.length ≤ 1000000) (hT : T = (runTo l i).1) (hF : Fit 12 T) (hq : ∀ r, r ∈ l → 0 ≤ r.frame.seq ∧ r.frame.seq ≤ 1000000) (hf : form l i = 0) (hn : heldAt l i = false) : RetK Tryd.prog 39 [(1001, some ⟨1, 32, 0, [.t (.sl (l.map encC) false)]⟩), (1004, some ⟨1, 26, 0, [.own 1100 i 0 (heldTo l i).length]⟩), (1100, some ⟨1, 3, i, ((heldTo l i).map encN).map .t⟩)] [.t (encI (i : Nat)), .t (encT T), .ptr 1001 0 0 0, .ptr 1004 0 0 0] [(1001, some ⟨1, 32, 0, [.t (.sl (l.map encC) false)]⟩), (1004, some ⟨1, 26, 0, [.own 1100 (i + 1) 0 (heldTo l i).length]⟩), (1100, some ⟨1, 3, (i + 1), ((heldTo l i).map encN).map .t⟩)] (.tup []) [(2, .ptr 1001 0 0 0), (3, .ptr 1004 0 0 0)] := by
  have hRE : rightsAt l (l[i]'hi).dec i = (rights T (l[i]'hi).dec (sentN (l.take i))) := by rw [hT]; rfl
  have hhl := heldTo_len l i
  rw [heldAt_at hi, hRE] at hn
  refine retK_of_awj (kp := fun i => Nat.beq i 2 || Nat.beq i 3) Tryd.func39 rfl (Nat.le_of_ble_eq_true rfl) (by simp) ?_
  intro F0 w0
  refine awj_seq ?_
  refine awj_rj rfl ?_
  refine RJ.new rfl rfl (eff_boxK (v := .t _) (k := 2) (id := 5) rfl rfl rfl rfl rfl rfl) ?_
  refine RJ.nil ?_
  refine awj_seq ?_
  by_cases hc1 : (l[i]'hi).kind = 3
  · refine awj_rd [(some 6, []), (some 7, []), (some 8, []), (some 9, []), (some 10, []), (some 11, []), (some 12, []), (some 13, []), (some 14, []), (some 15, []), (some 16, []), (some 17, []), (some 18, []), (some 19, []), (some 20, []), (some 21, []), (some 22, []), (some 23, []), (some 24, []), (some 25, []), (some 26, [])] [[], [], [0, 1], [0, 1, 2], [0, 1, 2, 3], [0, 1, 2, 3, 4], [0, 1, 2, 3, 4, 5], [0, 1, 2, 3, 4, 5, 6], [0, 1, 2, 3, 4, 5, 6], [0, 1, 2, 3, 4, 5, 6], [0, 1, 2, 3, 4, 5, 6, 8, 9], [0, 1, 2, 3, 4, 5, 6, 8, 9, 10], [0, 1, 2, 3, 4, 5, 6, 8, 9, 10, 11], [0, 1, 2, 3, 4, 5, 6], [0, 1, 2, 3, 4, 5, 6], [0, 1, 2, 3, 4, 5, 6, 13, 14], [0, 1, 2, 3, 4, 5, 6, 13, 14, 15], [0, 1, 2, 3, 4, 5, 6, 7, 8, 9, 10, 11, 12, 13, 14, 15, 16], [0, 1, 2, 3, 4, 5, 6, 7, 8, 9, 10, 11, 12, 13, 14, 15, 16, 17], [0, 1, 2, 3, 4, 5, 6, 7, 8, 9, 10, 11, 12, 13, 14, 15, 16, 17, 18], [0, 1, 2, 3, 4, 5, 6, 7, 8, 9, 10, 11, 12, 13, 14, 15, 16, 17, 18, 19]] tm rfl rfl rfl rfl ?_
    refine RD.op rfl rfl rfl (eff_load (y := .t _) rfl rfl ti32 rfl (.one rfl rfl rfl rfl)) ?_
    refine mvD ?_
    refine RD.op rfl rfl rfl (eff_indexM (i := i) rfl rfl te32 rfl rfl (by first | rfl | omega) (by first | assumption | exact List.getElem?_eq_getElem (by omega)) rfl (by decide)) ?_
    refine RD.op rfl rfl rfl (eff_fieldAddrT rfl rfl tf47_1 (by decide) rfl) ?_
    refine RD.op rfl rfl rfl (eff_loadT1 rfl rfl ti3 rfl rfl) ?_
    refine RD.op rfl rfl rfl (eff_iop (r := .bool true) rfl rfl rfl rfl (by simp [iop, hc1])) ?_
    refine mvD ?_
    refine RD.gop rfl rfl rfl rfl rfl rfl rfl (eff_load rfl rfl ti64 rfl (.whole rfl rfl rfl rfl rfl rfl)) ?_
    refine RD.gop rfl rfl rfl rfl rfl rfl rfl (eff_load (y := .t _) rfl rfl ti32 rfl (.one rfl rfl rfl rfl)) ?_
    refine RD.gop rfl rfl rfl rfl rfl rfl rfl (eff_move (v := .t _) rfl rfl rfl) ?_
    refine RD.gop rfl rfl rfl rfl rfl rfl rfl (eff_indexM (i := i) rfl rfl te32 rfl rfl (by first | rfl | omega) (by first | assumption | exact List.getElem?_eq_getElem (by omega)) rfl (by decide)) ?_
    refine RD.gop rfl rfl rfl rfl rfl rfl rfl (eff_fieldAddrT rfl rfl tf47_4 (by decide) rfl) ?_
    refine RD.gop rfl rfl rfl rfl rfl rfl rfl (eff_loadT (ys := [_, _, _, _]) rfl rfl ti28 rfl rfl rfl) ?_
    refine RD.gop rfl rfl rfl rfl rfl rfl rfl (eff_load (y := .t _) rfl rfl ti32 rfl (.one rfl rfl rfl rfl)) ?_
    refine RD.gop rfl rfl rfl rfl rfl rfl rfl (eff_move (v := .t _) rfl rfl rfl) ?_
    refine RD.gop rfl rfl rfl rfl rfl rfl rfl (eff_sliceM (g := encC) (l := none) (h := some i) (r := l.take i) rfl rfl te32 rfl (fun _ => rfl) .no (.yes rfl rfl) (Nat.zero_le _) (by simp; omega) (by simp)) ?_
    refine RD.gop rfl rfl rfl rfl rfl rfl rfl (eff_callT (sent_ret (l.take i) (by rw [List.length_take]; omega) (fun r hr => hq r (List.mem_of_mem_take hr))) co41 rfl rfl rfl rfl) ?_
    refine RD.gop rfl rfl rfl rfl rfl rfl rfl (eff_callT (rights_ret T _ _ hF.hp (fun y hy => (hF.nx y hy).mono (by decide)) (by have := form_dec hi hf hc1; omega) (by have := hF.len; omega)) co40 rfl rfl rfl rfl) ?_
    refine RD.gop rfl rfl rfl rfl rfl rfl rfl (eff_lenM rfl rfl te33 rfl) ?_
    refine RD.gop rfl rfl rfl rfl rfl rfl rfl (eff_iop (r := .bool false) rfl rfl rfl rfl (by exact congrArg (fun b => some (Tr.bool b)) (beq_eq_false_iff_ne.2 (hRn hn hc1)))) ?_
    refine RD.op rfl rfl rfl (eff_pick (v := .t _) rfl rfl rfl rfl) ?_
    refine RD.nil ?_
    refine awj_cond rfl (fun h => nomatch h) (fun _ => ?_)
    refine awj_skip ?_
    exact ⟨Or.inl rfl, [], [], trivial, rfl, weak_gen ⟨.ptr 1001 0 0 0 0 rfl rfl rfl rfl rfl rfl, .ptr 1004 0 0 0 0 rfl rfl rfl rfl rfl rfl, trivial⟩ ⟨⟨_, rfl, rfl, rfl, rfl, gen_t1⟩, ⟨_, rfl, rfl, rfl, rfl, gen_own1 (.own 1100 _ _ 0 _ rfl rfl rfl rfl rfl rfl rfl)⟩, ⟨_, rfl, rfl, rfl, rfl, gen_trees⟩, trivial⟩, rfl⟩
  · refine awj_rd [(some 6, []), (some 7, []), (some 8, []), (some 9, []), (some 10, []), (some 11, []), (some 12, []), (some 13, []), (some 14, []), (some 15, []), (some 16, []), (some 17, []), (some 18, []), (some 19, []), (some 20, []), (some 21, []), (some 22, []), (some 23, []), (some 24, []), (some 25, []), (some 26, [])] [[], [], [0, 1], [0, 1, 2], [0, 1, 2, 3], [0, 1, 2, 3, 4], [0, 1, 2, 3, 4, 5], [0, 1, 2, 3, 4, 5, 6], [0, 1, 2, 3, 4, 5, 6], [0, 1, 2, 3, 4, 5, 6], [0, 1, 2, 3, 4, 5, 6, 8, 9], [0, 1, 2, 3, 4, 5, 6, 8, 9, 10], [0, 1, 2, 3, 4, 5, 6, 8, 9, 10, 11], [0, 1, 2, 3, 4, 5, 6], [0, 1, 2, 3, 4, 5, 6], [0, 1, 2, 3, 4, 5, 6, 13, 14], [0, 1, 2, 3, 4, 5, 6, 13, 14, 15], [0, 1, 2, 3, 4, 5, 6, 7, 8, 9, 10, 11, 12, 13, 14, 15, 16], [0, 1, 2, 3, 4, 5, 6, 7, 8, 9, 10, 11, 12, 13, 14, 15, 16, 17], [0, 1, 2, 3, 4, 5, 6, 7, 8, 9, 10, 11, 12, 13, 14, 15, 16, 17, 18], [0, 1, 2, 3, 4, 5, 6, 7, 8, 9, 10, 11, 12, 13, 14, 15, 16, 17, 18, 19]] tm rfl rfl rfl rfl ?_
    refine RD.op rfl rfl rfl (eff_load (y := .t _) rfl rfl ti32 rfl (.one rfl rfl rfl rfl)) ?_
    refine mvD ?_
    refine RD.op rfl rfl rfl (eff_indexM (i := i) rfl rfl te32 rfl rfl (by first | rfl | omega) (by first | assumption | exact List.getElem?_eq_getElem (by omega)) rfl (by decide)) ?_
    refine RD.op rfl rfl rfl (eff_fieldAddrT rfl rfl tf47_1 (by decide) rfl) ?_
    refine RD.op rfl rfl rfl (eff_loadT1 rfl rfl ti3 rfl rfl) ?_
    refine RD.op rfl rfl rfl (eff_iop (r := .bool false) rfl rfl rfl rfl (by simp [iop, hc1])) ?_
    refine mvD ?_
    refine gkD ?_
    refine gkD ?_
    refine gkD ?_
    refine gkD ?_
    refine gkD ?_
    refine gkD ?_
    refine gkD ?_
    refine gkD ?_
    refine gkD ?_
    refine gkD ?_
    refine gkD ?_
    refine gkD ?_
    refine gkD ?_
    refine RD.op rfl rfl rfl (eff_pick (v := .t _) rfl rfl rfl rfl) ?_
    refine RD.nil ?_
    refine awj_cond rfl (fun h => nomatch h) (fun _ => ?_)
    refine awj_skip ?_
    exact ⟨Or.inl rfl, [], [], trivial, rfl, weak_gen ⟨.ptr 1001 0 0 0 0 rfl rfl rfl rfl rfl rfl, .ptr 1004 0 0 0 0 rfl rfl rfl rfl rfl rfl, trivial⟩ ⟨⟨_, rfl, rfl, rfl, rfl, gen_t1⟩, ⟨_, rfl, rfl, rfl, rfl, gen_own1 (.own 1100 _ _ 0 _ rfl rfl rfl rfl rfl rfl rfl)⟩, ⟨_, rfl, rfl, rfl, rfl, gen_trees⟩, trivial⟩, rfl⟩

theorem hvis_y (l : List Rcd) (i : Nat) (T : Twn) (hi : i < l.length) (hl : l.length ≤ 1000000) (hT : T = (runTo l i).1) (hF : Fit 12 T) (hq : ∀ r, r ∈ l → 0 ≤ r.frame.seq ∧ r.frame.seq ≤ 1000000) (hf : form l i = 0) (hn : heldAt l i = true) : RetK Tryd.prog 39 [(1001, some ⟨1, 32, 0, [.t (.sl (l.map encC) false)]⟩), (1004, some ⟨1, 26, 0, [.own 1100 i 0 (heldTo l i).length]⟩), (1100, some ⟨1, 3, i, ((heldTo l i).map encN).map .t⟩)] [.t (encI (i : Nat)), .t (encT T), .ptr 1001 0 0 0, .ptr 1004 0 0 0] [(1001, some ⟨1, 32, 0, [.t (.sl (l.map encC) false)]⟩), (1004, some ⟨1, 26, 0, [.own 1100 (i + 1) 0 (heldTo l (i + 1)).length]⟩), (1100, some ⟨1, 3, (i + 1), ((heldTo l (i + 1)).map encN).map .t⟩)] (.tup []) [(2, .ptr 1001 0 0 0), (3, .ptr 1004 0 0 0)] := by
  have hn0 := hn
  have hRE : rightsAt l (l[i]'hi).dec i = (rights T (l[i]'hi).dec (sentN (l.take i))) := by rw [hT]; rfl
  have hhl := heldTo_len l i
  rw [heldAt_at hi, hRE] at hn
  simp only [Bool.and_eq_true, decide_eq_true_eq, List.isEmpty_iff] at hn
  obtain ⟨hk3, hR0⟩ := hn
  refine retK_of_awj (kp := fun i => Nat.beq i 2 || Nat.beq i 3) Tryd.func39 rfl (Nat.le_of_ble_eq_true rfl) (by simp) ?_
  intro F0 w0
  refine awj_seq ?_
  refine awj_rj rfl ?_
  refine RJ.new rfl rfl (eff_boxK (v := .t _) (k := 2) (id := 5) rfl rfl rfl rfl rfl rfl) ?_
  refine RJ.nil ?_
  refine awj_seq ?_
  refine awj_rd [(some 6, []), (some 7, []), (some 8, []), (some 9, []), (some 10, []), (some 11, []), (some 12, []), (some 13, []), (some 14, []), (some 15, []), (some 16, []), (some 17, []), (some 18, []), (some 19, []), (some 20, []), (some 21, []), (some 22, []), (some 23, []), (some 24, []), (some 25, []), (some 26, [])] [[], [], [0, 1], [0, 1, 2], [0, 1, 2, 3], [0, 1, 2, 3, 4], [0, 1, 2, 3, 4, 5], [0, 1, 2, 3, 4, 5, 6], [0, 1, 2, 3, 4, 5, 6], [0, 1, 2, 3, 4, 5, 6], [0, 1, 2, 3, 4, 5, 6, 8, 9], [0, 1, 2, 3, 4, 5, 6, 8, 9, 10], [0, 1, 2, 3, 4, 5, 6, 8, 9, 10, 11], [0, 1, 2, 3, 4, 5, 6], [0, 1, 2, 3, 4, 5, 6], [0, 1, 2, 3, 4, 5, 6, 13, 14], [0, 1, 2, 3, 4, 5, 6, 13, 14, 15], [0, 1, 2, 3, 4, 5, 6, 7, 8, 9, 10, 11, 12, 13, 14, 15, 16], [0, 1, 2, 3, 4, 5, 6, 7, 8, 9, 10, 11, 12, 13, 14, 15, 16, 17], [0, 1, 2, 3, 4, 5, 6, 7, 8, 9, 10, 11, 12, 13, 14, 15, 16, 17, 18], [0, 1, 2, 3, 4, 5, 6, 7, 8, 9, 10, 11, 12, 13, 14, 15, 16, 17, 18, 19]] tm rfl rfl rfl rfl ?_
  refine RD.op rfl rfl rfl (eff_load (y := .t _) rfl rfl ti32 rfl (.one rfl rfl rfl rfl)) ?_
  refine mvD ?_
  refine RD.op rfl rfl rfl (eff_indexM (i := i) rfl rfl te32 rfl rfl (by first | rfl | omega) (by first | assumption | exact List.getElem?_eq_getElem (by omega)) rfl (by decide)) ?_
  refine RD.op rfl rfl rfl (eff_fieldAddrT rfl rfl tf47_1 (by decide) rfl) ?_
  refine RD.op rfl rfl rfl (eff_loadT1 rfl rfl ti3 rfl rfl) ?_
  refine RD.op rfl rfl rfl (eff_iop (r := .bool true) rfl rfl rfl rfl (by simp [iop, hk3])) ?_
  refine mvD ?_
  refine RD.gop rfl rfl rfl rfl rfl rfl rfl (eff_load rfl rfl ti64 rfl (.whole rfl rfl rfl rfl rfl rfl)) ?_
  refine RD.gop rfl rfl rfl rfl rfl rfl rfl (eff_load (y := .t _) rfl rfl ti32 rfl (.one rfl rfl rfl rfl)) ?_
  refine RD.gop rfl rfl rfl rfl rfl rfl rfl (eff_move (v := .t _) rfl rfl rfl) ?_
  refine RD.gop rfl rfl rfl rfl rfl rfl rfl (eff_indexM (i := i) rfl rfl te32 rfl rfl (by first | rfl | omega) (by first | assumption | exact List.getElem?_eq_getElem (by omega)) rfl (by decide)) ?_
  refine RD.gop rfl rfl rfl rfl rfl rfl rfl (eff_fieldAddrT rfl rfl tf47_4 (by decide) rfl) ?_
  refine RD.gop rfl rfl rfl rfl rfl rfl rfl (eff_loadT (ys := [_, _, _, _]) rfl rfl ti28 rfl rfl rfl) ?_
  refine RD.gop rfl rfl rfl rfl rfl rfl rfl (eff_load (y := .t _) rfl rfl ti32 rfl (.one rfl rfl rfl rfl)) ?_
  refine RD.gop rfl rfl rfl rfl rfl rfl rfl (eff_move (v := .t _) rfl rfl rfl) ?_
  refine RD.gop rfl rfl rfl rfl rfl rfl rfl (eff_sliceM (g := encC) (l := none) (h := some i) (r := l.take i) rfl rfl te32 rfl (fun _ => rfl) .no (.yes rfl rfl) (Nat.zero_le _) (by simp; omega) (by simp)) ?_
  refine RD.gop rfl rfl rfl rfl rfl rfl rfl (eff_callT (sent_ret (l.take i) (by rw [List.length_take]; omega) (fun r hr => hq r (List.mem_of_mem_take hr))) co41 rfl rfl rfl rfl) ?_
  refine RD.gop rfl rfl rfl rfl rfl rfl rfl (eff_callT (rights_ret T _ _ hF.hp (fun y hy => (hF.nx y hy).mono (by decide)) (by have := form_dec hi hf hk3; omega) (by have := hF.len; omega)) co40 rfl rfl rfl rfl) ?_
  refine RD.gop rfl rfl rfl rfl rfl rfl rfl (eff_lenM rfl rfl te33 rfl) ?_
  refine RD.gop rfl rfl rfl rfl rfl rfl rfl (eff_iop (r := .bool true) rfl rfl rfl rfl (by simp [iop, hR0])) ?_
  refine RD.op rfl rfl rfl (eff_pick (v := .t _) rfl rfl rfl rfl) ?_
  refine RD.nil ?_
  refine awj_cond rfl (fun _ => ?_) (fun h => nomatch h)
  refine awj_rj rfl ?_
  refine RJ.op rfl rfl (eff_load (y := .own _ _ _ _) rfl rfl ti26 rfl (.one rfl rfl rfl rfl)) ?_
  refine RJ.op rfl rfl (eff_move (v := .t _) rfl rfl rfl) ?_
  refine RJ.new rfl rfl (eff_buildSlice1 (id := 29) (els := [_]) rfl rfl te26 tz3 rfl (by decide) rfl rfl rfl rfl) ?_
  refine RJ.new rfl rfl (eff_append (id := 1100) (ys := [_]) rfl rfl ta26 rfl rfl rfl (by simp) rfl rfl (srcOwn rfl rfl rfl rfl rfl rfl) (by simp) (by simp; omega) (by simp; omega)) ?_
  refine RJ.store rfl rfl (eff_storeW (v := .own _ _ _ _) (els := [_]) (els' := [_]) rfl rfl ti26 rfl rfl rfl rfl rfl rfl rfl rfl rfl) ?_
  refine RJ.nil ?_
  have hle : ((heldTo l (i + 1)).map encN).map AV.t = ((heldTo l i).map encN).map AV.t ++ [.t (encI (i : Nat))] := by rw [heldTo_yes hn0]; simp <;> rfl
  have hll : (heldTo l (i + 1)).length = (heldTo l i).length + 1 := by rw [heldTo_yes hn0]; simp
  rw [hle, hll]
  exact ⟨Or.inl rfl, [], [], trivial, rfl, weak_keep ⟨rfl, rfl, rfl, rfl, trivial⟩ ⟨rfl, okE_one rfl, rfl, okE_one rfl, rfl, (by rw [← hle]; exact okE_t), trivial⟩, rfl⟩

theorem hvis_ret (l : List Rcd) (i : Nat) (T : Twn) (hi : i < l.length) (hl : l.length ≤ 1000000) (hT : T = (runTo l i).1) (hF : Fit 12 T) (hq : ∀ r, r ∈ l → 0 ≤ r.frame.seq ∧ r.frame.seq ≤ 1000000) (hf : form l i = 0) :
    RetK Tryd.prog 39 [(1001, some ⟨1, 32, 0, [.t (.sl (l.map encC) false)]⟩), (1004, some ⟨1, 26, 0, [.own 1100 i 0 (heldTo l i).length]⟩), (1100, some ⟨1, 3, i, ((heldTo l i).map encN).map .t⟩)] [.t (encI (i : Nat)), .t (encT T), .ptr 1001 0 0 0, .ptr 1004 0 0 0] [(1001, some ⟨1, 32, 0, [.t (.sl (l.map encC) false)]⟩), (1004, some ⟨1, 26, 0, [.own 1100 (i + 1) 0 (heldTo l (i + 1)).length]⟩), (1100, some ⟨1, 3, (i + 1), ((heldTo l (i + 1)).map encN).map .t⟩)] (.tup []) [(2, .ptr 1001 0 0 0), (3, .ptr 1004 0 0 0)] := by
  cases hn : heldAt l i with
  | true => exact hvis_y l i T hi hl hT hF hq hf hn
  | false =>
    have h := hvis_n l i T hi hl hT hF hq hf hn
    rw [heldTo_no hn]
    exact h

theorem replay39_ret (l : List Rcd) (hO : OKL l) : RetKT Tryd.prog 38 [(1, deT)] [(1001, some ⟨1, 32, 0, [.t (.sl (l.map encC) false)]⟩), (1004, some ⟨1, 26, 0, [.own 1100 0 0 (heldTo l 0).length]⟩), (1100, some ⟨1, 3, 0, ((heldTo l 0).map encN).map .t⟩)] [.t (.sl (l.map encC) false), .fn 39 [.ptr 1001 0 0 0, .ptr 1004 0 0 0]] [(1001, some ⟨1, 32, 0, [.t (.sl (l.map encC) false)]⟩), (1004, some ⟨1, 26, 0, [.own 1100 (nvis l + 1) 0 (heldTo l (nvis l)).length]⟩), (1100, some ⟨1, 3, (nvis l + 1), ((heldTo l (nvis l)).map encN).map .t⟩)] (.tup [.t (encT (allOf l).1), .t (encI (allOf l).2)]) [(1, .fn 39 [.ptr 1001 0 0 0, .ptr 1004 0 0 0])] := by
  refine retKT_of_awj (kp := fun i => Nat.beq i 1) Tryd.func38 rfl (Nat.le_of_ble_eq_true rfl) (by simp) ?_
  intro F0 w0
  refine awj_seq ?_
  refine awj_rj rfl ?_
  refine RJ.new rfl rfl (eff_allocK (k := 2) (id := 4) rfl rfl tz64 rfl rfl) ?_
  refine RJ.op rfl rfl (eff_assign (v := .t _) rfl rfl rfl) ?_
  refine RJ.nil ?_
  refine awj_seq ?_
  refine awj_seq ?_
  refine awj_rj rfl ?_
  refine RJ.op rfl rfl (eff_move (v := .t _) rfl rfl rfl) ?_
  refine RJ.op rfl rfl (eff_lenM rfl rfl te32 rfl) ?_
  refine RJ.op rfl rfl (eff_iop rfl rfl rfl rfl rfl) ?_
  refine RJ.nil ?_
  refine awj_cond rfl (fun h1 => ?_) (fun h1 => ?_)
  · try simp only [cl] at h1
    refine awj_seq ?_
    refine awj_rj rfl ?_
    refine RJ.op rfl rfl (eff_buildT (ys := [_, _]) rfl rfl tz64 tg64 rfl) ?_
    refine RJ.store rfl rfl (eff_storeW (v := .t _) (els := [_]) (els' := [_]) rfl rfl ti64 rfl rfl rfl rfl rfl rfl rfl rfl rfl) ?_
    refine RJ.op rfl rfl (eff_assign (v := .t _) rfl rfl rfl) ?_
    refine RJ.nil ?_
    refine awj_ret ?_
    rw [all_lim h1, nvis_lim h1]
    exact ⟨Or.inr rfl, [_, _], [.t (encT zt), .t _], ⟨.cell rfl ti64 (.whole rfl rfl rfl rfl rfl rfl), .tmp rfl, trivial⟩, rfl, Weak.trans (weak_slot 0 (y := encT zt) rfl (by repeat' first | exact trivial | exact Wk.refl _ | exact Wk.sl _ | refine And.intro ?_ ?_ | refine Wk.tupP ?_ | refine Wk.aggP ?_)) (weak_genX ⟨.a (.t _), .a (.t _), .fn _ _ ⟨.ptr 1001 0 0 0 0 rfl rfl rfl rfl rfl rfl, .ptr 1004 0 0 0 0 rfl rfl rfl rfl rfl rfl, trivial⟩, trivial⟩ ⟨⟨_, rfl, rfl, rfl, rfl, gen_t1⟩, ⟨_, rfl, rfl, rfl, rfl, gen_own1 (.own 1100 _ _ 0 _ rfl rfl rfl rfl rfl rfl rfl)⟩, ⟨_, rfl, rfl, rfl, rfl, gen_trees⟩, trivial⟩), rfl⟩
  · try simp only [cl] at h1
    refine awj_skip ?_
    refine awj_seq ?_
    refine awj_rj rfl ?_
    refine RJ.op rfl rfl (eff_callT (new17_ret) co61 rfl rfl rfl rfl) ?_
    refine RJ.new rfl rfl (eff_allocK (k := 2) (id := 6) rfl rfl tz64 rfl rfl) ?_
    refine RJ.store rfl rfl (eff_storeW (v := .t _) (els := [_]) (els' := [_]) rfl rfl ti64 rfl rfl rfl rfl rfl rfl rfl rfl rfl) ?_
    refine RJ.nil ?_
    refine awj_seq ?_
    refine awj_seq ?_
    refine awj_rj rfl ?_
    refine RJ.op rfl rfl (eff_move (v := .t _) rfl rfl rfl) ?_
    refine RJ.op rfl rfl (eff_lenM rfl rfl te32 rfl) ?_
    refine RJ.op rfl rfl (eff_move (v := .t _) rfl rfl rfl) ?_
    refine RJ.nil ?_
    refine awj_block ?_
    refine awj_loopW (fun m s g => ∃ (i : Nat) (T : Twn), (i ≤ l.length) ∧ (T = (runTo l i).1) ∧ ((runTo l i).2 = 0) ∧ m = l.length - i ∧ s = ⟨63, [(0, .t (.sl (l.map encC) false)), (1, .fn 39 [.ptr 1001 0 0 0, .ptr 1004 0 0 0]), (4, .ptr 4 0 0 0), (6, .ptr 6 0 0 0), (17, .t (.sl (l.map encC) false)), (18, .t (encI (l.length : Nat))), (19, .t (encI (i : Nat))), (64, .t deT)], [(4, some ⟨2, 64, 0, [.t z64]⟩), (6, some ⟨2, 64, 0, [.t (encT T)]⟩), (1001, some ⟨1, 32, 0, [.t (.sl (l.map encC) false)]⟩), (1004, some ⟨1, 26, 0, [.own 1100 i 0 (heldTo l i).length]⟩), (1100, some ⟨1, 3, i, ((heldTo l i).map encN).map .t⟩)]⟩) (_) (⟨_, weak_keep (n := 63) (fr' := [(0, .t (.sl (l.map encC) false)), (1, .fn 39 [.ptr 1001 0 0 0, .ptr 1004 0 0 0]), (4, .ptr 4 0 0 0), (6, .ptr 6 0 0 0), (17, .t (.sl (l.map encC) false)), (18, .t (encI (l.length : Nat))), (19, .t (encI (0 : Nat))), (64, .t deT)]) (st' := [(4, some ⟨2, 64, 0, [.t z64]⟩), (6, some ⟨2, 64, 0, [.t (encT newT)]⟩), (1001, some ⟨1, 32, 0, [.t (.sl (l.map encC) false)]⟩), (1004, some ⟨1, 26, 0, [.own 1100 0 0 (heldTo l 0).length]⟩), (1100, some ⟨1, 3, 0, ((heldTo l 0).map encN).map .t⟩)]) ⟨rfl, rfl, rfl, rfl, rfl, rfl, rfl, rfl, rfl, rfl, rfl, rfl, rfl, rfl, rfl, rfl, trivial⟩ ⟨rfl, okE_one rfl, rfl, okE_one rfl, rfl, okE_one rfl, rfl, okE_one rfl, rfl, okE_t, trivial⟩, 0, newT, (by omega), (by rfl), (by rfl), rfl, rfl⟩) ?_
    rintro m s g ⟨i, T, hi, hT, hok, rfl, rfl⟩
    refine awj_seq ?_
    refine awj_rj rfl ?_
    refine RJ.op rfl rfl (eff_iop rfl rfl rfl rfl rfl) ?_
    refine RJ.nil ?_
    refine awj_seq ?_
    refine awj_cond rfl (fun h2 => ?_) (fun h2 => ?_)
    · try simp only [cl] at h2
      refine awj_skip ?_
      refine awj_seq ?_
      refine awj_block ?_
      refine awj_seq ?_
      refine awj_rj rfl ?_
      have hil : i < l.length := by omega
      have hFit := runTo_fit12 hO (by omega) hok
      rw [← hT] at hFit
      refine RJ.op rfl rfl (eff_move (v := .t _) rfl rfl rfl) ?_
      refine RJ.op rfl rfl (eff_indexM rfl rfl te32 rfl rfl rfl (by first | assumption | exact List.getElem?_eq_getElem (by omega)) rfl (by decide)) ?_
      refine RJ.op rfl rfl (eff_loadW rfl rfl ti47 rfl rfl rfl) ?_
      refine RJ.new rfl rfl (eff_allocK (k := 15) (id := 8) rfl rfl tz47 rfl rfl) ?_
      refine RJ.op rfl rfl (eff_assign (v := .t _) rfl rfl rfl) ?_
      refine RJ.store rfl rfl (eff_storeW (v := .t _) (els := [_]) (els' := [_]) rfl rfl ti47 rfl rfl rfl rfl rfl rfl rfl rfl rfl) ?_
      refine RJ.nil ?_
      refine awj_seq ?_
      refine awj_seq ?_
      refine awj_rj rfl ?_
      refine RJ.op rfl rfl (eff_move (v := .t _) rfl rfl rfl) ?_
      refine RJ.op rfl rfl (eff_move (v := .t _) rfl rfl rfl) ?_
      refine RJ.op rfl rfl (eff_callT (form_ret l i hil (by have := hO.len; omega)) co62 rfl rfl rfl rfl) ?_
      refine RJ.op rfl rfl (eff_assign (v := .t _) rfl rfl rfl) ?_
      refine RJ.nil ?_
      refine awj_seq ?_
      refine awj_rj rfl ?_
      refine RJ.op rfl rfl (eff_move (v := .t _) rfl rfl rfl) ?_
      refine RJ.op rfl rfl (eff_iop rfl rfl rfl rfl rfl) ?_
      refine RJ.nil ?_
      refine awj_cond rfl (fun h3 => ?_) (fun h3 => ?_)
      · try simp only [cl] at h3
        refine awj_seq ?_
        refine awj_rj rfl ?_
        refine RJ.op rfl rfl (eff_buildT (ys := [_, _]) rfl rfl tz64 tg64 rfl) ?_
        refine RJ.op rfl rfl (eff_move (v := .t _) rfl rfl rfl) ?_
        refine RJ.store rfl rfl (eff_storeW (v := .t _) (els := [_]) (els' := [_]) rfl rfl ti64 rfl rfl rfl rfl rfl rfl rfl rfl rfl) ?_
        refine RJ.op rfl rfl (eff_assign (v := .t _) rfl rfl rfl) ?_
        refine RJ.nil ?_
        refine awj_ret ?_
        have hfx : form l i ≠ 0 := by omega
        rw [all_bad h1 hil (run_form hok hfx) hfx, nvis_form h1 hil hok hfx]
        exact ⟨Or.inr rfl, [_, _], [.t (encT zt), .t _], ⟨.cell rfl ti64 (.whole rfl rfl rfl rfl rfl rfl), .tmp rfl, trivial⟩, rfl, Weak.trans (weak_slot 0 (y := encT zt) rfl (by repeat' first | exact trivial | exact Wk.refl _ | exact Wk.sl _ | refine And.intro ?_ ?_ | refine Wk.tupP ?_ | refine Wk.aggP ?_)) (weak_genX ⟨.a (.t _), .a (.t _), .fn _ _ ⟨.ptr 1001 0 0 0 0 rfl rfl rfl rfl rfl rfl, .ptr 1004 0 0 0 0 rfl rfl rfl rfl rfl rfl, trivial⟩, trivial⟩ ⟨⟨_, rfl, rfl, rfl, rfl, gen_t1⟩, ⟨_, rfl, rfl, rfl, rfl, gen_own1 (.own 1100 _ _ 0 _ rfl rfl rfl rfl rfl rfl rfl)⟩, ⟨_, rfl, rfl, rfl, rfl, gen_trees⟩, trivial⟩), rfl⟩
      · try simp only [cl] at h3
        refine awj_skip ?_
        refine awj_seq ?_
        refine awj_rj rfl ?_
        have hfo : form l i = 0 := by omega
        refine RJ.op rfl rfl (eff_move (v := .fn _ _) rfl rfl rfl) ?_
        refine RJ.op rfl rfl (eff_move (v := .t _) rfl rfl rfl) ?_
        refine RJ.op rfl rfl (eff_load rfl rfl ti64 rfl (.whole rfl rfl rfl rfl rfl rfl)) ?_
        refine RJ.new3 rfl rfl (eff_callKF (hvis_ret l i T hil (by have := hO.len; omega) hT hFit hO.seq hfo) co39 (fun id => id) rfl rfl rfl ⟨.t _, .t _, .ptr _ _ _ _ rfl rfl, .ptr _ _ _ _ rfl rfl, trivial⟩ (.tup _ _ rfl (fun i c d h _ => by simp at h)) rfl ⟨⟨rfl, self_one, ⟨_, rfl, .inr ⟨rfl, rfl, rfl, rfl, 2, rfl, (by simp)⟩⟩⟩, ⟨rfl, self_own rfl rfl, ⟨_, rfl, .inr ⟨rfl, rfl, rfl, rfl, 3, rfl, (by simp)⟩⟩⟩, ⟨rfl, self_tree, ⟨_, rfl, .inl (Nat.lt_succ_self _)⟩⟩, trivial⟩ ⟨⟨self_one, .inl rfl⟩, ⟨self_own rfl rfl, .inl rfl⟩, ⟨self_tree, .inl rfl⟩, trivial⟩) ?_
        refine RJ.nil ?_
        refine awj_seq ?_
        refine awj_rj rfl ?_
        refine RJ.op rfl rfl (eff_assign (v := .t _) rfl rfl rfl) ?_
        refine RJ.nil ?_
        refine awj_seq ?_
        refine awj_rj rfl ?_
        refine RJ.op rfl rfl (eff_load rfl rfl ti64 rfl (.whole rfl rfl rfl rfl rfl rfl)) ?_
        refine RJ.new rfl rfl (eff_allocK (k := 2) (id := 11) rfl rfl tz64 rfl rfl) ?_
        refine RJ.store rfl rfl (eff_storeW (v := .t _) (els := [_]) (els' := [_]) rfl rfl ti64 rfl rfl rfl rfl rfl rfl rfl rfl rfl) ?_
        refine RJ.nil ?_
        refine awj_seq ?_
        refine awj_seq ?_
        refine awj_rj rfl ?_
        refine RJ.op rfl rfl (eff_fieldAddr rfl rfl tf47_1 (by decide) rfl rfl rfl (Nat.le_of_ble_eq_true rfl)) ?_
        refine RJ.op rfl rfl (eff_load (y := .t _) rfl rfl ti3 rfl (.one rfl rfl rfl rfl)) ?_
        refine RJ.nil ?_
        refine awj_block ?_
        refine awj_seq ?_
        refine awj_rj rfl ?_
        refine RJ.op rfl rfl (eff_iop rfl rfl rfl rfl rfl) ?_
        refine RJ.op rfl rfl (eff_assign (v := .t _) rfl rfl rfl) ?_
        refine RJ.nil ?_
        refine awj_cond rfl (fun h4 => ?_) (fun h4 => ?_)
        · try simp only [cl] at h4
          refine awj_rj rfl ?_
          refine RJ.op rfl rfl (eff_load rfl rfl ti64 rfl (.whole rfl rfl rfl rfl rfl rfl)) ?_
          refine RJ.op rfl rfl (eff_fieldAddr rfl rfl tf47_2 (by decide) rfl rfl rfl (Nat.le_of_ble_eq_true rfl)) ?_
          refine RJ.op rfl rfl (eff_loadS (ys := [_, _, _, _, _]) rfl rfl ti45 rfl rfl rfl rfl rfl rfl) ?_
          refine RJ.op rfl rfl (eff_callXT (tsend_ret T _ hFit.srt hFit.hp (by have := hFit.len; omega) (by have := hFit.sl; omega) hFit.bod (hO.bod _ (List.getElem_mem hil))) co63 rfl rfl rfl ⟨rfl, trivial⟩ rfl) ?_
          refine RJ.op rfl rfl (eff_move (v := .t _) rfl rfl rfl) ?_
          refine RJ.op rfl rfl (eff_extract rfl rfl rfl rfl) ?_
          refine RJ.op rfl rfl (eff_extract rfl rfl rfl rfl) ?_
          refine RJ.store rfl rfl (eff_storeW (v := .t _) (els := [_]) (els' := [_]) rfl rfl ti64 rfl rfl rfl rfl rfl rfl rfl rfl rfl) ?_
          refine RJ.op rfl rfl (eff_assign (v := .t _) rfl rfl rfl) ?_
          refine RJ.nil ?_
          refine awj_seq ?_
          refine awj_seq ?_
          refine awj_rj rfl ?_
          refine RJ.op rfl rfl (eff_move (v := .t _) rfl rfl rfl) ?_
          refine RJ.op rfl rfl (eff_iop rfl rfl rfl rfl rfl) ?_
          refine RJ.nil ?_
          refine awj_cond rfl (fun h5 => ?_) (fun h5 => ?_)
          · try simp only [cl] at h5
            refine awj_seq ?_
            refine awj_rj rfl ?_
            refine RJ.op rfl rfl (eff_buildT (ys := [_, _]) rfl rfl tz64 tg64 rfl) ?_
            refine RJ.op rfl rfl (eff_move (v := .t _) rfl rfl rfl) ?_
            refine RJ.store rfl rfl (eff_storeW (v := .t _) (els := [_]) (els' := [_]) rfl rfl ti64 rfl rfl rfl rfl rfl rfl rfl rfl rfl) ?_
            refine RJ.op rfl rfl (eff_assign (v := .t _) rfl rfl rfl) ?_
            refine RJ.nil ?_
            refine awj_ret ?_
            have hrb := bad_send hil hT hok hfo (by omega) (by omega)
            rw [all_bad h1 hil hrb (by omega), nvis_bad h1 hil hok hfo hrb (by omega)]
            exact ⟨Or.inr rfl, [_, _], [.t (encT zt), .t _], ⟨.cell rfl ti64 (.whole rfl rfl rfl rfl rfl rfl), .tmp rfl, trivial⟩, rfl, Weak.trans (weak_slot 0 (y := encT zt) rfl (by repeat' first | exact trivial | exact Wk.refl _ | exact Wk.sl _ | refine And.intro ?_ ?_ | refine Wk.tupP ?_ | refine Wk.aggP ?_)) (weak_genX ⟨.a (.t _), .a (.t _), .fn _ _ ⟨.ptr 1001 0 0 0 0 rfl rfl rfl rfl rfl rfl, .ptr 1004 0 0 0 0 rfl rfl rfl rfl rfl rfl, trivial⟩, trivial⟩ ⟨⟨_, rfl, rfl, rfl, rfl, gen_t1⟩, ⟨_, rfl, rfl, rfl, rfl, gen_own1 (.own 1100 _ _ 0 _ rfl rfl rfl rfl rfl rfl rfl)⟩, ⟨_, rfl, rfl, rfl, rfl, gen_trees⟩, trivial⟩), rfl⟩
          · try simp only [cl] at h5
            refine awj_skip ?_
            refine awj_rj rfl ?_
            refine RJ.op rfl rfl (eff_load rfl rfl ti64 rfl (.whole rfl rfl rfl rfl rfl rfl)) ?_
            refine RJ.store rfl rfl (eff_storeW (v := .t _) (els := [_]) (els' := [_]) rfl rfl ti64 rfl rfl rfl rfl rfl rfl rfl rfl rfl) ?_
            refine RJ.nil ?_
            refine awj_rj rfl ?_
            refine RJ.op rfl rfl (eff_iop rfl rfl rfl rfl (iadd (by omega))) ?_
            refine RJ.op rfl rfl (eff_move (v := .t _) rfl rfl rfl) ?_
            refine RJ.nil ?_
            refine ⟨_, ?_, _, weak_keep (n := 63) (fr' := [(0, .t (.sl (l.map encC) false)), (1, .fn 39 [.ptr 1001 0 0 0, .ptr 1004 0 0 0]), (4, .ptr 4 0 0 0), (6, .ptr 6 0 0 0), (17, .t (.sl (l.map encC) false)), (18, .t (encI (l.length : Nat))), (19, .t (encI ((i + 1) : Nat))), (64, .t deT)]) (st' := [(4, some ⟨2, 64, 0, [.t z64]⟩), (6, some ⟨2, 64, 0, [.t (encT _)]⟩), (1001, some ⟨1, 32, 0, [.t (.sl (l.map encC) false)]⟩), (1004, some ⟨1, 26, 0, [.own 1100 (i + 1) 0 (heldTo l (i + 1)).length]⟩), (1100, some ⟨1, 3, (i + 1), ((heldTo l (i + 1)).map encN).map .t⟩)]) ⟨rfl, rfl, rfl, rfl, rfl, rfl, rfl, rfl, rfl, rfl, rfl, rfl, rfl, rfl, rfl, rfl, trivial⟩ ⟨rfl, okE_one rfl, rfl, okE_one rfl, rfl, okE_one rfl, rfl, okE_one rfl, rfl, okE_t, trivial⟩, i + 1, _, (by omega), (by first | rw [run_send hil hT hok hfo (by omega) (by omega)] | rw [run_hear hil hT hok hfo (by omega) (by omega)] | rw [run_dec hil hT hok hfo (by omega) (by omega)]), (by first | rw [run_send hil hT hok hfo (by omega) (by omega)] | rw [run_hear hil hT hok hfo (by omega) (by omega)] | rw [run_dec hil hT hok hfo (by omega) (by omega)]), rfl, rfl⟩
            omega
        · try simp only [cl] at h4
          refine awj_seq ?_
          refine awj_rj rfl ?_
          refine RJ.op rfl rfl (eff_iop rfl rfl rfl rfl rfl) ?_
          refine RJ.op rfl rfl (eff_assign (v := .t _) rfl rfl rfl) ?_
          refine RJ.nil ?_
          refine awj_cond rfl (fun h6 => ?_) (fun h6 => ?_)
          · try simp only [cl] at h6
            refine awj_rj rfl ?_
            refine RJ.op rfl rfl (eff_load rfl rfl ti64 rfl (.whole rfl rfl rfl rfl rfl rfl)) ?_
            refine RJ.op rfl rfl (eff_fieldAddr rfl rfl tf47_3 (by decide) rfl rfl rfl (Nat.le_of_ble_eq_true rfl)) ?_
            refine RJ.op rfl rfl (eff_loadS (ys := [_, _, _, _]) rfl rfl ti23 rfl rfl rfl rfl rfl rfl) ?_
            refine RJ.op rfl rfl (eff_callXT (thear_ret T _ (hO.hp _ (List.getElem_mem hil)) (by have := hFit.len; omega) (by have := hFit.sl; omega) hFit.bod) co64 rfl rfl rfl ⟨rfl, trivial⟩ rfl) ?_
            refine RJ.op rfl rfl (eff_move (v := .t _) rfl rfl rfl) ?_
            refine RJ.op rfl rfl (eff_extract rfl rfl rfl rfl) ?_
            refine RJ.op rfl rfl (eff_extract rfl rfl rfl rfl) ?_
            refine RJ.store rfl rfl (eff_storeW (v := .t _) (els := [_]) (els' := [_]) rfl rfl ti64 rfl rfl rfl rfl rfl rfl rfl rfl rfl) ?_
            refine RJ.op rfl rfl (eff_assign (v := .t _) rfl rfl rfl) ?_
            refine RJ.nil ?_
            refine awj_seq ?_
            refine awj_seq ?_
            refine awj_rj rfl ?_
            refine RJ.op rfl rfl (eff_move (v := .t _) rfl rfl rfl) ?_
            refine RJ.op rfl rfl (eff_iop rfl rfl rfl rfl rfl) ?_
            refine RJ.nil ?_
            refine awj_cond rfl (fun h7 => ?_) (fun h7 => ?_)
            · try simp only [cl] at h7
              refine awj_seq ?_
              refine awj_rj rfl ?_
              refine RJ.op rfl rfl (eff_buildT (ys := [_, _]) rfl rfl tz64 tg64 rfl) ?_
              refine RJ.op rfl rfl (eff_move (v := .t _) rfl rfl rfl) ?_
              refine RJ.store rfl rfl (eff_storeW (v := .t _) (els := [_]) (els' := [_]) rfl rfl ti64 rfl rfl rfl rfl rfl rfl rfl rfl rfl) ?_
              refine RJ.op rfl rfl (eff_assign (v := .t _) rfl rfl rfl) ?_
              refine RJ.nil ?_
              refine awj_ret ?_
              have hrb := bad_hear hil hT hok hfo (by omega) (by omega)
              rw [all_bad h1 hil hrb (by omega), nvis_bad h1 hil hok hfo hrb (by omega)]
              exact ⟨Or.inr rfl, [_, _], [.t (encT zt), .t _], ⟨.cell rfl ti64 (.whole rfl rfl rfl rfl rfl rfl), .tmp rfl, trivial⟩, rfl, Weak.trans (weak_slot 0 (y := encT zt) rfl (by repeat' first | exact trivial | exact Wk.refl _ | exact Wk.sl _ | refine And.intro ?_ ?_ | refine Wk.tupP ?_ | refine Wk.aggP ?_)) (weak_genX ⟨.a (.t _), .a (.t _), .fn _ _ ⟨.ptr 1001 0 0 0 0 rfl rfl rfl rfl rfl rfl, .ptr 1004 0 0 0 0 rfl rfl rfl rfl rfl rfl, trivial⟩, trivial⟩ ⟨⟨_, rfl, rfl, rfl, rfl, gen_t1⟩, ⟨_, rfl, rfl, rfl, rfl, gen_own1 (.own 1100 _ _ 0 _ rfl rfl rfl rfl rfl rfl rfl)⟩, ⟨_, rfl, rfl, rfl, rfl, gen_trees⟩, trivial⟩), rfl⟩
            · try simp only [cl] at h7
              refine awj_skip ?_
              refine awj_rj rfl ?_
              refine RJ.op rfl rfl (eff_load rfl rfl ti64 rfl (.whole rfl rfl rfl rfl rfl rfl)) ?_
              refine RJ.store rfl rfl (eff_storeW (v := .t _) (els := [_]) (els' := [_]) rfl rfl ti64 rfl rfl rfl rfl rfl rfl rfl rfl rfl) ?_
              refine RJ.nil ?_
              refine awj_rj rfl ?_
              refine RJ.op rfl rfl (eff_iop rfl rfl rfl rfl (iadd (by omega))) ?_
              refine RJ.op rfl rfl (eff_move (v := .t _) rfl rfl rfl) ?_
              refine RJ.nil ?_
              refine ⟨_, ?_, _, weak_keep (n := 63) (fr' := [(0, .t (.sl (l.map encC) false)), (1, .fn 39 [.ptr 1001 0 0 0, .ptr 1004 0 0 0]), (4, .ptr 4 0 0 0), (6, .ptr 6 0 0 0), (17, .t (.sl (l.map encC) false)), (18, .t (encI (l.length : Nat))), (19, .t (encI ((i + 1) : Nat))), (64, .t deT)]) (st' := [(4, some ⟨2, 64, 0, [.t z64]⟩), (6, some ⟨2, 64, 0, [.t (encT _)]⟩), (1001, some ⟨1, 32, 0, [.t (.sl (l.map encC) false)]⟩), (1004, some ⟨1, 26, 0, [.own 1100 (i + 1) 0 (heldTo l (i + 1)).length]⟩), (1100, some ⟨1, 3, (i + 1), ((heldTo l (i + 1)).map encN).map .t⟩)]) ⟨rfl, rfl, rfl, rfl, rfl, rfl, rfl, rfl, rfl, rfl, rfl, rfl, rfl, rfl, rfl, rfl, trivial⟩ ⟨rfl, okE_one rfl, rfl, okE_one rfl, rfl, okE_one rfl, rfl, okE_one rfl, rfl, okE_t, trivial⟩, i + 1, _, (by omega), (by first | rw [run_send hil hT hok hfo (by omega) (by omega)] | rw [run_hear hil hT hok hfo (by omega) (by omega)] | rw [run_dec hil hT hok hfo (by omega) (by omega)]), (by first | rw [run_send hil hT hok hfo (by omega) (by omega)] | rw [run_hear hil hT hok hfo (by omega) (by omega)] | rw [run_dec hil hT hok hfo (by omega) (by omega)]), rfl, rfl⟩
              omega
          · try simp only [cl] at h6
            refine awj_skip ?_
            refine awj_seq ?_
            refine awj_seq ?_
            refine awj_rj rfl ?_
            refine RJ.op rfl rfl (eff_move (v := .t _) rfl rfl rfl) ?_
            refine RJ.op rfl rfl (eff_iop rfl rfl rfl rfl rfl) ?_
            refine RJ.nil ?_
            refine awj_cond rfl (fun h8 => ?_) (fun h8 => ?_)
            · try simp only [cl] at h8
              refine awj_seq ?_
              refine awj_rj rfl ?_
              refine RJ.op rfl rfl (eff_buildT (ys := [_, _]) rfl rfl tz64 tg64 rfl) ?_
              refine RJ.op rfl rfl (eff_move (v := .t _) rfl rfl rfl) ?_
              refine RJ.store rfl rfl (eff_storeW (v := .t _) (els := [_]) (els' := [_]) rfl rfl ti64 rfl rfl rfl rfl rfl rfl rfl rfl rfl) ?_
              refine RJ.op rfl rfl (eff_assign (v := .t _) rfl rfl rfl) ?_
              refine RJ.nil ?_
              refine awj_ret ?_
              exact absurd trivial ‹¬ True›
            · try simp only [cl] at h8
              refine awj_skip ?_
              refine awj_rj rfl ?_
              refine RJ.op rfl rfl (eff_load rfl rfl ti64 rfl (.whole rfl rfl rfl rfl rfl rfl)) ?_
              refine RJ.store rfl rfl (eff_storeW (v := .t _) (els := [_]) (els' := [_]) rfl rfl ti64 rfl rfl rfl rfl rfl rfl rfl rfl rfl) ?_
              refine RJ.nil ?_
              refine awj_rj rfl ?_
              refine RJ.op rfl rfl (eff_iop rfl rfl rfl rfl (iadd (by omega))) ?_
              refine RJ.op rfl rfl (eff_move (v := .t _) rfl rfl rfl) ?_
              refine RJ.nil ?_
              refine ⟨_, ?_, _, weak_keep (n := 63) (fr' := [(0, .t (.sl (l.map encC) false)), (1, .fn 39 [.ptr 1001 0 0 0, .ptr 1004 0 0 0]), (4, .ptr 4 0 0 0), (6, .ptr 6 0 0 0), (17, .t (.sl (l.map encC) false)), (18, .t (encI (l.length : Nat))), (19, .t (encI ((i + 1) : Nat))), (64, .t deT)]) (st' := [(4, some ⟨2, 64, 0, [.t z64]⟩), (6, some ⟨2, 64, 0, [.t (encT _)]⟩), (1001, some ⟨1, 32, 0, [.t (.sl (l.map encC) false)]⟩), (1004, some ⟨1, 26, 0, [.own 1100 (i + 1) 0 (heldTo l (i + 1)).length]⟩), (1100, some ⟨1, 3, (i + 1), ((heldTo l (i + 1)).map encN).map .t⟩)]) ⟨rfl, rfl, rfl, rfl, rfl, rfl, rfl, rfl, rfl, rfl, rfl, rfl, rfl, rfl, rfl, rfl, trivial⟩ ⟨rfl, okE_one rfl, rfl, okE_one rfl, rfl, okE_one rfl, rfl, okE_one rfl, rfl, okE_t, trivial⟩, i + 1, _, (by omega), (by first | rw [run_send hil hT hok hfo (by omega) (by omega)] | rw [run_hear hil hT hok hfo (by omega) (by omega)] | rw [run_dec hil hT hok hfo (by omega) (by omega)]), (by first | rw [run_send hil hT hok hfo (by omega) (by omega)] | rw [run_hear hil hT hok hfo (by omega) (by omega)] | rw [run_dec hil hT hok hfo (by omega) (by omega)]), rfl, rfl⟩
              omega
    · try simp only [cl] at h2
      refine awj_exit ?_
      refine awj_seq ?_
      refine awj_rj rfl ?_
      refine RJ.op rfl rfl (eff_load rfl rfl ti64 rfl (.whole rfl rfl rfl rfl rfl rfl)) ?_
      refine RJ.store rfl rfl (eff_storeW (v := .t _) (els := [_]) (els' := [_]) rfl rfl ti64 rfl rfl rfl rfl rfl rfl rfl rfl rfl) ?_
      refine RJ.op rfl rfl (eff_assign (v := .t _) rfl rfl rfl) ?_
      refine RJ.nil ?_
      refine awj_ret ?_
      have hi2 : i = l.length := by omega
      subst hi2
      rw [all_ok h1 hok, nvis_ok h1 hok, ← hT]
      exact ⟨Or.inr rfl, [_, _], [.t (encT T), .t _], ⟨.cell rfl ti64 (.whole rfl rfl rfl rfl rfl rfl), .tmp rfl, trivial⟩, rfl, Weak.trans (weak_slot 0 (y := encT T) rfl (by repeat' first | exact trivial | exact Wk.refl _ | exact Wk.sl _ | refine And.intro ?_ ?_ | refine Wk.tupP ?_ | refine Wk.aggP ?_)) (weak_genX ⟨.a (.t _), .a (.t _), .fn _ _ ⟨.ptr 1001 0 0 0 0 rfl rfl rfl rfl rfl rfl, .ptr 1004 0 0 0 0 rfl rfl rfl rfl rfl rfl, trivial⟩, trivial⟩ ⟨⟨_, rfl, rfl, rfl, rfl, gen_t1⟩, ⟨_, rfl, rfl, rfl, rfl, gen_own1 (.own 1100 _ _ 0 _ rfl rfl rfl rfl rfl rfl rfl)⟩, ⟨_, rfl, rfl, rfl, rfl, gen_trees⟩, trivial⟩), rfl⟩

end Go.Tv.C36

end
section
open Go Go.Tv Go.Proofs
namespace Go.Tv.C36
set_option maxRecDepth 20000
set_option maxHeartbeats 2000000
set_option linter.unusedSimpArgs false
set_option linter.unusedVariables false
theorem held_ret (l : List Rcd) (hO : OKL l) : RetT Tryd.prog 19 [(1, deT)] [.sl (l.map encC) false] (.tup [.sl ((held l).1.map encN) false, encI (held l).2]) := by
  refine retT_of_awp Tryd.func19 rfl (Nat.le_of_ble_eq_true rfl) ?_
  refine awp_seq ?_
  refine awp_rw rfl ?_
  refine RW.new rfl rfl (eff_boxK (v := .t _) (k := 1) (id := 1) rfl rfl rfl rfl rfl rfl) ?_
  refine asT ?_
  refine asT ?_
  refine RW.nil ?_
  refine awp_seq ?_
  refine awp_rw rfl ?_
  refine RW.new rfl rfl (eff_allocK (k := 1) (id := 4) rfl rfl tz26 rfl rfl) ?_
  refine RW.nil ?_
  show AWP _ _ _ _
  refine awp_weak (weak_adopt1 (id0 := 4) 1100 1 3 rfl rfl) ?_
  refine awp_seq ?_
  refine awp_rw rfl ?_
  refine l1T ti32 rfl rfl rfl rfl rfl (.one rfl rfl rfl rfl) ?_
  refine RW.op rfl rfl (eff_makeFunc rfl rfl rfl rfl) ?_
  refine RW.new3 rfl rfl (eff_callKT (r' := .tup [.t _, .t _]) (replay39_ret l hO) co38 (fun id => bif Nat.beq id 1100 then 1100 else id - 1000) rfl rfl rfl ⟨rfl, trivial⟩ ⟨.t _, .fnL ⟨.ptr _ _ _ _ rfl rfl, .ptr _ _ _ _ rfl rfl, trivial⟩, trivial⟩ (.tupL ⟨.t _, .t _, trivial⟩) rfl ⟨⟨rfl, self_one, ⟨_, rfl, .inr ⟨rfl, rfl, rfl, rfl, 1, _, rfl, List.mem_singleton.2 rfl, .inr ⟨_, _, 0, rfl, rfl⟩⟩⟩⟩, ⟨rfl, self_own rfl rfl, ⟨_, rfl, .inr ⟨rfl, rfl, rfl, rfl, 1, _, rfl, List.mem_singleton.2 rfl, .inr ⟨_, _, 1, rfl, rfl⟩⟩⟩⟩, ⟨rfl, self_tree, ⟨_, rfl, .inl (Nat.succ_pos _)⟩⟩, trivial⟩ ⟨⟨self_one, .inl rfl⟩, ⟨self_own rfl rfl, .inl rfl⟩, ⟨self_tree, .inl rfl⟩, trivial⟩) ?_
  refine RW.op rfl rfl (eff_move (v := .tup _) rfl rfl rfl) ?_
  refine RW.op rfl rfl (eff_extractA rfl rfl rfl rfl) ?_
  refine RW.op rfl rfl (eff_extractA rfl rfl rfl rfl) ?_
  refine RW.new rfl rfl (eff_allocK (k := 2) (id := 5) rfl rfl tz64 rfl rfl) ?_
  refine RW.store rfl rfl (eff_storeW (v := .t _) (els := [_]) (els' := [_]) rfl rfl ti64 rfl rfl rfl rfl rfl rfl rfl rfl rfl) ?_
  refine asT ?_
  refine RW.nil ?_
  refine awp_seq ?_
  refine awp_seq ?_
  refine awp_rw rfl ?_
  refine mvT ?_
  refine ioT ?_
  refine RW.nil ?_
  refine awp_cond rfl (fun h1 => ?_) (fun h1 => ?_)
  · try simp only [cl] at h1
    refine awp_seq ?_
    refine awp_rw rfl ?_
    refine mvT ?_
    refine asT ?_
    refine asT ?_
    refine RW.nil ?_
    refine awp_ret ?_
    rw [held_bad (all_zt h1) h1]
    exact ⟨Or.inr rfl, [_, _], ⟨.tmp (.t _), .tmp (.t _), trivial⟩, (by repeat' first | exact trivial | exact Wk.refl _ | exact Wk.sl _ | refine And.intro ?_ ?_ | refine Wk.tupP ?_ | refine Wk.aggP ?_)⟩
  · try simp only [cl] at h1
    refine awp_skip ?_
    refine awp_seq ?_
    refine awp_rw rfl ?_
    refine RW.op rfl rfl (eff_load (y := .own _ _ _ _) rfl rfl ti26 rfl (.one rfl rfl rfl rfl)) ?_
    refine asO ?_
    refine asT ?_
    refine RW.nil ?_
    refine awp_ret ?_
    rw [held_ok (by omega), ← nvis_all (by omega)]
    exact ⟨Or.inr rfl, [_, _], ⟨.tmp (Res.ownT (xs := (heldTo l (nvis l)).map encN) rfl rfl rfl (by simp)), .tmp (.t _), trivial⟩, .refl _⟩

end Go.Tv.C36

end
section
open Go Go.Tv Go.Proofs
namespace Go.Tv.C36
set_option maxRecDepth 20000
set_option maxHeartbeats 2000000
set_option linter.unusedSimpArgs false
set_option linter.unusedVariables false
end Go.Tv.C36

end
section
open Go Go.Tv Go.Proofs
namespace Go.Tv.C36
set_option maxRecDepth 20000
set_option maxHeartbeats 2000000
set_option linter.unusedSimpArgs false
set_option linter.unusedVariables false
theorem sameN_ret (a : List Nat) (hl : a.length ≤ 1000000) : Ret Tryd.prog 21 [.sl (a.map encN) false, .sl (a.map encN) false] (.bool true) := by
  refine ret_of_awp Tryd.func21 rfl (Nat.le_of_ble_eq_true rfl) ?_
  refine awp_seq ?_
  refine awp_rw rfl ?_
  refine asT ?_
  refine RW.nil ?_
  refine awp_seq ?_
  refine awp_seq ?_
  refine awp_rw rfl ?_
  refine mvT ?_
  refine RW.op rfl rfl (eff_lenM rfl rfl te26 rfl) ?_
  refine mvT ?_
  refine RW.op rfl rfl (eff_lenM rfl rfl te26 rfl) ?_
  refine RW.op rfl rfl (eff_iop (r := .bool false) rfl rfl rfl rfl (by simp [iop])) ?_
  refine RW.nil ?_
  refine awp_cond rfl (fun h => nomatch h) (fun _ => ?_)
  refine awp_skip ?_
  refine awp_seq ?_
  refine awp_seq ?_
  refine awp_rw rfl ?_
  refine asT ?_
  refine RW.nil ?_
  refine awp_block ?_
  refine awp_loopW (fun m s => ∃ (i : Nat), (i ≤ a.length) ∧ m = a.length - i ∧ s = ⟨26, [(0, .t (.sl (a.map encN) false)), (1, .t (.sl (a.map encN) false)), (5, .t (encI (i : Nat)))], []⟩) (_) (⟨_, weak_keep (n := 26) (fr' := [(0, .t (.sl (a.map encN) false)), (1, .t (.sl (a.map encN) false)), (5, .t (encI (0 : Nat)))]) (st' := []) ⟨rfl, rfl, rfl, rfl, rfl, rfl, trivial⟩ trivial, 0, (by omega), rfl, rfl⟩) ?_
  rintro m s ⟨i, hi, rfl, rfl⟩
  refine awp_seq ?_
  refine awp_seq ?_
  refine awp_rw rfl ?_
  refine mvT ?_
  refine mvT ?_
  refine RW.op rfl rfl (eff_lenM rfl rfl te26 rfl) ?_
  refine ioT ?_
  refine RW.nil ?_
  refine awp_cond rfl (fun h1 => ?_) (fun h1 => ?_)
  · try simp only [cl] at h1
    refine awp_skip ?_
    refine awp_seq ?_
    refine awp_block ?_
    refine awp_seq ?_
    refine awp_rd [(some 17, []), (some 18, []), (some 19, []), (some 20, []), (some 21, []), (some 22, []), (some 23, []), (some 24, []), (some 25, [])] [[], [], [0, 1], [0, 1, 2], [], [], [4, 5], [4, 5, 6], [0, 1, 2, 3, 4, 5, 6, 7]] tm rfl rfl rfl rfl ?_
    refine mvD ?_
    refine mvD ?_
    refine RD.op rfl rfl rfl (eff_indexM rfl rfl te26 rfl rfl rfl (by first | assumption | exact List.getElem?_eq_getElem (by omega)) rfl (by decide)) ?_
    refine RD.op rfl rfl rfl (eff_loadW1 rfl rfl ti3 rfl rfl) ?_
    refine mvD ?_
    refine mvD ?_
    refine RD.op rfl rfl rfl (eff_indexM rfl rfl te26 rfl rfl rfl (by first | assumption | exact List.getElem?_eq_getElem (by omega)) rfl (by decide)) ?_
    refine RD.op rfl rfl rfl (eff_loadW1 rfl rfl ti3 rfl rfl) ?_
    refine RD.op rfl rfl rfl (eff_iop (r := .bool false) rfl rfl rfl rfl (by simp [iop])) ?_
    refine RD.nil ?_
    refine awp_cond rfl (fun h => nomatch h) (fun _ => ?_)
    refine awp_skip ?_
    refine awp_rw rfl ?_
    refine mvT ?_
    refine RW.op rfl rfl (eff_iop rfl rfl rfl rfl (iadd (by omega))) ?_
    refine asT ?_
    refine RW.nil ?_
    refine ⟨_, ?_, _, weak_keep (n := 26) (fr' := [(0, .t (.sl (a.map encN) false)), (1, .t (.sl (a.map encN) false)), (5, .t (encI ((i + 1) : Nat)))]) (st' := []) ⟨rfl, rfl, rfl, rfl, rfl, rfl, trivial⟩ trivial, i + 1, (by omega), rfl, rfl⟩
    omega
  · try simp only [cl] at h1
    refine awp_exit ?_
    refine awp_seq ?_
    refine awp_rw rfl ?_
    refine asT ?_
    refine RW.nil ?_
    refine awp_ret ?_
    exact ⟨Or.inr rfl, [_], ⟨.tmp (.t _), trivial⟩, .refl _⟩

end Go.Tv.C36

end
section
open Go Go.Tv Go.Proofs
namespace Go.Tv.C36

theorem snoc_ind {α : Type} {p : List α → Prop} (h0 : p []) (h1 : ∀ l a, p l → p (l ++ [a])) : ∀ l, p l := by
  have : ∀ l : List α, p l.reverse := by
    intro l
    induction l with
    | nil => exact h0
    | cons a l ih => rw [List.reverse_cons]; exact h1 _ _ ih
  intro l
  have h := this l.reverse
  rwa [List.reverse_reverse] at h

/-- Frames in the order of their keys. -/
def Inc (l : List Frm) : Prop := l.Pairwise fun a b => a.key < b.key
def KB (l : List Frm) : Prop := ∀ f, f ∈ l → 0 ≤ f.key ∧ f.key ≤ 1000000000

theorem reach_snoc (x : Rep) (l : List Frm) (f : Frm) : reachF x (l ++ [f]) = stepF (reachF x l) f := by unfold reachF; rw [List.foldl_append]; rfl
theorem reach_cases {x y : Rep} {l : List Frm} {f : Frm} : y ∈ reachF x (l ++ [f]) ↔ y ∈ reachF x l ∨ ∃ z, z ∈ reachF x l ∧ y = apply z f := by rw [reach_snoc]; exact stepF_mem
theorem stepF_self {f : Frm} {out : List Rep} {x : Rep} (h : x ∈ out) : x ∈ stepF out f := stepF_mem.2 (.inl h)
theorem reachF_self : ∀ (l : List Frm) (out : List Rep) (x : Rep), x ∈ out → x ∈ l.foldl stepF out
  | [], _, _, h => h
  | f :: l, out, x, h => reachF_self l (stepF out f) x (stepF_self h)
theorem reach_self (x : Rep) (l : List Frm) : x ∈ reachF x l := reachF_self l [x] x (List.mem_singleton.2 rfl)

theorem apply_acc {s : Rep} {f : Frm} (hk : 0 ≤ f.key ∧ f.key ≤ 1000000000) : apply s f = s ∨ (s.key ≤ f.key ∧ (apply s f).key = f.key + 1) := by
  by_cases h : f.key < s.key ∨ w64 (s.key + 4096) < f.key
  · exact .inl (apply_stay h)
  · right
    refine ⟨by omega, ?_⟩
    have e : w64 (f.key + 1) = f.key + 1 := by unfold w64; rw [wi64]; omega
    unfold apply
    rw [if_neg h]
    split
    · exact e
    · split
      · exact e
      · split
        · exact e
        · split
          · exact e
          · exact e
theorem apply_old {s : Rep} {f : Frm} (h : f.key < s.key) : apply s f = s := apply_stay (.inl h)

theorem reach_above {s : Rep} : ∀ (l : List Frm) (out : List Rep), (∀ f, f ∈ l → f.key < s.key) → (∀ y, y ∈ out → y = s) → ∀ y, y ∈ l.foldl stepF out → y = s
  | [], _, _, h, y, hy => h y hy
  | f :: l, out, hk, h, y, hy => by
    refine reach_above l (stepF out f) (fun g hg => hk g (List.mem_cons_of_mem _ hg)) (fun z hz => ?_) y hy
    rcases stepF_mem.1 hz with h1 | ⟨x, hx, rfl⟩
    · exact h z h1
    · rw [h x hx]; exact apply_old (hk f List.mem_cons_self)

theorem reach_trans {l : List Frm} : Inc l → KB l → ∀ r s x : Rep, s ∈ reachF r l → x ∈ reachF s l → x ∈ reachF r l := by
  refine snoc_ind (p := fun l => Inc l → KB l → ∀ r s x : Rep, s ∈ reachF r l → x ∈ reachF s l → x ∈ reachF r l) ?_ ?_ l
  · intro _ _ r s x hs hx
    have e1 : s = r := List.mem_singleton.1 hs
    rw [← e1]; exact hx
  · intro l f ih hi hk r s x hs hx
    have hi' : Inc l := (List.pairwise_append.1 hi).1
    have hlt : ∀ a, a ∈ l → a.key < f.key := fun a ha => (List.pairwise_append.1 hi).2.2 a ha f (List.mem_singleton.2 rfl)
    have hk' : KB l := fun g hg => hk g (List.mem_append_left _ hg)
    have first : ∀ s, s ∈ reachF r l → x ∈ reachF s (l ++ [f]) → x ∈ reachF r (l ++ [f]) := by
      intro s hs hx
      rcases reach_cases.1 hx with h | ⟨z, hz, rfl⟩
      · exact reach_cases.2 (.inl (ih hi' hk' r s x hs h))
      · exact reach_cases.2 (.inr ⟨z, ih hi' hk' r s z hs hz, rfl⟩)
    rcases reach_cases.1 hs with h | ⟨z, hz, rfl⟩
    · exact first s h hx
    · rcases apply_acc (s := z) (hk f (List.mem_append_right _ (List.mem_singleton.2 rfl))) with h | ⟨h1, h2⟩
      · rw [h] at hx; exact first z hz hx
      · have := reach_above (s := apply z f) (l ++ [f]) [apply z f] (fun g hg => by
          rw [h2]
          rcases List.mem_append.1 hg with hg | hg
          · have := hlt g hg; omega
          · rw [List.mem_singleton.1 hg]; omega) (fun y hy => List.mem_singleton.1 hy) x hx
        rw [this]; exact hs

theorem reach_arrive {l : List Frm} {f : Frm} (hf : f ∈ l) (s : Rep) : apply s f ∈ reachF s l := by
  obtain ⟨a, b, rfl⟩ := List.append_of_mem hf
  unfold reachF
  rw [List.foldl_append, List.foldl_cons]
  exact reachF_self b _ _ (stepF_mem.2 (.inr ⟨s, reachF_self a [s] s (List.mem_singleton.2 rfl), rfl⟩))

theorem reach_open {r : Rep} : ∀ (l : List Frm) (o o' : List Rep), KB l → (∀ y, y ∈ o → y ∈ o' ∧ r.key ≤ y.key) → ∀ y, y ∈ l.foldl stepF o → y ∈ (open_ l r).foldl stepF o' ∧ r.key ≤ y.key
  | [], _, _, _, h, y, hy => h y hy
  | f :: l, o, o', hk, h, y, hy => by
    have hkf := hk f List.mem_cons_self
    have hkl : KB l := fun g hg => hk g (List.mem_cons_of_mem _ hg)
    have key : ∀ z, z ∈ stepF o f → r.key ≤ z.key := by
      intro z hz
      rcases stepF_mem.1 hz with h1 | ⟨x, hx, rfl⟩
      · exact (h z h1).2
      · have := (h x hx).2
        rcases apply_acc (s := x) hkf with e | ⟨e1, e2⟩
        · rw [e]; exact this
        · omega
    by_cases hf : r.key ≤ f.key
    · have e : open_ (f :: l) r = f :: open_ l r := by unfold open_; rw [List.filter_cons, if_pos (decide_eq_true hf)]
      rw [e, List.foldl_cons]
      refine reach_open l (stepF o f) (stepF o' f) hkl (fun z hz => ⟨?_, key z hz⟩) y hy
      rcases stepF_mem.1 hz with h1 | ⟨x, hx, rfl⟩
      · exact stepF_mem.2 (.inl (h z h1).1)
      · exact stepF_mem.2 (.inr ⟨x, (h x hx).1, rfl⟩)
    · have e : open_ (f :: l) r = open_ l r := by unfold open_; rw [List.filter_cons, if_neg (by simp only [decide_eq_true_eq]; exact hf)]
      rw [e]
      refine reach_open l (stepF o f) o' hkl (fun z hz => ⟨?_, key z hz⟩) y hy
      rcases stepF_mem.1 hz with h1 | ⟨x, hx, rfl⟩
      · exact (h z h1).1
      · have := (h x hx).2
        rw [apply_old (by omega)]; exact (h x hx).1
theorem reach_opens {r x : Rep} {l : List Frm} (hk : KB l) (h : x ∈ reachF r l) : x ∈ reachF r (open_ l r) :=
  (reach_open (r := r) l [r] [r] hk (fun y hy => ⟨hy, by rw [List.mem_singleton.1 hy]; exact Int.le_refl _⟩) x h).1

/-- The state s, and what frames that may still arrive lead it to, is possible. -/
def Inv (T : Twn) (s : Rep) : Prop := ∀ x, x ∈ reachF s T.sent → x ∈ T.poss
theorem inv_new : Inv newT zr := fun x hx => hx
theorem Inv.mem {T : Twn} {s : Rep} (h : Inv T s) : s ∈ T.poss := h s (reach_self s _)
theorem inv_arrive {T : Twn} {s s' : Rep} (h : Inv T s) (hi : Inc T.sent) (hk : KB T.sent) (hs : s' ∈ reachF s T.sent) : Inv T s' := fun x hx => h x (reach_trans hi hk s s' x hs hx)

theorem send_inv {T : Twn} {f : Frm} (h : (send T f).2 = 0) : (send T f).1.sent = T.sent ++ [f] ∧ (send T f).1.poss = stepF T.poss f := by
  unfold send at h ⊢
  split
  · rename_i hc; rw [if_pos hc] at h; simp at h
  · rename_i hc; rw [if_neg hc] at h
    split
    · rename_i hd; rw [if_pos hd] at h; simp at h
    · exact ⟨rfl, rfl⟩
theorem hear_inv {T : Twn} {r : Rep} (h : (hear T r).2 = 0) : (hear T r).1.sent = T.sent ∧ (hear T r).1.poss = left_ T r := by
  unfold hear at h ⊢
  split
  · rename_i hc; rw [if_pos hc] at h; simp at h
  · exact ⟨rfl, rfl⟩
theorem inv_send {T : Twn} {f : Frm} {s : Rep} (h : Inv T s) (hs : (send T f).2 = 0) : Inv (send T f).1 s := by
  obtain ⟨e1, e2⟩ := send_inv hs
  intro x hx
  rw [e1] at hx
  rw [e2]
  rcases reach_cases.1 hx with h1 | ⟨z, hz, rfl⟩
  · exact stepF_mem.2 (.inl (h x h1))
  · exact stepF_mem.2 (.inr ⟨z, h z hz, rfl⟩)
theorem left_mem {T : Twn} {s r x : Rep} (h : Inv T s) (hi : Inc T.sent) (hk : KB T.sent) (hr : s ∈ reachF r T.sent) (hx : x ∈ reachF s T.sent) : x ∈ left_ T r :=
  List.mem_filter.2 ⟨h x hx, decide_eq_true (reach_opens hk (reach_trans hi hk r s x hr hx))⟩
theorem inv_hear {T : Twn} {s r : Rep} (h : Inv T s) (hi : Inc T.sent) (hk : KB T.sent) (hr : s ∈ reachF r T.sent) : (hear T r).2 = 0 ∧ Inv (hear T r).1 s := by
  have h0 : (hear T r).2 = 0 := by
    have := left_mem h hi hk hr (reach_self s _)
    unfold hear
    rw [if_neg (fun e => by rw [e] at this; cases this)]
  refine ⟨h0, fun x hx => ?_⟩
  obtain ⟨e1, e2⟩ := hear_inv h0
  rw [e1] at hx; rw [e2]
  exact left_mem h hi hk hr hx
/-! ### Ledgers with a true receiver -/
def sentF (l : List Rcd) : List Frm := (l.filter fun r => decide (r.kind = 1)).map (·.frame)
theorem sentF_succ {l : List Rcd} {i : Nat} (h : i < l.length) : sentF (l.take (i + 1)) = sentF (l.take i) ++ if (l.getD i zc).kind = 1 then [(l.getD i zc).frame] else [] := by
  unfold sentF
  rw [filter_take_succ h, List.map_append, getD_at h]
  congr 1
  by_cases hk : (l[i]).kind = 1
  · rw [if_pos hk, if_pos (decide_eq_true hk)]; rfl
  · rw [if_neg hk, if_neg (by rw [decide_eq_false hk]; decide)]; rfl
theorem run_sent {l : List Rcd} : ∀ i, i ≤ l.length → (runTo l i).2 = 0 → (runTo l i).1.sent = sentF (l.take i)
  | 0, _, _ => rfl
  | i + 1, hi, h => by
    obtain ⟨h0, h1, h2, h3⟩ := run_inv h
    have ih := run_sent i (by omega) h0
    rw [h3, sentF_succ (by omega), ← ih]
    show (nextT _ _).1.sent = _
    unfold nextT at h2 ⊢
    split
    · rename_i hk; rw [if_pos hk] at h2; exact (send_inv h2).1
    · rename_i hk
      rw [if_neg hk] at h2
      split
      · rename_i hk2; rw [if_pos hk2] at h2; rw [(hear_inv h2).1, List.append_nil]
      · rw [List.append_nil]

structure Led (l : List Rcd) (sts : List Rep) : Prop where
  len : sts.length = l.length
  short : l.length ≤ 16
  form : ∀ i, i < l.length → form l i = 0
  inc : Inc (sentF l)
  kb : KB (sentF l)
  s0 : 0 < l.length → sts.getD 0 zr = zr
  nxt : ∀ i, i + 1 < l.length → sts.getD (i + 1) zr ∈ reachF (sts.getD i zr) (sentF (l.take (i + 1)))
  heard : ∀ i, i < l.length → (l.getD i zc).kind = 2 → sts.getD i zr ∈ reachF (l.getD i zc).rep (sentF (l.take i))
  okl : OKL l
  opr : ∀ r, r ∈ l → r.dec.op ≤ 2
  shp : ∀ s, s ∈ sts → HP s
  snx : ∀ s, s ∈ sts → NX 1000000 s

theorem sentF_sub (l : List Rcd) (i : Nat) : (sentF (l.take i)).Sublist (sentF l) := ((List.take_sublist i l).filter _).map _
theorem Led.incT {l sts} (h : Led l sts) (i : Nat) : Inc (sentF (l.take i)) := h.inc.sublist (sentF_sub l i)
theorem Led.kbT {l sts} (h : Led l sts) (i : Nat) : KB (sentF (l.take i)) := fun f hf => h.kb f ((sentF_sub l i).subset hf)

/-- Before record i, the true state is possible; and nothing can go wrong but that there are too many states. -/
theorem Led.truth {l sts} (h : Led l sts) : ∀ i, i < l.length → (runTo l i).2 = 0 → Inv (runTo l i).1 (sts.getD i zr)
  | 0, hi, _ => by rw [h.s0 hi]; exact inv_new
  | i + 1, hi, hr => by
    obtain ⟨h0, h1, h2, h3⟩ := run_inv hr
    have ih := h.truth i (by omega) h0
    have hsn := run_sent (i + 1) (by omega) hr
    have hsn0 := run_sent i (by omega) h0
    have hin := h.incT (i + 1)
    have hkb := h.kbT (i + 1)
    have mid : Inv (runTo l (i + 1)).1 (sts.getD i zr) := by
      rw [h3]
      show Inv (nextT _ _).1 _
      unfold nextT at h2 ⊢
      split
      · rename_i hk; rw [if_pos hk] at h2; exact inv_send ih h2
      · rename_i hk
        rw [if_neg hk] at h2
        split
        · rename_i hk2
          exact (inv_hear ih (by rw [hsn0]; exact h.incT i) (by rw [hsn0]; exact h.kbT i) (by rw [hsn0]; exact h.heard i (by omega) hk2)).2
        · exact ih
    exact inv_arrive mid (by rw [hsn]; exact hin) (by rw [hsn]; exact hkb) (by rw [hsn]; exact h.nxt i hi)
end Go.Tv.C36

end
