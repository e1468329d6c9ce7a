/- TwinReads: for every input that reads as data, the call returns true and leaves its arguments as they were. No condition. -/
import Derived.Test.YtofiemifpgcfhaaDoorT2
import Derived.Test.YtofiemifpgcfhaaDoorT1
import Derived.Test.YtofiemifpgcfhaaDoorRows
import Derived.ProofKit
import Derived.Test.YtofiemifpgcfhaaDoorTie
import Derived.Test.YtofiemifpgcfhaaDoorCards
import Derived.SevenTiedAt
set_option linter.unnecessarySimpa false
set_option linter.unusedVariables false
set_option linter.unusedSimpArgs false
section
open Go Go.Tv Go.Proofs
namespace Go.Tv.C34
set_option maxRecDepth 20000
set_option maxHeartbeats 2000000
set_option linter.unusedSimpArgs false
set_option linter.unusedVariables false
theorem frames_ret (l : List Int) (mo : Nat) (hI : ∀ x, x ∈ l → I64 x) (hl : l.length ≤ 9223372036854775807) (hm : mo ≤ 20) : Ret Tryd.prog 19 [.sl (l.map encI) false, encI (mo : Nat)] (.sl ((frames l mo).map encF) false) := by
  refine ret_of_awp Tryd.func19 rfl (Nat.le_of_ble_eq_true rfl) ?_
  refine awp_seq ?_
  refine awp_rw rfl ?_
  refine RW.op rfl rfl (eff_assign (v := .t _) rfl rfl rfl) ?_
  refine RW.nil ?_
  refine awp_seq ?_
  refine awp_rw rfl ?_
  refine RW.op rfl rfl (eff_assign (v := .t _) rfl rfl rfl) ?_
  refine RW.nil ?_
  show AWP _ _ _ _
  refine awp_weak (weak_adopt (d := 5) (id := 5) (k := 5) (ty := 30) rfl rfl) ?_
  refine awp_seq ?_
  refine awp_rw rfl ?_
  refine RW.op rfl rfl (eff_assign (v := .t _) rfl rfl rfl) ?_
  refine RW.nil ?_
  refine awp_seq ?_
  refine awp_seq ?_
  refine awp_rw rfl ?_
  refine RW.op rfl rfl (eff_assign (v := .t _) rfl rfl rfl) ?_
  refine RW.nil ?_
  refine awp_block ?_
  refine awp_loopW (fun m s => ∃ (i : Nat) (gn : Nat) (n : Nat) (key : Int) (els : List AV), (i ≤ l.length) ∧ (i ≤ mo) ∧ (n = i) ∧ (key = keyAt l i) ∧ (els = (((List.range i).map (frameAt l)).map encF).map .t) ∧ m = l.length - i ∧ s = ⟨59, [(0, .t (.sl (l.map encI) false)), (1, .t (encI (mo : Nat))), (5, .own 5 gn 0 n), (6, .t (encI key)), (7, .t (encI (i : Nat)))], [(5, some ⟨5, 30, gn, els⟩)]⟩) (_) (⟨_, weak_keep (n := 59) (fr' := [(0, .t (.sl (l.map encI) false)), (1, .t (encI (mo : Nat))), (5, .own 5 0 0 0), (6, .t (encI 0)), (7, .t (encI (0 : Nat)))]) (st' := [(5, some ⟨5, 30, 0, ([])⟩)]) ⟨rfl, rfl, rfl, rfl, rfl, rfl, rfl, rfl, rfl, rfl, trivial⟩ ⟨rfl, (by first | exact okE_nil | (rw [he]; exact okE_t) | (rw [he]; intro x hx; simp only [List.mem_append, List.mem_map, List.mem_singleton] at hx; rcases hx with ⟨y, _, rfl⟩ | rfl <;> rfl)), trivial⟩, 0, 0, 0, 0, [], (by omega), (by omega), (by rfl), (by rfl), (by rfl), rfl, rfl⟩) ?_
  rintro m s ⟨i, gn, n, key, els, hi, him, hnn, hky, he, rfl, rfl⟩
  have hkr := keyAt_range l i
  rw [← hky] at hkr
  refine awp_seq ?_
  refine awp_seq ?_
  refine awp_rw rfl ?_
  refine RW.op rfl rfl (eff_move (v := .t _) rfl rfl rfl) ?_
  refine RW.op rfl rfl (eff_move (v := .t _) rfl rfl rfl) ?_
  refine RW.op rfl rfl (eff_lenM rfl rfl te26 rfl) ?_
  refine RW.op rfl rfl (eff_iop rfl rfl rfl rfl rfl) ?_
  refine RW.op rfl rfl (eff_move (v := .t _) rfl rfl rfl) ?_
  refine RW.split 14 rfl (fun h1 => ?_) (fun h1 => ?_)
  · try simp only [decide_eq_true_eq, decide_eq_false_iff_not, beq_iff_eq, bne_iff_ne, bne_eq_false_iff_eq, beq_eq_false_iff_ne, Bool.not_eq_true, Bool.not_eq_false, Bool.not_eq_true', Bool.not_eq_false', ne_eq] at h1
    refine RW.gop rfl rfl rfl rfl rfl rfl (eff_move (v := .t _) rfl rfl rfl) ?_
    refine RW.gop rfl rfl rfl rfl rfl rfl (eff_move (v := .t _) rfl rfl rfl) ?_
    refine RW.gop rfl rfl rfl rfl rfl rfl (eff_iop rfl rfl rfl rfl rfl) ?_
    refine RW.op rfl rfl (eff_pick (v := .t _) rfl rfl rfl rfl) ?_
    refine RW.nil ?_
    refine awp_cond rfl (fun h2 => ?_) (fun h2 => ?_)
    · try simp only [decide_eq_true_eq, decide_eq_false_iff_not, beq_iff_eq, bne_iff_ne, bne_eq_false_iff_eq, beq_eq_false_iff_ne, Bool.not_eq_true, Bool.not_eq_false, Bool.not_eq_true', Bool.not_eq_false', ne_eq] at h2
      refine awp_skip ?_
      refine awp_seq ?_
      refine awp_block ?_
      refine awp_seq ?_
      refine awp_rw rfl ?_
      have hil : i < l.length := by omega
      refine RW.op rfl rfl (eff_move (v := .t _) rfl rfl rfl) ?_
      refine RW.op rfl rfl (eff_move (v := .t _) rfl rfl rfl) ?_
      refine RW.op rfl rfl (eff_indexM rfl rfl te26 rfl rfl rfl (by first | assumption | exact List.getElem?_eq_getElem (by omega)) rfl (by decide)) ?_
      refine RW.op rfl rfl (eff_loadW1 rfl rfl ti3 rfl rfl) ?_
      refine RW.op rfl rfl (eff_callT (around_ret _ _ (hI _ (List.getElem_mem _)) (by omega)) co13 rfl rfl rfl rfl) ?_
      refine RW.op rfl rfl (eff_assign (v := .t _) rfl rfl rfl) ?_
      refine RW.nil ?_
      refine awp_seq ?_
      refine awp_rw rfl ?_
      have har := around_range (n := l[i]'hil) (m := 1000000) (by decide)
      have him2 : 0 ≤ imax 0 ((i : Int) - 3) ∧ imax 0 ((i : Int) - 3) ≤ 20 := by unfold imax; split <;> omega
      refine RW.op rfl rfl (eff_move (v := .t _) rfl rfl rfl) ?_
      refine RW.op rfl rfl (eff_move (v := .t _) rfl rfl rfl) ?_
      refine RW.op rfl rfl (eff_iop rfl rfl rfl rfl (isub (by omega))) ?_
      refine RW.op rfl rfl (eff_max rfl rfl rfl rfl) ?_
      refine RW.op rfl rfl (eff_move (v := .t _) rfl rfl rfl) ?_
      refine RW.op rfl rfl (eff_remE (r := (around (l[i]'hil) 1000000) % 7) rfl rfl rfl rfl (by decide) (tmod_pos (by omega))) ?_
      refine RW.op rfl rfl (eff_iop rfl rfl rfl rfl (iadd (by omega))) ?_
      refine RW.op rfl rfl (eff_buildT (ys := [_, _, _, _, _]) rfl rfl tz30 tg30 rfl) ?_
      refine RW.new rfl rfl (eff_allocK (k := 5) (id := 9) rfl rfl tz30 rfl rfl) ?_
      refine RW.store rfl rfl (eff_storeW (v := .t _) (els := [_]) (els' := [_]) rfl rfl ti30 rfl rfl rfl rfl rfl rfl rfl rfl rfl) ?_
      refine RW.nil ?_
      refine awp_seq ?_
      refine awp_seq ?_
      refine awp_rw rfl ?_
      refine RW.op rfl rfl (eff_move (v := .t _) rfl rfl rfl) ?_
      refine RW.op rfl rfl (eff_quoE (r := (around (l[i]'hil) 1000000) / 7) rfl rfl rfl rfl (by decide) (quoN (by omega) (by decide))) ?_
      refine RW.op rfl rfl (eff_remE (r := ((around (l[i]'hil) 1000000) / 7) % 12) rfl rfl rfl rfl (by decide) (tmod_pos (by omega))) ?_
      refine RW.nil ?_
      refine awp_block ?_
      refine awp_seq ?_
      refine awp_rw rfl ?_
      refine RW.op rfl rfl (eff_iop rfl rfl rfl rfl rfl) ?_
      refine RW.op rfl rfl (eff_assign (v := .t _) rfl rfl rfl) ?_
      refine RW.nil ?_
      refine awp_cond rfl (fun h3 => ?_) (fun h3 => ?_)
      · try simp only [decide_eq_true_eq, decide_eq_false_iff_not, beq_iff_eq, bne_iff_ne, bne_eq_false_iff_eq, beq_eq_false_iff_ne, Bool.not_eq_true, Bool.not_eq_false, Bool.not_eq_true', Bool.not_eq_false', ne_eq] at h3
        refine awp_rw rfl ?_
        refine RW.op rfl rfl (eff_fieldAddr rfl rfl tf30_2 (by decide) rfl rfl rfl (Nat.le_of_ble_eq_true rfl)) ?_
        refine RW.store rfl rfl (eff_storeS (v := .t _) (ys := [_, _, _, _, _]) (els := [_]) (els' := [_]) rfl rfl ti4 rfl rfl rfl rfl rfl rfl rfl (Nat.le_of_ble_eq_true rfl) rfl rfl) ?_
        refine RW.nil ?_
        refine awp_seq ?_
        refine awp_rw rfl ?_
        refine RW.op rfl rfl (eff_move (v := .own _ _ _ _) rfl rfl rfl) ?_
        refine RW.op rfl rfl (eff_load rfl rfl ti30 rfl (.whole rfl rfl rfl rfl rfl rfl)) ?_
        first
          | (have hfr : frameAt l i = ⟨imax 0 ((i : Int) - 3) + (around (l[i]'hil) 1000000) % 7, key, true, [], 0⟩ := by unfold frameAt; rw [getD_get hil, ← hky]; exact frm_0 (by omega)
             refine RW.weak (weak_slot 47 (y := encF ⟨imax 0 ((i : Int) - 3) + (around (l[i]'hil) 1000000) % 7, key, true, [], 0⟩) rfl (by repeat' first | exact trivial | exact Wk.refl _ | exact Wk.sl _ | refine And.intro ?_ ?_ | refine Wk.tupP ?_ | refine Wk.aggP ?_)) rfl ?_)
          | (have hfr : frameAt l i = ⟨(around (l[i]'hil) 1000000) / 84 % 300, key, false, [], 0⟩ := by unfold frameAt; rw [getD_get hil, ← hky]; exact frm_1 (by omega) (by omega)
             refine RW.weak (weak_slot 47 (y := encF ⟨(around (l[i]'hil) 1000000) / 84 % 300, key, false, [], 0⟩) rfl (by repeat' first | exact trivial | exact Wk.refl _ | exact Wk.sl _ | refine And.intro ?_ ?_ | refine Wk.tupP ?_ | refine Wk.aggP ?_)) rfl ?_)
          | (have hfr : frameAt l i = ⟨imax 0 ((i : Int) - 3) + (around (l[i]'hil) 1000000) % 7, key, false, [], 0⟩ := by unfold frameAt; rw [getD_get hil, ← hky]; exact frm_2 (by omega) (by omega)
             refine RW.weak (weak_slot 47 (y := encF ⟨imax 0 ((i : Int) - 3) + (around (l[i]'hil) 1000000) % 7, key, false, [], 0⟩) rfl (by repeat' first | exact trivial | exact Wk.refl _ | exact Wk.sl _ | refine And.intro ?_ ?_ | refine Wk.tupP ?_ | refine Wk.aggP ?_)) rfl ?_)
        refine RW.new rfl rfl (eff_buildSliceL (id := 48) (els := [.t (.agg [_, _, _, _, _])]) rfl rfl te34 tz30 rfl (by decide) (by decide) rfl rfl rfl rfl) ?_
        refine RW.new rfl rfl (eff_append (id := 5) (ys := [_]) rfl rfl ta34 rfl rfl rfl (by rw [he, hnn]; simp) rfl rfl (srcOwn rfl rfl rfl rfl rfl rfl) (by simp) (by simp; omega) (by simp; omega)) ?_
        refine RW.op rfl rfl (eff_assign (v := .own _ _ _ _) rfl rfl rfl) ?_
        refine RW.nil ?_
        refine awp_rw rfl ?_
        refine RW.op rfl rfl (eff_move (v := .t _) rfl rfl rfl) ?_
        refine RW.op rfl rfl (eff_iop rfl rfl rfl rfl (iadd (by omega))) ?_
        refine RW.op rfl rfl (eff_move (v := .t _) rfl rfl rfl) ?_
        refine RW.op rfl rfl (eff_quoE (r := (around (l[i]'hil) 1000000) / 84) rfl rfl rfl rfl (by decide) (quoN (by omega) (by decide))) ?_
        refine RW.op rfl rfl (eff_remE (r := ((around (l[i]'hil) 1000000) / 84) % 40) rfl rfl rfl rfl (by decide) (tmod_pos (by omega))) ?_
        refine RW.op rfl rfl (eff_quoE (r := ((around (l[i]'hil) 1000000) / 84 % 40) / 39) rfl rfl rfl rfl (by decide) (quoN (by omega) (by decide))) ?_
        refine RW.op rfl rfl (eff_iop rfl rfl rfl rfl (imul (by omega))) ?_
        refine RW.op rfl rfl (eff_iop rfl rfl rfl rfl (iadd (by omega))) ?_
        refine RW.op rfl rfl (eff_assign (v := .t _) rfl rfl rfl) ?_
        refine RW.nil ?_
        refine awp_rw rfl ?_
        refine RW.op rfl rfl (eff_move (v := .t _) rfl rfl rfl) ?_
        refine RW.op rfl rfl (eff_iop rfl rfl rfl rfl (iadd (by omega))) ?_
        refine RW.op rfl rfl (eff_assign (v := .t _) rfl rfl rfl) ?_
        refine RW.nil ?_
        have hkn : keyAt l (i + 1) = key + 1 + (around (l[i]'hil) 1000000) / 84 % 40 / 39 * 5000 := by show nxt _ _ = _; rw [getD_get hil, ← hky]; rfl
        refine ⟨_, ?_, _, weak_keep (n := 59) (fr' := [(0, .t (.sl (l.map encI) false)), (1, .t (encI (mo : Nat))), (5, .own 5 _ 0 _), (6, .t (encI _)), (7, .t (encI ((i + 1) : Nat)))]) (st' := [(5, some ⟨5, 30, _, _⟩)]) ⟨rfl, rfl, rfl, rfl, rfl, rfl, rfl, rfl, rfl, rfl, trivial⟩ ⟨rfl, (by first | exact okE_nil | (rw [he]; exact okE_t) | (rw [he]; intro x hx; simp only [List.mem_append, List.mem_map, List.mem_singleton] at hx; rcases hx with ⟨y, _, rfl⟩ | rfl <;> rfl)), trivial⟩, i + 1, _, _, _, _, (by omega), (by omega), (by rw [hnn]; simp), (by exact hkn.symm), (by rw [range_succ, he]; simp only [List.map_append, List.map_cons, List.map_nil]; rw [hfr]; rfl), rfl, rfl⟩
        omega
      · try simp only [decide_eq_true_eq, decide_eq_false_iff_not, beq_iff_eq, bne_iff_ne, bne_eq_false_iff_eq, beq_eq_false_iff_ne, Bool.not_eq_true, Bool.not_eq_false, Bool.not_eq_true', Bool.not_eq_false', ne_eq] at h3
        refine awp_seq ?_
        refine awp_rw rfl ?_
        refine RW.op rfl rfl (eff_iop rfl rfl rfl rfl rfl) ?_
        refine RW.op rfl rfl (eff_assign (v := .t _) rfl rfl rfl) ?_
        refine RW.nil ?_
        refine awp_cond rfl (fun h4 => ?_) (fun h4 => ?_)
        · try simp only [decide_eq_true_eq, decide_eq_false_iff_not, beq_iff_eq, bne_iff_ne, bne_eq_false_iff_eq, beq_eq_false_iff_ne, Bool.not_eq_true, Bool.not_eq_false, Bool.not_eq_true', Bool.not_eq_false', ne_eq] at h4
          refine awp_rw rfl ?_
          refine RW.op rfl rfl (eff_move (v := .t _) rfl rfl rfl) ?_
          refine RW.op rfl rfl (eff_quoE (r := (around (l[i]'hil) 1000000) / 84) rfl rfl rfl rfl (by decide) (quoN (by omega) (by decide))) ?_
          refine RW.op rfl rfl (eff_remE (r := ((around (l[i]'hil) 1000000) / 84) % 300) rfl rfl rfl rfl (by decide) (tmod_pos (by omega))) ?_
          refine RW.op rfl rfl (eff_fieldAddr rfl rfl tf30_0 (by decide) rfl rfl rfl (Nat.le_of_ble_eq_true rfl)) ?_
          refine RW.store rfl rfl (eff_storeS (v := .t _) (ys := [_, _, _, _, _]) (els := [_]) (els' := [_]) rfl rfl ti3 rfl rfl rfl rfl rfl rfl rfl (Nat.le_of_ble_eq_true rfl) rfl rfl) ?_
          refine RW.nil ?_
          refine awp_seq ?_
          refine awp_rw rfl ?_
          refine RW.op rfl rfl (eff_move (v := .own _ _ _ _) rfl rfl rfl) ?_
          refine RW.op rfl rfl (eff_load rfl rfl ti30 rfl (.whole rfl rfl rfl rfl rfl rfl)) ?_
          first
            | (have hfr : frameAt l i = ⟨imax 0 ((i : Int) - 3) + (around (l[i]'hil) 1000000) % 7, key, true, [], 0⟩ := by unfold frameAt; rw [getD_get hil, ← hky]; exact frm_0 (by omega)
               refine RW.weak (weak_slot 47 (y := encF ⟨imax 0 ((i : Int) - 3) + (around (l[i]'hil) 1000000) % 7, key, true, [], 0⟩) rfl (by repeat' first | exact trivial | exact Wk.refl _ | exact Wk.sl _ | refine And.intro ?_ ?_ | refine Wk.tupP ?_ | refine Wk.aggP ?_)) rfl ?_)
            | (have hfr : frameAt l i = ⟨(around (l[i]'hil) 1000000) / 84 % 300, key, false, [], 0⟩ := by unfold frameAt; rw [getD_get hil, ← hky]; exact frm_1 (by omega) (by omega)
               refine RW.weak (weak_slot 47 (y := encF ⟨(around (l[i]'hil) 1000000) / 84 % 300, key, false, [], 0⟩) rfl (by repeat' first | exact trivial | exact Wk.refl _ | exact Wk.sl _ | refine And.intro ?_ ?_ | refine Wk.tupP ?_ | refine Wk.aggP ?_)) rfl ?_)
            | (have hfr : frameAt l i = ⟨imax 0 ((i : Int) - 3) + (around (l[i]'hil) 1000000) % 7, key, false, [], 0⟩ := by unfold frameAt; rw [getD_get hil, ← hky]; exact frm_2 (by omega) (by omega)
               refine RW.weak (weak_slot 47 (y := encF ⟨imax 0 ((i : Int) - 3) + (around (l[i]'hil) 1000000) % 7, key, false, [], 0⟩) rfl (by repeat' first | exact trivial | exact Wk.refl _ | exact Wk.sl _ | refine And.intro ?_ ?_ | refine Wk.tupP ?_ | refine Wk.aggP ?_)) rfl ?_)
          refine RW.new rfl rfl (eff_buildSliceL (id := 48) (els := [.t (.agg [_, _, _, _, _])]) rfl rfl te34 tz30 rfl (by decide) (by decide) rfl rfl rfl rfl) ?_
          refine RW.new rfl rfl (eff_append (id := 5) (ys := [_]) rfl rfl ta34 rfl rfl rfl (by rw [he, hnn]; simp) rfl rfl (srcOwn rfl rfl rfl rfl rfl rfl) (by simp) (by simp; omega) (by simp; omega)) ?_
          refine RW.op rfl rfl (eff_assign (v := .own _ _ _ _) rfl rfl rfl) ?_
          refine RW.nil ?_
          refine awp_rw rfl ?_
          refine RW.op rfl rfl (eff_move (v := .t _) rfl rfl rfl) ?_
          refine RW.op rfl rfl (eff_iop rfl rfl rfl rfl (iadd (by omega))) ?_
          refine RW.op rfl rfl (eff_move (v := .t _) rfl rfl rfl) ?_
          refine RW.op rfl rfl (eff_quoE (r := (around (l[i]'hil) 1000000) / 84) rfl rfl rfl rfl (by decide) (quoN (by omega) (by decide))) ?_
          refine RW.op rfl rfl (eff_remE (r := ((around (l[i]'hil) 1000000) / 84) % 40) rfl rfl rfl rfl (by decide) (tmod_pos (by omega))) ?_
          refine RW.op rfl rfl (eff_quoE (r := ((around (l[i]'hil) 1000000) / 84 % 40) / 39) rfl rfl rfl rfl (by decide) (quoN (by omega) (by decide))) ?_
          refine RW.op rfl rfl (eff_iop rfl rfl rfl rfl (imul (by omega))) ?_
          refine RW.op rfl rfl (eff_iop rfl rfl rfl rfl (iadd (by omega))) ?_
          refine RW.op rfl rfl (eff_assign (v := .t _) rfl rfl rfl) ?_
          refine RW.nil ?_
          refine awp_rw rfl ?_
          refine RW.op rfl rfl (eff_move (v := .t _) rfl rfl rfl) ?_
          refine RW.op rfl rfl (eff_iop rfl rfl rfl rfl (iadd (by omega))) ?_
          refine RW.op rfl rfl (eff_assign (v := .t _) rfl rfl rfl) ?_
          refine RW.nil ?_
          have hkn : keyAt l (i + 1) = key + 1 + (around (l[i]'hil) 1000000) / 84 % 40 / 39 * 5000 := by show nxt _ _ = _; rw [getD_get hil, ← hky]; rfl
          refine ⟨_, ?_, _, weak_keep (n := 59) (fr' := [(0, .t (.sl (l.map encI) false)), (1, .t (encI (mo : Nat))), (5, .own 5 _ 0 _), (6, .t (encI _)), (7, .t (encI ((i + 1) : Nat)))]) (st' := [(5, some ⟨5, 30, _, _⟩)]) ⟨rfl, rfl, rfl, rfl, rfl, rfl, rfl, rfl, rfl, rfl, trivial⟩ ⟨rfl, (by first | exact okE_nil | (rw [he]; exact okE_t) | (rw [he]; intro x hx; simp only [List.mem_append, List.mem_map, List.mem_singleton] at hx; rcases hx with ⟨y, _, rfl⟩ | rfl <;> rfl)), trivial⟩, i + 1, _, _, _, _, (by omega), (by omega), (by rw [hnn]; simp), (by exact hkn.symm), (by rw [range_succ, he]; simp only [List.map_append, List.map_cons, List.map_nil]; rw [hfr]; rfl), rfl, rfl⟩
          omega
        · try simp only [decide_eq_true_eq, decide_eq_false_iff_not, beq_iff_eq, bne_iff_ne, bne_eq_false_iff_eq, beq_eq_false_iff_ne, Bool.not_eq_true, Bool.not_eq_false, Bool.not_eq_true', Bool.not_eq_false', ne_eq] at h4
          refine awp_skip ?_
          refine awp_seq ?_
          refine awp_rw rfl ?_
          refine RW.op rfl rfl (eff_move (v := .own _ _ _ _) rfl rfl rfl) ?_
          refine RW.op rfl rfl (eff_load rfl rfl ti30 rfl (.whole rfl rfl rfl rfl rfl rfl)) ?_
          first
            | (have hfr : frameAt l i = ⟨imax 0 ((i : Int) - 3) + (around (l[i]'hil) 1000000) % 7, key, true, [], 0⟩ := by unfold frameAt; rw [getD_get hil, ← hky]; exact frm_0 (by omega)
               refine RW.weak (weak_slot 47 (y := encF ⟨imax 0 ((i : Int) - 3) + (around (l[i]'hil) 1000000) % 7, key, true, [], 0⟩) rfl (by repeat' first | exact trivial | exact Wk.refl _ | exact Wk.sl _ | refine And.intro ?_ ?_ | refine Wk.tupP ?_ | refine Wk.aggP ?_)) rfl ?_)
            | (have hfr : frameAt l i = ⟨(around (l[i]'hil) 1000000) / 84 % 300, key, false, [], 0⟩ := by unfold frameAt; rw [getD_get hil, ← hky]; exact frm_1 (by omega) (by omega)
               refine RW.weak (weak_slot 47 (y := encF ⟨(around (l[i]'hil) 1000000) / 84 % 300, key, false, [], 0⟩) rfl (by repeat' first | exact trivial | exact Wk.refl _ | exact Wk.sl _ | refine And.intro ?_ ?_ | refine Wk.tupP ?_ | refine Wk.aggP ?_)) rfl ?_)
            | (have hfr : frameAt l i = ⟨imax 0 ((i : Int) - 3) + (around (l[i]'hil) 1000000) % 7, key, false, [], 0⟩ := by unfold frameAt; rw [getD_get hil, ← hky]; exact frm_2 (by omega) (by omega)
               refine RW.weak (weak_slot 47 (y := encF ⟨imax 0 ((i : Int) - 3) + (around (l[i]'hil) 1000000) % 7, key, false, [], 0⟩) rfl (by repeat' first | exact trivial | exact Wk.refl _ | exact Wk.sl _ | refine And.intro ?_ ?_ | refine Wk.tupP ?_ | refine Wk.aggP ?_)) rfl ?_)
          refine RW.new rfl rfl (eff_buildSliceL (id := 48) (els := [.t (.agg [_, _, _, _, _])]) rfl rfl te34 tz30 rfl (by decide) (by decide) rfl rfl rfl rfl) ?_
          refine RW.new rfl rfl (eff_append (id := 5) (ys := [_]) rfl rfl ta34 rfl rfl rfl (by rw [he, hnn]; simp) rfl rfl (srcOwn rfl rfl rfl rfl rfl rfl) (by simp) (by simp; omega) (by simp; omega)) ?_
          refine RW.op rfl rfl (eff_assign (v := .own _ _ _ _) rfl rfl rfl) ?_
          refine RW.nil ?_
          refine awp_rw rfl ?_
          refine RW.op rfl rfl (eff_move (v := .t _) rfl rfl rfl) ?_
          refine RW.op rfl rfl (eff_iop rfl rfl rfl rfl (iadd (by omega))) ?_
          refine RW.op rfl rfl (eff_move (v := .t _) rfl rfl rfl) ?_
          refine RW.op rfl rfl (eff_quoE (r := (around (l[i]'hil) 1000000) / 84) rfl rfl rfl rfl (by decide) (quoN (by omega) (by decide))) ?_
          refine RW.op rfl rfl (eff_remE (r := ((around (l[i]'hil) 1000000) / 84) % 40) rfl rfl rfl rfl (by decide) (tmod_pos (by omega))) ?_
          refine RW.op rfl rfl (eff_quoE (r := ((around (l[i]'hil) 1000000) / 84 % 40) / 39) rfl rfl rfl rfl (by decide) (quoN (by omega) (by decide))) ?_
          refine RW.op rfl rfl (eff_iop rfl rfl rfl rfl (imul (by omega))) ?_
          refine RW.op rfl rfl (eff_iop rfl rfl rfl rfl (iadd (by omega))) ?_
          refine RW.op rfl rfl (eff_assign (v := .t _) rfl rfl rfl) ?_
          refine RW.nil ?_
          refine awp_rw rfl ?_
          refine RW.op rfl rfl (eff_move (v := .t _) rfl rfl rfl) ?_
          refine RW.op rfl rfl (eff_iop rfl rfl rfl rfl (iadd (by omega))) ?_
          refine RW.op rfl rfl (eff_assign (v := .t _) rfl rfl rfl) ?_
          refine RW.nil ?_
          have hkn : keyAt l (i + 1) = key + 1 + (around (l[i]'hil) 1000000) / 84 % 40 / 39 * 5000 := by show nxt _ _ = _; rw [getD_get hil, ← hky]; rfl
          refine ⟨_, ?_, _, weak_keep (n := 59) (fr' := [(0, .t (.sl (l.map encI) false)), (1, .t (encI (mo : Nat))), (5, .own 5 _ 0 _), (6, .t (encI _)), (7, .t (encI ((i + 1) : Nat)))]) (st' := [(5, some ⟨5, 30, _, _⟩)]) ⟨rfl, rfl, rfl, rfl, rfl, rfl, rfl, rfl, rfl, rfl, trivial⟩ ⟨rfl, (by first | exact okE_nil | (rw [he]; exact okE_t) | (rw [he]; intro x hx; simp only [List.mem_append, List.mem_map, List.mem_singleton] at hx; rcases hx with ⟨y, _, rfl⟩ | rfl <;> rfl)), trivial⟩, i + 1, _, _, _, _, (by omega), (by omega), (by rw [hnn]; simp), (by exact hkn.symm), (by rw [range_succ, he]; simp only [List.map_append, List.map_cons, List.map_nil]; rw [hfr]; rfl), rfl, rfl⟩
          omega
    · try simp only [decide_eq_true_eq, decide_eq_false_iff_not, beq_iff_eq, bne_iff_ne, bne_eq_false_iff_eq, beq_eq_false_iff_ne, Bool.not_eq_true, Bool.not_eq_false, Bool.not_eq_true', Bool.not_eq_false', ne_eq] at h2
      refine awp_exit ?_
      refine awp_seq ?_
      refine awp_rw rfl ?_
      refine RW.op rfl rfl (eff_move (v := .own _ _ _ _) rfl rfl rfl) ?_
      refine RW.op rfl rfl (eff_assign (v := .own _ _ _ _) rfl rfl rfl) ?_
      refine RW.nil ?_
      refine awp_ret ?_
      have hmi : i = min l.length mo := by omega
      exact ⟨Or.inr rfl, [_], ⟨.tmp (Res.ownT (xs := (frames l mo).map encF) rfl rfl (by unfold frames; rw [← hmi]; exact he) (by rw [hnn]; simp [frames_len]; omega)), trivial⟩, .refl _⟩
  · try simp only [decide_eq_true_eq, decide_eq_false_iff_not, beq_iff_eq, bne_iff_ne, bne_eq_false_iff_eq, beq_eq_false_iff_ne, Bool.not_eq_true, Bool.not_eq_false, Bool.not_eq_true', Bool.not_eq_false', ne_eq] at h1
    refine RW.gskip rfl rfl rfl rfl rfl (by decide) ?_
    refine RW.gskip rfl rfl rfl rfl rfl (by decide) ?_
    refine RW.gskip rfl rfl rfl rfl rfl (by decide) ?_
    refine RW.op rfl rfl (eff_pick (v := .t _) rfl rfl rfl rfl) ?_
    refine RW.nil ?_
    refine awp_cond rfl (fun h => nomatch h) (fun _ => ?_)
    refine awp_exit ?_
    refine awp_seq ?_
    refine awp_rw rfl ?_
    refine RW.op rfl rfl (eff_move (v := .own _ _ _ _) rfl rfl rfl) ?_
    refine RW.op rfl rfl (eff_assign (v := .own _ _ _ _) rfl rfl rfl) ?_
    refine RW.nil ?_
    refine awp_ret ?_
    have hmi : i = min l.length mo := by omega
    exact ⟨Or.inr rfl, [_], ⟨.tmp (Res.ownT (xs := (frames l mo).map encF) rfl rfl (by unfold frames; rw [← hmi]; exact he) (by rw [hnn]; simp [frames_len]; omega)), trivial⟩, .refl _⟩

end Go.Tv.C34

end
section
open Go Go.Tv Go.Proofs
namespace Go.Tv.C34
abbrev f1 : Frm := ⟨1, 1, false, [], 0⟩
abbrev tA : Twn := ⟨[zf], [zr, ⟨1, 0, 1, false⟩]⟩
abbrev L4 : List Rep := [zr, ⟨0, 1, 2, false⟩, ⟨1, 0, 1, false⟩, ⟨2, 0, 2, false⟩]
abbrev tB : Twn := ⟨[zf, f1], L4⟩
abbrev tC : Twn := ⟨[zf, f1], [⟨1, 0, 1, false⟩, ⟨2, 0, 2, false⟩]⟩
theorem liv1 : send ⟨[], [zr]⟩ zf = (tA, 0) := by decide +kernel
theorem liv2 : send tA f1 = (tB, 0) := by decide +kernel
theorem liv3 : hear tB ⟨1, 0, 1, false⟩ = (tC, 0) := by decide +kernel
theorem liv4 : hear tB ⟨3, 0, 2, false⟩ = (zt, 45) := by decide +kernel
theorem srtA : Srt tA.poss := by unfold Srt; decide +kernel
theorem hp0 : ∀ y, y ∈ [zr] → HP y := by intro y hy; rw [List.mem_singleton.1 hy]; exact ⟨by decide, by decide⟩
theorem srt0 : Srt [zr] := List.pairwise_singleton _ _
theorem hpA : ∀ y, y ∈ tA.poss → HP y := by
  intro y hy
  have : y = zr ∨ y = ⟨1, 0, 1, false⟩ := by simpa using hy
  rcases this with rfl | rfl <;> exact ⟨by decide, by decide⟩
end Go.Tv.C34

end
section
open Go Go.Tv Go.Proofs
namespace Go.Tv.C34
set_option maxRecDepth 20000
set_option maxHeartbeats 2000000
set_option linter.unusedSimpArgs false
set_option linter.unusedVariables false
theorem sendA : RetT Tryd.prog 20 [(1, deT)] [encT ⟨[], [zr]⟩, encF zf] (.tup [encT tA, encI 0]) := by
  have h := tsend_ret ⟨[], [zr]⟩ zf srt0 hp0 (by decide) (by decide) (fun x hx => by simp at hx) (by decide)
  rw [liv1] at h; exact h
theorem sendB : RetT Tryd.prog 20 [(1, deT)] [encT tA, encF f1] (.tup [encT tB, encI 0]) := by
  have h := tsend_ret tA f1 srtA hpA (by decide) (by decide) (fun x hx => by rw [List.mem_singleton.1 hx]; decide) (by decide)
  rw [liv2] at h; exact h
theorem bodB : ∀ x, x ∈ tB.sent → x.body.length ≤ 1000000 := by
  intro x hx
  have : x = zf ∨ x = f1 := by simpa using hx
  rcases this with rfl | rfl <;> decide
theorem hearC : RetT Tryd.prog 22 [(1, deT)] [encT tB, encR ⟨1, 0, 1, false⟩] (.tup [encT tC, encI 0]) := by
  have h := thear_ret tB ⟨1, 0, 1, false⟩ ⟨by decide, by decide⟩ (by decide) (by decide) bodB
  rw [liv3] at h; exact h
theorem hearD : RetT Tryd.prog 22 [(1, deT)] [encT tB, encR ⟨3, 0, 2, false⟩] (.tup [encT zt, encI 45]) := by
  have h := thear_ret tB ⟨3, 0, 2, false⟩ ⟨by decide, by decide⟩ (by decide) (by decide) bodB
  rw [liv4] at h; exact h

theorem lives_ret  : RetT Tryd.prog 16 [(1, deT)] [] (.bool true) := by
  refine retT_of_awp Tryd.func16 rfl (Nat.le_of_ble_eq_true rfl) ?_
  refine awp_seq ?_
  refine awp_rw rfl ?_
  refine RW.op rfl rfl (eff_assign (v := .t _) rfl rfl rfl) ?_
  refine RW.nil ?_
  refine awp_seq ?_
  refine awp_rw rfl ?_
  refine RW.op rfl rfl (eff_callT (new17_ret) co17 rfl rfl rfl rfl) ?_
  refine RW.op rfl rfl (eff_buildT (ys := [_, _, _, _, _]) rfl rfl tz30 tg30 rfl) ?_
  refine RW.op rfl rfl (eff_callXW (xs := [_, _]) (sendA) co20 rfl rfl rfl ⟨rfl, trivial⟩ rfl (by repeat' first | exact trivial | exact Wk.refl _ | exact Wk.sl _ | refine And.intro ?_ ?_ | refine Wk.aggP ?_)) ?_
  refine RW.op rfl rfl (eff_move (v := .t _) rfl rfl rfl) ?_
  refine RW.op rfl rfl (eff_extract rfl rfl rfl rfl) ?_
  refine RW.op rfl rfl (eff_extract rfl rfl rfl rfl) ?_
  refine RW.new rfl rfl (eff_allocK (k := 2) (id := 1) rfl rfl tz37 rfl rfl) ?_
  refine RW.store rfl rfl (eff_storeW (v := .t _) (els := [_]) (els' := [_]) rfl rfl ti37 rfl rfl rfl rfl rfl rfl rfl rfl rfl) ?_
  refine RW.op rfl rfl (eff_assign (v := .t _) rfl rfl rfl) ?_
  refine RW.nil ?_
  refine awp_seq ?_
  refine awp_rw rfl ?_
  refine RW.op rfl rfl (eff_load rfl rfl ti37 rfl (.whole rfl rfl rfl rfl rfl rfl)) ?_
  refine RW.op rfl rfl (eff_buildT (ys := [_, _, _, _, _]) rfl rfl tz30 tg30 rfl) ?_
  refine RW.op rfl rfl (eff_callXW (xs := [_, _]) (sendB) co20 rfl rfl rfl ⟨rfl, trivial⟩ rfl (by repeat' first | exact trivial | exact Wk.refl _ | exact Wk.sl _ | refine And.intro ?_ ?_ | refine Wk.aggP ?_)) ?_
  refine RW.op rfl rfl (eff_move (v := .t _) rfl rfl rfl) ?_
  refine RW.op rfl rfl (eff_extract rfl rfl rfl rfl) ?_
  refine RW.op rfl rfl (eff_extract rfl rfl rfl rfl) ?_
  refine RW.new rfl rfl (eff_allocK (k := 2) (id := 3) rfl rfl tz37 rfl rfl) ?_
  refine RW.store rfl rfl (eff_storeW (v := .t _) (els := [_]) (els' := [_]) rfl rfl ti37 rfl rfl rfl rfl rfl rfl rfl rfl rfl) ?_
  refine RW.op rfl rfl (eff_assign (v := .t _) rfl rfl rfl) ?_
  refine RW.nil ?_
  refine awp_seq ?_
  refine awp_rw rfl ?_
  refine RW.op rfl rfl (eff_load rfl rfl ti37 rfl (.whole rfl rfl rfl rfl rfl rfl)) ?_
  refine RW.op rfl rfl (eff_buildT (ys := [_, _, _, _]) rfl rfl tz23 tg23 rfl) ?_
  refine RW.op rfl rfl (eff_callXT (hearC) co22 rfl rfl rfl ⟨rfl, trivial⟩ rfl) ?_
  refine RW.op rfl rfl (eff_move (v := .t _) rfl rfl rfl) ?_
  refine RW.op rfl rfl (eff_extract rfl rfl rfl rfl) ?_
  refine RW.op rfl rfl (eff_extract rfl rfl rfl rfl) ?_
  refine RW.new rfl rfl (eff_allocK (k := 2) (id := 5) rfl rfl tz37 rfl rfl) ?_
  refine RW.store rfl rfl (eff_storeW (v := .t _) (els := [_]) (els' := [_]) rfl rfl ti37 rfl rfl rfl rfl rfl rfl rfl rfl rfl) ?_
  refine RW.op rfl rfl (eff_assign (v := .t _) rfl rfl rfl) ?_
  refine RW.nil ?_
  refine awp_seq ?_
  refine awp_rw rfl ?_
  refine RW.op rfl rfl (eff_load rfl rfl ti37 rfl (.whole rfl rfl rfl rfl rfl rfl)) ?_
  refine RW.op rfl rfl (eff_buildT (ys := [_, _, _, _]) rfl rfl tz23 tg23 rfl) ?_
  refine RW.op rfl rfl (eff_callXT (hearD) co22 rfl rfl rfl ⟨rfl, trivial⟩ rfl) ?_
  refine RW.op rfl rfl (eff_move (v := .t _) rfl rfl rfl) ?_
  refine RW.op rfl rfl (eff_extract rfl rfl rfl rfl) ?_
  refine RW.op rfl rfl (eff_extract rfl rfl rfl rfl) ?_
  refine RW.new rfl rfl (eff_allocK (k := 2) (id := 7) rfl rfl tz37 rfl rfl) ?_
  refine RW.store rfl rfl (eff_storeW (v := .t _) (els := [_]) (els' := [_]) rfl rfl ti37 rfl rfl rfl rfl rfl rfl rfl rfl rfl) ?_
  refine RW.op rfl rfl (eff_assign (v := .t _) rfl rfl rfl) ?_
  refine RW.nil ?_
  refine awp_seq ?_
  refine awp_seq ?_
  refine awp_rw rfl ?_
  refine RW.op rfl rfl (eff_move (v := .t _) rfl rfl rfl) ?_
  refine RW.op rfl rfl (eff_iop (r := .bool false) rfl rfl rfl rfl (by rfl)) ?_
  refine RW.op rfl rfl (eff_move (v := .t _) rfl rfl rfl) ?_
  refine RW.gop rfl rfl rfl rfl rfl rfl (eff_move (v := .t _) rfl rfl rfl) ?_
  refine RW.gop rfl rfl rfl rfl rfl rfl (eff_iop (r := .bool false) rfl rfl rfl rfl (by rfl)) ?_
  refine RW.op rfl rfl (eff_pick (v := .t _) rfl rfl rfl rfl) ?_
  refine RW.op rfl rfl (eff_move (v := .t _) rfl rfl rfl) ?_
  refine RW.gop rfl rfl rfl rfl rfl rfl (eff_move (v := .t _) rfl rfl rfl) ?_
  refine RW.gop rfl rfl rfl rfl rfl rfl (eff_iop (r := .bool false) rfl rfl rfl rfl (by rfl)) ?_
  refine RW.op rfl rfl (eff_pick (v := .t _) rfl rfl rfl rfl) ?_
  refine RW.op rfl rfl (eff_move (v := .t _) rfl rfl rfl) ?_
  refine RW.gop rfl rfl rfl rfl rfl rfl (eff_move (v := .t _) rfl rfl rfl) ?_
  refine RW.gop rfl rfl rfl rfl rfl rfl (eff_iop (r := .bool false) rfl rfl rfl rfl (by rfl)) ?_
  refine RW.op rfl rfl (eff_pick (v := .t _) rfl rfl rfl rfl) ?_
  refine RW.nil ?_
  refine awp_cond rfl (fun h => nomatch h) (fun _ => ?_)
  refine awp_skip ?_
  refine awp_seq ?_
  refine awp_rw rfl ?_
  refine RW.op rfl rfl (eff_buildT (ys := [_, _, _, _]) rfl rfl tz23 tg23 rfl) ?_
  refine RW.op rfl rfl (eff_buildT (ys := [_, _, _, _]) rfl rfl tz23 tg23 rfl) ?_
  refine RW.op rfl rfl (eff_buildT (ys := [_, _, _, _]) rfl rfl tz23 tg23 rfl) ?_
  refine RW.op rfl rfl (eff_buildT (ys := [_, _, _, _]) rfl rfl tz23 tg23 rfl) ?_
  refine RW.new rfl rfl (eff_buildSliceL (id := 52) (els := [.t (.agg [_, _, _, _]), .t (.agg [_, _, _, _]), .t (.agg [_, _, _, _]), .t (.agg [_, _, _, _])]) rfl rfl te35 tz23 rfl (by decide) (by decide) rfl rfl rfl rfl) ?_
  refine RW.op rfl rfl (eff_assign (v := .own _ _ _ _) rfl rfl rfl) ?_
  refine RW.nil ?_
  refine awp_seq ?_
  refine awp_weak (weak_frz (n := 70) (fr' := [(3, .ptr 3 0 0 0), (5, .ptr 5 0 0 0), (9, .t (.sl (L4.map encR) false)), (71, .t deT)]) (st' := [(3, some ⟨2, 37, 0, [.t (encT tB)]⟩), (5, some ⟨2, 37, 0, [.t (encT tC)]⟩)]) [(52, some ⟨4, 23, 0, (L4.map encR).map .t⟩)] ⟨rfl, trivial⟩ ⟨rfl, rfl, trivial⟩ ⟨wa_eq rfl rfl, wa_eq rfl rfl, .res (Res.ownT (xs := L4.map encR) rfl rfl rfl rfl) (.refl _), wa_eq rfl rfl, trivial⟩ ⟨rfl, okE_one rfl, rfl, okE_one rfl, trivial⟩) ?_
  refine awp_rd [(some 53, []), (some 54, []), (some 55, []), (some 56, []), (some 57, []), (some 58, []), (some 59, []), (some 60, []), (some 61, []), (some 62, []), (some 63, []), (some 64, []), (some 65, []), (some 66, []), (some 67, []), (some 68, []), (some 69, []), (some 0, [])] [[], [0], [], [0, 1, 2], [0, 1, 2, 3], [0, 1, 2, 3, 4], [0, 1, 2, 3, 4, 5], [0, 1, 2, 3, 4], [0, 1, 2, 3, 4, 7], [0, 1, 2, 3, 4, 5, 6, 7, 8], [0, 1, 2, 3, 4, 5, 6, 7, 8, 9], [0, 1, 2, 3, 4, 5, 6, 7, 8, 9, 10], [0, 1, 2, 3, 4, 5, 6, 7, 8, 9, 10, 11], [0, 1, 2, 3, 4, 5, 6, 7, 8, 9, 10, 11, 12], [0, 1, 2, 3, 4, 5, 6, 7, 8, 9, 10, 11, 12, 13], [0, 1, 2, 3, 4, 5, 6, 7, 8, 9, 10, 11, 12, 13, 14], [0, 1, 2, 3, 4, 5, 6, 7, 8, 9, 10, 11, 12, 13, 14, 15], [0, 1, 2, 3, 4, 5, 6, 7, 8, 9, 10, 11, 12, 13, 14, 15, 16]] tm rfl rfl rfl rfl ?_
  refine RD.op rfl rfl rfl (eff_fieldAddr rfl rfl tf37_1 (by decide) rfl rfl rfl (Nat.le_of_ble_eq_true rfl)) ?_
  refine RD.op rfl rfl rfl (eff_load (y := .t _) rfl rfl ti35 rfl (.one rfl rfl rfl rfl)) ?_
  refine RD.op rfl rfl rfl (eff_move (v := .t _) rfl rfl rfl) ?_
  refine RD.op rfl rfl rfl (eff_callT (sameStates_ret L4 (by decide)) co25 rfl rfl rfl rfl) ?_
  refine RD.op rfl rfl rfl (eff_move (v := .t _) rfl rfl rfl) ?_
  refine RD.gop rfl rfl rfl rfl rfl rfl rfl (eff_fieldAddr rfl rfl tf37_1 (by decide) rfl rfl rfl (Nat.le_of_ble_eq_true rfl)) ?_
  refine RD.gop rfl rfl rfl rfl rfl rfl rfl (eff_load (y := .t _) rfl rfl ti35 rfl (.one rfl rfl rfl rfl)) ?_
  refine RD.gop rfl rfl rfl rfl rfl rfl rfl (eff_move (v := .t _) rfl rfl rfl) ?_
  refine RD.gop rfl rfl rfl rfl rfl rfl rfl (eff_sliceM (g := encR) (xs := L4) (l := some 2) (h := none) (r := [⟨1, 0, 1, false⟩, ⟨2, 0, 2, false⟩]) rfl rfl te35 rfl (fun _ => rfl) (.yes rfl rfl) .no (by decide) (by decide) (by decide)) ?_
  refine RD.gop rfl rfl rfl rfl rfl rfl rfl (eff_callT (sameStates_ret [⟨1, 0, 1, false⟩, ⟨2, 0, 2, false⟩] (by decide)) co25 rfl rfl rfl rfl) ?_
  refine RD.op rfl rfl rfl (eff_pick (v := .t _) rfl rfl rfl rfl) ?_
  refine RD.op rfl rfl rfl (eff_move (v := .t _) rfl rfl rfl) ?_
  refine RD.gop rfl rfl rfl rfl rfl rfl rfl (eff_fieldAddr rfl rfl tf37_0 (by decide) rfl rfl rfl (Nat.le_of_ble_eq_true rfl)) ?_
  refine RD.gop rfl rfl rfl rfl rfl rfl rfl (eff_load (y := .t _) rfl rfl ti34 rfl (.one rfl rfl rfl rfl)) ?_
  refine RD.gop rfl rfl rfl rfl rfl rfl rfl (eff_lenM rfl rfl te34 rfl) ?_
  refine RD.gop rfl rfl rfl rfl rfl rfl rfl (eff_iop (r := .bool true) rfl rfl rfl rfl (by rfl)) ?_
  refine RD.op rfl rfl rfl (eff_pick (v := .t _) rfl rfl rfl rfl) ?_
  refine RD.op rfl rfl rfl (eff_assign (v := .t _) rfl rfl rfl) ?_
  refine RD.nil ?_
  refine awp_ret ?_
  first
    | exact ⟨Or.inr rfl, [_], ⟨.tmp (.t _), trivial⟩, .refl _⟩
    | exact ⟨Or.inr rfl, [_], ⟨.tmp (.t _), trivial⟩, (by repeat' first | exact trivial | exact Wk.refl _ | exact Wk.sl _ | refine And.intro ?_ ?_ | refine Wk.tupP ?_ | refine Wk.aggP ?_)⟩
    | exact ⟨Or.inr rfl, [_], ⟨.tmp (Res.ownT rfl rfl rfl rfl), trivial⟩, .refl _⟩
    | exact ⟨Or.inr rfl, [_], ⟨.tmp (Res.ownT rfl rfl rfl rfl), trivial⟩, (by repeat' first | exact trivial | exact Wk.refl _ | exact Wk.sl _ | refine And.intro ?_ ?_ | refine Wk.tupP ?_ | refine Wk.aggP ?_)⟩

end Go.Tv.C34

end
section
open Go Go.Tv Go.Proofs
namespace Go.Tv.C34

structure Good (l : List Int) (m : Nat) (T : Twn) : Prop where
  srt : Srt T.poss
  hp : ∀ y, y ∈ T.poss → HP y
  len : T.poss.length ≤ 256
  ne : 0 < T.poss.length
  bod : ∀ x, x ∈ T.sent → x.body.length ≤ 1000000
  last : ∀ x, T.sent.getLast? = some x → ∃ j, j < (frames l m).length ∧ x.key = keyAt l j ∧ T.sent.length ≤ j + 1
theorem Good.sent {l m T} (h : Good l m T) : T.sent.length ≤ (frames l m).length := by
  rcases e : T.sent.getLast? with _ | x
  · rw [List.getLast?_eq_none_iff.1 e]; exact Nat.zero_le _
  · obtain ⟨j, hj, _, hs⟩ := h.last x e; omega
theorem good0 (l : List Int) (m : Nat) : Good l m ⟨[], [zr]⟩ where
  srt := srt0
  hp := hp0
  len := by decide
  ne := by decide
  bod := by intro x hx; cases hx
  last := by intro x hx; cases hx

/-- A step's answer: the twin stays good, or there is an error and the twin is empty. -/
def StepOK (l : List Int) (m : Nat) (p : Twn × Int) : Prop := (p.2 = 0 → Good l m p.1) ∧ (p.2 ≠ 0 → p.1 = zt)

theorem stepF_ne {out : List Rep} {f : Frm} (h : 0 < out.length) : 0 < (stepF out f).length :=
  List.length_pos_of_mem ((stepI_mem (f := f) out out out[0]).2 (.inl (List.getElem_mem h)))
theorem frames_bod {l : List Int} {m : Nat} {f : Frm} (h : f ∈ frames l m) : f.body.length ≤ 1000000 := by
  obtain ⟨j, _, rfl⟩ := frames_mem h
  rw [frame_body]; decide
theorem send_step {l m T} (h : Good l m T) {f : Frm} (hf : f ∈ frames l m) : StepOK l m (send T f) := by
  unfold send
  split
  · exact ⟨fun e => by simp at e, fun _ => rfl⟩
  · rename_i hlt
    split
    · exact ⟨fun e => by simp at e, fun _ => rfl⟩
    · rename_i hle
      refine ⟨fun _ => ⟨srt_stepF h.srt, stepF_hp h.hp, by show (stepF T.poss f).length ≤ 256; omega, stepF_ne h.ne, ?_, ?_⟩, fun e => absurd rfl e⟩
      · intro x hx
        rcases List.mem_append.1 hx with hx | hx
        · exact h.bod x hx
        · rw [List.mem_singleton.1 hx]; exact frames_bod hf
      · intro x hx
        obtain ⟨j, hj, rfl⟩ := frames_mem hf
        obtain rfl : frameAt l j = x := by simpa using hx
        refine ⟨j, by rw [frames_len]; exact hj, frame_key l j, ?_⟩
        rw [List.length_append, List.length_singleton]
        rcases e : T.sent.getLast? with _ | x
        · rw [List.getLast?_eq_none_iff.1 e]; simp
        · obtain ⟨i, hi, hk, hs⟩ := h.last x e
          have hlt2 : ¬ x.key ≥ (frameAt l j).key := by
            intro hge; apply hlt; unfold late; rw [e]; exact decide_eq_true hge
          rw [frame_key, hk] at hlt2
          rcases Nat.lt_or_ge i j with hij | hij
          · omega
          · rcases Nat.lt_or_ge j i with hji | hji
            · have := keyAt_mono l hji; omega
            · obtain rfl : i = j := by omega
              omega
end Go.Tv.C34

end
section
open Go Go.Tv Go.Proofs
namespace Go.Tv.C34
/-! ### Limits -/
def lf (i : Nat) : Frm := ⟨1 + (i : Int), (i : Int), false, [], 0⟩
def chk : Nat → Nat → Twn → Bool
  | 0, i, T => decide (send T (lf i) = (zt, 2))
  | k + 1, i, T => let p := send T (lf i); p.2 == 0 && p.1.poss.length == 2 ^ (i + 1) && p.1.sent.length == i + 1 && chk k (i + 1) p.1
end Go.Tv.C34

end
section
open Go Go.Tv Go.Proofs
namespace Go.Tv.C34

/-! ### Limits -/
structure LimG (i : Nat) (T : Twn) : Prop where
  srt : Srt T.poss
  hp : ∀ y, y ∈ T.poss → HP y
  len : T.poss.length = 2 ^ i
  sl : T.sent.length = i
  bod : ∀ x, x ∈ T.sent → x.body.length ≤ 1000000
  ok : chk (8 - i) i T = true
/-! ### Reads -/
theorem exact_2 (t : Twn) : (exact_ t).2 = ((t.poss.length : Int) == 1) := by
  unfold exact_
  split
  · rename_i s hs; rw [hs]; rfl
  · rename_i h
    rcases hp : t.poss with _ | ⟨a, _ | ⟨b, l⟩⟩
    · rfl
    · exact absurd hp (h a)
    · symm; rw [beq_eq_false_iff_ne]; simp only [List.length_cons]; omega
theorem exact_1 {t : Twn} (h : (exact_ t).2 = true) (h0 : 0 < t.poss.length) : (exact_ t).1 = t.poss[0] := by
  rcases t with ⟨snt, _ | ⟨a, _ | ⟨b, l⟩⟩⟩
  · exact absurd h0 (Nat.lt_irrefl 0)
  · rfl
  · exact absurd h (by show ¬ false = true; decide)
theorem exact_1n {t : Twn} (h : (exact_ t).2 = false) : (exact_ t).1 = zr := by
  unfold exact_ at h ⊢
  split
  · rename_i s hs; rw [hs] at h; cases h
  · rfl
theorem loP_le : ∀ (l : List Rep) (x : Int), loP l x ≤ x ∧ ∀ s, s ∈ l → loP l x ≤ s.next
  | [], x => ⟨Int.le_refl _, fun s h => nomatch h⟩
  | a :: l, x => by
    obtain ⟨h1, h2⟩ := loP_le l (imin x a.next)
    have h3 : imin x a.next ≤ x ∧ imin x a.next ≤ a.next := by unfold imin; split <;> omega
    show loP l (imin x a.next) ≤ _ ∧ ∀ s, _ → loP l (imin x a.next) ≤ _
    refine ⟨by omega, fun s hs => ?_⟩
    rcases List.mem_cons.1 hs with rfl | hs
    · omega
    · exact h2 s hs
theorem hiP_ge : ∀ (l : List Rep) (x : Int), x ≤ hiP l x ∧ ∀ s, s ∈ l → s.next ≤ hiP l x
  | [], x => ⟨Int.le_refl _, fun s h => nomatch h⟩
  | a :: l, x => by
    obtain ⟨h1, h2⟩ := hiP_ge l (imax x a.next)
    have h3 : x ≤ imax x a.next ∧ a.next ≤ imax x a.next := by unfold imax; split <;> omega
    show _ ≤ hiP l (imax x a.next) ∧ ∀ s, _ → _ ≤ hiP l (imax x a.next)
    refine ⟨by omega, fun s hs => ?_⟩
    rcases List.mem_cons.1 hs with rfl | hs
    · omega
    · exact h2 s hs
theorem loP_at : ∀ (l : List Rep) (x : Int), loP l x = x ∨ ∃ s, s ∈ l ∧ loP l x = s.next
  | [], x => .inl rfl
  | a :: l, x => by
    show loP l (imin x a.next) = x ∨ ∃ s, _ ∧ loP l (imin x a.next) = _
    have h3 : imin x a.next = x ∨ imin x a.next = a.next := by unfold imin; split <;> omega
    rcases loP_at l (imin x a.next) with h | ⟨s, hs, h⟩
    · rcases h3 with h3 | h3
      · left; omega
      · right; exact ⟨a, List.mem_cons_self, by omega⟩
    · exact .inr ⟨s, List.mem_cons_of_mem _ hs, h⟩
/-- Of the states, one has the lowest next. -/
theorem lo_at (x0 : Rep) (rest : List Rep) : ∃ j, ∃ h : j < (x0 :: rest).length, ((x0 :: rest)[j]).next = loP (x0 :: rest) x0.next := by
  rcases loP_at (x0 :: rest) x0.next with h | ⟨s, hs, h⟩
  · exact ⟨0, by simp, by simp [h]⟩
  · obtain ⟨j, hj, e⟩ := List.getElem_of_mem hs
    exact ⟨j, hj, by rw [e, h]⟩
theorem srt_lt {l : List Rep} (h : Srt l) {i j : Nat} (hij : i < j) (hj : j < l.length) : less (l[i]'(by omega)) l[j] = true :=
  List.pairwise_iff_getElem.1 h i j (by omega) hj hij

/-! ### Sound -/
section
variable {P : Program} {D : St} {o : Oper}
theorem eff_maxE {t t2 : TypeId} {x y : Operand} {k : IntKind} {n m r : Int} (hd : dstOK D.n o.dst = true)
    (ho : o.op = .call { callee := .builtin .max, args := #[x, y], argTypes := #[t, t2] }) (hx : D.ev x = .t (.int k n)) (hy : D.ev y = .t (.int k m)) (hr : imax n m = r) : Eff P o D ⟨.t (.int k r), []⟩ :=
  hr ▸ eff_max hd ho hx hy
end
end Go.Tv.C34

end
section
open Go Go.Tv Go.Proofs
namespace Go.Tv.C34
set_option maxRecDepth 20000
set_option maxHeartbeats 2000000
set_option linter.unusedSimpArgs false
set_option linter.unusedVariables false
theorem tcontains_mem (t : Twn) (r : Rep) (hl : t.poss.length ≤ 1000000) (hm : r ∈ t.poss) : Ret Tryd.prog 29 [encT t, encR r] (.bool true) := by
  have h := tcontains_ret t r hl; rwa [decide_eq_true hm] at h
theorem less_true (a b : Rep) (h : less a b = true) : Ret Tryd.prog 32 [encR a, encR b] (.bool true) := by
  have h1 := less_ret a b; rwa [h] at h1
end Go.Tv.C34

end
section
open Go Go.Tv Go.Proofs
namespace Go.Tv.C34
set_option maxRecDepth 20000
set_option maxHeartbeats 2000000
set_option linter.unusedSimpArgs false
set_option linter.unusedVariables false
theorem eff_neqSame {D : St} {op : Oper} {x y : Operand} {a : Rep} (hd : dstOK D.n op.dst = true) (ho : op.op = .binOp .neq 23 x y 23) (hx : D.ev x = .t (encR a)) (hy : D.ev y = .t (encR a)) : Eff Tryd.prog op D ⟨.t (.bool false), []⟩ := by
  have h := eff_structNeqA (cells := cellsR) (a := a) (b := a) hd ho ts23s ti23 th23 cellsR_inj cellsR_kind hx hy
  simpa using h

theorem law8 (l : List Int) (nx hv ky : Int) (lk : Bool) (hI : ∀ x, x ∈ l → I64 x) (hl : l.length ≤ 9223372036854775807) (hnx : I64 nx) (hhv : I64 hv) (hky : I64 ky) : RetT Tryd.prog 8 [(1, deT)] [.sl (l.map encI) false, encI nx, encI hv, encI ky, .bool lk] (.bool true) := by
  refine retT_of_awp Tryd.func8 rfl (Nat.le_of_ble_eq_true rfl) ?_
  refine awp_seq ?_
  refine awp_rw rfl ?_
  refine RW.op rfl rfl (eff_assign (v := .t _) rfl rfl rfl) ?_
  refine RW.nil ?_
  refine awp_seq ?_
  refine awp_rw rfl ?_
  refine RW.op rfl rfl (eff_callT (new17_ret) co17 rfl rfl rfl rfl) ?_
  refine RW.new rfl rfl (eff_allocK (k := 2) (id := 11) rfl rfl tz37 rfl rfl) ?_
  refine RW.store rfl rfl (eff_storeW (v := .t _) (els := [_]) (els' := [_]) rfl rfl ti37 rfl rfl rfl rfl rfl rfl rfl rfl rfl) ?_
  refine RW.nil ?_
  refine awp_seq ?_
  refine awp_rw rfl ?_
  refine RW.op rfl rfl (eff_move (v := .t _) rfl rfl rfl) ?_
  refine RW.op rfl rfl (eff_callT (frames_ret l 8 hI hl (by decide)) co19 rfl rfl rfl rfl) ?_
  refine RW.op rfl rfl (eff_assign (v := .t _) rfl rfl rfl) ?_
  refine RW.nil ?_
  refine awp_seq ?_
  refine awp_seq ?_
  refine awp_rw rfl ?_
  refine RW.op rfl rfl (eff_assign (v := .t _) rfl rfl rfl) ?_
  refine RW.nil ?_
  refine awp_block ?_
  refine awp_loopW (fun m s => ∃ (i : Nat) (T : Twn), (i ≤ (frames l 8).length) ∧ (Good l 8 T) ∧ m = (frames l 8).length - i ∧ s = ⟨157, [(1, .t (encI nx)), (2, .t (encI hv)), (3, .t (encI ky)), (4, .t (.bool lk)), (11, .ptr 11 0 0 0), (12, .t (.sl ((frames l 8).map encF) false)), (13, .t (encI (i : Nat))), (158, .t deT)], [(11, some ⟨2, 37, 0, [.t (encT T)]⟩)]⟩) (_) (⟨_, weak_keep (n := 157) (fr' := [(1, .t (encI nx)), (2, .t (encI hv)), (3, .t (encI ky)), (4, .t (.bool lk)), (11, .ptr 11 0 0 0), (12, .t (.sl ((frames l 8).map encF) false)), (13, .t (encI (0 : Nat))), (158, .t deT)]) (st' := [(11, some ⟨2, 37, 0, [.t (encT _)]⟩)]) ⟨rfl, rfl, rfl, rfl, rfl, rfl, rfl, rfl, rfl, rfl, rfl, rfl, rfl, rfl, rfl, rfl, trivial⟩ ⟨rfl, okE_one rfl, trivial⟩, 0, _, (by omega), (by exact good0 _ _), rfl, rfl⟩) ?_
  rintro m s ⟨i, T, hi, hg, rfl, rfl⟩
  have hfl : (frames l 8).length ≤ 8 := by rw [frames_len]; omega
  have hg1 := hg.len
  have hg2 := hg.ne
  have hg3 := hg.sent
  refine awp_seq ?_
  refine awp_seq ?_
  refine awp_rw rfl ?_
  refine RW.op rfl rfl (eff_move (v := .t _) rfl rfl rfl) ?_
  refine RW.op rfl rfl (eff_move (v := .t _) rfl rfl rfl) ?_
  refine RW.op rfl rfl (eff_lenM rfl rfl te34 rfl) ?_
  refine RW.op rfl rfl (eff_iop rfl rfl rfl rfl rfl) ?_
  refine RW.nil ?_
  refine awp_cond rfl (fun h1 => ?_) (fun h1 => ?_)
  · try simp only [decide_eq_true_eq, decide_eq_false_iff_not, beq_iff_eq, bne_iff_ne, bne_eq_false_iff_eq, beq_eq_false_iff_ne, Bool.not_eq_true, Bool.not_eq_false, Bool.not_eq_true', Bool.not_eq_false', ne_eq] at h1
    refine awp_skip ?_
    refine awp_seq ?_
    refine awp_block ?_
    refine awp_seq ?_
    refine awp_rd [(some 34, []), (some 35, []), (some 36, []), (some 37, []), (some 38, []), (some 39, []), (some 33, []), (some 40, []), (some 41, []), (some 14, [14]), (none, [14]), (some 15, [])] [[], [], [], [1, 2], [1, 2, 3], [0, 1, 2, 3, 4], [0, 1, 2, 3, 4, 5], [0, 1, 2, 3, 4, 5, 6], [0, 1, 2, 3, 4, 5, 6], [], [0, 1, 2, 3, 4, 5, 6, 7, 9], [0, 1, 2, 3, 4, 5, 6, 7, 8, 9, 10]] tm rfl rfl rfl rfl ?_
    have hil : i < (frames l 8).length := by omega
    refine RD.op rfl rfl rfl (eff_load rfl rfl ti37 rfl (.whole rfl rfl rfl rfl rfl rfl)) ?_
    refine RD.op rfl rfl rfl (eff_move (v := .t _) rfl rfl rfl) ?_
    refine RD.op rfl rfl rfl (eff_move (v := .t _) rfl rfl rfl) ?_
    refine RD.op rfl rfl rfl (eff_indexM rfl rfl te34 rfl rfl rfl (by first | assumption | exact List.getElem?_eq_getElem (by omega)) rfl (by decide)) ?_
    refine RD.op rfl rfl rfl (eff_loadW rfl rfl ti30 rfl rfl rfl) ?_
    refine RD.op rfl rfl rfl (eff_callXT (tsend_ret T ((frames l 8)[i]'(by omega)) hg.srt hg.hp (by omega) (by omega) hg.bod (frames_bod (List.getElem_mem _))) co20 rfl rfl rfl ⟨rfl, trivial⟩ rfl) ?_
    refine RD.op rfl rfl rfl (eff_move (v := .t _) rfl rfl rfl) ?_
    refine RD.op rfl rfl rfl (eff_extract rfl rfl rfl rfl) ?_
    refine RD.op rfl rfl rfl (eff_extract rfl rfl rfl rfl) ?_
    refine RD.new rfl rfl rfl (eff_allocK (k := 2) (id := 14) rfl rfl tz37 rfl rfl) ?_
    refine RD.store rfl rfl rfl (eff_storeW (v := .t _) (els := [_]) (els' := [_]) rfl rfl ti37 rfl rfl rfl rfl rfl rfl rfl rfl rfl) ?_
    refine RD.op rfl rfl rfl (eff_assign (v := .t _) rfl rfl rfl) ?_
    refine RD.nil ?_
    refine awp_seq ?_
    refine awp_rw rfl ?_
    refine RW.op rfl rfl (eff_move (v := .t _) rfl rfl rfl) ?_
    refine RW.op rfl rfl (eff_iop rfl rfl rfl rfl rfl) ?_
    refine RW.nil ?_
    refine awp_cond rfl (fun h2 => ?_) (fun h2 => ?_)
    · try simp only [decide_eq_true_eq, decide_eq_false_iff_not, beq_iff_eq, bne_iff_ne, bne_eq_false_iff_eq, beq_eq_false_iff_ne, Bool.not_eq_true, Bool.not_eq_false, Bool.not_eq_true', Bool.not_eq_false', ne_eq] at h2
      refine awp_rw rfl ?_
      refine RW.op rfl rfl (eff_load rfl rfl ti37 rfl (.whole rfl rfl rfl rfl rfl rfl)) ?_
      refine RW.store rfl rfl (eff_storeW (v := .t _) (els := [_]) (els' := [_]) rfl rfl ti37 rfl rfl rfl rfl rfl rfl rfl rfl rfl) ?_
      refine RW.nil ?_
      refine awp_rw rfl ?_
      refine RW.op rfl rfl (eff_move (v := .t _) rfl rfl rfl) ?_
      refine RW.op rfl rfl (eff_iop rfl rfl rfl rfl (iadd (by omega))) ?_
      refine RW.op rfl rfl (eff_assign (v := .t _) rfl rfl rfl) ?_
      refine RW.nil ?_
      refine ⟨_, ?_, _, weak_keep (n := 157) (fr' := [(1, .t (encI nx)), (2, .t (encI hv)), (3, .t (encI ky)), (4, .t (.bool lk)), (11, .ptr 11 0 0 0), (12, .t (.sl ((frames l 8).map encF) false)), (13, .t (encI ((i + 1) : Nat))), (158, .t deT)]) (st' := [(11, some ⟨2, 37, 0, [.t (encT _)]⟩)]) ⟨rfl, rfl, rfl, rfl, rfl, rfl, rfl, rfl, rfl, rfl, rfl, rfl, rfl, rfl, rfl, rfl, trivial⟩ ⟨rfl, okE_one rfl, trivial⟩, i + 1, _, (by omega), (by first | exact (send_step hg (List.getElem_mem _)).1 (by assumption) | exact hg), rfl, rfl⟩
      omega
    · try simp only [decide_eq_true_eq, decide_eq_false_iff_not, beq_iff_eq, bne_iff_ne, bne_eq_false_iff_eq, beq_eq_false_iff_ne, Bool.not_eq_true, Bool.not_eq_false, Bool.not_eq_true', Bool.not_eq_false', ne_eq] at h2
      refine awp_skip ?_
      refine awp_rw rfl ?_
      refine RW.op rfl rfl (eff_move (v := .t _) rfl rfl rfl) ?_
      refine RW.op rfl rfl (eff_iop rfl rfl rfl rfl (iadd (by omega))) ?_
      refine RW.op rfl rfl (eff_assign (v := .t _) rfl rfl rfl) ?_
      refine RW.nil ?_
      refine ⟨_, ?_, _, weak_keep (n := 157) (fr' := [(1, .t (encI nx)), (2, .t (encI hv)), (3, .t (encI ky)), (4, .t (.bool lk)), (11, .ptr 11 0 0 0), (12, .t (.sl ((frames l 8).map encF) false)), (13, .t (encI ((i + 1) : Nat))), (158, .t deT)]) (st' := [(11, some ⟨2, 37, 0, [.t (encT _)]⟩)]) ⟨rfl, rfl, rfl, rfl, rfl, rfl, rfl, rfl, rfl, rfl, rfl, rfl, rfl, rfl, rfl, rfl, trivial⟩ ⟨rfl, okE_one rfl, trivial⟩, i + 1, _, (by omega), (by first | exact (send_step hg (List.getElem_mem _)).1 (by assumption) | exact hg), rfl, rfl⟩
      omega
  · try simp only [decide_eq_true_eq, decide_eq_false_iff_not, beq_iff_eq, bne_iff_ne, bne_eq_false_iff_eq, beq_eq_false_iff_ne, Bool.not_eq_true, Bool.not_eq_false, Bool.not_eq_true', Bool.not_eq_false', ne_eq] at h1
    refine awp_exit ?_
    refine awp_seq ?_
    obtain ⟨snt, poss⟩ := T
    obtain ⟨x0, rest, rfl⟩ : ∃ x0 rest, poss = x0 :: rest := by
      rcases poss with _ | ⟨x0, rest⟩
      · exact absurd hg.ne (Nat.lt_irrefl 0)
      · exact ⟨_, _, rfl⟩
    have hrl : rest.length + 1 ≤ 256 := hg.len
    have hLL : (x0 :: rest).length = rest.length + 1 := rfl
    refine awp_rw rfl ?_
    refine RW.op rfl rfl (eff_move (v := .t _) rfl rfl rfl) ?_
    refine RW.op rfl rfl (eff_move (v := .t _) rfl rfl rfl) ?_
    refine RW.op rfl rfl (eff_move (v := .t _) rfl rfl rfl) ?_
    refine RW.op rfl rfl (eff_move (v := .t _) rfl rfl rfl) ?_
    refine RW.op rfl rfl (eff_callT (state_ret nx hv ky lk hnx hhv hky) co12 rfl rfl rfl rfl) ?_
    refine RW.new rfl rfl (eff_allocK (k := 4) (id := 16) rfl rfl tz23 rfl rfl) ?_
    refine RW.store rfl rfl (eff_storeW (v := .t _) (els := [_]) (els' := [_]) rfl rfl ti23 rfl rfl rfl rfl rfl rfl rfl rfl rfl) ?_
    refine RW.nil ?_
    refine awp_seq ?_
    refine awp_rw rfl ?_
    refine RW.op rfl rfl (eff_load rfl rfl ti37 rfl (.whole rfl rfl rfl rfl rfl rfl)) ?_
    refine RW.op rfl rfl (eff_callT (delivered_ret snt x0 rest (by omega)) co30 rfl rfl rfl rfl) ?_
    refine RW.op rfl rfl (eff_move (v := .t _) rfl rfl rfl) ?_
    refine RW.op rfl rfl (eff_extract rfl rfl rfl rfl) ?_
    refine RW.op rfl rfl (eff_extract rfl rfl rfl rfl) ?_
    refine RW.op rfl rfl (eff_assign (v := .t _) rfl rfl rfl) ?_
    refine RW.op rfl rfl (eff_assign (v := .t _) rfl rfl rfl) ?_
    refine RW.nil ?_
    refine awp_seq ?_
    refine awp_rw rfl ?_
    refine RW.op rfl rfl (eff_load rfl rfl ti37 rfl (.whole rfl rfl rfl rfl rfl rfl)) ?_
    refine RW.op rfl rfl (eff_callT (exact_ret ⟨snt, (x0 :: rest)⟩ (by show (x0 :: rest).length ≤ _; omega)) co31 rfl rfl rfl rfl) ?_
    refine RW.op rfl rfl (eff_move (v := .t _) rfl rfl rfl) ?_
    refine RW.op rfl rfl (eff_extract rfl rfl rfl rfl) ?_
    refine RW.op rfl rfl (eff_extract rfl rfl rfl rfl) ?_
    refine RW.new rfl rfl (eff_allocK (k := 4) (id := 19) rfl rfl tz23 rfl rfl) ?_
    refine RW.store rfl rfl (eff_storeW (v := .t _) (els := [_]) (els' := [_]) rfl rfl ti23 rfl rfl rfl rfl rfl rfl rfl rfl rfl) ?_
    refine RW.op rfl rfl (eff_assign (v := .t _) rfl rfl rfl) ?_
    refine RW.nil ?_
    refine awp_seq_mid (fun s => Weak s ⟨157, [(11, .ptr 11 0 0 0), (17, .t (encI (loP (x0 :: rest) x0.next))), (18, .t (encI (hiP (x0 :: rest) x0.next))), (158, .t deT)], [(11, some ⟨2, 37, 0, [.t (encT ⟨snt, (x0 :: rest)⟩)]⟩)]⟩) ?_ ?_
    · refine awp_seq ?_
      by_cases hc3 : (exact_ ⟨snt, x0 :: rest⟩).2 = true
      · have hx2 := exact_2 ⟨snt, x0 :: rest⟩
        rw [hc3] at hx2
        have hx1 : (exact_ ⟨snt, x0 :: rest⟩).1 = x0 := exact_1 hc3 hg.ne
        rw [hc3, hx1]
        refine awp_rh [(some 60, []), (some 61, []), (some 62, []), (some 63, []), (some 64, []), (some 65, []), (some 66, []), (some 67, []), (some 68, []), (some 69, []), (some 70, []), (some 71, []), (some 72, []), (some 73, []), (some 74, []), (some 75, []), (some 76, []), (some 77, []), (some 78, []), (some 79, []), (some 80, []), (some 81, []), (some 82, []), (some 83, []), (some 84, []), (some 85, []), (some 86, []), (some 87, []), (some 88, []), (some 89, []), (some 90, []), (some 91, []), (some 92, []), (some 93, []), (some 94, []), (some 95, [])] [[], [], [0, 1], [], [3], [], [0, 1, 2, 3, 4, 5], [0, 1, 2, 3, 4, 5, 6], [0, 1, 2, 3, 4, 5, 6, 7], [0, 1, 2, 3, 4, 5, 6, 7, 8], [0, 1, 2, 3, 4, 5, 6, 7, 8], [0, 1, 2, 3, 4, 5, 6, 7, 8, 10], [0, 1, 2, 3, 4, 5, 6, 7, 8, 10, 11], [0, 1, 2, 3, 4, 5, 6, 7, 8, 10, 11, 12], [0, 1, 2, 3, 4, 5, 6, 7, 8, 9, 10, 11, 12, 13], [0, 1, 2, 3, 4, 5, 6, 7, 8, 9, 10, 11, 12, 13, 14], [0, 1, 2, 3, 4, 5, 6, 7, 8, 9, 10, 11, 12, 13, 14, 15], [0, 1, 2, 3, 4, 5, 6, 7, 8, 9, 10, 11, 12, 13, 14, 15, 16], [0, 1, 2, 3, 4, 5, 6, 7, 8, 9, 10, 11, 12, 13, 14, 15, 16, 17], [0, 1, 2, 3, 4, 5, 6, 7, 8, 9, 10, 11, 12, 13, 14, 15, 16, 17, 18], [0, 1, 2, 3, 4, 5, 6, 7, 8, 9, 10, 11, 12, 13, 14, 15, 16, 17, 18], [0, 1, 2, 3, 4, 5, 6, 7, 8, 9, 10, 11, 12, 13, 14, 15, 16, 17, 18, 20], [0, 1, 2, 3, 4, 5, 6, 7, 8, 9, 10, 11, 12, 13, 14, 15, 16, 17, 18, 20, 21], [0, 1, 2, 3, 4, 5, 6, 7, 8, 9, 10, 11, 12, 13, 14, 15, 16, 17, 18, 20, 21, 22], [0, 1, 2, 3, 4, 5, 6, 7, 8, 9, 10, 11, 12, 13, 14, 15, 16, 17, 18, 19, 20, 21, 22, 23], [0, 1, 2, 3, 4, 5, 6, 7, 8, 9, 10, 11, 12, 13, 14, 15, 16, 17, 18, 19, 20, 21, 22, 23, 24], [0, 1, 2, 3, 4, 5, 6, 7, 8, 9, 10, 11, 12, 13, 14, 15, 16, 17, 18, 19, 20, 21, 22, 23, 24, 25], [0, 1, 2, 3, 4, 5, 6, 7, 8, 9, 10, 11, 12, 13, 14, 15, 16, 17, 18, 19, 20, 21, 22, 23, 24, 25, 26], [0, 1, 2, 3, 4, 5, 6, 7, 8, 9, 10, 11, 12, 13, 14, 15, 16, 17, 18, 19, 20, 21, 22, 23, 24, 25, 26, 27], [0, 1, 2, 3, 4, 5, 6, 7, 8, 9, 10, 11, 12, 13, 14, 15, 16, 17, 18, 19, 20, 21, 22, 23, 24, 25, 26, 27, 28], [0, 1, 2, 3, 4, 5, 6, 7, 8, 9, 10, 11, 12, 13, 14, 15, 16, 17, 18, 19, 20, 21, 22, 23, 24, 25, 26, 27, 28, 29], [0, 1, 2, 3, 4, 5, 6, 7, 8, 9, 10, 11, 12, 13, 14, 15, 16, 17, 18, 19, 20, 21, 22, 23, 24, 25, 26, 27, 28, 29, 30], [0, 1, 2, 3, 4, 5, 6, 7, 8, 9, 10, 11, 12, 13, 14, 15, 16, 17, 18, 19, 20, 21, 22, 23, 24, 25, 26, 27, 28, 29, 30], [0, 1, 2, 3, 4, 5, 6, 7, 8, 9, 10, 11, 12, 13, 14, 15, 16, 17, 18, 19, 20, 21, 22, 23, 24, 25, 26, 27, 28, 29, 30, 31, 32], [0, 1, 2, 3, 4, 5, 6, 7, 8, 9, 10, 11, 12, 13, 14, 15, 16, 17, 18, 19, 20, 21, 22, 23, 24, 25, 26, 27, 28, 29, 30, 31, 32, 33], [0, 1, 2, 3, 4, 5, 6, 7, 8, 9, 10, 11, 12, 13, 14, 15, 16, 17, 18, 19, 20, 21, 22, 23, 24, 25, 26, 27, 28, 29, 30, 31, 32, 33, 34]] [([(some 61, []), (some 63, []), (some 64, []), (some 65, [])], (some 60, [])), ([(some 60, []), (some 63, []), (some 64, []), (some 65, [])], (some 61, [])), ([(some 63, []), (some 64, []), (some 65, [])], (some 62, [])), ([(some 60, []), (some 61, []), (some 62, []), (some 65, [])], (some 63, [])), ([(some 60, []), (some 61, []), (some 62, []), (some 65, [])], (some 64, [])), ([(some 60, []), (some 61, []), (some 62, []), (some 63, []), (some 64, [])], (some 65, [])), ([], (some 66, [])), ([], (some 67, [])), ([], (some 68, [])), ([(some 70, []), (some 71, []), (some 72, []), (some 73, [])], (some 69, [])), ([(some 69, [])], (some 70, [])), ([(some 69, [])], (some 71, [])), ([(some 69, [])], (some 72, [])), ([(some 69, [])], (some 73, [])), ([], (some 74, [])), ([], (some 75, [])), ([], (some 76, [])), ([], (some 77, [])), ([], (some 78, [])), ([(some 80, []), (some 81, []), (some 82, []), (some 83, [])], (some 79, [])), ([(some 79, [])], (some 80, [])), ([(some 79, [])], (some 81, [])), ([(some 79, [])], (some 82, [])), ([(some 79, [])], (some 83, [])), ([], (some 84, [])), ([], (some 85, [])), ([], (some 86, [])), ([], (some 87, [])), ([], (some 88, [])), ([], (some 89, [])), ([], (some 90, [])), ([(some 92, [])], (some 91, [])), ([(some 91, [])], (some 92, [])), ([], (some 93, [])), ([], (some 94, [])), ([], (some 95, []))] tm rfl (by decide +kernel) (by decide +kernel) rfl (by decide +kernel) ?_
        refine RH.op rfl rfl rfl (eff_load rfl rfl ti37 rfl (.whole rfl rfl rfl rfl rfl rfl)) ?_
        refine RH.op rfl rfl rfl (eff_load rfl rfl ti23 rfl (.whole rfl rfl rfl rfl rfl rfl)) ?_
        refine RH.op rfl rfl rfl (eff_callT (tcontains_ret ⟨snt, (x0 :: rest)⟩ (state nx hv ky lk) (by show (x0 :: rest).length ≤ _; omega)) co29 rfl rfl rfl rfl) ?_
        refine RH.op rfl rfl rfl (eff_fieldAddr rfl rfl tf37_1 (by decide) rfl rfl rfl (Nat.le_of_ble_eq_true rfl)) ?_
        refine RH.op rfl rfl rfl (eff_load (y := .t _) rfl rfl ti35 rfl (.one rfl rfl rfl rfl)) ?_
        refine RH.op rfl rfl rfl (eff_load rfl rfl ti23 rfl (.whole rfl rfl rfl rfl rfl rfl)) ?_
        refine RH.op rfl rfl rfl (eff_callT (has_ret (x0 :: rest) (state nx hv ky lk) (by omega)) co28 rfl rfl rfl rfl) ?_
        refine RH.op rfl rfl rfl (eff_boolEq (b := false) rfl rfl (.inr rfl) tu4 rfl rfl (by simp)) ?_
        refine RH.op rfl rfl rfl (eff_move (v := .t _) rfl rfl rfl) ?_
        refine RH.gop rfl rfl rfl rfl rfl rfl rfl (eff_move (v := .t _) rfl rfl rfl) ?_
        refine RH.gop rfl rfl rfl rfl rfl rfl rfl (eff_fieldAddr rfl rfl tf37_1 (by decide) rfl rfl rfl (Nat.le_of_ble_eq_true rfl)) ?_
        refine RH.gop rfl rfl rfl rfl rfl rfl rfl (eff_load (y := .t _) rfl rfl ti35 rfl (.one rfl rfl rfl rfl)) ?_
        refine RH.gop rfl rfl rfl rfl rfl rfl rfl (eff_lenM rfl rfl te35 rfl) ?_
        refine RH.gop rfl rfl rfl rfl rfl rfl rfl (eff_iop rfl rfl rfl rfl rfl) ?_
        refine RH.gop rfl rfl rfl rfl rfl rfl rfl (eff_boolEq (b := false) rfl rfl (.inr rfl) tu4 rfl rfl (by rw [← hx2]; rfl)) ?_
        refine RH.op rfl rfl rfl (eff_pick (v := .t _) rfl rfl rfl rfl) ?_
        refine RH.op rfl rfl rfl (eff_move (v := .t _) rfl rfl rfl) ?_
        refine RH.gop rfl rfl rfl rfl rfl rfl rfl (eff_move (v := .t _) rfl rfl rfl) ?_
        refine RH.gop rfl rfl rfl rfl rfl rfl rfl (eff_move (v := .t _) rfl rfl rfl) ?_
        refine RH.gop rfl rfl rfl rfl rfl rfl rfl (eff_load rfl rfl ti23 rfl (.whole rfl rfl rfl rfl rfl rfl)) ?_
        refine RH.gop rfl rfl rfl rfl rfl rfl rfl (eff_fieldAddr rfl rfl tf37_1 (by decide) rfl rfl rfl (Nat.le_of_ble_eq_true rfl)) ?_
        refine RH.gop rfl rfl rfl rfl rfl rfl rfl (eff_load (y := .t _) rfl rfl ti35 rfl (.one rfl rfl rfl rfl)) ?_
        refine RH.gop rfl rfl rfl rfl rfl rfl rfl (eff_indexM (i := 0) rfl rfl te35 rfl rfl rfl (by first | rfl | assumption | exact List.getElem?_eq_getElem (by omega)) rfl (by decide)) ?_
        refine RH.gop rfl rfl rfl rfl rfl rfl rfl (eff_loadW rfl rfl ti23 rfl rfl rfl) ?_
        refine RH.gop rfl rfl rfl rfl rfl rfl rfl (eff_neqSame (a := x0) rfl rfl rfl rfl) ?_
        refine RH.gop rfl rfl rfl rfl rfl rfl rfl (eff_pick (v := .t _) rfl rfl rfl rfl) ?_
        refine RH.op rfl rfl rfl (eff_pick (v := .t _) rfl rfl rfl rfl) ?_
        refine RH.op rfl rfl rfl (eff_move (v := .t _) rfl rfl rfl) ?_
        refine RH.gop rfl rfl rfl rfl rfl rfl rfl (eff_move (v := .t _) rfl rfl rfl) ?_
        refine RH.gop rfl rfl rfl rfl rfl rfl rfl (eff_unop rfl rfl rfl rfl) ?_
        refine RH.gop rfl rfl rfl rfl rfl rfl rfl (eff_move (v := .t _) rfl rfl rfl) ?_
        refine RH.gskip rfl rfl rfl rfl rfl rfl (by decide) ?_
        refine RH.gskip rfl rfl rfl rfl rfl rfl (by decide) ?_
        refine RH.gskip rfl rfl rfl rfl rfl rfl (by decide) ?_
        refine RH.gop rfl rfl rfl rfl rfl rfl rfl (eff_pick (v := .t _) rfl rfl rfl rfl) ?_
        refine RH.op rfl rfl rfl (eff_pick (v := .t _) rfl rfl rfl rfl) ?_
        refine RH.nil ?_
        refine awp_cond rfl (fun h => nomatch h) (fun _ => ?_)
        refine awp_skip ?_
        exact weak_keep (n := 157) ⟨rfl, rfl, rfl, rfl, rfl, rfl, rfl, rfl, trivial⟩ ⟨rfl, okE_one rfl, trivial⟩
      · have hc3 : (exact_ ⟨snt, x0 :: rest⟩).2 = false := by simpa using hc3
        have hx2 := exact_2 ⟨snt, x0 :: rest⟩
        rw [hc3] at hx2
        have hx1 : (exact_ ⟨snt, x0 :: rest⟩).1 = zr := exact_1n hc3
        rw [hc3, hx1]
        refine awp_rh [(some 60, []), (some 61, []), (some 62, []), (some 63, []), (some 64, []), (some 65, []), (some 66, []), (some 67, []), (some 68, []), (some 69, []), (some 70, []), (some 71, []), (some 72, []), (some 73, []), (some 74, []), (some 75, []), (some 76, []), (some 77, []), (some 78, []), (some 79, []), (some 80, []), (some 81, []), (some 82, []), (some 83, []), (some 84, []), (some 85, []), (some 86, []), (some 87, []), (some 88, []), (some 89, []), (some 90, []), (some 91, []), (some 92, []), (some 93, []), (some 94, []), (some 95, [])] [[], [], [0, 1], [], [3], [], [0, 1, 2, 3, 4, 5], [0, 1, 2, 3, 4, 5, 6], [0, 1, 2, 3, 4, 5, 6, 7], [0, 1, 2, 3, 4, 5, 6, 7, 8], [0, 1, 2, 3, 4, 5, 6, 7, 8], [0, 1, 2, 3, 4, 5, 6, 7, 8, 10], [0, 1, 2, 3, 4, 5, 6, 7, 8, 10, 11], [0, 1, 2, 3, 4, 5, 6, 7, 8, 10, 11, 12], [0, 1, 2, 3, 4, 5, 6, 7, 8, 9, 10, 11, 12, 13], [0, 1, 2, 3, 4, 5, 6, 7, 8, 9, 10, 11, 12, 13, 14], [0, 1, 2, 3, 4, 5, 6, 7, 8, 9, 10, 11, 12, 13, 14, 15], [0, 1, 2, 3, 4, 5, 6, 7, 8, 9, 10, 11, 12, 13, 14, 15, 16], [0, 1, 2, 3, 4, 5, 6, 7, 8, 9, 10, 11, 12, 13, 14, 15, 16, 17], [0, 1, 2, 3, 4, 5, 6, 7, 8, 9, 10, 11, 12, 13, 14, 15, 16, 17, 18], [0, 1, 2, 3, 4, 5, 6, 7, 8, 9, 10, 11, 12, 13, 14, 15, 16, 17, 18], [0, 1, 2, 3, 4, 5, 6, 7, 8, 9, 10, 11, 12, 13, 14, 15, 16, 17, 18, 20], [0, 1, 2, 3, 4, 5, 6, 7, 8, 9, 10, 11, 12, 13, 14, 15, 16, 17, 18, 20, 21], [0, 1, 2, 3, 4, 5, 6, 7, 8, 9, 10, 11, 12, 13, 14, 15, 16, 17, 18, 20, 21, 22], [0, 1, 2, 3, 4, 5, 6, 7, 8, 9, 10, 11, 12, 13, 14, 15, 16, 17, 18, 19, 20, 21, 22, 23], [0, 1, 2, 3, 4, 5, 6, 7, 8, 9, 10, 11, 12, 13, 14, 15, 16, 17, 18, 19, 20, 21, 22, 23, 24], [0, 1, 2, 3, 4, 5, 6, 7, 8, 9, 10, 11, 12, 13, 14, 15, 16, 17, 18, 19, 20, 21, 22, 23, 24, 25], [0, 1, 2, 3, 4, 5, 6, 7, 8, 9, 10, 11, 12, 13, 14, 15, 16, 17, 18, 19, 20, 21, 22, 23, 24, 25, 26], [0, 1, 2, 3, 4, 5, 6, 7, 8, 9, 10, 11, 12, 13, 14, 15, 16, 17, 18, 19, 20, 21, 22, 23, 24, 25, 26, 27], [0, 1, 2, 3, 4, 5, 6, 7, 8, 9, 10, 11, 12, 13, 14, 15, 16, 17, 18, 19, 20, 21, 22, 23, 24, 25, 26, 27, 28], [0, 1, 2, 3, 4, 5, 6, 7, 8, 9, 10, 11, 12, 13, 14, 15, 16, 17, 18, 19, 20, 21, 22, 23, 24, 25, 26, 27, 28, 29], [0, 1, 2, 3, 4, 5, 6, 7, 8, 9, 10, 11, 12, 13, 14, 15, 16, 17, 18, 19, 20, 21, 22, 23, 24, 25, 26, 27, 28, 29, 30], [0, 1, 2, 3, 4, 5, 6, 7, 8, 9, 10, 11, 12, 13, 14, 15, 16, 17, 18, 19, 20, 21, 22, 23, 24, 25, 26, 27, 28, 29, 30], [0, 1, 2, 3, 4, 5, 6, 7, 8, 9, 10, 11, 12, 13, 14, 15, 16, 17, 18, 19, 20, 21, 22, 23, 24, 25, 26, 27, 28, 29, 30, 31, 32], [0, 1, 2, 3, 4, 5, 6, 7, 8, 9, 10, 11, 12, 13, 14, 15, 16, 17, 18, 19, 20, 21, 22, 23, 24, 25, 26, 27, 28, 29, 30, 31, 32, 33], [0, 1, 2, 3, 4, 5, 6, 7, 8, 9, 10, 11, 12, 13, 14, 15, 16, 17, 18, 19, 20, 21, 22, 23, 24, 25, 26, 27, 28, 29, 30, 31, 32, 33, 34]] [([(some 61, []), (some 63, []), (some 64, []), (some 65, [])], (some 60, [])), ([(some 60, []), (some 63, []), (some 64, []), (some 65, [])], (some 61, [])), ([(some 63, []), (some 64, []), (some 65, [])], (some 62, [])), ([(some 60, []), (some 61, []), (some 62, []), (some 65, [])], (some 63, [])), ([(some 60, []), (some 61, []), (some 62, []), (some 65, [])], (some 64, [])), ([(some 60, []), (some 61, []), (some 62, []), (some 63, []), (some 64, [])], (some 65, [])), ([], (some 66, [])), ([], (some 67, [])), ([], (some 68, [])), ([(some 70, []), (some 71, []), (some 72, []), (some 73, [])], (some 69, [])), ([(some 69, [])], (some 70, [])), ([(some 69, [])], (some 71, [])), ([(some 69, [])], (some 72, [])), ([(some 69, [])], (some 73, [])), ([], (some 74, [])), ([], (some 75, [])), ([], (some 76, [])), ([], (some 77, [])), ([], (some 78, [])), ([(some 80, []), (some 81, []), (some 82, []), (some 83, [])], (some 79, [])), ([(some 79, [])], (some 80, [])), ([(some 79, [])], (some 81, [])), ([(some 79, [])], (some 82, [])), ([(some 79, [])], (some 83, [])), ([], (some 84, [])), ([], (some 85, [])), ([], (some 86, [])), ([], (some 87, [])), ([], (some 88, [])), ([], (some 89, [])), ([], (some 90, [])), ([(some 92, [])], (some 91, [])), ([(some 91, [])], (some 92, [])), ([], (some 93, [])), ([], (some 94, [])), ([], (some 95, []))] tm rfl (by decide +kernel) (by decide +kernel) rfl (by decide +kernel) ?_
        refine RH.op rfl rfl rfl (eff_load rfl rfl ti37 rfl (.whole rfl rfl rfl rfl rfl rfl)) ?_
        refine RH.op rfl rfl rfl (eff_load rfl rfl ti23 rfl (.whole rfl rfl rfl rfl rfl rfl)) ?_
        refine RH.op rfl rfl rfl (eff_callT (tcontains_ret ⟨snt, (x0 :: rest)⟩ (state nx hv ky lk) (by show (x0 :: rest).length ≤ _; omega)) co29 rfl rfl rfl rfl) ?_
        refine RH.op rfl rfl rfl (eff_fieldAddr rfl rfl tf37_1 (by decide) rfl rfl rfl (Nat.le_of_ble_eq_true rfl)) ?_
        refine RH.op rfl rfl rfl (eff_load (y := .t _) rfl rfl ti35 rfl (.one rfl rfl rfl rfl)) ?_
        refine RH.op rfl rfl rfl (eff_load rfl rfl ti23 rfl (.whole rfl rfl rfl rfl rfl rfl)) ?_
        refine RH.op rfl rfl rfl (eff_callT (has_ret (x0 :: rest) (state nx hv ky lk) (by omega)) co28 rfl rfl rfl rfl) ?_
        refine RH.op rfl rfl rfl (eff_boolEq (b := false) rfl rfl (.inr rfl) tu4 rfl rfl (by simp)) ?_
        refine RH.op rfl rfl rfl (eff_move (v := .t _) rfl rfl rfl) ?_
        refine RH.gop rfl rfl rfl rfl rfl rfl rfl (eff_move (v := .t _) rfl rfl rfl) ?_
        refine RH.gop rfl rfl rfl rfl rfl rfl rfl (eff_fieldAddr rfl rfl tf37_1 (by decide) rfl rfl rfl (Nat.le_of_ble_eq_true rfl)) ?_
        refine RH.gop rfl rfl rfl rfl rfl rfl rfl (eff_load (y := .t _) rfl rfl ti35 rfl (.one rfl rfl rfl rfl)) ?_
        refine RH.gop rfl rfl rfl rfl rfl rfl rfl (eff_lenM rfl rfl te35 rfl) ?_
        refine RH.gop rfl rfl rfl rfl rfl rfl rfl (eff_iop rfl rfl rfl rfl rfl) ?_
        refine RH.gop rfl rfl rfl rfl rfl rfl rfl (eff_boolEq (b := false) rfl rfl (.inr rfl) tu4 rfl rfl (by rw [← hx2]; rfl)) ?_
        refine RH.op rfl rfl rfl (eff_pick (v := .t _) rfl rfl rfl rfl) ?_
        refine RH.op rfl rfl rfl (eff_move (v := .t _) rfl rfl rfl) ?_
        refine RH.gop rfl rfl rfl rfl rfl rfl rfl (eff_move (v := .t _) rfl rfl rfl) ?_
        refine RH.gop rfl rfl rfl rfl rfl rfl rfl (eff_move (v := .t _) rfl rfl rfl) ?_
        refine RH.gskip rfl rfl rfl rfl rfl rfl (by decide) ?_
        refine RH.gskip rfl rfl rfl rfl rfl rfl (by decide) ?_
        refine RH.gskip rfl rfl rfl rfl rfl rfl (by decide) ?_
        refine RH.gskip rfl rfl rfl rfl rfl rfl (by decide) ?_
        refine RH.gskip rfl rfl rfl rfl rfl rfl (by decide) ?_
        refine RH.gskip rfl rfl rfl rfl rfl rfl (by decide) ?_
        refine RH.gop rfl rfl rfl rfl rfl rfl rfl (eff_pick (v := .t _) rfl rfl rfl rfl) ?_
        refine RH.op rfl rfl rfl (eff_pick (v := .t _) rfl rfl rfl rfl) ?_
        refine RH.op rfl rfl rfl (eff_move (v := .t _) rfl rfl rfl) ?_
        refine RH.gop rfl rfl rfl rfl rfl rfl rfl (eff_move (v := .t _) rfl rfl rfl) ?_
        refine RH.gop rfl rfl rfl rfl rfl rfl rfl (eff_unop rfl rfl rfl rfl) ?_
        refine RH.gop rfl rfl rfl rfl rfl rfl rfl (eff_move (v := .t _) rfl rfl rfl) ?_
        refine RH.gop rfl rfl rfl rfl rfl rfl rfl (eff_load rfl rfl ti23 rfl (.whole rfl rfl rfl rfl rfl rfl)) ?_
        refine RH.gop rfl rfl rfl rfl rfl rfl rfl (eff_buildT (ys := [_, _, _, _]) rfl rfl tz23 tg23 rfl) ?_
        refine RH.gop rfl rfl rfl rfl rfl rfl rfl (eff_neqSame (a := zr) rfl rfl rfl rfl) ?_
        refine RH.gop rfl rfl rfl rfl rfl rfl rfl (eff_pick (v := .t _) rfl rfl rfl rfl) ?_
        refine RH.op rfl rfl rfl (eff_pick (v := .t _) rfl rfl rfl rfl) ?_
        refine RH.nil ?_
        refine awp_cond rfl (fun h => nomatch h) (fun _ => ?_)
        refine awp_skip ?_
        exact weak_keep (n := 157) ⟨rfl, rfl, rfl, rfl, rfl, rfl, rfl, rfl, trivial⟩ ⟨rfl, okE_one rfl, trivial⟩
    · rintro s1 hw
      refine awp_weak hw ?_
      refine awp_seq ?_
      refine awp_rw rfl ?_
      refine RW.op rfl rfl (eff_assign (v := .t _) rfl rfl rfl) ?_
      refine RW.nil ?_
      refine awp_seq ?_
      refine awp_seq ?_
      refine awp_rw rfl ?_
      refine RW.op rfl rfl (eff_assign (v := .t _) rfl rfl rfl) ?_
      refine RW.nil ?_
      refine awp_block ?_
      refine awp_loopW (fun m s => ∃ (j : Nat) (c : Int), (j ≤ (x0 :: rest).length) ∧ (0 ≤ c ∧ c ≤ j) ∧ (∀ k (h : k < (x0 :: rest).length), k < j → ((x0 :: rest)[k]).next = (loP (x0 :: rest) x0.next) → 0 < c) ∧ m = (x0 :: rest).length - j ∧ s = ⟨157, [(11, .ptr 11 0 0 0), (17, .t (encI (loP (x0 :: rest) x0.next))), (18, .t (encI (hiP (x0 :: rest) x0.next))), (21, .t (encI c)), (22, .t (encI (j : Nat))), (158, .t deT)], [(11, some ⟨2, 37, 0, [.t (encT ⟨snt, (x0 :: rest)⟩)]⟩)]⟩) (_) (⟨_, weak_keep (n := 157) (fr' := [(11, .ptr 11 0 0 0), (17, .t (encI (loP (x0 :: rest) x0.next))), (18, .t (encI (hiP (x0 :: rest) x0.next))), (21, .t (encI 0)), (22, .t (encI (0 : Nat))), (158, .t deT)]) (st' := [(11, some ⟨2, 37, 0, [.t (encT ⟨snt, (x0 :: rest)⟩)]⟩)]) ⟨rfl, rfl, rfl, rfl, rfl, rfl, rfl, rfl, rfl, rfl, rfl, rfl, trivial⟩ ⟨rfl, okE_one rfl, trivial⟩, 0, 0, (by omega), (by omega), (by intro k h hk; omega), rfl, rfl⟩) ?_
      rintro m s ⟨j, c, hj, hc0, hex, rfl, rfl⟩
      refine awp_seq ?_
      refine awp_seq ?_
      refine awp_rw rfl ?_
      refine RW.op rfl rfl (eff_move (v := .t _) rfl rfl rfl) ?_
      refine RW.op rfl rfl (eff_fieldAddr rfl rfl tf37_1 (by decide) rfl rfl rfl (Nat.le_of_ble_eq_true rfl)) ?_
      refine RW.op rfl rfl (eff_load (y := .t _) rfl rfl ti35 rfl (.one rfl rfl rfl rfl)) ?_
      refine RW.op rfl rfl (eff_lenM rfl rfl te35 rfl) ?_
      refine RW.op rfl rfl (eff_iop rfl rfl rfl rfl rfl) ?_
      refine RW.nil ?_
      refine awp_cond rfl (fun h4 => ?_) (fun h4 => ?_)
      · try simp only [decide_eq_true_eq, decide_eq_false_iff_not, beq_iff_eq, bne_iff_ne, bne_eq_false_iff_eq, beq_eq_false_iff_ne, Bool.not_eq_true, Bool.not_eq_false, Bool.not_eq_true', Bool.not_eq_false', ne_eq] at h4
        refine awp_skip ?_
        refine awp_seq ?_
        refine awp_block ?_
        refine awp_seq ?_
        refine awp_rw rfl ?_
        have hjl : j < (x0 :: rest).length := by omega
        have hlo : (loP (x0 :: rest) x0.next) ≤ ((x0 :: rest)[j]).next := (loP_le (x0 :: rest) x0.next).2 _ (List.getElem_mem _)
        have hhi : ((x0 :: rest)[j]).next ≤ (hiP (x0 :: rest) x0.next) := (hiP_ge (x0 :: rest) x0.next).2 _ (List.getElem_mem _)
        refine RW.op rfl rfl (eff_fieldAddr rfl rfl tf37_1 (by decide) rfl rfl rfl (Nat.le_of_ble_eq_true rfl)) ?_
        refine RW.op rfl rfl (eff_load (y := .t _) rfl rfl ti35 rfl (.one rfl rfl rfl rfl)) ?_
        refine RW.op rfl rfl (eff_move (v := .t _) rfl rfl rfl) ?_
        refine RW.op rfl rfl (eff_indexM rfl rfl te35 rfl rfl rfl (by first | assumption | exact List.getElem?_eq_getElem (by omega)) rfl (by decide)) ?_
        refine RW.op rfl rfl (eff_loadW rfl rfl ti23 rfl rfl rfl) ?_
        refine RW.new rfl rfl (eff_allocK (k := 4) (id := 23) rfl rfl tz23 rfl rfl) ?_
        refine RW.store rfl rfl (eff_storeW (v := .t _) (els := [_]) (els' := [_]) rfl rfl ti23 rfl rfl rfl rfl rfl rfl rfl rfl rfl) ?_
        refine RW.nil ?_
        refine awp_seq ?_
        refine awp_seq ?_
        by_cases hc5 : 0 < j
        · refine awp_rh [(some 108, []), (some 109, []), (some 110, []), (some 111, []), (some 112, []), (some 113, []), (some 114, []), (some 115, []), (some 116, []), (some 117, []), (some 118, []), (some 119, []), (some 120, []), (some 121, []), (some 122, []), (some 123, []), (some 124, []), (some 125, []), (some 126, []), (some 127, []), (some 128, []), (some 129, []), (some 130, []), (some 131, []), (some 132, []), (some 133, []), (some 134, []), (some 135, []), (some 136, []), (some 137, []), (some 138, []), (some 139, [])] [[], [], [0, 1], [0, 1, 2], [0, 1, 2, 3], [0, 1, 2, 3, 4], [0, 1, 2, 3, 4, 5], [0, 1, 2, 3, 4], [0, 1, 2, 3, 4, 5, 6, 7], [0, 1, 2, 3, 4, 5, 6, 7, 8], [0, 1, 2, 3, 4, 5, 6, 7, 8, 9], [0, 1, 2, 3, 4, 5, 6, 7, 8, 9, 10], [0, 1, 2, 3, 4, 5, 6, 7, 8, 9, 10, 11], [0, 1, 2, 3, 4, 5, 6, 7, 8, 9, 10], [0, 1, 2, 3, 4, 5, 6, 7, 8, 9, 10, 11, 12, 13], [0, 1, 2, 3, 4, 5, 6, 7, 8, 9, 10, 11, 12, 13, 14], [0, 1, 2, 3, 4, 5, 6, 7, 8, 9, 10, 11, 12, 13, 14, 15], [0, 1, 2, 3, 4, 5, 6, 7, 8, 9, 10, 11, 12, 13, 14, 15, 16], [0, 1, 2, 3, 4, 5, 6, 7, 8, 9, 10, 11, 12, 13, 14, 15, 16, 17], [0, 1, 2, 3, 4, 5, 6, 7, 8, 9, 10, 11, 12, 13, 14, 15, 16, 17, 18], [0, 1, 2, 3, 4, 5, 6, 7, 8, 9, 10, 11, 12, 13, 14, 15, 16, 17, 18, 19], [0, 1, 2, 3, 4, 5, 6, 7, 8, 9, 10, 11, 12, 13, 14, 15, 16, 17, 18, 19, 20], [0, 1, 2, 3, 4, 5, 6, 7, 8, 9, 10, 11, 12, 13, 14, 15, 16, 17, 18, 19], [0, 1, 2, 3, 4, 5, 6, 7, 8, 9, 10, 11, 12, 13, 14, 15, 16, 17, 18, 19, 22], [0, 1, 2, 3, 4, 5, 6, 7, 8, 9, 10, 11, 12, 13, 14, 15, 16, 17, 18, 19, 22, 23], [0, 1, 2, 3, 4, 5, 6, 7, 8, 9, 10, 11, 12, 13, 14, 15, 16, 17, 18, 19, 20, 21, 22, 23, 24], [0, 1, 2, 3, 4, 5, 6, 7, 8, 9, 10, 11, 12, 13, 14, 15, 16, 17, 18, 19, 20, 21, 22, 23, 24, 25], [0, 1, 2, 3, 4, 5, 6, 7, 8, 9, 10, 11, 12, 13, 14, 15, 16, 17, 18, 19], [0, 1, 2, 3, 4, 5, 6, 7, 8, 9, 10, 11, 12, 13, 14, 15, 16, 17, 18, 19, 20, 21, 22, 23, 24, 25, 26, 27], [0, 1, 2, 3, 4, 5, 6, 7, 8, 9, 10, 11, 12, 13, 14, 15, 16, 17, 18, 19, 20, 21, 22, 23, 24, 25, 26, 27, 28], [0, 1, 2, 3, 4, 5, 6, 7, 8, 9, 10, 11, 12, 13, 14, 15, 16, 17, 18, 19, 20, 21, 22, 23, 24, 25, 26, 27, 28, 29], [0, 1, 2, 3, 4, 5, 6, 7, 8, 9, 10, 11, 12, 13, 14, 15, 16, 17, 18, 19, 20, 21, 22, 23, 24, 25, 26, 27, 28, 29, 30]] [([(some 109, [])], (some 108, [])), ([(some 108, [])], (some 109, [])), ([], (some 110, [])), ([], (some 111, [])), ([], (some 112, [])), ([(some 115, [])], (some 113, [])), ([(some 115, [])], (some 114, [])), ([(some 113, []), (some 114, [])], (some 115, [])), ([], (some 116, [])), ([], (some 117, [])), ([], (some 118, [])), ([(some 121, [])], (some 119, [])), ([(some 121, [])], (some 120, [])), ([(some 119, []), (some 120, [])], (some 121, [])), ([], (some 122, [])), ([], (some 123, [])), ([], (some 124, [])), ([], (some 125, [])), ([], (some 126, [])), ([], (some 127, [])), ([(some 130, []), (some 131, []), (some 132, []), (some 135, [])], (some 128, [])), ([(some 130, []), (some 131, []), (some 132, []), (some 135, [])], (some 129, [])), ([(some 128, []), (some 129, []), (some 135, [])], (some 130, [])), ([(some 128, []), (some 129, []), (some 135, [])], (some 131, [])), ([(some 128, []), (some 129, []), (some 135, [])], (some 132, [])), ([(some 135, [])], (some 133, [])), ([(some 135, [])], (some 134, [])), ([(some 128, []), (some 129, []), (some 130, []), (some 131, []), (some 132, []), (some 133, []), (some 134, [])], (some 135, [])), ([], (some 136, [])), ([], (some 137, [])), ([], (some 138, [])), ([], (some 139, []))] tm rfl (by decide +kernel) (by decide +kernel) rfl (by decide +kernel) ?_
          refine RH.op rfl rfl rfl (eff_load rfl rfl ti37 rfl (.whole rfl rfl rfl rfl rfl rfl)) ?_
          refine RH.op rfl rfl rfl (eff_load rfl rfl ti23 rfl (.whole rfl rfl rfl rfl rfl rfl)) ?_
          refine RH.op rfl rfl rfl (eff_callT (tcontains_mem ⟨snt, (x0 :: rest)⟩ ((x0 :: rest)[j]) (by show (x0 :: rest).length ≤ _; omega) (List.getElem_mem _)) co29 rfl rfl rfl rfl) ?_
          refine RH.op rfl rfl rfl (eff_unop rfl rfl rfl rfl) ?_
          refine RH.op rfl rfl rfl (eff_move (v := .t _) rfl rfl rfl) ?_
          refine RH.gop rfl rfl rfl rfl rfl rfl rfl (eff_fieldAddr rfl rfl tf23_0 (by decide) rfl rfl rfl (Nat.le_of_ble_eq_true rfl)) ?_
          refine RH.gop rfl rfl rfl rfl rfl rfl rfl (eff_load (y := .t _) rfl rfl ti3 rfl (.one rfl rfl rfl rfl)) ?_
          refine RH.gop rfl rfl rfl rfl rfl rfl rfl (eff_move (v := .t _) rfl rfl rfl) ?_
          refine RH.gop rfl rfl rfl rfl rfl rfl rfl (eff_iop (r := .bool false) rfl rfl rfl rfl (by simp only [iop]; rw [decide_eq_false (by omega)])) ?_
          refine RH.op rfl rfl rfl (eff_pick (v := .t _) rfl rfl rfl rfl) ?_
          refine RH.op rfl rfl rfl (eff_move (v := .t _) rfl rfl rfl) ?_
          refine RH.gop rfl rfl rfl rfl rfl rfl rfl (eff_fieldAddr rfl rfl tf23_0 (by decide) rfl rfl rfl (Nat.le_of_ble_eq_true rfl)) ?_
          refine RH.gop rfl rfl rfl rfl rfl rfl rfl (eff_load (y := .t _) rfl rfl ti3 rfl (.one rfl rfl rfl rfl)) ?_
          refine RH.gop rfl rfl rfl rfl rfl rfl rfl (eff_move (v := .t _) rfl rfl rfl) ?_
          refine RH.gop rfl rfl rfl rfl rfl rfl rfl (eff_iop (r := .bool false) rfl rfl rfl rfl (by simp only [iop]; rw [decide_eq_false (by omega)])) ?_
          refine RH.op rfl rfl rfl (eff_pick (v := .t _) rfl rfl rfl rfl) ?_
          refine RH.op rfl rfl rfl (eff_move (v := .t _) rfl rfl rfl) ?_
          refine RH.gop rfl rfl rfl rfl rfl rfl rfl (eff_move (v := .t _) rfl rfl rfl) ?_
          refine RH.gop rfl rfl rfl rfl rfl rfl rfl (eff_iop (r := .bool true) rfl rfl rfl rfl (by simp only [iop]; rw [decide_eq_true (by omega)])) ?_
          refine RH.gop rfl rfl rfl rfl rfl rfl rfl (eff_move (v := .t _) rfl rfl rfl) ?_
          refine RH.gop rfl rfl rfl rfl rfl rfl rfl (eff_fieldAddr rfl rfl tf37_1 (by decide) rfl rfl rfl (Nat.le_of_ble_eq_true rfl)) ?_
          refine RH.gop rfl rfl rfl rfl rfl rfl rfl (eff_load (y := .t _) rfl rfl ti35 rfl (.one rfl rfl rfl rfl)) ?_
          refine RH.gop rfl rfl rfl rfl rfl rfl rfl (eff_move (v := .t _) rfl rfl rfl) ?_
          refine RH.gop rfl rfl rfl rfl rfl rfl rfl (eff_iop rfl rfl rfl rfl (isub (by omega))) ?_
          refine RH.gop rfl rfl rfl rfl rfl rfl rfl (eff_maxE (r := ((j - 1 : Nat) : Int)) rfl rfl rfl rfl (by unfold imax; split <;> omega)) ?_
          refine RH.gop rfl rfl rfl rfl rfl rfl rfl (eff_indexM (i := j - 1) rfl rfl te35 rfl rfl (by first | rfl | omega) (by show (x0 :: rest)[j - 1]? = some _; exact List.getElem?_eq_getElem (by omega)) rfl (by decide)) ?_
          refine RH.gop rfl rfl rfl rfl rfl rfl rfl (eff_loadW rfl rfl ti23 rfl rfl rfl) ?_
          refine RH.gop rfl rfl rfl rfl rfl rfl rfl (eff_load rfl rfl ti23 rfl (.whole rfl rfl rfl rfl rfl rfl)) ?_
          refine RH.gop rfl rfl rfl rfl rfl rfl rfl (eff_callT (less_true ((x0 :: rest)[j - 1]'(by omega)) ((x0 :: rest)[j]) (srt_lt hg.srt (by omega) hjl)) co32 rfl rfl rfl rfl) ?_
          refine RH.gop rfl rfl rfl rfl rfl rfl rfl (eff_unop rfl rfl rfl rfl) ?_
          refine RH.gop rfl rfl rfl rfl rfl rfl rfl (eff_pick (v := .t _) rfl rfl rfl rfl) ?_
          refine RH.op rfl rfl rfl (eff_pick (v := .t _) rfl rfl rfl rfl) ?_
          refine RH.nil ?_
          refine awp_cond rfl (fun h => nomatch h) (fun _ => ?_)
          refine awp_skip ?_
          refine awp_seq ?_
          refine awp_rw rfl ?_
          refine RW.op rfl rfl (eff_fieldAddr rfl rfl tf23_0 (by decide) rfl rfl rfl (Nat.le_of_ble_eq_true rfl)) ?_
          refine RW.op rfl rfl (eff_load (y := .t _) rfl rfl ti3 rfl (.one rfl rfl rfl rfl)) ?_
          refine RW.op rfl rfl (eff_move (v := .t _) rfl rfl rfl) ?_
          refine RW.op rfl rfl (eff_iop rfl rfl rfl rfl rfl) ?_
          refine RW.op rfl rfl (eff_move (v := .t _) rfl rfl rfl) ?_
          refine RW.split 144 rfl (fun h6 => ?_) (fun h6 => ?_)
          · try simp only [decide_eq_true_eq, decide_eq_false_iff_not, beq_iff_eq, bne_iff_ne, bne_eq_false_iff_eq, beq_eq_false_iff_ne, Bool.not_eq_true, Bool.not_eq_false, Bool.not_eq_true', Bool.not_eq_false', ne_eq] at h6
            refine RW.gskip rfl rfl rfl rfl rfl (by decide) ?_
            refine RW.gskip rfl rfl rfl rfl rfl (by decide) ?_
            refine RW.gskip rfl rfl rfl rfl rfl (by decide) ?_
            refine RW.gskip rfl rfl rfl rfl rfl (by decide) ?_
            refine RW.op rfl rfl (eff_pick (v := .t _) rfl rfl rfl rfl) ?_
            refine RW.nil ?_
            refine awp_cond rfl (fun _ => ?_) (fun h => nomatch h)
            refine awp_rw rfl ?_
            refine RW.op rfl rfl (eff_move (v := .t _) rfl rfl rfl) ?_
            refine RW.op rfl rfl (eff_iop rfl rfl rfl rfl (iadd (by omega))) ?_
            refine RW.op rfl rfl (eff_assign (v := .t _) rfl rfl rfl) ?_
            refine RW.nil ?_
            refine awp_rw rfl ?_
            refine RW.op rfl rfl (eff_move (v := .t _) rfl rfl rfl) ?_
            refine RW.op rfl rfl (eff_iop rfl rfl rfl rfl (iadd (by omega))) ?_
            refine RW.op rfl rfl (eff_assign (v := .t _) rfl rfl rfl) ?_
            refine RW.nil ?_
            refine ⟨_, ?_, _, weak_keep (n := 157) (fr' := [(11, .ptr 11 0 0 0), (17, .t (encI (loP (x0 :: rest) x0.next))), (18, .t (encI (hiP (x0 :: rest) x0.next))), (21, .t (encI _)), (22, .t (encI ((j + 1) : Nat))), (158, .t deT)]) (st' := [(11, some ⟨2, 37, 0, [.t (encT ⟨snt, (x0 :: rest)⟩)]⟩)]) ⟨rfl, rfl, rfl, rfl, rfl, rfl, rfl, rfl, rfl, rfl, rfl, rfl, trivial⟩ ⟨rfl, okE_one rfl, trivial⟩, j + 1, _, (by omega), (by omega), (by intro k h hk he; first | omega | exact (if h9 : k < j then hex k h h9 he else absurd he (by obtain rfl : k = j := (by omega); assumption))), rfl, rfl⟩
            omega
          · try simp only [decide_eq_true_eq, decide_eq_false_iff_not, beq_iff_eq, bne_iff_ne, bne_eq_false_iff_eq, beq_eq_false_iff_ne, Bool.not_eq_true, Bool.not_eq_false, Bool.not_eq_true', Bool.not_eq_false', ne_eq] at h6
            refine RW.gop rfl rfl rfl rfl rfl rfl (eff_fieldAddr rfl rfl tf23_0 (by decide) rfl rfl rfl (Nat.le_of_ble_eq_true rfl)) ?_
            refine RW.gop rfl rfl rfl rfl rfl rfl (eff_load (y := .t _) rfl rfl ti3 rfl (.one rfl rfl rfl rfl)) ?_
            refine RW.gop rfl rfl rfl rfl rfl rfl (eff_move (v := .t _) rfl rfl rfl) ?_
            refine RW.gop rfl rfl rfl rfl rfl rfl (eff_iop rfl rfl rfl rfl rfl) ?_
            refine RW.op rfl rfl (eff_pick (v := .t _) rfl rfl rfl rfl) ?_
            refine RW.nil ?_
            refine awp_cond rfl (fun h7 => ?_) (fun h7 => ?_)
            · try simp only [decide_eq_true_eq, decide_eq_false_iff_not, beq_iff_eq, bne_iff_ne, bne_eq_false_iff_eq, beq_eq_false_iff_ne, Bool.not_eq_true, Bool.not_eq_false, Bool.not_eq_true', Bool.not_eq_false', ne_eq] at h7
              refine awp_rw rfl ?_
              refine RW.op rfl rfl (eff_move (v := .t _) rfl rfl rfl) ?_
              refine RW.op rfl rfl (eff_iop rfl rfl rfl rfl (iadd (by omega))) ?_
              refine RW.op rfl rfl (eff_assign (v := .t _) rfl rfl rfl) ?_
              refine RW.nil ?_
              refine awp_rw rfl ?_
              refine RW.op rfl rfl (eff_move (v := .t _) rfl rfl rfl) ?_
              refine RW.op rfl rfl (eff_iop rfl rfl rfl rfl (iadd (by omega))) ?_
              refine RW.op rfl rfl (eff_assign (v := .t _) rfl rfl rfl) ?_
              refine RW.nil ?_
              refine ⟨_, ?_, _, weak_keep (n := 157) (fr' := [(11, .ptr 11 0 0 0), (17, .t (encI (loP (x0 :: rest) x0.next))), (18, .t (encI (hiP (x0 :: rest) x0.next))), (21, .t (encI _)), (22, .t (encI ((j + 1) : Nat))), (158, .t deT)]) (st' := [(11, some ⟨2, 37, 0, [.t (encT ⟨snt, (x0 :: rest)⟩)]⟩)]) ⟨rfl, rfl, rfl, rfl, rfl, rfl, rfl, rfl, rfl, rfl, rfl, rfl, trivial⟩ ⟨rfl, okE_one rfl, trivial⟩, j + 1, _, (by omega), (by omega), (by intro k h hk he; first | omega | exact (if h9 : k < j then hex k h h9 he else absurd he (by obtain rfl : k = j := (by omega); assumption))), rfl, rfl⟩
              omega
            · try simp only [decide_eq_true_eq, decide_eq_false_iff_not, beq_iff_eq, bne_iff_ne, bne_eq_false_iff_eq, beq_eq_false_iff_ne, Bool.not_eq_true, Bool.not_eq_false, Bool.not_eq_true', Bool.not_eq_false', ne_eq] at h7
              refine awp_skip ?_
              refine awp_rw rfl ?_
              refine RW.op rfl rfl (eff_move (v := .t _) rfl rfl rfl) ?_
              refine RW.op rfl rfl (eff_iop rfl rfl rfl rfl (iadd (by omega))) ?_
              refine RW.op rfl rfl (eff_assign (v := .t _) rfl rfl rfl) ?_
              refine RW.nil ?_
              refine ⟨_, ?_, _, weak_keep (n := 157) (fr' := [(11, .ptr 11 0 0 0), (17, .t (encI (loP (x0 :: rest) x0.next))), (18, .t (encI (hiP (x0 :: rest) x0.next))), (21, .t (encI _)), (22, .t (encI ((j + 1) : Nat))), (158, .t deT)]) (st' := [(11, some ⟨2, 37, 0, [.t (encT ⟨snt, (x0 :: rest)⟩)]⟩)]) ⟨rfl, rfl, rfl, rfl, rfl, rfl, rfl, rfl, rfl, rfl, rfl, rfl, trivial⟩ ⟨rfl, okE_one rfl, trivial⟩, j + 1, _, (by omega), (by omega), (by intro k h hk he; first | omega | exact (if h9 : k < j then hex k h h9 he else absurd he (by obtain rfl : k = j := (by omega); assumption))), rfl, rfl⟩
              omega
        · refine awp_rh [(some 108, []), (some 109, []), (some 110, []), (some 111, []), (some 112, []), (some 113, []), (some 114, []), (some 115, []), (some 116, []), (some 117, []), (some 118, []), (some 119, []), (some 120, []), (some 121, []), (some 122, []), (some 123, []), (some 124, []), (some 125, []), (some 126, []), (some 127, []), (some 128, []), (some 129, []), (some 130, []), (some 131, []), (some 132, []), (some 133, []), (some 134, []), (some 135, []), (some 136, []), (some 137, []), (some 138, []), (some 139, [])] [[], [], [0, 1], [0, 1, 2], [0, 1, 2, 3], [0, 1, 2, 3, 4], [0, 1, 2, 3, 4, 5], [0, 1, 2, 3, 4], [0, 1, 2, 3, 4, 5, 6, 7], [0, 1, 2, 3, 4, 5, 6, 7, 8], [0, 1, 2, 3, 4, 5, 6, 7, 8, 9], [0, 1, 2, 3, 4, 5, 6, 7, 8, 9, 10], [0, 1, 2, 3, 4, 5, 6, 7, 8, 9, 10, 11], [0, 1, 2, 3, 4, 5, 6, 7, 8, 9, 10], [0, 1, 2, 3, 4, 5, 6, 7, 8, 9, 10, 11, 12, 13], [0, 1, 2, 3, 4, 5, 6, 7, 8, 9, 10, 11, 12, 13, 14], [0, 1, 2, 3, 4, 5, 6, 7, 8, 9, 10, 11, 12, 13, 14, 15], [0, 1, 2, 3, 4, 5, 6, 7, 8, 9, 10, 11, 12, 13, 14, 15, 16], [0, 1, 2, 3, 4, 5, 6, 7, 8, 9, 10, 11, 12, 13, 14, 15, 16, 17], [0, 1, 2, 3, 4, 5, 6, 7, 8, 9, 10, 11, 12, 13, 14, 15, 16, 17, 18], [0, 1, 2, 3, 4, 5, 6, 7, 8, 9, 10, 11, 12, 13, 14, 15, 16, 17, 18, 19], [0, 1, 2, 3, 4, 5, 6, 7, 8, 9, 10, 11, 12, 13, 14, 15, 16, 17, 18, 19, 20], [0, 1, 2, 3, 4, 5, 6, 7, 8, 9, 10, 11, 12, 13, 14, 15, 16, 17, 18, 19], [0, 1, 2, 3, 4, 5, 6, 7, 8, 9, 10, 11, 12, 13, 14, 15, 16, 17, 18, 19, 22], [0, 1, 2, 3, 4, 5, 6, 7, 8, 9, 10, 11, 12, 13, 14, 15, 16, 17, 18, 19, 22, 23], [0, 1, 2, 3, 4, 5, 6, 7, 8, 9, 10, 11, 12, 13, 14, 15, 16, 17, 18, 19, 20, 21, 22, 23, 24], [0, 1, 2, 3, 4, 5, 6, 7, 8, 9, 10, 11, 12, 13, 14, 15, 16, 17, 18, 19, 20, 21, 22, 23, 24, 25], [0, 1, 2, 3, 4, 5, 6, 7, 8, 9, 10, 11, 12, 13, 14, 15, 16, 17, 18, 19], [0, 1, 2, 3, 4, 5, 6, 7, 8, 9, 10, 11, 12, 13, 14, 15, 16, 17, 18, 19, 20, 21, 22, 23, 24, 25, 26, 27], [0, 1, 2, 3, 4, 5, 6, 7, 8, 9, 10, 11, 12, 13, 14, 15, 16, 17, 18, 19, 20, 21, 22, 23, 24, 25, 26, 27, 28], [0, 1, 2, 3, 4, 5, 6, 7, 8, 9, 10, 11, 12, 13, 14, 15, 16, 17, 18, 19, 20, 21, 22, 23, 24, 25, 26, 27, 28, 29], [0, 1, 2, 3, 4, 5, 6, 7, 8, 9, 10, 11, 12, 13, 14, 15, 16, 17, 18, 19, 20, 21, 22, 23, 24, 25, 26, 27, 28, 29, 30]] [([(some 109, [])], (some 108, [])), ([(some 108, [])], (some 109, [])), ([], (some 110, [])), ([], (some 111, [])), ([], (some 112, [])), ([(some 115, [])], (some 113, [])), ([(some 115, [])], (some 114, [])), ([(some 113, []), (some 114, [])], (some 115, [])), ([], (some 116, [])), ([], (some 117, [])), ([], (some 118, [])), ([(some 121, [])], (some 119, [])), ([(some 121, [])], (some 120, [])), ([(some 119, []), (some 120, [])], (some 121, [])), ([], (some 122, [])), ([], (some 123, [])), ([], (some 124, [])), ([], (some 125, [])), ([], (some 126, [])), ([], (some 127, [])), ([(some 130, []), (some 131, []), (some 132, []), (some 135, [])], (some 128, [])), ([(some 130, []), (some 131, []), (some 132, []), (some 135, [])], (some 129, [])), ([(some 128, []), (some 129, []), (some 135, [])], (some 130, [])), ([(some 128, []), (some 129, []), (some 135, [])], (some 131, [])), ([(some 128, []), (some 129, []), (some 135, [])], (some 132, [])), ([(some 135, [])], (some 133, [])), ([(some 135, [])], (some 134, [])), ([(some 128, []), (some 129, []), (some 130, []), (some 131, []), (some 132, []), (some 133, []), (some 134, [])], (some 135, [])), ([], (some 136, [])), ([], (some 137, [])), ([], (some 138, [])), ([], (some 139, []))] tm rfl (by decide +kernel) (by decide +kernel) rfl (by decide +kernel) ?_
          refine RH.op rfl rfl rfl (eff_load rfl rfl ti37 rfl (.whole rfl rfl rfl rfl rfl rfl)) ?_
          refine RH.op rfl rfl rfl (eff_load rfl rfl ti23 rfl (.whole rfl rfl rfl rfl rfl rfl)) ?_
          refine RH.op rfl rfl rfl (eff_callT (tcontains_mem ⟨snt, (x0 :: rest)⟩ ((x0 :: rest)[j]) (by show (x0 :: rest).length ≤ _; omega) (List.getElem_mem _)) co29 rfl rfl rfl rfl) ?_
          refine RH.op rfl rfl rfl (eff_unop rfl rfl rfl rfl) ?_
          refine RH.op rfl rfl rfl (eff_move (v := .t _) rfl rfl rfl) ?_
          refine RH.gop rfl rfl rfl rfl rfl rfl rfl (eff_fieldAddr rfl rfl tf23_0 (by decide) rfl rfl rfl (Nat.le_of_ble_eq_true rfl)) ?_
          refine RH.gop rfl rfl rfl rfl rfl rfl rfl (eff_load (y := .t _) rfl rfl ti3 rfl (.one rfl rfl rfl rfl)) ?_
          refine RH.gop rfl rfl rfl rfl rfl rfl rfl (eff_move (v := .t _) rfl rfl rfl) ?_
          refine RH.gop rfl rfl rfl rfl rfl rfl rfl (eff_iop (r := .bool false) rfl rfl rfl rfl (by simp only [iop]; rw [decide_eq_false (by omega)])) ?_
          refine RH.op rfl rfl rfl (eff_pick (v := .t _) rfl rfl rfl rfl) ?_
          refine RH.op rfl rfl rfl (eff_move (v := .t _) rfl rfl rfl) ?_
          refine RH.gop rfl rfl rfl rfl rfl rfl rfl (eff_fieldAddr rfl rfl tf23_0 (by decide) rfl rfl rfl (Nat.le_of_ble_eq_true rfl)) ?_
          refine RH.gop rfl rfl rfl rfl rfl rfl rfl (eff_load (y := .t _) rfl rfl ti3 rfl (.one rfl rfl rfl rfl)) ?_
          refine RH.gop rfl rfl rfl rfl rfl rfl rfl (eff_move (v := .t _) rfl rfl rfl) ?_
          refine RH.gop rfl rfl rfl rfl rfl rfl rfl (eff_iop (r := .bool false) rfl rfl rfl rfl (by simp only [iop]; rw [decide_eq_false (by omega)])) ?_
          refine RH.op rfl rfl rfl (eff_pick (v := .t _) rfl rfl rfl rfl) ?_
          refine RH.op rfl rfl rfl (eff_move (v := .t _) rfl rfl rfl) ?_
          refine RH.gop rfl rfl rfl rfl rfl rfl rfl (eff_move (v := .t _) rfl rfl rfl) ?_
          refine RH.gop rfl rfl rfl rfl rfl rfl rfl (eff_iop (r := .bool false) rfl rfl rfl rfl (by simp only [iop]; rw [decide_eq_false (by omega)])) ?_
          refine RH.gop rfl rfl rfl rfl rfl rfl rfl (eff_move (v := .t _) rfl rfl rfl) ?_
          refine RH.gskip rfl rfl rfl rfl rfl rfl (by decide) ?_
          refine RH.gskip rfl rfl rfl rfl rfl rfl (by decide) ?_
          refine RH.gskip rfl rfl rfl rfl rfl rfl (by decide) ?_
          refine RH.gskip rfl rfl rfl rfl rfl rfl (by decide) ?_
          refine RH.gskip rfl rfl rfl rfl rfl rfl (by decide) ?_
          refine RH.gskip rfl rfl rfl rfl rfl rfl (by decide) ?_
          refine RH.gskip rfl rfl rfl rfl rfl rfl (by decide) ?_
          refine RH.gskip rfl rfl rfl rfl rfl rfl (by decide) ?_
          refine RH.gskip rfl rfl rfl rfl rfl rfl (by decide) ?_
          refine RH.gskip rfl rfl rfl rfl rfl rfl (by decide) ?_
          refine RH.gop rfl rfl rfl rfl rfl rfl rfl (eff_pick (v := .t _) rfl rfl rfl rfl) ?_
          refine RH.op rfl rfl rfl (eff_pick (v := .t _) rfl rfl rfl rfl) ?_
          refine RH.nil ?_
          refine awp_cond rfl (fun h => nomatch h) (fun _ => ?_)
          refine awp_skip ?_
          refine awp_seq ?_
          refine awp_rw rfl ?_
          refine RW.op rfl rfl (eff_fieldAddr rfl rfl tf23_0 (by decide) rfl rfl rfl (Nat.le_of_ble_eq_true rfl)) ?_
          refine RW.op rfl rfl (eff_load (y := .t _) rfl rfl ti3 rfl (.one rfl rfl rfl rfl)) ?_
          refine RW.op rfl rfl (eff_move (v := .t _) rfl rfl rfl) ?_
          refine RW.op rfl rfl (eff_iop rfl rfl rfl rfl rfl) ?_
          refine RW.op rfl rfl (eff_move (v := .t _) rfl rfl rfl) ?_
          refine RW.split 144 rfl (fun h8 => ?_) (fun h8 => ?_)
          · try simp only [decide_eq_true_eq, decide_eq_false_iff_not, beq_iff_eq, bne_iff_ne, bne_eq_false_iff_eq, beq_eq_false_iff_ne, Bool.not_eq_true, Bool.not_eq_false, Bool.not_eq_true', Bool.not_eq_false', ne_eq] at h8
            refine RW.gskip rfl rfl rfl rfl rfl (by decide) ?_
            refine RW.gskip rfl rfl rfl rfl rfl (by decide) ?_
            refine RW.gskip rfl rfl rfl rfl rfl (by decide) ?_
            refine RW.gskip rfl rfl rfl rfl rfl (by decide) ?_
            refine RW.op rfl rfl (eff_pick (v := .t _) rfl rfl rfl rfl) ?_
            refine RW.nil ?_
            refine awp_cond rfl (fun _ => ?_) (fun h => nomatch h)
            refine awp_rw rfl ?_
            refine RW.op rfl rfl (eff_move (v := .t _) rfl rfl rfl) ?_
            refine RW.op rfl rfl (eff_iop rfl rfl rfl rfl (iadd (by omega))) ?_
            refine RW.op rfl rfl (eff_assign (v := .t _) rfl rfl rfl) ?_
            refine RW.nil ?_
            refine awp_rw rfl ?_
            refine RW.op rfl rfl (eff_move (v := .t _) rfl rfl rfl) ?_
            refine RW.op rfl rfl (eff_iop rfl rfl rfl rfl (iadd (by omega))) ?_
            refine RW.op rfl rfl (eff_assign (v := .t _) rfl rfl rfl) ?_
            refine RW.nil ?_
            refine ⟨_, ?_, _, weak_keep (n := 157) (fr' := [(11, .ptr 11 0 0 0), (17, .t (encI (loP (x0 :: rest) x0.next))), (18, .t (encI (hiP (x0 :: rest) x0.next))), (21, .t (encI _)), (22, .t (encI ((j + 1) : Nat))), (158, .t deT)]) (st' := [(11, some ⟨2, 37, 0, [.t (encT ⟨snt, (x0 :: rest)⟩)]⟩)]) ⟨rfl, rfl, rfl, rfl, rfl, rfl, rfl, rfl, rfl, rfl, rfl, rfl, trivial⟩ ⟨rfl, okE_one rfl, trivial⟩, j + 1, _, (by omega), (by omega), (by intro k h hk he; first | omega | exact (if h9 : k < j then hex k h h9 he else absurd he (by obtain rfl : k = j := (by omega); assumption))), rfl, rfl⟩
            omega
          · try simp only [decide_eq_true_eq, decide_eq_false_iff_not, beq_iff_eq, bne_iff_ne, bne_eq_false_iff_eq, beq_eq_false_iff_ne, Bool.not_eq_true, Bool.not_eq_false, Bool.not_eq_true', Bool.not_eq_false', ne_eq] at h8
            refine RW.gop rfl rfl rfl rfl rfl rfl (eff_fieldAddr rfl rfl tf23_0 (by decide) rfl rfl rfl (Nat.le_of_ble_eq_true rfl)) ?_
            refine RW.gop rfl rfl rfl rfl rfl rfl (eff_load (y := .t _) rfl rfl ti3 rfl (.one rfl rfl rfl rfl)) ?_
            refine RW.gop rfl rfl rfl rfl rfl rfl (eff_move (v := .t _) rfl rfl rfl) ?_
            refine RW.gop rfl rfl rfl rfl rfl rfl (eff_iop rfl rfl rfl rfl rfl) ?_
            refine RW.op rfl rfl (eff_pick (v := .t _) rfl rfl rfl rfl) ?_
            refine RW.nil ?_
            refine awp_cond rfl (fun h9 => ?_) (fun h9 => ?_)
            · try simp only [decide_eq_true_eq, decide_eq_false_iff_not, beq_iff_eq, bne_iff_ne, bne_eq_false_iff_eq, beq_eq_false_iff_ne, Bool.not_eq_true, Bool.not_eq_false, Bool.not_eq_true', Bool.not_eq_false', ne_eq] at h9
              refine awp_rw rfl ?_
              refine RW.op rfl rfl (eff_move (v := .t _) rfl rfl rfl) ?_
              refine RW.op rfl rfl (eff_iop rfl rfl rfl rfl (iadd (by omega))) ?_
              refine RW.op rfl rfl (eff_assign (v := .t _) rfl rfl rfl) ?_
              refine RW.nil ?_
              refine awp_rw rfl ?_
              refine RW.op rfl rfl (eff_move (v := .t _) rfl rfl rfl) ?_
              refine RW.op rfl rfl (eff_iop rfl rfl rfl rfl (iadd (by omega))) ?_
              refine RW.op rfl rfl (eff_assign (v := .t _) rfl rfl rfl) ?_
              refine RW.nil ?_
              refine ⟨_, ?_, _, weak_keep (n := 157) (fr' := [(11, .ptr 11 0 0 0), (17, .t (encI (loP (x0 :: rest) x0.next))), (18, .t (encI (hiP (x0 :: rest) x0.next))), (21, .t (encI _)), (22, .t (encI ((j + 1) : Nat))), (158, .t deT)]) (st' := [(11, some ⟨2, 37, 0, [.t (encT ⟨snt, (x0 :: rest)⟩)]⟩)]) ⟨rfl, rfl, rfl, rfl, rfl, rfl, rfl, rfl, rfl, rfl, rfl, rfl, trivial⟩ ⟨rfl, okE_one rfl, trivial⟩, j + 1, _, (by omega), (by omega), (by intro k h hk he; first | omega | exact (if h9 : k < j then hex k h h9 he else absurd he (by obtain rfl : k = j := (by omega); assumption))), rfl, rfl⟩
              omega
            · try simp only [decide_eq_true_eq, decide_eq_false_iff_not, beq_iff_eq, bne_iff_ne, bne_eq_false_iff_eq, beq_eq_false_iff_ne, Bool.not_eq_true, Bool.not_eq_false, Bool.not_eq_true', Bool.not_eq_false', ne_eq] at h9
              refine awp_skip ?_
              refine awp_rw rfl ?_
              refine RW.op rfl rfl (eff_move (v := .t _) rfl rfl rfl) ?_
              refine RW.op rfl rfl (eff_iop rfl rfl rfl rfl (iadd (by omega))) ?_
              refine RW.op rfl rfl (eff_assign (v := .t _) rfl rfl rfl) ?_
              refine RW.nil ?_
              refine ⟨_, ?_, _, weak_keep (n := 157) (fr' := [(11, .ptr 11 0 0 0), (17, .t (encI (loP (x0 :: rest) x0.next))), (18, .t (encI (hiP (x0 :: rest) x0.next))), (21, .t (encI _)), (22, .t (encI ((j + 1) : Nat))), (158, .t deT)]) (st' := [(11, some ⟨2, 37, 0, [.t (encT ⟨snt, (x0 :: rest)⟩)]⟩)]) ⟨rfl, rfl, rfl, rfl, rfl, rfl, rfl, rfl, rfl, rfl, rfl, rfl, trivial⟩ ⟨rfl, okE_one rfl, trivial⟩, j + 1, _, (by omega), (by omega), (by intro k h hk he; first | omega | exact (if h9 : k < j then hex k h h9 he else absurd he (by obtain rfl : k = j := (by omega); assumption))), rfl, rfl⟩
              omega
      · try simp only [decide_eq_true_eq, decide_eq_false_iff_not, beq_iff_eq, bne_iff_ne, bne_eq_false_iff_eq, beq_eq_false_iff_ne, Bool.not_eq_true, Bool.not_eq_false, Bool.not_eq_true', Bool.not_eq_false', ne_eq] at h4
        refine awp_exit ?_
        refine awp_seq ?_
        refine awp_rw rfl ?_
        obtain ⟨k, hk, hke⟩ := lo_at x0 rest
        have hcp := hex k hk (by omega) hke
        refine RW.op rfl rfl (eff_move (v := .t _) rfl rfl rfl) ?_
        refine RW.op rfl rfl (eff_iop (r := .bool true) rfl rfl rfl rfl (by simp only [iop]; rw [decide_eq_true (by omega)])) ?_
        refine RW.op rfl rfl (eff_move (v := .t _) rfl rfl rfl) ?_
        refine RW.gop rfl rfl rfl rfl rfl rfl (eff_callXT (lives_ret) co16 rfl rfl rfl ⟨rfl, trivial⟩ rfl) ?_
        refine RW.op rfl rfl (eff_pick (v := .t _) rfl rfl rfl rfl) ?_
        refine RW.op rfl rfl (eff_assign (v := .t _) rfl rfl rfl) ?_
        refine RW.nil ?_
        refine awp_ret ?_
        first
          | exact ⟨Or.inr rfl, [_], ⟨.tmp (.t _), trivial⟩, .refl _⟩
          | exact ⟨Or.inr rfl, [_], ⟨.tmp (.t _), trivial⟩, (by repeat' first | exact trivial | exact Wk.refl _ | exact Wk.sl _ | refine And.intro ?_ ?_ | refine Wk.tupP ?_ | refine Wk.aggP ?_)⟩
          | exact ⟨Or.inr rfl, [_], ⟨.tmp (Res.ownT rfl rfl rfl rfl), trivial⟩, .refl _⟩
          | exact ⟨Or.inr rfl, [_], ⟨.tmp (Res.ownT rfl rfl rfl rfl), trivial⟩, (by repeat' first | exact trivial | exact Wk.refl _ | exact Wk.sl _ | refine And.intro ?_ ?_ | refine Wk.tupP ?_ | refine Wk.aggP ?_)⟩

end Go.Tv.C34

end
section
open Go Go.Tv Go.Proofs Go.ChangeShapes Go.WideShapes Go.ChangeAt Go.RowKit
namespace Go.Tv.C34
set_option maxRecDepth 100000

theorem wfI64 {n : Int} (h : (Lit.int .i64 n).wf = true) : I64 n := by
  unfold I64
  simp [Lit.wf, IntKind.min, IntKind.max, IntKind.signed, IntKind.bits] at h; omega
theorem map_of {α : Type} {f : α → Tr} {p : α → Prop} : ∀ {els : List Tr}, (∀ x, x ∈ els → ∃ n, p n ∧ x = f n) → ∃ l : List α, els = l.map f ∧ ∀ n, n ∈ l → p n
  | [], _ => ⟨[], rfl, fun n h => by simp at h⟩
  | x :: els, h => by
    obtain ⟨n, hp, rfl⟩ := h x List.mem_cons_self
    obtain ⟨l, rfl, hl⟩ := map_of (els := els) (fun y hy => h y (List.mem_cons_of_mem _ hy))
    exact ⟨n :: l, rfl, fun m hm => (List.mem_cons.1 hm).elim (fun e => e ▸ hp) (hl m)⟩
theorem rd3 : Reads Tryd.prog 3 1 (fun ts => ∃ n, ts = [encI n] ∧ I64 n) := (reads_int Tryd.underlying3 (by kernel_rfl)).mono (fun ts ⟨n, h, hw⟩ => ⟨n, h, wfI64 hw⟩)
theorem rd26 : Reads Tryd.prog 26 1 (fun ts => ∃ l : List Int, ts = [.sl (l.map encI) false] ∧ l.length ≤ maxLen ∧ ∀ n, n ∈ l → I64 n) :=
  (reads_slice Tryd.underlying26 (by kernel_rfl) (by decide) (.inr rfl) rd3 (g := false)).mono (by
    rintro ts ⟨els, rfl, hm, h⟩
    obtain ⟨l, rfl, hl⟩ := map_of (f := encI) (p := I64) (fun x hx => by obtain ⟨_, ⟨n, rfl, hn⟩, rfl⟩ := h x hx; exact ⟨n, hn, rfl⟩)
    exact ⟨l, rfl, by simpa using hm, hl⟩)
def laid1 : List (String × DataW Unit) := [("math/bits.deBruijn32tab", Go.Proofs.YtofiemifpgcfhaaDoor.Rows.laid_math_bits_deBruijn32tab), ("math/bits.deBruijn64tab", Go.Proofs.YtofiemifpgcfhaaDoor.Rows.laid_math_bits_deBruijn64tab)]
theorem gDe : Tryd.prog.globalNamed "math/bits.deBruijn64tab" = some 1 := by kernel_rfl
theorem tDe : (Tryd.prog.globals[1]?).map (·.type) = some 119 := by kernel_rfl
theorem door_met (os : Os) (args : Array Value) : laidMetH Tryd.prog laid1 ((World.doorLaid Tryd.prog 400 os).forCall (fun _ _ => 0) ⟨#[], args, []⟩).memory :=
  laidMetH_of_parts3 (fuel := 8) (laidMet_of_run' 8 (by kernel_rfl) (by kernel_rfl)) (by kernel_rfl) (by kernel_rfl)
theorem tabs_of_laid {W : World} (h : laidMetH Tryd.prog laid1 W) : TabOK W (fun _ => False) [(1, deT)] := by
  intro g x hm
  simp only [List.mem_singleton, Prod.mk.injEq] at hm
  obtain ⟨rfl, rfl⟩ := hm
  exact tab_of_laid (l := deB) (k := .u8) h rfl (List.mem_cons_of_mem _ (List.mem_singleton.2 rfl)) (by intro e; cases e) gDe tDe Tryd.underlying119 Tryd.underlying5 (by kernel_rfl)
end Go.Tv.C34

end
section
namespace Go.Proofs.YtofiemifpgcfhaaDoor
open Go Go.Tv Go.Tv.C34 Go.ChangeShapes Go.WideShapes Go.ChangeAt Go.RowKit
set_option linter.unusedVariables false
set_option maxRecDepth 100000
theorem twinReads_contract (H : Type) (enc : TypeId × Value → H) (W : World) (base : Nat) (args : Array Value) (ds gs : List (DataW H)) (before : List MemPlace)
    (hval : ∀ (j : Nat) t v, Tryd.f8.params[j]? = some t → args[j]? = some v → Value.okWide Tryd.prog W .any base t v)
    (hW : DataW.Whole enc Tryd.prog Tryd.f8.params.toList Rows.twinReadsSpec.vars false W args.toList ds gs before) (hL : laidMetH Tryd.prog laid1 W) :
    Calls Tryd.prog 8 args W fun e W' => ∃ v, e = .returned v ∧ Rows.twinReadsSpec.post enc Tryd.prog Tryd.f8 false true false false W args v W' := by
  have hW' := hW
  obtain ⟨p, q, hA0, hV, rfl, hfz, hnd⟩ := hW
  have hA : DataW.TrodAll enc Tryd.prog W 0 (fun _ => true) true Tryd.f8.params.toList args.toList ds p := hA0
  rw [Tryd.params8] at hA hval
  obtain ⟨v0, vs0, d0, ds0, p0, q0, hargs, rfl, rfl, h0, r0⟩ := trodAll_cons hA
  obtain ⟨v1, vs1, d1, ds1, p1, q1, rfl, rfl, rfl, h1, r1⟩ := trodAll_cons r0
  obtain ⟨v2, vs2, d2, ds2, p2, q2, rfl, rfl, rfl, h2, r2⟩ := trodAll_cons r1
  obtain ⟨v3, vs3, d3, ds3, p3, q3, rfl, rfl, rfl, h3, r3⟩ := trodAll_cons r2
  obtain ⟨v4, vs4, d4, ds4, p4, q4, rfl, rfl, rfl, h4, r4⟩ := trodAll_cons r3
  obtain ⟨rfl, rfl, rfl⟩ := trodAll_nil r4
  obtain rfl : args = #[v0, v1, v2, v3, v4] := by cases args; simp_all
  obtain ⟨rfl, rfl⟩ := trodVars_none hV
  have k0 := hval 0 26 v0 rfl rfl
  have k1 := hval 1 3 v1 rfl rfl
  have k2 := hval 2 3 v2 rfl rfl
  have k3 := hval 3 3 v3 rfl rfl
  have k4 := hval 4 4 v4 rfl rfl
  obtain ⟨x0, hx0, l, e0, m0, b0⟩ := arg_slice Tryd.underlying26 rd26 k0 h0
  obtain rfl : x0 = .sl (l.map Go.Tv.C34.encI) false := by simpa using e0
  unfold maxLen at m0
  have n0 : l.length ≤ 9223372036854775807 := by simpa using m0
  obtain ⟨nx, rfl, wnx⟩ := arg_int Tryd.underlying3 k1 h1
  have i_nx := wfI64 wnx
  obtain ⟨hv, rfl, whv⟩ := arg_int Tryd.underlying3 k2 h2
  have i_hv := wfI64 whv
  obtain ⟨ky, rfl, wky⟩ := arg_int Tryd.underlying3 k3 h3
  have i_ky := wfI64 wky
  obtain ⟨lk, rfl⟩ := arg_bool Tryd.underlying4 k4 h4
  refine (law_callsT (law8 l nx hv ky lk b0 n0 i_nx i_hv i_ky) (tabs_of_laid hL) (vl_cons hx0 (vl_cons (.int _ _) (vl_cons (.int _ _) (vl_cons (.int _ _) (vl_cons (.bool _) vl_nil)))))).mono ?_
  rintro e W' ⟨rfl, hb⟩
  refine ⟨_, rfl, law_post (P := Tryd.prog) (by kernel_rfl) rfl (fun t ht => ?_) rfl Tryd.underlying4 hW' ⟨rfl, rfl, rfl⟩ hb⟩
  rw [Tryd.params8] at ht
  simp only [List.mem_cons, List.not_mem_nil, or_false] at ht
  rcases ht with rfl | rfl | rfl | rfl | rfl <;> exact ⟨by kernel_rfl, Nat.le_of_ble_eq_true (by kernel_rfl)⟩

theorem twinReads_lifted (os : Os) (started : os.Started) (H : Type) (enc : TypeId × Value → H) :
    ReturnsInHanded {} Tryd.checked os 8 .any (fun w args => (Rows.twinReadsSpec.pre enc Tryd.prog Tryd.f8 [] false w args ∧ laidMetH Tryd.prog laid1 w) ∧ sizedMet enc Tryd.prog Tryd.f8 (OpenSpec.ofChange Rows.twinReadsSpec) false w args)
      (Rows.twinReadsSpec.post enc Tryd.prog Tryd.f8 false true false false) := by
  refine returnsInHanded_of_change_and (C := Tryd.checked) (X := fun w _ => laidMetH Tryd.prog laid1 w) (fun _ _ _ hh h => h.of_heap hh) (by kernel_rfl) started (by kernel_rfl) Tryd.func8
    (ChangeSpec.witness_shaped (enc := enc) (C := Tryd.checked) (os := os) (X := fun w _ => laidMetH Tryd.prog laid1 w) false (World.doorLaid Tryd.prog 400 os) #[.slice none 0 0, .int .i64 0, .int .i64 0, .int .i64 0, .bool false] 8 rfl (World.shaped_of_RefB (by kernel_rfl) (by kernel_rfl)) (by kernel_rfl) (by kernel_rfl) (by kernel_rfl) (door_met os _)) ?_
  intro W base args ds gs before hval hW _ _ hL _
  exact twinReads_contract H enc W base args ds gs before hval hW hL

theorem twinReads_row_holds : Rows.TwinReadsSaid :=
  OpenClaim.holds_of_wide 8 Tryd.f8 rfl rfl rfl rfl rfl rfl rfl ⟨rfl, rfl, rfl, rfl, rfl⟩ rfl rfl rfl rfl rfl (by kernel_rfl) Tryd.func8 (by kernel_rfl)
    (of_decide_eq_true (by kernel_rfl)) (by unfold Func.isWrapper; first | (rw [if_pos (by decide +kernel)]; kernel_rfl) | (rw [if_neg (by decide +kernel)]; exact ⟨rfl, rfl⟩))
    (fun os started H enc _ => twinReads_lifted os started H enc)

theorem twinReadsCard_holds : Rows.TwinReadsCardSaid :=
  Claim7.holds_tied_plain_at .later [] [.data, .data] true _ false
    twinReads_row_holds (fun _ h => by cases h) (by kernel_rfl) (fun _ h => by cases h) twinReads_row_tie rfl ⟨rfl, rfl⟩ (by kernel_rfl) rfl
    (fun f fn hf hfn => by
      obtain rfl : f = 8 := Option.some.inj ((show Tryd.prog.funcNamed "perigee/perigeelaw34.TwinReads" = some 8 by kernel_rfl).symm.trans hf) |>.symm
      obtain rfl : fn = Tryd.f8 := (Option.some.inj (Tryd.func8.symm.trans hfn)).symm
      exact ⟨by kernel_rfl, fun j t ht => by
        rw [Tryd.params8] at ht
        have hm : t ∈ [26, 3, 3, 3, 4] := by simpa using Array.mem_of_getElem? ht
        have hall : ([26, 3, 3, 3, 4].all fun u => !Tryd.prog.wantsStandIn u) = true := by kernel_rfl
        exact (show Tryd.prog.wantsStandIn t = false by simpa using List.all_eq_true.1 hall t hm)⟩)
    (by kernel_rfl)

end Go.Proofs.YtofiemifpgcfhaaDoor

end
