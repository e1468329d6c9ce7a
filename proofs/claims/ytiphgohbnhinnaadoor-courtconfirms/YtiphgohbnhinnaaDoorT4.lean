/- Part of the proof that the laws of this seat return true for every input. No condition. -/
import Derived.Test.YtiphgohbnhinnaaDoorT3
import Derived.Test.YtiphgohbnhinnaaDoorT2
set_option linter.unnecessarySimpa false
set_option linter.unusedVariables false
set_option linter.unusedSimpArgs false
section
open Go Go.Tv Go.Proofs
namespace Go.Tv.C36
set_option maxRecDepth 20000
set_option maxHeartbeats 2000000
set_option linter.unusedSimpArgs false
set_option linter.unusedVariables false
theorem rsent_ret (l : List Rcd) (n : Nat) (hn : n ≤ l.length) (hl : l.length ≤ 1000000) (hq : ∀ r, r ∈ l → 0 ≤ r.frame.seq ∧ r.frame.seq ≤ 1000000) : Ret Tryd.prog 24 [.sl (l.map encC) false, encI (n : Nat)] (encI (sentN (l.take n))) := by
  refine ret_of_awp Tryd.func24 rfl (Nat.le_of_ble_eq_true rfl) ?_
  refine awp_seq ?_
  refine awp_rw rfl ?_
  refine asT ?_
  refine RW.nil ?_
  refine awp_seq ?_
  refine awp_rw rfl ?_
  refine asT ?_
  refine RW.nil ?_
  refine awp_seq ?_
  refine awp_seq ?_
  refine awp_rw rfl ?_
  refine asT ?_
  refine RW.nil ?_
  refine awp_block ?_
  refine awp_loopW (fun m s => ∃ (i : Nat) (v : Int), (i ≤ n) ∧ (v = sentN (l.take i)) ∧ m = n - i ∧ s = ⟨37, [(0, .t (.sl (l.map encC) false)), (1, .t (encI (n : Nat))), (5, .t (encI v)), (6, .t (encI (i : Nat)))], []⟩) (_) (⟨_, weak_keep (n := 37) (fr' := [(0, .t (.sl (l.map encC) false)), (1, .t (encI (n : Nat))), (5, .t (encI 0)), (6, .t (encI (0 : Nat)))]) (st' := []) ⟨rfl, rfl, rfl, rfl, rfl, rfl, rfl, rfl, trivial⟩ trivial, 0, 0, (by omega), (by rfl), rfl, rfl⟩) ?_
  rintro m s ⟨i, v, hi, hv, rfl, rfl⟩
  refine awp_seq ?_
  refine awp_seq ?_
  refine awp_rw rfl ?_
  refine mvT ?_
  refine mvT ?_
  refine ioT ?_
  refine RW.nil ?_
  refine awp_cond rfl (fun h1 => ?_) (fun h1 => ?_)
  · try simp only [cl] at h1
    refine awp_skip ?_
    refine awp_seq ?_
    refine awp_block ?_
    refine awp_seq ?_
    refine awp_rw rfl ?_
    have hil : i < l.length := by omega
    have hvr := sentN_range hq i (by omega)
    rw [← hv] at hvr
    have hqi := hq _ (List.getElem_mem hil)
    refine mvT ?_
    refine mvT ?_
    refine RW.op rfl rfl (eff_indexM rfl rfl te32 rfl rfl rfl (by first | assumption | exact List.getElem?_eq_getElem (by omega)) rfl (by decide)) ?_
    refine RW.op rfl rfl (eff_fieldAddrT rfl rfl tf47_1 (by decide) rfl) ?_
    refine RW.op rfl rfl (eff_loadT1 rfl rfl ti3 rfl rfl) ?_
    refine ioT ?_
    refine mvT ?_
    refine RW.split 18 rfl (fun h2 => ?_) (fun h2 => ?_)
    · try simp only [cl] at h2
      refine RW.gop rfl rfl rfl rfl rfl rfl (eff_move (v := .t _) rfl rfl rfl) ?_
      refine RW.gop rfl rfl rfl rfl rfl rfl (eff_move (v := .t _) rfl rfl rfl) ?_
      refine RW.gop rfl rfl rfl rfl rfl rfl (eff_indexM rfl rfl te32 rfl rfl rfl (by first | assumption | exact List.getElem?_eq_getElem (by omega)) rfl (by decide)) ?_
      refine RW.gop rfl rfl rfl rfl rfl rfl (eff_fieldAddrT rfl rfl tf47_2 (by decide) rfl) ?_
      refine RW.gop rfl rfl rfl rfl rfl rfl (eff_fieldAddrT rfl rfl tf45_2 (by decide) rfl) ?_
      refine RW.gop rfl rfl rfl rfl rfl rfl (eff_loadT1 rfl rfl ti4 rfl rfl) ?_
      refine RW.gop rfl rfl rfl rfl rfl rfl (eff_unop rfl rfl rfl rfl) ?_
      refine pkT ?_
      refine RW.nil ?_
      refine awp_cond rfl (fun h3 => ?_) (fun h3 => ?_)
      · try simp only [cl] at h3
        refine awp_rw rfl ?_
        refine mvT ?_
        refine mvT ?_
        refine mvT ?_
        refine RW.op rfl rfl (eff_indexM rfl rfl te32 rfl rfl rfl (by first | assumption | exact List.getElem?_eq_getElem (by omega)) rfl (by decide)) ?_
        refine RW.op rfl rfl (eff_fieldAddrT rfl rfl tf47_2 (by decide) rfl) ?_
        refine RW.op rfl rfl (eff_fieldAddrT rfl rfl tf45_0 (by decide) rfl) ?_
        refine RW.op rfl rfl (eff_loadT1 rfl rfl ti3 rfl rfl) ?_
        refine RW.op rfl rfl (eff_iop rfl rfl rfl rfl (iadd (by omega))) ?_
        refine RW.op rfl rfl (eff_max rfl rfl rfl rfl) ?_
        refine asT ?_
        refine RW.nil ?_
        refine awp_rw rfl ?_
        refine mvT ?_
        refine RW.op rfl rfl (eff_iop rfl rfl rfl rfl (iadd (by omega))) ?_
        refine asT ?_
        refine RW.nil ?_
        have hst : sentN (l.take (i + 1)) = sentS v l[i] := by rw [sentN_take (by omega), hv]
        refine ⟨_, ?_, _, weak_keep (n := 37) (fr' := [(0, .t (.sl (l.map encC) false)), (1, .t (encI (n : Nat))), (5, .t (encI _)), (6, .t (encI ((i + 1) : Nat)))]) (st' := []) ⟨rfl, rfl, rfl, rfl, rfl, rfl, rfl, rfl, trivial⟩ trivial, i + 1, _, (by omega), (by first | exact (hst.trans (by unfold sentS; rw [if_pos ⟨by assumption, by assumption⟩])).symm | exact (hst.trans (by unfold sentS; rw [if_neg (fun hh => by simp_all)])).symm), rfl, rfl⟩
        omega
      · try simp only [cl] at h3
        refine awp_skip ?_
        refine awp_rw rfl ?_
        refine mvT ?_
        refine RW.op rfl rfl (eff_iop rfl rfl rfl rfl (iadd (by omega))) ?_
        refine asT ?_
        refine RW.nil ?_
        have hst : sentN (l.take (i + 1)) = sentS v l[i] := by rw [sentN_take (by omega), hv]
        refine ⟨_, ?_, _, weak_keep (n := 37) (fr' := [(0, .t (.sl (l.map encC) false)), (1, .t (encI (n : Nat))), (5, .t (encI _)), (6, .t (encI ((i + 1) : Nat)))]) (st' := []) ⟨rfl, rfl, rfl, rfl, rfl, rfl, rfl, rfl, trivial⟩ trivial, i + 1, _, (by omega), (by first | exact (hst.trans (by unfold sentS; rw [if_pos ⟨by assumption, by assumption⟩])).symm | exact (hst.trans (by unfold sentS; rw [if_neg (fun hh => by simp_all)])).symm), rfl, rfl⟩
        omega
    · try simp only [cl] at h2
      refine gkT ?_
      refine gkT ?_
      refine gkT ?_
      refine gkT ?_
      refine gkT ?_
      refine gkT ?_
      refine gkT ?_
      refine pkT ?_
      refine RW.nil ?_
      refine awp_cond rfl (fun h => nomatch h) (fun _ => ?_)
      refine awp_skip ?_
      refine awp_rw rfl ?_
      refine mvT ?_
      refine RW.op rfl rfl (eff_iop rfl rfl rfl rfl (iadd (by omega))) ?_
      refine asT ?_
      refine RW.nil ?_
      have hst : sentN (l.take (i + 1)) = sentS v l[i] := by rw [sentN_take (by omega), hv]
      refine ⟨_, ?_, _, weak_keep (n := 37) (fr' := [(0, .t (.sl (l.map encC) false)), (1, .t (encI (n : Nat))), (5, .t (encI _)), (6, .t (encI ((i + 1) : Nat)))]) (st' := []) ⟨rfl, rfl, rfl, rfl, rfl, rfl, rfl, rfl, trivial⟩ trivial, i + 1, _, (by omega), (by first | exact (hst.trans (by unfold sentS; rw [if_pos ⟨by assumption, by assumption⟩])).symm | exact (hst.trans (by unfold sentS; rw [if_neg (fun hh => by simp_all)])).symm), rfl, rfl⟩
      omega
  · try simp only [cl] at h1
    refine awp_exit ?_
    refine awp_seq ?_
    refine awp_rw rfl ?_
    refine mvT ?_
    refine asT ?_
    refine RW.nil ?_
    refine awp_ret ?_
    obtain rfl : i = n := by omega
    rw [← hv]
    exact ⟨Or.inr rfl, [_], ⟨.tmp (.t _), trivial⟩, .refl _⟩

theorem sent_ret (l : List Rcd) (hl : l.length ≤ 1000000) (hq : ∀ r, r ∈ l → 0 ≤ r.frame.seq ∧ r.frame.seq ≤ 1000000) : Ret Tryd.prog 41 [.sl (l.map encC) false] (encI (sentN l)) := by
  refine ret_of_awp Tryd.func41 rfl (Nat.le_of_ble_eq_true rfl) ?_
  refine awp_seq ?_
  refine awp_rw rfl ?_
  refine asT ?_
  refine RW.nil ?_
  refine awp_seq ?_
  refine awp_rw rfl ?_
  refine asT ?_
  refine RW.nil ?_
  refine awp_seq ?_
  refine awp_seq ?_
  refine awp_rw rfl ?_
  refine mvT ?_
  refine RW.op rfl rfl (eff_lenM rfl rfl te32 rfl) ?_
  refine mvT ?_
  refine RW.nil ?_
  refine awp_block ?_
  refine awp_loopW (fun m s => ∃ (i : Nat) (v : Int), (i ≤ l.length) ∧ (v = sentN (l.take i)) ∧ m = l.length - i ∧ s = ⟨29, [(3, .t (encI v)), (6, .t (.sl (l.map encC) false)), (7, .t (encI (l.length : Nat))), (8, .t (encI (i : Nat)))], []⟩) (_) (⟨_, weak_keep (n := 29) (fr' := [(3, .t (encI 0)), (6, .t (.sl (l.map encC) false)), (7, .t (encI (l.length : Nat))), (8, .t (encI (0 : Nat)))]) (st' := []) ⟨rfl, rfl, rfl, rfl, rfl, rfl, rfl, rfl, trivial⟩ trivial, 0, 0, (by omega), (by rfl), rfl, rfl⟩) ?_
  rintro m s ⟨i, v, hi, hv, rfl, rfl⟩
  refine awp_seq ?_
  refine awp_rw rfl ?_
  refine ioT ?_
  refine RW.nil ?_
  refine awp_seq ?_
  refine awp_cond rfl (fun h1 => ?_) (fun h1 => ?_)
  · try simp only [cl] at h1
    refine awp_skip ?_
    refine awp_seq ?_
    refine awp_block ?_
    refine awp_seq ?_
    refine awp_rw rfl ?_
    have hil : i < l.length := by omega
    have hvr := sentN_range hq i (by omega)
    rw [← hv] at hvr
    have hqi := hq _ (List.getElem_mem hil)
    refine RW.op rfl rfl (eff_indexM rfl rfl te32 rfl rfl rfl (by first | assumption | exact List.getElem?_eq_getElem (by omega)) rfl (by decide)) ?_
    refine RW.op rfl rfl (eff_loadW rfl rfl ti47 rfl rfl rfl) ?_
    refine RW.new rfl rfl (eff_allocK (k := 15) (id := 5) rfl rfl tz47 rfl rfl) ?_
    refine RW.store rfl rfl (eff_storeW (v := .t _) (els := [_]) (els' := [_]) rfl rfl ti47 rfl rfl rfl rfl rfl rfl rfl rfl rfl) ?_
    refine RW.nil ?_
    refine awp_seq ?_
    refine awp_rw rfl ?_
    refine faT tf47_1 ?_
    refine l1T ti3 rfl rfl rfl rfl rfl (.one rfl rfl rfl rfl) ?_
    refine ioT ?_
    refine mvT ?_
    refine RW.split 15 rfl (fun h2 => ?_) (fun h2 => ?_)
    · try simp only [cl] at h2
      refine RW.gop rfl rfl rfl rfl rfl rfl (eff_fieldAddr rfl rfl tf47_2 (by decide) rfl rfl rfl (Nat.le_of_ble_eq_true rfl)) ?_
      refine RW.gop rfl rfl rfl rfl rfl rfl (eff_fieldAddr rfl rfl tf45_2 (by decide) rfl rfl rfl (Nat.le_of_ble_eq_true rfl)) ?_
      refine RW.gop rfl rfl rfl rfl rfl rfl (eff_load (y := .t _) rfl rfl ti4 rfl (.one rfl rfl rfl rfl)) ?_
      refine RW.gop rfl rfl rfl rfl rfl rfl (eff_unop rfl rfl rfl rfl) ?_
      refine pkT ?_
      refine RW.nil ?_
      refine awp_cond rfl (fun h3 => ?_) (fun h3 => ?_)
      · try simp only [cl] at h3
        refine awp_rw rfl ?_
        refine mvT ?_
        refine faT tf47_2 ?_
        refine faT tf45_0 ?_
        refine l1T ti3 rfl rfl rfl rfl rfl (.one rfl rfl rfl rfl) ?_
        refine RW.op rfl rfl (eff_iop rfl rfl rfl rfl (iadd (by omega))) ?_
        refine RW.op rfl rfl (eff_max rfl rfl rfl rfl) ?_
        refine asT ?_
        refine RW.nil ?_
        refine awp_rw rfl ?_
        refine RW.op rfl rfl (eff_iop rfl rfl rfl rfl (iadd (by omega))) ?_
        refine mvT ?_
        refine RW.nil ?_
        have hst : sentN (l.take (i + 1)) = sentS v l[i] := by rw [sentN_take (by omega), hv]
        refine ⟨_, ?_, _, weak_keep (n := 29) (fr' := [(3, .t (encI _)), (6, .t (.sl (l.map encC) false)), (7, .t (encI (l.length : Nat))), (8, .t (encI ((i + 1) : Nat)))]) (st' := []) ⟨rfl, rfl, rfl, rfl, rfl, rfl, rfl, rfl, trivial⟩ trivial, i + 1, _, (by omega), (by first | exact (hst.trans (by unfold sentS; rw [if_pos ⟨by assumption, by assumption⟩])).symm | exact (hst.trans (by unfold sentS; rw [if_neg (fun hh => by simp_all)])).symm), rfl, rfl⟩
        omega
      · try simp only [cl] at h3
        refine awp_skip ?_
        refine awp_rw rfl ?_
        refine RW.op rfl rfl (eff_iop rfl rfl rfl rfl (iadd (by omega))) ?_
        refine mvT ?_
        refine RW.nil ?_
        have hst : sentN (l.take (i + 1)) = sentS v l[i] := by rw [sentN_take (by omega), hv]
        refine ⟨_, ?_, _, weak_keep (n := 29) (fr' := [(3, .t (encI _)), (6, .t (.sl (l.map encC) false)), (7, .t (encI (l.length : Nat))), (8, .t (encI ((i + 1) : Nat)))]) (st' := []) ⟨rfl, rfl, rfl, rfl, rfl, rfl, rfl, rfl, trivial⟩ trivial, i + 1, _, (by omega), (by first | exact (hst.trans (by unfold sentS; rw [if_pos ⟨by assumption, by assumption⟩])).symm | exact (hst.trans (by unfold sentS; rw [if_neg (fun hh => by simp_all)])).symm), rfl, rfl⟩
        omega
    · try simp only [cl] at h2
      refine gkT ?_
      refine gkT ?_
      refine gkT ?_
      refine gkT ?_
      refine pkT ?_
      refine RW.nil ?_
      refine awp_cond rfl (fun h => nomatch h) (fun _ => ?_)
      refine awp_skip ?_
      refine awp_rw rfl ?_
      refine RW.op rfl rfl (eff_iop rfl rfl rfl rfl (iadd (by omega))) ?_
      refine mvT ?_
      refine RW.nil ?_
      have hst : sentN (l.take (i + 1)) = sentS v l[i] := by rw [sentN_take (by omega), hv]
      refine ⟨_, ?_, _, weak_keep (n := 29) (fr' := [(3, .t (encI _)), (6, .t (.sl (l.map encC) false)), (7, .t (encI (l.length : Nat))), (8, .t (encI ((i + 1) : Nat)))]) (st' := []) ⟨rfl, rfl, rfl, rfl, rfl, rfl, rfl, rfl, trivial⟩ trivial, i + 1, _, (by omega), (by first | exact (hst.trans (by unfold sentS; rw [if_pos ⟨by assumption, by assumption⟩])).symm | exact (hst.trans (by unfold sentS; rw [if_neg (fun hh => by simp_all)])).symm), rfl, rfl⟩
      omega
  · try simp only [cl] at h1
    refine awp_exit ?_
    refine awp_seq ?_
    refine awp_rw rfl ?_
    refine mvT ?_
    refine asT ?_
    refine RW.nil ?_
    refine awp_ret ?_
    have hi2 : i = l.length := by omega
    subst hi2
    rw [List.take_length] at hv
    rw [← hv]
    exact ⟨Or.inr rfl, [_], ⟨.tmp (.t _), trivial⟩, .refl _⟩

theorem rights_ret (T : Twn) (d : Dec) (n : Int) (hp : ∀ y, y ∈ T.poss → HP y) (hx : ∀ y, y ∈ T.poss → NX 1000000 y) (hd : -2000000 ≤ d.seq ∧ d.seq ≤ 2000000) (hl : T.poss.length ≤ 1000) : Ret Tryd.prog 40 [encT T, encD d, encI n] (.sl ((rights T d n).map encR) false) := by
  refine ret_of_awp Tryd.func40 rfl (Nat.le_of_ble_eq_true rfl) ?_
  refine awp_seq ?_
  refine awp_rw rfl ?_
  refine RW.new rfl rfl (eff_boxK (v := .t _) (k := 2) (id := 3) rfl rfl rfl rfl rfl rfl) ?_
  refine RW.new rfl rfl (eff_boxK (v := .t _) (k := 4) (id := 4) rfl rfl rfl rfl rfl rfl) ?_
  refine asT ?_
  refine RW.nil ?_
  refine awp_seq ?_
  refine awp_rw rfl ?_
  refine asT ?_
  refine RW.nil ?_
  show AWP _ _ _ _
  refine awp_weak (weak_adopt (d := 7) (id := 7) (k := 4) (ty := 23) rfl rfl) ?_
  refine awp_seq ?_
  refine awp_seq ?_
  refine awp_rw rfl ?_
  refine faT tf64_1 ?_
  refine l1T ti33 rfl rfl rfl rfl rfl (.one rfl rfl rfl rfl) ?_
  refine RW.op rfl rfl (eff_lenM rfl rfl te33 rfl) ?_
  refine mvT ?_
  refine RW.nil ?_
  refine awp_block ?_
  refine awp_loopW (fun m s => ∃ (i : Nat) (gn : Nat) (m2 : Nat) (els : List AV), (i ≤ T.poss.length) ∧ (m2 = ((T.poss.take i).filter (fun s => rightD d s n)).length) ∧ (els = (((T.poss.take i).filter (fun s => rightD d s n)).map encR).map .t) ∧ m = T.poss.length - i ∧ s = ⟨27, [(2, .t (encI n)), (4, .ptr 4 0 0 0), (7, .own 7 gn 0 m2), (11, .t (.sl (T.poss.map encR) false)), (12, .t (encI (T.poss.length : Nat))), (13, .t (encI (i : Nat)))], [(4, some ⟨4, 28, 0, [.t (encD d)]⟩), (7, some ⟨4, 23, gn, els⟩)]⟩) (_) (⟨_, weak_keep (n := 27) (fr' := [(2, .t (encI n)), (4, .ptr 4 0 0 0), (7, .own 7 0 0 0), (11, .t (.sl (T.poss.map encR) false)), (12, .t (encI (T.poss.length : Nat))), (13, .t (encI (0 : Nat)))]) (st' := [(4, some ⟨4, 28, 0, [.t (encD d)]⟩), (7, some ⟨4, 23, 0, ([])⟩)]) ⟨rfl, rfl, rfl, rfl, rfl, rfl, rfl, rfl, rfl, rfl, rfl, rfl, trivial⟩ ⟨rfl, okE_one rfl, rfl, (by first | exact okE_nil | (rw [he]; exact okE_t) | (rw [he]; intro x hx; simp only [List.mem_append, List.mem_map, List.mem_singleton] at hx; rcases hx with ⟨y, _, rfl⟩ | rfl <;> rfl)), trivial⟩, 0, 0, 0, [], (by omega), (by simp), (by simp), rfl, rfl⟩) ?_
  rintro m s ⟨i, gn, m2, els, hi, hnn, he, rfl, rfl⟩
  have hfl : m2 ≤ i := by rw [hnn]; exact Nat.le_trans (List.length_filter_le _ _) (by simp; omega)
  refine awp_seq ?_
  refine awp_rw rfl ?_
  refine ioT ?_
  refine RW.nil ?_
  refine awp_seq ?_
  refine awp_cond rfl (fun h1 => ?_) (fun h1 => ?_)
  · try simp only [cl] at h1
    refine awp_skip ?_
    refine awp_seq ?_
    refine awp_block ?_
    refine awp_seq ?_
    refine awp_rw rfl ?_
    have hil : i < T.poss.length := by omega
    refine RW.op rfl rfl (eff_indexM rfl rfl te33 rfl rfl rfl (by first | assumption | exact List.getElem?_eq_getElem (by omega)) rfl (by decide)) ?_
    refine RW.op rfl rfl (eff_loadW rfl rfl ti23 rfl rfl rfl) ?_
    refine RW.new rfl rfl (eff_allocK (k := 4) (id := 9) rfl rfl tz23 rfl rfl) ?_
    refine RW.store rfl rfl (eff_storeW (v := .t _) (els := [_]) (els' := [_]) rfl rfl ti23 rfl rfl rfl rfl rfl rfl rfl rfl rfl) ?_
    refine RW.nil ?_
    refine awp_seq ?_
    refine awp_rw rfl ?_
    refine RW.op rfl rfl (eff_load rfl rfl ti28 rfl (.whole rfl rfl rfl rfl rfl rfl)) ?_
    refine RW.op rfl rfl (eff_load rfl rfl ti23 rfl (.whole rfl rfl rfl rfl rfl rfl)) ?_
    refine mvT ?_
    refine RW.op rfl rfl (eff_callT (right_ret d _ n (hp _ (List.getElem_mem _)) (hx _ (List.getElem_mem _)) hd) co14 rfl rfl rfl rfl) ?_
    refine RW.nil ?_
    refine awp_cond rfl (fun h2 => ?_) (fun h2 => ?_)
    · try simp only [cl] at h2
      refine awp_rw rfl ?_
      refine mvO ?_
      refine RW.op rfl rfl (eff_load rfl rfl ti23 rfl (.whole rfl rfl rfl rfl rfl rfl)) ?_
      refine RW.new rfl rfl (eff_buildSliceL (id := 23) (els := [.t (.agg [_, _, _, _])]) rfl rfl te33 tz23 rfl (by decide) (by decide) rfl rfl rfl rfl) ?_
      refine RW.new rfl rfl (eff_append (id := 7) (ys := [_]) rfl rfl ta33 rfl rfl rfl (by rw [he, hnn]; simp) rfl rfl (srcOwn rfl rfl rfl rfl rfl rfl) (by simp) (by simp; omega) (by simp; omega)) ?_
      refine asO ?_
      refine RW.nil ?_
      refine awp_rw rfl ?_
      refine RW.op rfl rfl (eff_iop rfl rfl rfl rfl (iadd (by omega))) ?_
      refine mvT ?_
      refine RW.nil ?_
      have hft : (T.poss.take (i + 1)).filter (fun s => rightD d s n) = _ := (filter_take_succ (by omega)).trans (congrArg _ (by first | exact if_pos (by assumption) | exact if_neg (by simp only [Bool.not_eq_true]; assumption)))
      refine ⟨_, ?_, _, weak_keep (n := 27) (fr' := [(2, .t (encI n)), (4, .ptr 4 0 0 0), (7, .own 7 _ 0 _), (11, .t (.sl (T.poss.map encR) false)), (12, .t (encI (T.poss.length : Nat))), (13, .t (encI ((i + 1) : Nat)))]) (st' := [(4, some ⟨4, 28, 0, [.t (encD d)]⟩), (7, some ⟨4, 23, _, _⟩)]) ⟨rfl, rfl, rfl, rfl, rfl, rfl, rfl, rfl, rfl, rfl, rfl, rfl, trivial⟩ ⟨rfl, okE_one rfl, rfl, (by first | exact okE_nil | (rw [he]; exact okE_t) | (rw [he]; intro x hx; simp only [List.mem_append, List.mem_map, List.mem_singleton] at hx; rcases hx with ⟨y, _, rfl⟩ | rfl <;> rfl)), trivial⟩, i + 1, _, _, _, (by omega), (by rw [hft, hnn]; simp), (by rw [hft, he]; simp <;> rfl), rfl, rfl⟩
      omega
    · try simp only [cl] at h2
      refine awp_skip ?_
      refine awp_rw rfl ?_
      refine RW.op rfl rfl (eff_iop rfl rfl rfl rfl (iadd (by omega))) ?_
      refine mvT ?_
      refine RW.nil ?_
      have hft : (T.poss.take (i + 1)).filter (fun s => rightD d s n) = _ := (filter_take_succ (by omega)).trans (congrArg _ (by first | exact if_pos (by assumption) | exact if_neg (by simp only [Bool.not_eq_true]; assumption)))
      refine ⟨_, ?_, _, weak_keep (n := 27) (fr' := [(2, .t (encI n)), (4, .ptr 4 0 0 0), (7, .own 7 _ 0 _), (11, .t (.sl (T.poss.map encR) false)), (12, .t (encI (T.poss.length : Nat))), (13, .t (encI ((i + 1) : Nat)))]) (st' := [(4, some ⟨4, 28, 0, [.t (encD d)]⟩), (7, some ⟨4, 23, _, _⟩)]) ⟨rfl, rfl, rfl, rfl, rfl, rfl, rfl, rfl, rfl, rfl, rfl, rfl, trivial⟩ ⟨rfl, okE_one rfl, rfl, (by first | exact okE_nil | (rw [he]; exact okE_t) | (rw [he]; intro x hx; simp only [List.mem_append, List.mem_map, List.mem_singleton] at hx; rcases hx with ⟨y, _, rfl⟩ | rfl <;> rfl)), trivial⟩, i + 1, _, _, _, (by omega), (by rw [hft, hnn]; simp), (by rw [hft, he]; simp <;> rfl), rfl, rfl⟩
      omega
  · try simp only [cl] at h1
    refine awp_exit ?_
    refine awp_seq ?_
    refine awp_rw rfl ?_
    refine mvO ?_
    refine asO ?_
    refine RW.nil ?_
    refine awp_ret ?_
    have hi2 : i = T.poss.length := by omega
    subst hi2
    rw [List.take_length] at hnn he
    exact ⟨Or.inr rfl, [_], ⟨.tmp (Res.ownT (xs := (rights T d n).map encR) rfl rfl he (by rw [hnn]; simp [rights])), trivial⟩, .refl _⟩

theorem judged_ret (T : Twn) (d : Dec) (n : Int) (hp : ∀ y, y ∈ T.poss → HP y) (hx : ∀ y, y ∈ T.poss → NX 1000000 y) (hd : -2000000 ≤ d.seq ∧ d.seq ≤ 2000000) (hl : T.poss.length ≤ 1000) : Ret Tryd.prog 42 [encT T, encD d, encI n] (encV (vOf (rights T d n))) := by
  refine ret_of_awp Tryd.func42 rfl (Nat.le_of_ble_eq_true rfl) ?_
  refine awp_seq ?_
  refine awp_rw rfl ?_
  refine RW.new rfl rfl (eff_boxK (v := .t _) (k := 2) (id := 3) rfl rfl rfl rfl rfl rfl) ?_
  refine RW.new rfl rfl (eff_boxK (v := .t _) (k := 4) (id := 4) rfl rfl rfl rfl rfl rfl) ?_
  refine RW.new rfl rfl (eff_allocK (k := 5) (id := 6) rfl rfl tz49 rfl rfl) ?_
  refine RW.nil ?_
  refine awp_seq ?_
  refine awp_seq ?_
  refine awp_rw rfl ?_
  refine asT ?_
  refine RW.nil ?_
  refine awp_block ?_
  refine awp_loopW (fun m s => ∃ (i : Nat), (i ≤ T.poss.length) ∧ (∀ s, s ∈ T.poss.take i → rightD d s n = false) ∧ m = T.poss.length - i ∧ s = ⟨30, [(2, .t (encI n)), (3, .ptr 3 0 0 0), (4, .ptr 4 0 0 0), (6, .ptr 6 0 0 0), (7, .t (encI (i : Nat)))], [(3, some ⟨2, 64, 0, [.t (encT T)]⟩), (4, some ⟨4, 28, 0, [.t (encD d)]⟩), (6, some ⟨5, 49, 0, [.t z49]⟩)]⟩) (_) (⟨_, weak_keep (n := 30) (fr' := [(2, .t (encI n)), (3, .ptr 3 0 0 0), (4, .ptr 4 0 0 0), (6, .ptr 6 0 0 0), (7, .t (encI (0 : Nat)))]) (st' := [(3, some ⟨2, 64, 0, [.t (encT T)]⟩), (4, some ⟨4, 28, 0, [.t (encD d)]⟩), (6, some ⟨5, 49, 0, [.t z49]⟩)]) ⟨rfl, rfl, rfl, rfl, rfl, rfl, rfl, rfl, rfl, rfl, trivial⟩ ⟨rfl, okE_one rfl, rfl, okE_one rfl, rfl, okE_one rfl, trivial⟩, 0, (by omega), (by simp), rfl, rfl⟩) ?_
  rintro m s ⟨i, hi, ha, rfl, rfl⟩
  refine awp_seq ?_
  refine awp_seq ?_
  refine awp_rw rfl ?_
  refine mvT ?_
  refine faT tf64_1 ?_
  refine l1T ti33 rfl rfl rfl rfl rfl (.one rfl rfl rfl rfl) ?_
  refine RW.op rfl rfl (eff_lenM rfl rfl te33 rfl) ?_
  refine ioT ?_
  refine RW.nil ?_
  refine awp_cond rfl (fun h1 => ?_) (fun h1 => ?_)
  · try simp only [cl] at h1
    refine awp_skip ?_
    refine awp_seq ?_
    refine awp_block ?_
    refine awp_seq ?_
    refine awp_rd [(some 15, []), (some 16, []), (some 17, []), (some 18, []), (some 19, []), (some 20, []), (some 21, []), (some 22, [])] [[], [], [1], [], [1, 2, 3], [1, 2, 3, 4], [], [0, 1, 2, 3, 4, 5, 6]] tm rfl rfl rfl rfl ?_
    have hil : i < T.poss.length := by omega
    refine RD.op rfl rfl rfl (eff_load rfl rfl ti28 rfl (.whole rfl rfl rfl rfl rfl rfl)) ?_
    refine RD.op rfl rfl rfl (eff_fieldAddr rfl rfl tf64_1 (by decide) rfl rfl rfl (Nat.le_of_ble_eq_true rfl)) ?_
    refine RD.op rfl rfl rfl (eff_load (y := .t _) rfl rfl ti33 rfl (.one rfl rfl rfl rfl)) ?_
    refine mvD ?_
    refine RD.op rfl rfl rfl (eff_indexM rfl rfl te33 rfl rfl rfl (by first | assumption | exact List.getElem?_eq_getElem (by omega)) rfl (by decide)) ?_
    refine RD.op rfl rfl rfl (eff_loadW rfl rfl ti23 rfl rfl rfl) ?_
    refine mvD ?_
    refine RD.op rfl rfl rfl (eff_callT (rright_ret d _ n (hp _ (List.getElem_mem _)) (hx _ (List.getElem_mem _)) hd) co15 rfl rfl rfl rfl) ?_
    refine RD.nil ?_
    refine awp_cond rfl (fun h2 => ?_) (fun h2 => ?_)
    · try simp only [cl] at h2
      refine awp_seq ?_
      refine awp_rw rfl ?_
      refine faT tf64_1 ?_
      refine l1T ti33 rfl rfl rfl rfl rfl (.one rfl rfl rfl rfl) ?_
      refine mvT ?_
      refine RW.op rfl rfl (eff_indexM rfl rfl te33 rfl rfl rfl (by first | assumption | exact List.getElem?_eq_getElem (by omega)) rfl (by decide)) ?_
      refine RW.op rfl rfl (eff_loadW rfl rfl ti23 rfl rfl rfl) ?_
      refine RW.op rfl rfl (eff_buildT (ys := [_, _, _, _, _]) rfl rfl tz49 tg49 rfl) ?_
      refine RW.store rfl rfl (eff_storeW (v := .t _) (els := [_]) (els' := [_]) rfl rfl ti49 rfl rfl rfl rfl rfl rfl rfl rfl rfl) ?_
      refine RW.nil ?_
      refine awp_ret ?_
      rw [vOf_hit (by omega) ha (by assumption)]
      exact ⟨Or.inr rfl, [_], ⟨.cell rfl ti49 (.whole rfl rfl rfl rfl rfl rfl) (.t _), trivial⟩, .refl _⟩
    · try simp only [cl] at h2
      refine awp_skip ?_
      refine awp_rw rfl ?_
      refine mvT ?_
      refine RW.op rfl rfl (eff_iop rfl rfl rfl rfl (iadd (by omega))) ?_
      refine asT ?_
      refine RW.nil ?_
      refine ⟨_, ?_, _, weak_keep (n := 30) (fr' := [(2, .t (encI n)), (3, .ptr 3 0 0 0), (4, .ptr 4 0 0 0), (6, .ptr 6 0 0 0), (7, .t (encI ((i + 1) : Nat)))]) (st' := [(3, some ⟨2, 64, 0, [.t (encT T)]⟩), (4, some ⟨4, 28, 0, [.t (encD d)]⟩), (6, some ⟨5, 49, 0, [.t z49]⟩)]) ⟨rfl, rfl, rfl, rfl, rfl, rfl, rfl, rfl, rfl, rfl, trivial⟩ ⟨rfl, okE_one rfl, rfl, okE_one rfl, rfl, okE_one rfl, trivial⟩, i + 1, (by omega), (by intro s hs; rcases (mem_take_succ (by omega)).1 hs with h | h; exact ha s h; rw [h]; assumption), rfl, rfl⟩
      omega
  · try simp only [cl] at h1
    refine awp_exit ?_
    refine awp_seq ?_
    refine awp_rw rfl ?_
    refine RW.op rfl rfl (eff_buildT (ys := [_, _, _, _, _]) rfl rfl tz49 tg49 rfl) ?_
    refine RW.store rfl rfl (eff_storeW (v := .t _) (els := [_]) (els' := [_]) rfl rfl ti49 rfl rfl rfl rfl rfl rfl rfl rfl rfl) ?_
    refine RW.nil ?_
    refine awp_ret ?_
    have hi2 : i = T.poss.length := by omega
    subst hi2
    rw [List.take_length] at ha
    rw [vOf_none ha]
    exact ⟨Or.inr rfl, [_], ⟨.cell rfl ti49 (.whole rfl rfl rfl rfl rfl rfl) (.t _), trivial⟩, .refl _⟩

theorem next_ret (T : Twn) (r : Rcd) (hF : Fit 12 T) (hr : HP r.rep) (hb : r.frame.body.length ≤ 1000000) : Ret Tryd.prog 46 [encT T, encC r] (.tup [encT (nextT T r).1, encI (nextT T r).2]) := by
  refine ret_of_awp Tryd.func46 rfl (Nat.le_of_ble_eq_true rfl) ?_
  refine awp_seq ?_
  refine awp_rw rfl ?_
  refine RW.new rfl rfl (eff_boxK (v := .t _) (k := 2) (id := 2) rfl rfl rfl rfl rfl rfl) ?_
  refine RW.new rfl rfl (eff_boxK (v := .t _) (k := 15) (id := 3) rfl rfl rfl rfl rfl rfl) ?_
  refine RW.new rfl rfl (eff_allocK (k := 2) (id := 4) rfl rfl tz64 rfl rfl) ?_
  refine asT ?_
  refine RW.nil ?_
  refine awp_seq ?_
  refine awp_seq ?_
  refine awp_rw rfl ?_
  refine faT tf47_1 ?_
  refine l1T ti3 rfl rfl rfl rfl rfl (.one rfl rfl rfl rfl) ?_
  refine RW.nil ?_
  refine awp_block ?_
  refine awp_seq ?_
  refine awp_rw rfl ?_
  refine ioT ?_
  refine asT ?_
  refine RW.nil ?_
  refine awp_cond rfl (fun h1 => ?_) (fun h1 => ?_)
  · try simp only [cl] at h1
    refine awp_seq ?_
    refine awp_rw rfl ?_
    refine RW.op rfl rfl (eff_load rfl rfl ti64 rfl (.whole rfl rfl rfl rfl rfl rfl)) ?_
    refine faT tf47_2 ?_
    refine RW.op rfl rfl (eff_loadS (ys := [_, _, _, _, _]) rfl rfl ti45 rfl rfl rfl rfl rfl rfl) ?_
    refine RW.op rfl rfl (eff_callT (rsend_ret T r.frame hF.hp (by have := hF.len; omega) (by have := hF.sl; omega)) co66 rfl rfl rfl rfl) ?_
    refine RW.op rfl rfl (eff_extract rfl rfl rfl rfl) ?_
    refine RW.op rfl rfl (eff_extract rfl rfl rfl rfl) ?_
    refine RW.store rfl rfl (eff_storeW (v := .t _) (els := [_]) (els' := [_]) rfl rfl ti64 rfl rfl rfl rfl rfl rfl rfl rfl rfl) ?_
    refine asT ?_
    refine RW.nil ?_
    refine awp_ret ?_
    unfold nextT
    first
      | (rw [if_pos (by assumption)]; first
      | exact ⟨Or.inr rfl, [_, _], ⟨.cell rfl ti64 (.whole rfl rfl rfl rfl rfl rfl) (.t _), .tmp (.t _), trivial⟩, .refl _⟩
      | exact ⟨Or.inr rfl, [_, _], ⟨.cell rfl ti64 (.whole rfl rfl rfl rfl rfl rfl) (.t _), .tmp (.t _), trivial⟩, (by repeat' first | exact trivial | exact Wk.refl _ | exact Wk.sl _ | refine And.intro ?_ ?_ | refine Wk.tupP ?_ | refine Wk.aggP ?_)⟩
      | exact ⟨Or.inr rfl, [_, _], ⟨.cell rfl ti64 (.whole rfl rfl rfl rfl rfl rfl) (.t _), .tmp (Res.ownT rfl rfl rfl rfl), trivial⟩, .refl _⟩
      | exact ⟨Or.inr rfl, [_, _], ⟨.cell rfl ti64 (.whole rfl rfl rfl rfl rfl rfl) (.t _), .tmp (Res.ownT rfl rfl rfl rfl), trivial⟩, (by repeat' first | exact trivial | exact Wk.refl _ | exact Wk.sl _ | refine And.intro ?_ ?_ | refine Wk.tupP ?_ | refine Wk.aggP ?_)⟩)
      | (rw [if_neg (by assumption), if_pos (by assumption)]; first
      | exact ⟨Or.inr rfl, [_, _], ⟨.cell rfl ti64 (.whole rfl rfl rfl rfl rfl rfl) (.t _), .tmp (.t _), trivial⟩, .refl _⟩
      | exact ⟨Or.inr rfl, [_, _], ⟨.cell rfl ti64 (.whole rfl rfl rfl rfl rfl rfl) (.t _), .tmp (.t _), trivial⟩, (by repeat' first | exact trivial | exact Wk.refl _ | exact Wk.sl _ | refine And.intro ?_ ?_ | refine Wk.tupP ?_ | refine Wk.aggP ?_)⟩
      | exact ⟨Or.inr rfl, [_, _], ⟨.cell rfl ti64 (.whole rfl rfl rfl rfl rfl rfl) (.t _), .tmp (Res.ownT rfl rfl rfl rfl), trivial⟩, .refl _⟩
      | exact ⟨Or.inr rfl, [_, _], ⟨.cell rfl ti64 (.whole rfl rfl rfl rfl rfl rfl) (.t _), .tmp (Res.ownT rfl rfl rfl rfl), trivial⟩, (by repeat' first | exact trivial | exact Wk.refl _ | exact Wk.sl _ | refine And.intro ?_ ?_ | refine Wk.tupP ?_ | refine Wk.aggP ?_)⟩)
      | (rw [if_neg (by assumption), if_neg (by assumption)]; first
      | exact ⟨Or.inr rfl, [_, _], ⟨.cell rfl ti64 (.whole rfl rfl rfl rfl rfl rfl) (.t _), .tmp (.t _), trivial⟩, .refl _⟩
      | exact ⟨Or.inr rfl, [_, _], ⟨.cell rfl ti64 (.whole rfl rfl rfl rfl rfl rfl) (.t _), .tmp (.t _), trivial⟩, (by repeat' first | exact trivial | exact Wk.refl _ | exact Wk.sl _ | refine And.intro ?_ ?_ | refine Wk.tupP ?_ | refine Wk.aggP ?_)⟩
      | exact ⟨Or.inr rfl, [_, _], ⟨.cell rfl ti64 (.whole rfl rfl rfl rfl rfl rfl) (.t _), .tmp (Res.ownT rfl rfl rfl rfl), trivial⟩, .refl _⟩
      | exact ⟨Or.inr rfl, [_, _], ⟨.cell rfl ti64 (.whole rfl rfl rfl rfl rfl rfl) (.t _), .tmp (Res.ownT rfl rfl rfl rfl), trivial⟩, (by repeat' first | exact trivial | exact Wk.refl _ | exact Wk.sl _ | refine And.intro ?_ ?_ | refine Wk.tupP ?_ | refine Wk.aggP ?_)⟩)
  · try simp only [cl] at h1
    refine awp_seq ?_
    refine awp_rw rfl ?_
    refine ioT ?_
    refine asT ?_
    refine RW.nil ?_
    refine awp_cond rfl (fun h2 => ?_) (fun h2 => ?_)
    · try simp only [cl] at h2
      refine awp_seq ?_
      refine awp_rw rfl ?_
      refine RW.op rfl rfl (eff_load rfl rfl ti64 rfl (.whole rfl rfl rfl rfl rfl rfl)) ?_
      refine faT tf47_3 ?_
      refine RW.op rfl rfl (eff_loadS (ys := [_, _, _, _]) rfl rfl ti23 rfl rfl rfl rfl rfl rfl) ?_
      refine RW.op rfl rfl (eff_callT (rhear_ret T r.rep hr (by have := hF.len; omega) hF.sl) co67 rfl rfl rfl rfl) ?_
      refine RW.op rfl rfl (eff_extract rfl rfl rfl rfl) ?_
      refine RW.op rfl rfl (eff_extract rfl rfl rfl rfl) ?_
      refine RW.store rfl rfl (eff_storeW (v := .t _) (els := [_]) (els' := [_]) rfl rfl ti64 rfl rfl rfl rfl rfl rfl rfl rfl rfl) ?_
      refine asT ?_
      refine RW.nil ?_
      refine awp_ret ?_
      unfold nextT
      first
        | (rw [if_pos (by assumption)]; first
        | exact ⟨Or.inr rfl, [_, _], ⟨.cell rfl ti64 (.whole rfl rfl rfl rfl rfl rfl) (.t _), .tmp (.t _), trivial⟩, .refl _⟩
        | exact ⟨Or.inr rfl, [_, _], ⟨.cell rfl ti64 (.whole rfl rfl rfl rfl rfl rfl) (.t _), .tmp (.t _), trivial⟩, (by repeat' first | exact trivial | exact Wk.refl _ | exact Wk.sl _ | refine And.intro ?_ ?_ | refine Wk.tupP ?_ | refine Wk.aggP ?_)⟩
        | exact ⟨Or.inr rfl, [_, _], ⟨.cell rfl ti64 (.whole rfl rfl rfl rfl rfl rfl) (.t _), .tmp (Res.ownT rfl rfl rfl rfl), trivial⟩, .refl _⟩
        | exact ⟨Or.inr rfl, [_, _], ⟨.cell rfl ti64 (.whole rfl rfl rfl rfl rfl rfl) (.t _), .tmp (Res.ownT rfl rfl rfl rfl), trivial⟩, (by repeat' first | exact trivial | exact Wk.refl _ | exact Wk.sl _ | refine And.intro ?_ ?_ | refine Wk.tupP ?_ | refine Wk.aggP ?_)⟩)
        | (rw [if_neg (by assumption), if_pos (by assumption)]; first
        | exact ⟨Or.inr rfl, [_, _], ⟨.cell rfl ti64 (.whole rfl rfl rfl rfl rfl rfl) (.t _), .tmp (.t _), trivial⟩, .refl _⟩
        | exact ⟨Or.inr rfl, [_, _], ⟨.cell rfl ti64 (.whole rfl rfl rfl rfl rfl rfl) (.t _), .tmp (.t _), trivial⟩, (by repeat' first | exact trivial | exact Wk.refl _ | exact Wk.sl _ | refine And.intro ?_ ?_ | refine Wk.tupP ?_ | refine Wk.aggP ?_)⟩
        | exact ⟨Or.inr rfl, [_, _], ⟨.cell rfl ti64 (.whole rfl rfl rfl rfl rfl rfl) (.t _), .tmp (Res.ownT rfl rfl rfl rfl), trivial⟩, .refl _⟩
        | exact ⟨Or.inr rfl, [_, _], ⟨.cell rfl ti64 (.whole rfl rfl rfl rfl rfl rfl) (.t _), .tmp (Res.ownT rfl rfl rfl rfl), trivial⟩, (by repeat' first | exact trivial | exact Wk.refl _ | exact Wk.sl _ | refine And.intro ?_ ?_ | refine Wk.tupP ?_ | refine Wk.aggP ?_)⟩)
        | (rw [if_neg (by assumption), if_neg (by assumption)]; first
        | exact ⟨Or.inr rfl, [_, _], ⟨.cell rfl ti64 (.whole rfl rfl rfl rfl rfl rfl) (.t _), .tmp (.t _), trivial⟩, .refl _⟩
        | exact ⟨Or.inr rfl, [_, _], ⟨.cell rfl ti64 (.whole rfl rfl rfl rfl rfl rfl) (.t _), .tmp (.t _), trivial⟩, (by repeat' first | exact trivial | exact Wk.refl _ | exact Wk.sl _ | refine And.intro ?_ ?_ | refine Wk.tupP ?_ | refine Wk.aggP ?_)⟩
        | exact ⟨Or.inr rfl, [_, _], ⟨.cell rfl ti64 (.whole rfl rfl rfl rfl rfl rfl) (.t _), .tmp (Res.ownT rfl rfl rfl rfl), trivial⟩, .refl _⟩
        | exact ⟨Or.inr rfl, [_, _], ⟨.cell rfl ti64 (.whole rfl rfl rfl rfl rfl rfl) (.t _), .tmp (Res.ownT rfl rfl rfl rfl), trivial⟩, (by repeat' first | exact trivial | exact Wk.refl _ | exact Wk.sl _ | refine And.intro ?_ ?_ | refine Wk.tupP ?_ | refine Wk.aggP ?_)⟩)
    · try simp only [cl] at h2
      refine awp_skip ?_
      refine awp_seq ?_
      refine awp_rw rfl ?_
      refine RW.op rfl rfl (eff_load rfl rfl ti64 rfl (.whole rfl rfl rfl rfl rfl rfl)) ?_
      refine RW.store rfl rfl (eff_storeW (v := .t _) (els := [_]) (els' := [_]) rfl rfl ti64 rfl rfl rfl rfl rfl rfl rfl rfl rfl) ?_
      refine asT ?_
      refine RW.nil ?_
      refine awp_ret ?_
      unfold nextT
      first
        | (rw [if_pos (by assumption)]; first
        | exact ⟨Or.inr rfl, [_, _], ⟨.cell rfl ti64 (.whole rfl rfl rfl rfl rfl rfl) (.t _), .tmp (.t _), trivial⟩, .refl _⟩
        | exact ⟨Or.inr rfl, [_, _], ⟨.cell rfl ti64 (.whole rfl rfl rfl rfl rfl rfl) (.t _), .tmp (.t _), trivial⟩, (by repeat' first | exact trivial | exact Wk.refl _ | exact Wk.sl _ | refine And.intro ?_ ?_ | refine Wk.tupP ?_ | refine Wk.aggP ?_)⟩
        | exact ⟨Or.inr rfl, [_, _], ⟨.cell rfl ti64 (.whole rfl rfl rfl rfl rfl rfl) (.t _), .tmp (Res.ownT rfl rfl rfl rfl), trivial⟩, .refl _⟩
        | exact ⟨Or.inr rfl, [_, _], ⟨.cell rfl ti64 (.whole rfl rfl rfl rfl rfl rfl) (.t _), .tmp (Res.ownT rfl rfl rfl rfl), trivial⟩, (by repeat' first | exact trivial | exact Wk.refl _ | exact Wk.sl _ | refine And.intro ?_ ?_ | refine Wk.tupP ?_ | refine Wk.aggP ?_)⟩)
        | (rw [if_neg (by assumption), if_pos (by assumption)]; first
        | exact ⟨Or.inr rfl, [_, _], ⟨.cell rfl ti64 (.whole rfl rfl rfl rfl rfl rfl) (.t _), .tmp (.t _), trivial⟩, .refl _⟩
        | exact ⟨Or.inr rfl, [_, _], ⟨.cell rfl ti64 (.whole rfl rfl rfl rfl rfl rfl) (.t _), .tmp (.t _), trivial⟩, (by repeat' first | exact trivial | exact Wk.refl _ | exact Wk.sl _ | refine And.intro ?_ ?_ | refine Wk.tupP ?_ | refine Wk.aggP ?_)⟩
        | exact ⟨Or.inr rfl, [_, _], ⟨.cell rfl ti64 (.whole rfl rfl rfl rfl rfl rfl) (.t _), .tmp (Res.ownT rfl rfl rfl rfl), trivial⟩, .refl _⟩
        | exact ⟨Or.inr rfl, [_, _], ⟨.cell rfl ti64 (.whole rfl rfl rfl rfl rfl rfl) (.t _), .tmp (Res.ownT rfl rfl rfl rfl), trivial⟩, (by repeat' first | exact trivial | exact Wk.refl _ | exact Wk.sl _ | refine And.intro ?_ ?_ | refine Wk.tupP ?_ | refine Wk.aggP ?_)⟩)
        | (rw [if_neg (by assumption), if_neg (by assumption)]; first
        | exact ⟨Or.inr rfl, [_, _], ⟨.cell rfl ti64 (.whole rfl rfl rfl rfl rfl rfl) (.t _), .tmp (.t _), trivial⟩, .refl _⟩
        | exact ⟨Or.inr rfl, [_, _], ⟨.cell rfl ti64 (.whole rfl rfl rfl rfl rfl rfl) (.t _), .tmp (.t _), trivial⟩, (by repeat' first | exact trivial | exact Wk.refl _ | exact Wk.sl _ | refine And.intro ?_ ?_ | refine Wk.tupP ?_ | refine Wk.aggP ?_)⟩
        | exact ⟨Or.inr rfl, [_, _], ⟨.cell rfl ti64 (.whole rfl rfl rfl rfl rfl rfl) (.t _), .tmp (Res.ownT rfl rfl rfl rfl), trivial⟩, .refl _⟩
        | exact ⟨Or.inr rfl, [_, _], ⟨.cell rfl ti64 (.whole rfl rfl rfl rfl rfl rfl) (.t _), .tmp (Res.ownT rfl rfl rfl rfl), trivial⟩, (by repeat' first | exact trivial | exact Wk.refl _ | exact Wk.sl _ | refine And.intro ?_ ?_ | refine Wk.tupP ?_ | refine Wk.aggP ?_)⟩)

end Go.Tv.C36

end
section
open Go Go.Tv Go.Proofs
namespace Go.Tv.C36
set_option maxRecDepth 20000
set_option maxHeartbeats 2000000
set_option linter.unusedSimpArgs false
set_option linter.unusedVariables false
theorem at_ret (l : List Rcd) (hO : OKL l) : Ret Tryd.prog 26 [.sl (l.map encC) false] (.tup [.sl ((atOf l).1.map encT) false, encI (atOf l).2]) := by
  refine ret_of_awp Tryd.func26 rfl (Nat.le_of_ble_eq_true rfl) ?_
  refine awp_seq ?_
  refine awp_rw rfl ?_
  refine asT ?_
  refine asT ?_
  refine RW.nil ?_
  refine awp_seq ?_
  refine awp_seq ?_
  refine awp_rw rfl ?_
  refine mvT ?_
  refine RW.op rfl rfl (eff_lenM rfl rfl te32 rfl) ?_
  refine ioT ?_
  refine RW.nil ?_
  refine awp_cond rfl (fun h1 => ?_) (fun h1 => ?_)
  · try simp only [cl] at h1
    refine awp_seq ?_
    refine awp_rw rfl ?_
    refine asT ?_
    refine asT ?_
    refine RW.nil ?_
    refine awp_ret ?_
    rw [atOf_bad (all_lim h1) (by decide)]
    exact ⟨Or.inr rfl, [_, _], ⟨.tmp (.t _), .tmp (.t _), trivial⟩, (by repeat' first | exact trivial | exact Wk.refl _ | exact Wk.sl _ | refine And.intro ?_ ?_ | refine Wk.tupP ?_ | refine Wk.aggP ?_)⟩
  · try simp only [cl] at h1
    refine awp_skip ?_
    refine awp_seq ?_
    refine awp_rw rfl ?_
    refine RW.op rfl rfl (eff_callT (new18_ret) co44 rfl rfl rfl rfl) ?_
    refine RW.new rfl rfl (eff_allocK (k := 2) (id := 4) rfl rfl tz64 rfl rfl) ?_
    refine RW.store rfl rfl (eff_storeW (v := .t _) (els := [_]) (els' := [_]) rfl rfl ti64 rfl rfl rfl rfl rfl rfl rfl rfl rfl) ?_
    refine RW.nil ?_
    refine awp_seq ?_
    refine awp_rw rfl ?_
    refine RW.op rfl rfl (eff_load rfl rfl ti64 rfl (.whole rfl rfl rfl rfl rfl rfl)) ?_
    refine RW.new rfl rfl (eff_buildSliceL (id := 15) (els := [.t (.agg [_, _])]) rfl rfl te56 tz64 rfl (by decide) (by decide) rfl rfl rfl rfl) ?_
    refine asO ?_
    refine RW.nil ?_
    refine awp_seq ?_
    refine awp_seq ?_
    refine awp_rw rfl ?_
    refine asT ?_
    refine RW.nil ?_
    refine awp_block ?_
    refine awp_loopW (fun m s => ∃ (i : Nat) (T : Twn) (gn : Nat) (mm : Nat) (els : List AV), (i ≤ l.length) ∧ (T = (runTo l i).1) ∧ ((runTo l i).2 = 0) ∧ (mm = i + 1) ∧ (els = ((atL l (i + 1)).map encT).map .t) ∧ m = l.length - i ∧ s = ⟨46, [(0, .t (.sl (l.map encC) false)), (4, .ptr 4 0 0 0), (5, .own 15 gn 0 mm), (6, .t (encI (i : Nat)))], [(4, some ⟨2, 64, 0, [.t (encT T)]⟩), (15, some ⟨2, 64, gn, els⟩)]⟩) (_) (⟨_, weak_keep (n := 46) (fr' := [(0, .t (.sl (l.map encC) false)), (4, .ptr 4 0 0 0), (5, .own 15 0 0 1), (6, .t (encI (0 : Nat)))]) (st' := [(4, some ⟨2, 64, 0, [.t (encT newT)]⟩), (15, some ⟨2, 64, 0, _⟩)]) ⟨rfl, rfl, rfl, rfl, rfl, rfl, rfl, rfl, trivial⟩ ⟨rfl, okE_one rfl, rfl, (by first | exact okE_one rfl | exact okE_nil | (rw [he]; exact okE_t) | (rw [he]; intro x hx; simp only [List.mem_append, List.mem_map, List.mem_singleton] at hx; rcases hx with ⟨y, _, rfl⟩ | rfl <;> rfl)), trivial⟩, 0, newT, 0, 1, _, (by omega), (by rfl), (by rfl), (by rfl), (by rfl), rfl, rfl⟩) ?_
    rintro m s ⟨i, T, gn, mm, els, hi, hT, hok, hm, he, rfl, rfl⟩
    refine awp_seq ?_
    refine awp_seq ?_
    refine awp_rw rfl ?_
    refine mvT ?_
    refine mvT ?_
    refine RW.op rfl rfl (eff_lenM rfl rfl te32 rfl) ?_
    refine ioT ?_
    refine RW.nil ?_
    refine awp_cond rfl (fun h2 => ?_) (fun h2 => ?_)
    · try simp only [cl] at h2
      refine awp_skip ?_
      refine awp_seq ?_
      refine awp_block ?_
      refine awp_seq ?_
      refine awp_rw rfl ?_
      have hil : i < l.length := by omega
      have hFit := runTo_fit12 hO (by omega) hok
      rw [← hT] at hFit
      refine mvT ?_
      refine mvT ?_
      refine RW.op rfl rfl (eff_callT (rform_ret l i hil (by have := hO.len; omega)) co45 rfl rfl rfl rfl) ?_
      refine asT ?_
      refine RW.nil ?_
      refine awp_seq ?_
      refine awp_seq ?_
      refine awp_rw rfl ?_
      refine mvT ?_
      refine ioT ?_
      refine RW.nil ?_
      refine awp_cond rfl (fun h3 => ?_) (fun h3 => ?_)
      · try simp only [cl] at h3
        refine awp_seq ?_
        refine awp_rw rfl ?_
        refine mvT ?_
        refine asT ?_
        refine asT ?_
        refine RW.nil ?_
        refine awp_ret ?_
        rw [atOf_bad (all_bad h1 hil (run_form hok (by omega)) (by omega)) (by omega)]
        exact ⟨Or.inr rfl, [_, _], ⟨.tmp (.t _), .tmp (.t _), trivial⟩, (by repeat' first | exact trivial | exact Wk.refl _ | exact Wk.sl _ | refine And.intro ?_ ?_ | refine Wk.tupP ?_ | refine Wk.aggP ?_)⟩
      · try simp only [cl] at h3
        refine awp_skip ?_
        refine awp_seq ?_
        refine awp_rd [(some 29, []), (some 30, []), (some 31, []), (some 32, []), (some 33, []), (some 34, []), (some 28, []), (some 35, []), (some 36, []), (some 8, [8]), (none, [8]), (some 9, [])] [[], [], [], [1, 2], [1, 2, 3], [0, 1, 2, 3, 4], [0, 1, 2, 3, 4, 5], [0, 1, 2, 3, 4, 5, 6], [0, 1, 2, 3, 4, 5, 6], [], [0, 1, 2, 3, 4, 5, 6, 7, 9], [0, 1, 2, 3, 4, 5, 6, 7, 8, 9, 10]] tm rfl rfl rfl rfl ?_
        have hfo : form l i = 0 := by omega
        refine RD.op rfl rfl rfl (eff_load rfl rfl ti64 rfl (.whole rfl rfl rfl rfl rfl rfl)) ?_
        refine mvD ?_
        refine mvD ?_
        refine RD.op rfl rfl rfl (eff_indexM rfl rfl te32 rfl rfl rfl (by first | assumption | exact List.getElem?_eq_getElem (by omega)) rfl (by decide)) ?_
        refine RD.op rfl rfl rfl (eff_loadW rfl rfl ti47 rfl rfl rfl) ?_
        refine RD.op rfl rfl rfl (eff_callT (next_ret T _ hFit (hO.hp _ (List.getElem_mem _)) (hO.bod _ (List.getElem_mem _))) co46 rfl rfl rfl rfl) ?_
        refine mvD ?_
        refine RD.op rfl rfl rfl (eff_extract rfl rfl rfl rfl) ?_
        refine RD.op rfl rfl rfl (eff_extract rfl rfl rfl rfl) ?_
        refine RD.new rfl rfl rfl (eff_allocK (k := 2) (id := 8) rfl rfl tz64 rfl rfl) ?_
        refine RD.store rfl rfl rfl (eff_storeW (v := .t _) (els := [_]) (els' := [_]) rfl rfl ti64 rfl rfl rfl rfl rfl rfl rfl rfl rfl) ?_
        refine RD.op rfl rfl rfl (eff_assign (v := .t _) rfl rfl rfl) ?_
        refine RD.nil ?_
        refine awp_seq ?_
        refine awp_seq ?_
        refine awp_rw rfl ?_
        refine mvT ?_
        refine ioT ?_
        refine RW.nil ?_
        refine awp_cond rfl (fun h4 => ?_) (fun h4 => ?_)
        · try simp only [cl] at h4
          refine awp_seq ?_
          refine awp_rw rfl ?_
          refine mvT ?_
          refine asT ?_
          refine asT ?_
          refine RW.nil ?_
          refine awp_ret ?_
          rw [atOf_bad (all_bad h1 hil (bad_next hil hT hok hfo (by omega)) (by omega)) (by omega)]
          exact ⟨Or.inr rfl, [_, _], ⟨.tmp (.t _), .tmp (.t _), trivial⟩, (by repeat' first | exact trivial | exact Wk.refl _ | exact Wk.sl _ | refine And.intro ?_ ?_ | refine Wk.tupP ?_ | refine Wk.aggP ?_)⟩
        · try simp only [cl] at h4
          refine awp_skip ?_
          refine awp_seq ?_
          refine awp_rw rfl ?_
          refine RW.op rfl rfl (eff_load rfl rfl ti64 rfl (.whole rfl rfl rfl rfl rfl rfl)) ?_
          refine RW.store rfl rfl (eff_storeW (v := .t _) (els := [_]) (els' := [_]) rfl rfl ti64 rfl rfl rfl rfl rfl rfl rfl rfl rfl) ?_
          refine RW.nil ?_
          refine awp_rw rfl ?_
          refine mvO ?_
          refine RW.op rfl rfl (eff_load rfl rfl ti64 rfl (.whole rfl rfl rfl rfl rfl rfl)) ?_
          refine RW.new rfl rfl (eff_buildSliceL (id := 43) (els := [.t (.agg [_, _])]) rfl rfl te56 tz64 rfl (by decide) (by decide) rfl rfl rfl rfl) ?_
          refine RW.new rfl rfl (eff_append (id := 15) (ys := [_]) rfl rfl ta56 rfl rfl rfl (by rw [he, hm]; simp [atL_len]) rfl rfl (srcOwn rfl rfl rfl rfl rfl rfl) (by simp) (by have := hO.len; simp; omega) (by have := hO.len; simp; omega)) ?_
          refine asO ?_
          refine RW.nil ?_
          refine awp_rw rfl ?_
          refine mvT ?_
          refine RW.op rfl rfl (eff_iop rfl rfl rfl rfl (iadd (by omega))) ?_
          refine asT ?_
          refine RW.nil ?_
          have hrn := run_next hil hT hok hfo (by omega)
          refine ⟨_, ?_, _, weak_keep (n := 46) (fr' := [(0, .t (.sl (l.map encC) false)), (4, .ptr 4 0 0 0), (5, .own 15 _ 0 _), (6, .t (encI ((i + 1) : Nat)))]) (st' := [(4, some ⟨2, 64, 0, [.t (encT _)]⟩), (15, some ⟨2, 64, _, _⟩)]) ⟨rfl, rfl, rfl, rfl, rfl, rfl, rfl, rfl, trivial⟩ ⟨rfl, okE_one rfl, rfl, (by first | exact okE_one rfl | exact okE_nil | (rw [he]; exact okE_t) | (rw [he]; intro x hx; simp only [List.mem_append, List.mem_map, List.mem_singleton] at hx; rcases hx with ⟨y, _, rfl⟩ | rfl <;> rfl)), trivial⟩, i + 1, _, _, _, _, (by omega), (by rw [hrn]), (by rw [hrn]), (by rw [hm]; rfl), (by rw [atL_succ, he, hrn]; simp <;> rfl), rfl, rfl⟩
          omega
    · try simp only [cl] at h2
      refine awp_exit ?_
      refine awp_seq ?_
      refine awp_rw rfl ?_
      refine mvO ?_
      refine asO ?_
      refine asT ?_
      refine RW.nil ?_
      refine awp_ret ?_
      have hi2 : i = l.length := by omega
      subst hi2
      rw [atOf_ok (by rw [all_ok h1 hok])]
      exact ⟨Or.inr rfl, [_, _], ⟨.tmp (Res.ownT (xs := (atL l (l.length + 1)).map encT) rfl rfl he (by rw [hm]; simp [atL_len])), .tmp (.t _), trivial⟩, .refl _⟩

end Go.Tv.C36

end
section
open Go Go.Tv Go.Proofs
namespace Go.Tv.C36
set_option maxRecDepth 20000
set_option maxHeartbeats 2000000
set_option linter.unusedSimpArgs false
set_option linter.unusedVariables false
theorem rknown_ret (l : List Rcd) (t : Int) (hO : OKL l) : Ret Tryd.prog 29 [.sl (l.map encC) false, encI t] (.tup [encT (known l t).1, encI (known l t).2]) := by
  refine ret_of_awp Tryd.func29 rfl (Nat.le_of_ble_eq_true rfl) ?_
  refine awp_seq ?_
  refine awp_rw rfl ?_
  refine RW.new rfl rfl (eff_allocK (k := 2) (id := 4) rfl rfl tz64 rfl rfl) ?_
  refine asT ?_
  refine RW.nil ?_
  refine awp_seq ?_
  refine awp_rw rfl ?_
  refine mvT ?_
  refine RW.op rfl rfl (eff_callT (at_ret l hO) co26 rfl rfl rfl rfl) ?_
  refine mvT ?_
  refine RW.op rfl rfl (eff_extract rfl rfl rfl rfl) ?_
  refine RW.op rfl rfl (eff_extract rfl rfl rfl rfl) ?_
  refine asT ?_
  refine asT ?_
  refine RW.nil ?_
  refine awp_seq ?_
  refine awp_seq ?_
  refine awp_rw rfl ?_
  refine mvT ?_
  refine ioT ?_
  refine RW.nil ?_
  refine awp_cond rfl (fun h1 => ?_) (fun h1 => ?_)
  · try simp only [cl] at h1
    refine awp_seq ?_
    refine awp_rw rfl ?_
    refine RW.op rfl rfl (eff_buildT (ys := [_, _]) rfl rfl tz64 tg64 rfl) ?_
    refine mvT ?_
    refine RW.store rfl rfl (eff_storeW (v := .t _) (els := [_]) (els' := [_]) rfl rfl ti64 rfl rfl rfl rfl rfl rfl rfl rfl rfl) ?_
    refine asT ?_
    refine RW.nil ?_
    refine awp_ret ?_
    have hal : (allOf l).2 ≠ 0 := by
      intro h9; rw [atOf_ok h9] at h1; exact h1 rfl
    rw [known_bad (all_zt hal) hal, show (atOf l).2 = (allOf l).2 from by rw [atOf_bad (all_zt hal) hal]]
    exact ⟨Or.inr rfl, [_, _], ⟨.cell rfl ti64 (.whole rfl rfl rfl rfl rfl rfl) (.t _), .tmp (.t _), trivial⟩, (by repeat' first | exact trivial | exact Wk.refl _ | exact Wk.sl _ | refine And.intro ?_ ?_ | refine Wk.tupP ?_ | refine Wk.aggP ?_)⟩
  · try simp only [cl] at h1
    refine awp_skip ?_
    refine awp_seq ?_
    refine awp_rw rfl ?_
    refine asT ?_
    refine RW.nil ?_
    refine awp_seq ?_
    refine awp_block ?_
    refine awp_loopW (fun m s => ∃ (n : Nat), (n ≤ l.length) ∧ (∀ r, r ∈ l.take n → r.tick ≤ t) ∧ m = l.length - n ∧ s = ⟨37, [(0, .t (.sl (l.map encC) false)), (1, .t (encI t)), (4, .ptr 4 0 0 0), (6, .t (.sl ((atOf l).1.map encT) false)), (8, .t (encI (n : Nat)))], [(4, some ⟨2, 64, 0, [.t z64]⟩)]⟩) (_) (⟨_, weak_keep (n := 37) (fr' := [(0, .t (.sl (l.map encC) false)), (1, .t (encI t)), (4, .ptr 4 0 0 0), (6, .t (.sl ((atOf l).1.map encT) false)), (8, .t (encI (0 : Nat)))]) (st' := [(4, some ⟨2, 64, 0, [.t z64]⟩)]) ⟨rfl, rfl, rfl, rfl, rfl, rfl, rfl, rfl, rfl, rfl, trivial⟩ ⟨rfl, okE_one rfl, trivial⟩, 0, (by omega), (by simp), rfl, rfl⟩) ?_
    rintro m s ⟨n, hn, ha, rfl, rfl⟩
    refine awp_seq ?_
    refine awp_seq ?_
    refine awp_rw rfl ?_
    have hlen := hO.len
    refine mvT ?_
    refine mvT ?_
    refine RW.op rfl rfl (eff_lenM rfl rfl te32 rfl) ?_
    refine ioT ?_
    refine mvT ?_
    refine RW.split 22 rfl (fun h2 => ?_) (fun h2 => ?_)
    · try simp only [cl] at h2
      refine RW.gop rfl rfl rfl rfl rfl rfl (eff_move (v := .t _) rfl rfl rfl) ?_
      refine RW.gop rfl rfl rfl rfl rfl rfl (eff_move (v := .t _) rfl rfl rfl) ?_
      refine RW.gop rfl rfl rfl rfl rfl rfl (eff_indexM rfl rfl te32 rfl rfl rfl (by first | assumption | exact List.getElem?_eq_getElem (by omega)) rfl (by decide)) ?_
      refine RW.gop rfl rfl rfl rfl rfl rfl (eff_fieldAddrT rfl rfl tf47_0 (by decide) rfl) ?_
      refine RW.gop rfl rfl rfl rfl rfl rfl (eff_loadT1 rfl rfl ti3 rfl rfl) ?_
      refine RW.gop rfl rfl rfl rfl rfl rfl (eff_move (v := .t _) rfl rfl rfl) ?_
      refine RW.gop rfl rfl rfl rfl rfl rfl (eff_iop rfl rfl rfl rfl rfl) ?_
      refine pkT ?_
      refine RW.nil ?_
      refine awp_cond rfl (fun h3 => ?_) (fun h3 => ?_)
      · try simp only [cl] at h3
        refine awp_skip ?_
        refine awp_block ?_
        refine awp_rw rfl ?_
        refine mvT ?_
        refine RW.op rfl rfl (eff_iop rfl rfl rfl rfl (iadd (by omega))) ?_
        refine asT ?_
        refine RW.nil ?_
        refine ⟨_, ?_, _, weak_keep (n := 37) (fr' := [(0, .t (.sl (l.map encC) false)), (1, .t (encI t)), (4, .ptr 4 0 0 0), (6, .t (.sl ((atOf l).1.map encT) false)), (8, .t (encI ((n + 1) : Nat)))]) (st' := [(4, some ⟨2, 64, 0, [.t z64]⟩)]) ⟨rfl, rfl, rfl, rfl, rfl, rfl, rfl, rfl, rfl, rfl, trivial⟩ ⟨rfl, okE_one rfl, trivial⟩, n + 1, (by omega), (by intro r hr; rcases (mem_take_succ (by omega)).1 hr with h | h; exact ha r h; rw [h]; assumption), rfl, rfl⟩
        omega
      · try simp only [cl] at h3
        refine awp_exit ?_
        refine awp_seq ?_
        refine awp_rw rfl ?_
        have hup : upTo l t = n := upTo_eq hn ha (fun h => by first | (exfalso; omega) | assumption)
        have hal : (allOf l).2 = 0 := by
          have h9 : (atOf l).2 = 0 := h1
          unfold atOf at h9
          by_cases h10 : (allOf l).2 = 0
          · exact h10
          · rw [if_pos h10] at h9; exact absurd h9 h10
        have hat : (atOf l).1 = atL l (l.length + 1) := by rw [atOf_ok hal]
        refine mvT ?_
        refine mvT ?_
        refine RW.op rfl rfl (eff_indexAddrT (i := n) rfl rfl te56 rfl rfl (by first | rfl | omega) (by rw [hat]; exact atL_get (by omega)) rfl (by decide)) ?_
        refine RW.op rfl rfl (eff_loadW rfl rfl ti64 rfl rfl rfl) ?_
        refine RW.store rfl rfl (eff_storeW (v := .t _) (els := [_]) (els' := [_]) rfl rfl ti64 rfl rfl rfl rfl rfl rfl rfl rfl rfl) ?_
        refine asT ?_
        refine RW.nil ?_
        refine awp_ret ?_
        rw [known_ok hal, hup, run_ok hal hn]
        exact ⟨Or.inr rfl, [_, _], ⟨.cell rfl ti64 (.whole rfl rfl rfl rfl rfl rfl) (.t _), .tmp (.t _), trivial⟩, .refl _⟩
    · try simp only [cl] at h2
      refine gkT ?_
      refine gkT ?_
      refine gkT ?_
      refine gkT ?_
      refine gkT ?_
      refine gkT ?_
      refine gkT ?_
      refine pkT ?_
      refine RW.nil ?_
      refine awp_cond rfl (fun h => nomatch h) (fun _ => ?_)
      refine awp_exit ?_
      refine awp_seq ?_
      refine awp_rw rfl ?_
      have hup : upTo l t = n := upTo_eq hn ha (fun h => by first | (exfalso; omega) | assumption)
      have hal : (allOf l).2 = 0 := by
        have h9 : (atOf l).2 = 0 := h1
        unfold atOf at h9
        by_cases h10 : (allOf l).2 = 0
        · exact h10
        · rw [if_pos h10] at h9; exact absurd h9 h10
      have hat : (atOf l).1 = atL l (l.length + 1) := by rw [atOf_ok hal]
      refine mvT ?_
      refine mvT ?_
      refine RW.op rfl rfl (eff_indexAddrT (i := n) rfl rfl te56 rfl rfl (by first | rfl | omega) (by rw [hat]; exact atL_get (by omega)) rfl (by decide)) ?_
      refine RW.op rfl rfl (eff_loadW rfl rfl ti64 rfl rfl rfl) ?_
      refine RW.store rfl rfl (eff_storeW (v := .t _) (els := [_]) (els' := [_]) rfl rfl ti64 rfl rfl rfl rfl rfl rfl rfl rfl rfl) ?_
      refine asT ?_
      refine RW.nil ?_
      refine awp_ret ?_
      rw [known_ok hal, hup, run_ok hal hn]
      exact ⟨Or.inr rfl, [_, _], ⟨.cell rfl ti64 (.whole rfl rfl rfl rfl rfl rfl) (.t _), .tmp (.t _), trivial⟩, .refl _⟩

end Go.Tv.C36

end
section
open Go Go.Tv Go.Proofs
namespace Go.Tv.C36
set_option maxRecDepth 20000
set_option maxHeartbeats 2000000
set_option linter.unusedSimpArgs false
set_option linter.unusedVariables false
theorem dvis_t (l : List Rcd) (d : Dec) (i : Nat) (T : Twn) (ys : List Tr) (fl : Bool) (hi : i < l.length) (hl : l.length ≤ 1000000) : RetK Tryd.prog 65 [(1007, some ⟨1, 4, 0, [.t (.bool true)]⟩), (1002, some ⟨1, 32, 0, [.t (.sl (l.map encC) false)]⟩), (1003, some ⟨4, 28, 0, [.t (encD d)]⟩), (1006, some ⟨1, 33, 0, [.t (.sl ys fl)]⟩)] [.t (encI (i : Nat)), .t (encT T), .ptr 1007 0 0 0, .ptr 1002 0 0 0, .ptr 1003 0 0 0, .ptr 1006 0 0 0] [(1007, some ⟨1, 4, 0, [.t (.bool true)]⟩), (1002, some ⟨1, 32, 0, [.t (.sl (l.map encC) false)]⟩), (1003, some ⟨4, 28, 0, [.t (encD d)]⟩), (1006, some ⟨1, 33, 0, [.t (.sl ys fl)]⟩)] (.tup []) [(2, .ptr 1007 0 0 0), (3, .ptr 1002 0 0 0), (4, .ptr 1003 0 0 0), (5, .ptr 1006 0 0 0)] := by
  refine retK_of_awj (kp := fun i => Nat.beq i 2 || Nat.beq i 3 || Nat.beq i 4 || Nat.beq i 5) Tryd.func65 rfl (Nat.le_of_ble_eq_true rfl) (by simp) ?_
  intro F0 w0
  refine awj_seq ?_
  refine awj_rj rfl ?_
  refine RJ.new rfl rfl (eff_boxK (v := .t _) (k := 2) (id := 7) rfl rfl rfl rfl rfl rfl) ?_
  refine RJ.nil ?_
  refine awj_seq ?_
  refine awj_rd [(some 8, []), (some 9, []), (some 10, []), (some 11, []), (some 12, []), (some 13, []), (some 14, []), (some 15, []), (some 16, []), (some 17, []), (some 18, []), (some 19, []), (some 20, []), (some 21, []), (some 22, []), (some 23, []), (some 24, []), (some 25, []), (some 26, [])] [[], [0], [0, 1], [0, 1, 2], [0, 1, 2], [0, 1, 2, 3, 4], [0, 1, 2, 3, 4, 5], [0, 1, 2, 3, 4, 5, 6], [0, 1, 2, 3, 4, 5, 6, 7], [0, 1, 2, 3, 4, 5, 6, 7, 8], [0, 1, 2, 3, 4, 5, 6, 7, 8, 9], [0, 1, 2, 3, 4, 5, 6, 7, 8, 9, 10], [0, 1, 2, 3, 4, 5, 6, 7, 8, 9, 10], [0, 1, 2, 3, 4, 5, 6, 7, 8, 9, 10, 11, 12], [0, 1, 2, 3, 4, 5, 6, 7, 8, 9, 10, 11, 12, 13], [0, 1, 2, 3, 4, 5, 6, 7, 8, 9, 10, 11, 12, 13, 14], [0, 1, 2, 3, 4, 5, 6, 7, 8, 9, 10], [0, 1, 2, 3, 4, 5, 6, 7, 8, 9, 10, 11, 12, 13, 14, 15, 16], [0, 1, 2, 3, 4, 5, 6, 7, 8, 9, 10, 11, 12, 13, 14, 15, 16, 17]] tm rfl rfl rfl rfl ?_
  refine RD.op rfl rfl rfl (eff_load (y := .t _) rfl rfl ti4 rfl (.one rfl rfl rfl rfl)) ?_
  refine RD.op rfl rfl rfl (eff_unop rfl rfl rfl rfl) ?_
  refine mvD ?_
  refine gkD ?_
  refine gkD ?_
  refine gkD ?_
  refine gkD ?_
  refine gkD ?_
  refine gkD ?_
  refine RD.op rfl rfl rfl (eff_pick (v := .t _) rfl rfl rfl rfl) ?_
  refine mvD ?_
  refine gkD ?_
  refine gkD ?_
  refine gkD ?_
  refine gkD ?_
  refine gkD ?_
  refine gkD ?_
  refine gkD ?_
  refine RD.op rfl rfl rfl (eff_pick (v := .t _) rfl rfl rfl rfl) ?_
  refine RD.nil ?_
  refine awj_cond rfl (fun h => nomatch h) (fun _ => ?_)
  refine awj_skip ?_
  exact ⟨Or.inl rfl, [], [], trivial, rfl, weak_keep ⟨rfl, rfl, rfl, rfl, rfl, rfl, rfl, rfl, trivial⟩ ⟨rfl, okE_one rfl, rfl, okE_one rfl, rfl, okE_one rfl, rfl, okE_one rfl, trivial⟩, rfl⟩

theorem dvis_n (l : List Rcd) (d : Dec) (i : Nat) (T : Twn) (ys : List Tr) (fl : Bool) (hi : i < l.length) (hl : l.length ≤ 1000000) (hn : isD l d i = false) : RetK Tryd.prog 65 [(1007, some ⟨1, 4, 0, [.t (.bool false)]⟩), (1002, some ⟨1, 32, 0, [.t (.sl (l.map encC) false)]⟩), (1003, some ⟨4, 28, 0, [.t (encD d)]⟩), (1006, some ⟨1, 33, 0, [.t (.sl ys fl)]⟩)] [.t (encI (i : Nat)), .t (encT T), .ptr 1007 0 0 0, .ptr 1002 0 0 0, .ptr 1003 0 0 0, .ptr 1006 0 0 0] [(1007, some ⟨1, 4, 0, [.t (.bool false)]⟩), (1002, some ⟨1, 32, 0, [.t (.sl (l.map encC) false)]⟩), (1003, some ⟨4, 28, 0, [.t (encD d)]⟩), (1006, some ⟨1, 33, 0, [.t (.sl ys fl)]⟩)] (.tup []) [(2, .ptr 1007 0 0 0), (3, .ptr 1002 0 0 0), (4, .ptr 1003 0 0 0), (5, .ptr 1006 0 0 0)] := by
  refine retK_of_awj (kp := fun i => Nat.beq i 2 || Nat.beq i 3 || Nat.beq i 4 || Nat.beq i 5) Tryd.func65 rfl (Nat.le_of_ble_eq_true rfl) (by simp) ?_
  intro F0 w0
  refine awj_seq ?_
  refine awj_rj rfl ?_
  refine RJ.new rfl rfl (eff_boxK (v := .t _) (k := 2) (id := 7) rfl rfl rfl rfl rfl rfl) ?_
  refine RJ.nil ?_
  refine awj_seq ?_
  by_cases hc1 : (l[i]'hi).kind = 3
  · refine awj_rd [(some 8, []), (some 9, []), (some 10, []), (some 11, []), (some 12, []), (some 13, []), (some 14, []), (some 15, []), (some 16, []), (some 17, []), (some 18, []), (some 19, []), (some 20, []), (some 21, []), (some 22, []), (some 23, []), (some 24, []), (some 25, []), (some 26, [])] [[], [0], [0, 1], [0, 1, 2], [0, 1, 2], [0, 1, 2, 3, 4], [0, 1, 2, 3, 4, 5], [0, 1, 2, 3, 4, 5, 6], [0, 1, 2, 3, 4, 5, 6, 7], [0, 1, 2, 3, 4, 5, 6, 7, 8], [0, 1, 2, 3, 4, 5, 6, 7, 8, 9], [0, 1, 2, 3, 4, 5, 6, 7, 8, 9, 10], [0, 1, 2, 3, 4, 5, 6, 7, 8, 9, 10], [0, 1, 2, 3, 4, 5, 6, 7, 8, 9, 10, 11, 12], [0, 1, 2, 3, 4, 5, 6, 7, 8, 9, 10, 11, 12, 13], [0, 1, 2, 3, 4, 5, 6, 7, 8, 9, 10, 11, 12, 13, 14], [0, 1, 2, 3, 4, 5, 6, 7, 8, 9, 10], [0, 1, 2, 3, 4, 5, 6, 7, 8, 9, 10, 11, 12, 13, 14, 15, 16], [0, 1, 2, 3, 4, 5, 6, 7, 8, 9, 10, 11, 12, 13, 14, 15, 16, 17]] tm rfl rfl rfl rfl ?_
    refine RD.op rfl rfl rfl (eff_load (y := .t _) rfl rfl ti4 rfl (.one rfl rfl rfl rfl)) ?_
    refine RD.op rfl rfl rfl (eff_unop rfl rfl rfl rfl) ?_
    refine mvD ?_
    refine RD.gop rfl rfl rfl rfl rfl rfl rfl (eff_load (y := .t _) rfl rfl ti32 rfl (.one rfl rfl rfl rfl)) ?_
    refine RD.gop rfl rfl rfl rfl rfl rfl rfl (eff_move (v := .t _) rfl rfl rfl) ?_
    refine RD.gop rfl rfl rfl rfl rfl rfl rfl (eff_indexM rfl rfl te32 rfl rfl rfl (by first | assumption | exact List.getElem?_eq_getElem (by omega)) rfl (by decide)) ?_
    refine RD.gop rfl rfl rfl rfl rfl rfl rfl (eff_fieldAddrT rfl rfl tf47_1 (by decide) rfl) ?_
    refine RD.gop rfl rfl rfl rfl rfl rfl rfl (eff_loadT1 rfl rfl ti3 rfl rfl) ?_
    refine RD.gop rfl rfl rfl rfl rfl rfl rfl (eff_iop (r := .bool true) rfl rfl rfl rfl (by simp [iop, hc1])) ?_
    refine RD.op rfl rfl rfl (eff_pick (v := .t _) rfl rfl rfl rfl) ?_
    refine mvD ?_
    refine RD.gop rfl rfl rfl rfl rfl rfl rfl (eff_load (y := .t _) rfl rfl ti32 rfl (.one rfl rfl rfl rfl)) ?_
    refine RD.gop rfl rfl rfl rfl rfl rfl rfl (eff_move (v := .t _) rfl rfl rfl) ?_
    refine RD.gop rfl rfl rfl rfl rfl rfl rfl (eff_indexM (i := i) rfl rfl te32 rfl rfl (by first | rfl | omega) (by first | assumption | exact List.getElem?_eq_getElem (by omega)) rfl (by decide)) ?_
    refine RD.gop rfl rfl rfl rfl rfl rfl rfl (eff_fieldAddrT rfl rfl tf47_4 (by decide) rfl) ?_
    refine RD.gop rfl rfl rfl rfl rfl rfl rfl (eff_loadT (ys := [_, _, _, _]) rfl rfl ti28 rfl rfl rfl) ?_
    refine RD.gop rfl rfl rfl rfl rfl rfl rfl (eff_load rfl rfl ti28 rfl (.whole rfl rfl rfl rfl rfl rfl)) ?_
    refine RD.gop rfl rfl rfl rfl rfl rfl rfl (eff_structEqlAB (cells := cellsD) (a := (l[i]'hi).dec) (b := d) (r := false) rfl rfl ts28s ti28 th28 cellsD_inj cellsD_kind rfl rfl (decide_eq_false (fun hd => by rw [isD_at hi, decide_eq_true ⟨hc1, hd⟩] at hn; cases hn))) ?_
    refine RD.op rfl rfl rfl (eff_pick (v := .t _) rfl rfl rfl rfl) ?_
    refine RD.nil ?_
    refine awj_cond rfl (fun h => nomatch h) (fun _ => ?_)
    refine awj_skip ?_
    exact ⟨Or.inl rfl, [], [], trivial, rfl, weak_keep ⟨rfl, rfl, rfl, rfl, rfl, rfl, rfl, rfl, trivial⟩ ⟨rfl, okE_one rfl, rfl, okE_one rfl, rfl, okE_one rfl, rfl, okE_one rfl, trivial⟩, rfl⟩
  · refine awj_rd [(some 8, []), (some 9, []), (some 10, []), (some 11, []), (some 12, []), (some 13, []), (some 14, []), (some 15, []), (some 16, []), (some 17, []), (some 18, []), (some 19, []), (some 20, []), (some 21, []), (some 22, []), (some 23, []), (some 24, []), (some 25, []), (some 26, [])] [[], [0], [0, 1], [0, 1, 2], [0, 1, 2], [0, 1, 2, 3, 4], [0, 1, 2, 3, 4, 5], [0, 1, 2, 3, 4, 5, 6], [0, 1, 2, 3, 4, 5, 6, 7], [0, 1, 2, 3, 4, 5, 6, 7, 8], [0, 1, 2, 3, 4, 5, 6, 7, 8, 9], [0, 1, 2, 3, 4, 5, 6, 7, 8, 9, 10], [0, 1, 2, 3, 4, 5, 6, 7, 8, 9, 10], [0, 1, 2, 3, 4, 5, 6, 7, 8, 9, 10, 11, 12], [0, 1, 2, 3, 4, 5, 6, 7, 8, 9, 10, 11, 12, 13], [0, 1, 2, 3, 4, 5, 6, 7, 8, 9, 10, 11, 12, 13, 14], [0, 1, 2, 3, 4, 5, 6, 7, 8, 9, 10], [0, 1, 2, 3, 4, 5, 6, 7, 8, 9, 10, 11, 12, 13, 14, 15, 16], [0, 1, 2, 3, 4, 5, 6, 7, 8, 9, 10, 11, 12, 13, 14, 15, 16, 17]] tm rfl rfl rfl rfl ?_
    refine RD.op rfl rfl rfl (eff_load (y := .t _) rfl rfl ti4 rfl (.one rfl rfl rfl rfl)) ?_
    refine RD.op rfl rfl rfl (eff_unop rfl rfl rfl rfl) ?_
    refine mvD ?_
    refine RD.gop rfl rfl rfl rfl rfl rfl rfl (eff_load (y := .t _) rfl rfl ti32 rfl (.one rfl rfl rfl rfl)) ?_
    refine RD.gop rfl rfl rfl rfl rfl rfl rfl (eff_move (v := .t _) rfl rfl rfl) ?_
    refine RD.gop rfl rfl rfl rfl rfl rfl rfl (eff_indexM rfl rfl te32 rfl rfl rfl (by first | assumption | exact List.getElem?_eq_getElem (by omega)) rfl (by decide)) ?_
    refine RD.gop rfl rfl rfl rfl rfl rfl rfl (eff_fieldAddrT rfl rfl tf47_1 (by decide) rfl) ?_
    refine RD.gop rfl rfl rfl rfl rfl rfl rfl (eff_loadT1 rfl rfl ti3 rfl rfl) ?_
    refine RD.gop rfl rfl rfl rfl rfl rfl rfl (eff_iop (r := .bool false) rfl rfl rfl rfl (by simp [iop, hc1])) ?_
    refine RD.op rfl rfl rfl (eff_pick (v := .t _) rfl rfl rfl rfl) ?_
    refine mvD ?_
    refine gkD ?_
    refine gkD ?_
    refine gkD ?_
    refine gkD ?_
    refine gkD ?_
    refine gkD ?_
    refine gkD ?_
    refine RD.op rfl rfl rfl (eff_pick (v := .t _) rfl rfl rfl rfl) ?_
    refine RD.nil ?_
    refine awj_cond rfl (fun h => nomatch h) (fun _ => ?_)
    refine awj_skip ?_
    exact ⟨Or.inl rfl, [], [], trivial, rfl, weak_keep ⟨rfl, rfl, rfl, rfl, rfl, rfl, rfl, rfl, trivial⟩ ⟨rfl, okE_one rfl, rfl, okE_one rfl, rfl, okE_one rfl, rfl, okE_one rfl, trivial⟩, rfl⟩

theorem dvis_y (l : List Rcd) (d : Dec) (i : Nat) (T : Twn) (ys : List Tr) (fl : Bool) (hi : i < l.length) (hl : l.length ≤ 1000000) (hn : isD l d i = true) (hT : T = (runTo l i).1) (hF : Fit 12 T) (hq : ∀ r, r ∈ l → 0 ≤ r.frame.seq ∧ r.frame.seq ≤ 1000000) (hd : -2000000 ≤ d.seq ∧ d.seq ≤ 2000000) : RetK Tryd.prog 65 [(1007, some ⟨1, 4, 0, [.t (.bool false)]⟩), (1002, some ⟨1, 32, 0, [.t (.sl (l.map encC) false)]⟩), (1003, some ⟨4, 28, 0, [.t (encD d)]⟩), (1006, some ⟨1, 33, 0, [.t (.sl ys fl)]⟩)] [.t (encI (i : Nat)), .t (encT T), .ptr 1007 0 0 0, .ptr 1002 0 0 0, .ptr 1003 0 0 0, .ptr 1006 0 0 0] [(1007, some ⟨1, 4, 0, [.t (.bool true)]⟩), (1002, some ⟨1, 32, 0, [.t (.sl (l.map encC) false)]⟩), (1003, some ⟨4, 28, 0, [.t (encD d)]⟩), (1006, some ⟨1, 33, 0, [.t (.sl ((rightsAt l d i).map encR) false)]⟩)] (.tup []) [(2, .ptr 1007 0 0 0), (3, .ptr 1002 0 0 0), (4, .ptr 1003 0 0 0), (5, .ptr 1006 0 0 0)] := by
  have hk3 : (l[i]'hi).kind = 3 ∧ (l[i]'hi).dec = d := by
    rw [isD_at hi] at hn; exact of_decide_eq_true hn
  refine retK_of_awj (kp := fun i => Nat.beq i 2 || Nat.beq i 3 || Nat.beq i 4 || Nat.beq i 5) Tryd.func65 rfl (Nat.le_of_ble_eq_true rfl) (by simp) ?_
  intro F0 w0
  refine awj_seq ?_
  refine awj_rj rfl ?_
  refine RJ.new rfl rfl (eff_boxK (v := .t _) (k := 2) (id := 7) rfl rfl rfl rfl rfl rfl) ?_
  refine RJ.nil ?_
  refine awj_seq ?_
  refine awj_rd [(some 8, []), (some 9, []), (some 10, []), (some 11, []), (some 12, []), (some 13, []), (some 14, []), (some 15, []), (some 16, []), (some 17, []), (some 18, []), (some 19, []), (some 20, []), (some 21, []), (some 22, []), (some 23, []), (some 24, []), (some 25, []), (some 26, [])] [[], [0], [0, 1], [0, 1, 2], [0, 1, 2], [0, 1, 2, 3, 4], [0, 1, 2, 3, 4, 5], [0, 1, 2, 3, 4, 5, 6], [0, 1, 2, 3, 4, 5, 6, 7], [0, 1, 2, 3, 4, 5, 6, 7, 8], [0, 1, 2, 3, 4, 5, 6, 7, 8, 9], [0, 1, 2, 3, 4, 5, 6, 7, 8, 9, 10], [0, 1, 2, 3, 4, 5, 6, 7, 8, 9, 10], [0, 1, 2, 3, 4, 5, 6, 7, 8, 9, 10, 11, 12], [0, 1, 2, 3, 4, 5, 6, 7, 8, 9, 10, 11, 12, 13], [0, 1, 2, 3, 4, 5, 6, 7, 8, 9, 10, 11, 12, 13, 14], [0, 1, 2, 3, 4, 5, 6, 7, 8, 9, 10], [0, 1, 2, 3, 4, 5, 6, 7, 8, 9, 10, 11, 12, 13, 14, 15, 16], [0, 1, 2, 3, 4, 5, 6, 7, 8, 9, 10, 11, 12, 13, 14, 15, 16, 17]] tm rfl rfl rfl rfl ?_
  refine RD.op rfl rfl rfl (eff_load (y := .t _) rfl rfl ti4 rfl (.one rfl rfl rfl rfl)) ?_
  refine RD.op rfl rfl rfl (eff_unop rfl rfl rfl rfl) ?_
  refine mvD ?_
  refine RD.gop rfl rfl rfl rfl rfl rfl rfl (eff_load (y := .t _) rfl rfl ti32 rfl (.one rfl rfl rfl rfl)) ?_
  refine RD.gop rfl rfl rfl rfl rfl rfl rfl (eff_move (v := .t _) rfl rfl rfl) ?_
  refine RD.gop rfl rfl rfl rfl rfl rfl rfl (eff_indexM rfl rfl te32 rfl rfl rfl (by first | assumption | exact List.getElem?_eq_getElem (by omega)) rfl (by decide)) ?_
  refine RD.gop rfl rfl rfl rfl rfl rfl rfl (eff_fieldAddrT rfl rfl tf47_1 (by decide) rfl) ?_
  refine RD.gop rfl rfl rfl rfl rfl rfl rfl (eff_loadT1 rfl rfl ti3 rfl rfl) ?_
  refine RD.gop rfl rfl rfl rfl rfl rfl rfl (eff_iop (r := .bool true) rfl rfl rfl rfl (by simp [iop, hk3.1])) ?_
  refine RD.op rfl rfl rfl (eff_pick (v := .t _) rfl rfl rfl rfl) ?_
  refine mvD ?_
  refine RD.gop rfl rfl rfl rfl rfl rfl rfl (eff_load (y := .t _) rfl rfl ti32 rfl (.one rfl rfl rfl rfl)) ?_
  refine RD.gop rfl rfl rfl rfl rfl rfl rfl (eff_move (v := .t _) rfl rfl rfl) ?_
  refine RD.gop rfl rfl rfl rfl rfl rfl rfl (eff_indexM (i := i) rfl rfl te32 rfl rfl (by first | rfl | omega) (by first | assumption | exact List.getElem?_eq_getElem (by omega)) rfl (by decide)) ?_
  refine RD.gop rfl rfl rfl rfl rfl rfl rfl (eff_fieldAddrT rfl rfl tf47_4 (by decide) rfl) ?_
  refine RD.gop rfl rfl rfl rfl rfl rfl rfl (eff_loadT (ys := [_, _, _, _]) rfl rfl ti28 rfl rfl rfl) ?_
  refine RD.gop rfl rfl rfl rfl rfl rfl rfl (eff_load rfl rfl ti28 rfl (.whole rfl rfl rfl rfl rfl rfl)) ?_
  refine RD.gop rfl rfl rfl rfl rfl rfl rfl (eff_structEqlAB (cells := cellsD) (a := (l[i]'hi).dec) (b := d) (r := true) rfl rfl ts28s ti28 th28 cellsD_inj cellsD_kind rfl rfl (decide_eq_true hk3.2)) ?_
  refine RD.op rfl rfl rfl (eff_pick (v := .t _) rfl rfl rfl rfl) ?_
  refine RD.nil ?_
  refine awj_cond rfl (fun _ => ?_) (fun h => nomatch h)
  refine awj_rd [(some 27, []), (some 28, []), (some 29, []), (some 30, []), (some 31, []), (some 32, []), (some 33, []), (none, [1007]), (none, [1006])] [[], [], [], [], [2, 3], [2, 3, 4], [0, 1, 2, 3, 4, 5], [0, 1, 2, 3, 4, 5, 6], [0, 1, 2, 3, 4, 5, 6, 7]] tm rfl rfl rfl rfl ?_
  refine RD.op rfl rfl rfl (eff_load rfl rfl ti64 rfl (.whole rfl rfl rfl rfl rfl rfl)) ?_
  refine RD.op rfl rfl rfl (eff_load rfl rfl ti28 rfl (.whole rfl rfl rfl rfl rfl rfl)) ?_
  refine RD.op rfl rfl rfl (eff_load (y := .t _) rfl rfl ti32 rfl (.one rfl rfl rfl rfl)) ?_
  refine mvD ?_
  refine RD.op rfl rfl rfl (eff_sliceM (g := encC) (l := none) (h := some i) (r := l.take i) rfl rfl te32 rfl (fun _ => rfl) .no (.yes rfl rfl) (Nat.zero_le _) (by simp; omega) (by simp)) ?_
  refine RD.op rfl rfl rfl (eff_callT (sent_ret (l.take i) (by rw [List.length_take]; omega) (fun r hr => hq r (List.mem_of_mem_take hr))) co41 rfl rfl rfl rfl) ?_
  refine RD.op rfl rfl rfl (eff_callT (rights_ret T d _ hF.hp (fun y hy => (hF.nx y hy).mono (by decide)) hd (by have := hF.len; omega)) co40 rfl rfl rfl rfl) ?_
  refine RD.store rfl rfl rfl (eff_storeW (v := .t _) (els := [_]) (els' := [_]) rfl rfl ti4 rfl rfl rfl rfl rfl rfl rfl rfl rfl) ?_
  refine RD.store rfl rfl rfl (eff_storeW (v := .t _) (els := [_]) (els' := [_]) rfl rfl ti33 rfl rfl rfl rfl rfl rfl rfl rfl rfl) ?_
  refine RD.nil ?_
  rw [show rightsAt l d i = rights T d (sentN (l.take i)) from by rw [hT]; rfl]
  exact ⟨Or.inl rfl, [], [], trivial, rfl, weak_keep ⟨rfl, rfl, rfl, rfl, rfl, rfl, rfl, rfl, trivial⟩ ⟨rfl, okE_one rfl, rfl, okE_one rfl, rfl, okE_one rfl, rfl, okE_one rfl, trivial⟩, rfl⟩

theorem dvis_ret (l : List Rcd) (d : Dec) (i : Nat) (T : Twn) (hi : i < l.length) (hl : l.length ≤ 1000000) (hT : T = (runTo l i).1) (hF : Fit 12 T) (hq : ∀ r, r ∈ l → 0 ≤ r.frame.seq ∧ r.frame.seq ≤ 1000000) (hf : form l i = 0) :
    RetK Tryd.prog 65 [(1007, some ⟨1, 4, 0, [.t (.bool (fdN l d i))]⟩), (1002, some ⟨1, 32, 0, [.t (.sl (l.map encC) false)]⟩), (1003, some ⟨4, 28, 0, [.t (encD d)]⟩), (1006, some ⟨1, 33, 0, [.t (.sl ((outN l d i).map encR) (!fdN l d i))]⟩)] [.t (encI (i : Nat)), .t (encT T), .ptr 1007 0 0 0, .ptr 1002 0 0 0, .ptr 1003 0 0 0, .ptr 1006 0 0 0] [(1007, some ⟨1, 4, 0, [.t (.bool (fdN l d (i + 1)))]⟩), (1002, some ⟨1, 32, 0, [.t (.sl (l.map encC) false)]⟩), (1003, some ⟨4, 28, 0, [.t (encD d)]⟩), (1006, some ⟨1, 33, 0, [.t (.sl ((outN l d (i + 1)).map encR) (!fdN l d (i + 1)))]⟩)] (.tup []) [(2, .ptr 1007 0 0 0), (3, .ptr 1002 0 0 0), (4, .ptr 1003 0 0 0), (5, .ptr 1006 0 0 0)] := by
  cases h : fdN l d i with
  | true =>
    obtain ⟨e1, e2⟩ := fd_old h
    rw [e1, e2]
    exact dvis_t l d i T _ _ hi hl
  | false =>
    cases hn : isD l d i with
    | false =>
      obtain ⟨e1, e2⟩ := fd_no h hn
      rw [e1, e2]
      exact dvis_n l d i T _ _ hi hl hn
    | true =>
      obtain ⟨e1, e2⟩ := fd_yes h hn
      rw [e1, e2]
      have hk3 : (l[i]'hi).kind = 3 ∧ (l[i]'hi).dec = d := by
        rw [isD_at hi] at hn; exact of_decide_eq_true hn
      have := form_dec hi hf hk3.1
      rw [hk3.2] at this
      exact dvis_y l d i T _ _ hi hl hn hT hF hq (by omega)

end Go.Tv.C36

end
section
open Go Go.Tv Go.Proofs
namespace Go.Tv.C36
set_option maxRecDepth 20000
set_option maxHeartbeats 2000000
set_option linter.unusedSimpArgs false
set_option linter.unusedVariables false
theorem replay65_ret (l : List Rcd) (d : Dec) (hO : OKL l) : RetKT Tryd.prog 38 [(1, deT)] [(1007, some ⟨1, 4, 0, [.t (.bool (fdN l d 0))]⟩), (1002, some ⟨1, 32, 0, [.t (.sl (l.map encC) false)]⟩), (1003, some ⟨4, 28, 0, [.t (encD d)]⟩), (1006, some ⟨1, 33, 0, [.t (.sl ((outN l d 0).map encR) (!fdN l d 0))]⟩)] [.t (.sl (l.map encC) false), .fn 65 [.ptr 1007 0 0 0, .ptr 1002 0 0 0, .ptr 1003 0 0 0, .ptr 1006 0 0 0]] [(1007, some ⟨1, 4, 0, [.t (.bool (fdN l d (nvis l)))]⟩), (1002, some ⟨1, 32, 0, [.t (.sl (l.map encC) false)]⟩), (1003, some ⟨4, 28, 0, [.t (encD d)]⟩), (1006, some ⟨1, 33, 0, [.t (.sl ((outN l d (nvis l)).map encR) (!fdN l d (nvis l)))]⟩)] (.tup [.t (encT (allOf l).1), .t (encI (allOf l).2)]) [(1, .fn 65 [.ptr 1007 0 0 0, .ptr 1002 0 0 0, .ptr 1003 0 0 0, .ptr 1006 0 0 0])] := by
  refine retKT_of_awj (kp := fun i => Nat.beq i 1) Tryd.func38 rfl (Nat.le_of_ble_eq_true rfl) (by simp) ?_
  intro F0 w0
  refine awj_seq ?_
  refine awj_rj rfl ?_
  refine RJ.new rfl rfl (eff_allocK (k := 2) (id := 4) rfl rfl tz64 rfl rfl) ?_
  refine RJ.op rfl rfl (eff_assign (v := .t _) rfl rfl rfl) ?_
  refine RJ.nil ?_
  refine awj_seq ?_
  refine awj_seq ?_
  refine awj_rj rfl ?_
  refine RJ.op rfl rfl (eff_move (v := .t _) rfl rfl rfl) ?_
  refine RJ.op rfl rfl (eff_lenM rfl rfl te32 rfl) ?_
  refine RJ.op rfl rfl (eff_iop rfl rfl rfl rfl rfl) ?_
  refine RJ.nil ?_
  refine awj_cond rfl (fun h1 => ?_) (fun h1 => ?_)
  · try simp only [cl] at h1
    refine awj_seq ?_
    refine awj_rj rfl ?_
    refine RJ.op rfl rfl (eff_buildT (ys := [_, _]) rfl rfl tz64 tg64 rfl) ?_
    refine RJ.store rfl rfl (eff_storeW (v := .t _) (els := [_]) (els' := [_]) rfl rfl ti64 rfl rfl rfl rfl rfl rfl rfl rfl rfl) ?_
    refine RJ.op rfl rfl (eff_assign (v := .t _) rfl rfl rfl) ?_
    refine RJ.nil ?_
    refine awj_ret ?_
    rw [all_lim h1, nvis_lim h1]
    exact ⟨Or.inr rfl, [_, _], [.t (encT zt), .t _], ⟨.cell rfl ti64 (.whole rfl rfl rfl rfl rfl rfl), .tmp rfl, trivial⟩, rfl, Weak.trans (weak_slot 0 (y := encT zt) rfl (by repeat' first | exact trivial | exact Wk.refl _ | exact Wk.sl _ | refine And.intro ?_ ?_ | refine Wk.tupP ?_ | refine Wk.aggP ?_)) (weak_keep ⟨rfl, rfl, rfl, rfl, rfl, rfl, trivial⟩ ⟨rfl, okE_one rfl, rfl, okE_one rfl, rfl, okE_one rfl, rfl, okE_one rfl, trivial⟩), rfl⟩
  · try simp only [cl] at h1
    refine awj_skip ?_
    refine awj_seq ?_
    refine awj_rj rfl ?_
    refine RJ.op rfl rfl (eff_callT (new17_ret) co61 rfl rfl rfl rfl) ?_
    refine RJ.new rfl rfl (eff_allocK (k := 2) (id := 6) rfl rfl tz64 rfl rfl) ?_
    refine RJ.store rfl rfl (eff_storeW (v := .t _) (els := [_]) (els' := [_]) rfl rfl ti64 rfl rfl rfl rfl rfl rfl rfl rfl rfl) ?_
    refine RJ.nil ?_
    refine awj_seq ?_
    refine awj_seq ?_
    refine awj_rj rfl ?_
    refine RJ.op rfl rfl (eff_move (v := .t _) rfl rfl rfl) ?_
    refine RJ.op rfl rfl (eff_lenM rfl rfl te32 rfl) ?_
    refine RJ.op rfl rfl (eff_move (v := .t _) rfl rfl rfl) ?_
    refine RJ.nil ?_
    refine awj_block ?_
    refine awj_loopW (fun m s g => ∃ (i : Nat) (T : Twn), (i ≤ l.length) ∧ (T = (runTo l i).1) ∧ ((runTo l i).2 = 0) ∧ m = l.length - i ∧ s = ⟨63, [(0, .t (.sl (l.map encC) false)), (1, .fn 65 [.ptr 1007 0 0 0, .ptr 1002 0 0 0, .ptr 1003 0 0 0, .ptr 1006 0 0 0]), (4, .ptr 4 0 0 0), (6, .ptr 6 0 0 0), (17, .t (.sl (l.map encC) false)), (18, .t (encI (l.length : Nat))), (19, .t (encI (i : Nat))), (64, .t deT)], [(4, some ⟨2, 64, 0, [.t z64]⟩), (6, some ⟨2, 64, 0, [.t (encT T)]⟩), (1007, some ⟨1, 4, 0, [.t (.bool (fdN l d i))]⟩), (1002, some ⟨1, 32, 0, [.t (.sl (l.map encC) false)]⟩), (1003, some ⟨4, 28, 0, [.t (encD d)]⟩), (1006, some ⟨1, 33, 0, [.t (.sl ((outN l d i).map encR) (!fdN l d i))]⟩)]⟩) (_) (⟨_, weak_keep (n := 63) (fr' := [(0, .t (.sl (l.map encC) false)), (1, .fn 65 [.ptr 1007 0 0 0, .ptr 1002 0 0 0, .ptr 1003 0 0 0, .ptr 1006 0 0 0]), (4, .ptr 4 0 0 0), (6, .ptr 6 0 0 0), (17, .t (.sl (l.map encC) false)), (18, .t (encI (l.length : Nat))), (19, .t (encI (0 : Nat))), (64, .t deT)]) (st' := [(4, some ⟨2, 64, 0, [.t z64]⟩), (6, some ⟨2, 64, 0, [.t (encT newT)]⟩), (1007, some ⟨1, 4, 0, [.t (.bool (fdN l d 0))]⟩), (1002, some ⟨1, 32, 0, [.t (.sl (l.map encC) false)]⟩), (1003, some ⟨4, 28, 0, [.t (encD d)]⟩), (1006, some ⟨1, 33, 0, [.t (.sl ((outN l d 0).map encR) (!fdN l d 0))]⟩)]) ⟨rfl, rfl, rfl, rfl, rfl, rfl, rfl, rfl, rfl, rfl, rfl, rfl, rfl, rfl, rfl, rfl, trivial⟩ ⟨rfl, okE_one rfl, rfl, okE_one rfl, rfl, okE_one rfl, rfl, okE_one rfl, rfl, okE_one rfl, rfl, okE_one rfl, trivial⟩, 0, newT, (by omega), (by rfl), (by rfl), rfl, rfl⟩) ?_
    rintro m s g ⟨i, T, hi, hT, hok, rfl, rfl⟩
    refine awj_seq ?_
    refine awj_rj rfl ?_
    refine RJ.op rfl rfl (eff_iop rfl rfl rfl rfl rfl) ?_
    refine RJ.nil ?_
    refine awj_seq ?_
    refine awj_cond rfl (fun h2 => ?_) (fun h2 => ?_)
    · try simp only [cl] at h2
      refine awj_skip ?_
      refine awj_seq ?_
      refine awj_block ?_
      refine awj_seq ?_
      refine awj_rj rfl ?_
      have hil : i < l.length := by omega
      have hFit := runTo_fit12 hO (by omega) hok
      rw [← hT] at hFit
      refine RJ.op rfl rfl (eff_move (v := .t _) rfl rfl rfl) ?_
      refine RJ.op rfl rfl (eff_indexM rfl rfl te32 rfl rfl rfl (by first | assumption | exact List.getElem?_eq_getElem (by omega)) rfl (by decide)) ?_
      refine RJ.op rfl rfl (eff_loadW rfl rfl ti47 rfl rfl rfl) ?_
      refine RJ.new rfl rfl (eff_allocK (k := 15) (id := 8) rfl rfl tz47 rfl rfl) ?_
      refine RJ.op rfl rfl (eff_assign (v := .t _) rfl rfl rfl) ?_
      refine RJ.store rfl rfl (eff_storeW (v := .t _) (els := [_]) (els' := [_]) rfl rfl ti47 rfl rfl rfl rfl rfl rfl rfl rfl rfl) ?_
      refine RJ.nil ?_
      refine awj_seq ?_
      refine awj_seq ?_
      refine awj_rj rfl ?_
      refine RJ.op rfl rfl (eff_move (v := .t _) rfl rfl rfl) ?_
      refine RJ.op rfl rfl (eff_move (v := .t _) rfl rfl rfl) ?_
      refine RJ.op rfl rfl (eff_callT (form_ret l i hil (by have := hO.len; omega)) co62 rfl rfl rfl rfl) ?_
      refine RJ.op rfl rfl (eff_assign (v := .t _) rfl rfl rfl) ?_
      refine RJ.nil ?_
      refine awj_seq ?_
      refine awj_rj rfl ?_
      refine RJ.op rfl rfl (eff_move (v := .t _) rfl rfl rfl) ?_
      refine RJ.op rfl rfl (eff_iop rfl rfl rfl rfl rfl) ?_
      refine RJ.nil ?_
      refine awj_cond rfl (fun h3 => ?_) (fun h3 => ?_)
      · try simp only [cl] at h3
        refine awj_seq ?_
        refine awj_rj rfl ?_
        refine RJ.op rfl rfl (eff_buildT (ys := [_, _]) rfl rfl tz64 tg64 rfl) ?_
        refine RJ.op rfl rfl (eff_move (v := .t _) rfl rfl rfl) ?_
        refine RJ.store rfl rfl (eff_storeW (v := .t _) (els := [_]) (els' := [_]) rfl rfl ti64 rfl rfl rfl rfl rfl rfl rfl rfl rfl) ?_
        refine RJ.op rfl rfl (eff_assign (v := .t _) rfl rfl rfl) ?_
        refine RJ.nil ?_
        refine awj_ret ?_
        have hfx : form l i ≠ 0 := by omega
        rw [all_bad h1 hil (run_form hok hfx) hfx, nvis_form h1 hil hok hfx]
        exact ⟨Or.inr rfl, [_, _], [.t (encT zt), .t _], ⟨.cell rfl ti64 (.whole rfl rfl rfl rfl rfl rfl), .tmp rfl, trivial⟩, rfl, Weak.trans (weak_slot 0 (y := encT zt) rfl (by repeat' first | exact trivial | exact Wk.refl _ | exact Wk.sl _ | refine And.intro ?_ ?_ | refine Wk.tupP ?_ | refine Wk.aggP ?_)) (weak_keep ⟨rfl, rfl, rfl, rfl, rfl, rfl, trivial⟩ ⟨rfl, okE_one rfl, rfl, okE_one rfl, rfl, okE_one rfl, rfl, okE_one rfl, trivial⟩), rfl⟩
      · try simp only [cl] at h3
        refine awj_skip ?_
        refine awj_seq ?_
        refine awj_rj rfl ?_
        have hfo : form l i = 0 := by omega
        refine RJ.op rfl rfl (eff_move (v := .fn _ _) rfl rfl rfl) ?_
        refine RJ.op rfl rfl (eff_move (v := .t _) rfl rfl rfl) ?_
        refine RJ.op rfl rfl (eff_load rfl rfl ti64 rfl (.whole rfl rfl rfl rfl rfl rfl)) ?_
        refine RJ.new4 rfl rfl (eff_callKF (dvis_ret l d i T hil (by have := hO.len; omega) hT hFit hO.seq hfo) co65 (fun id => id) rfl rfl rfl ⟨.t _, .t _, .ptr _ _ _ _ rfl rfl, .ptr _ _ _ _ rfl rfl, .ptr _ _ _ _ rfl rfl, .ptr _ _ _ _ rfl rfl, trivial⟩ (.tup _ _ rfl (fun i c d h _ => by simp at h)) rfl ⟨⟨rfl, self_one, ⟨_, rfl, .inr ⟨rfl, rfl, rfl, rfl, 2, rfl, (by simp)⟩⟩⟩, ⟨rfl, self_one, ⟨_, rfl, .inr ⟨rfl, rfl, rfl, rfl, 3, rfl, (by simp)⟩⟩⟩, ⟨rfl, self_one, ⟨_, rfl, .inr ⟨rfl, rfl, rfl, rfl, 4, rfl, (by simp)⟩⟩⟩, ⟨rfl, self_one, ⟨_, rfl, .inr ⟨rfl, rfl, rfl, rfl, 5, rfl, (by simp)⟩⟩⟩, trivial⟩ ⟨⟨self_one, .inl rfl⟩, ⟨self_one, .inl rfl⟩, ⟨self_one, .inl rfl⟩, ⟨self_one, .inl rfl⟩, trivial⟩) ?_
        refine RJ.nil ?_
        refine awj_seq ?_
        refine awj_rj rfl ?_
        refine RJ.op rfl rfl (eff_assign (v := .t _) rfl rfl rfl) ?_
        refine RJ.nil ?_
        refine awj_seq ?_
        refine awj_rj rfl ?_
        refine RJ.op rfl rfl (eff_load rfl rfl ti64 rfl (.whole rfl rfl rfl rfl rfl rfl)) ?_
        refine RJ.new rfl rfl (eff_allocK (k := 2) (id := 11) rfl rfl tz64 rfl rfl) ?_
        refine RJ.store rfl rfl (eff_storeW (v := .t _) (els := [_]) (els' := [_]) rfl rfl ti64 rfl rfl rfl rfl rfl rfl rfl rfl rfl) ?_
        refine RJ.nil ?_
        refine awj_seq ?_
        refine awj_seq ?_
        refine awj_rj rfl ?_
        refine RJ.op rfl rfl (eff_fieldAddr rfl rfl tf47_1 (by decide) rfl rfl rfl (Nat.le_of_ble_eq_true rfl)) ?_
        refine RJ.op rfl rfl (eff_load (y := .t _) rfl rfl ti3 rfl (.one rfl rfl rfl rfl)) ?_
        refine RJ.nil ?_
        refine awj_block ?_
        refine awj_seq ?_
        refine awj_rj rfl ?_
        refine RJ.op rfl rfl (eff_iop rfl rfl rfl rfl rfl) ?_
        refine RJ.op rfl rfl (eff_assign (v := .t _) rfl rfl rfl) ?_
        refine RJ.nil ?_
        refine awj_cond rfl (fun h4 => ?_) (fun h4 => ?_)
        · try simp only [cl] at h4
          refine awj_rj rfl ?_
          refine RJ.op rfl rfl (eff_load rfl rfl ti64 rfl (.whole rfl rfl rfl rfl rfl rfl)) ?_
          refine RJ.op rfl rfl (eff_fieldAddr rfl rfl tf47_2 (by decide) rfl rfl rfl (Nat.le_of_ble_eq_true rfl)) ?_
          refine RJ.op rfl rfl (eff_loadS (ys := [_, _, _, _, _]) rfl rfl ti45 rfl rfl rfl rfl rfl rfl) ?_
          refine RJ.op rfl rfl (eff_callXT (tsend_ret T _ hFit.srt hFit.hp (by have := hFit.len; omega) (by have := hFit.sl; omega) hFit.bod (hO.bod _ (List.getElem_mem hil))) co63 rfl rfl rfl ⟨rfl, trivial⟩ rfl) ?_
          refine RJ.op rfl rfl (eff_move (v := .t _) rfl rfl rfl) ?_
          refine RJ.op rfl rfl (eff_extract rfl rfl rfl rfl) ?_
          refine RJ.op rfl rfl (eff_extract rfl rfl rfl rfl) ?_
          refine RJ.store rfl rfl (eff_storeW (v := .t _) (els := [_]) (els' := [_]) rfl rfl ti64 rfl rfl rfl rfl rfl rfl rfl rfl rfl) ?_
          refine RJ.op rfl rfl (eff_assign (v := .t _) rfl rfl rfl) ?_
          refine RJ.nil ?_
          refine awj_seq ?_
          refine awj_seq ?_
          refine awj_rj rfl ?_
          refine RJ.op rfl rfl (eff_move (v := .t _) rfl rfl rfl) ?_
          refine RJ.op rfl rfl (eff_iop rfl rfl rfl rfl rfl) ?_
          refine RJ.nil ?_
          refine awj_cond rfl (fun h5 => ?_) (fun h5 => ?_)
          · try simp only [cl] at h5
            refine awj_seq ?_
            refine awj_rj rfl ?_
            refine RJ.op rfl rfl (eff_buildT (ys := [_, _]) rfl rfl tz64 tg64 rfl) ?_
            refine RJ.op rfl rfl (eff_move (v := .t _) rfl rfl rfl) ?_
            refine RJ.store rfl rfl (eff_storeW (v := .t _) (els := [_]) (els' := [_]) rfl rfl ti64 rfl rfl rfl rfl rfl rfl rfl rfl rfl) ?_
            refine RJ.op rfl rfl (eff_assign (v := .t _) rfl rfl rfl) ?_
            refine RJ.nil ?_
            refine awj_ret ?_
            have hrb := bad_send hil hT hok hfo (by omega) (by omega)
            rw [all_bad h1 hil hrb (by omega), nvis_bad h1 hil hok hfo hrb (by omega)]
            exact ⟨Or.inr rfl, [_, _], [.t (encT zt), .t _], ⟨.cell rfl ti64 (.whole rfl rfl rfl rfl rfl rfl), .tmp rfl, trivial⟩, rfl, Weak.trans (weak_slot 0 (y := encT zt) rfl (by repeat' first | exact trivial | exact Wk.refl _ | exact Wk.sl _ | refine And.intro ?_ ?_ | refine Wk.tupP ?_ | refine Wk.aggP ?_)) (weak_keep ⟨rfl, rfl, rfl, rfl, rfl, rfl, trivial⟩ ⟨rfl, okE_one rfl, rfl, okE_one rfl, rfl, okE_one rfl, rfl, okE_one rfl, trivial⟩), rfl⟩
          · try simp only [cl] at h5
            refine awj_skip ?_
            refine awj_rj rfl ?_
            refine RJ.op rfl rfl (eff_load rfl rfl ti64 rfl (.whole rfl rfl rfl rfl rfl rfl)) ?_
            refine RJ.store rfl rfl (eff_storeW (v := .t _) (els := [_]) (els' := [_]) rfl rfl ti64 rfl rfl rfl rfl rfl rfl rfl rfl rfl) ?_
            refine RJ.nil ?_
            refine awj_rj rfl ?_
            refine RJ.op rfl rfl (eff_iop rfl rfl rfl rfl (iadd (by omega))) ?_
            refine RJ.op rfl rfl (eff_move (v := .t _) rfl rfl rfl) ?_
            refine RJ.nil ?_
            refine ⟨_, ?_, _, weak_keep (n := 63) (fr' := [(0, .t (.sl (l.map encC) false)), (1, .fn 65 [.ptr 1007 0 0 0, .ptr 1002 0 0 0, .ptr 1003 0 0 0, .ptr 1006 0 0 0]), (4, .ptr 4 0 0 0), (6, .ptr 6 0 0 0), (17, .t (.sl (l.map encC) false)), (18, .t (encI (l.length : Nat))), (19, .t (encI ((i + 1) : Nat))), (64, .t deT)]) (st' := [(4, some ⟨2, 64, 0, [.t z64]⟩), (6, some ⟨2, 64, 0, [.t (encT _)]⟩), (1007, some ⟨1, 4, 0, [.t (.bool (fdN l d (i + 1)))]⟩), (1002, some ⟨1, 32, 0, [.t (.sl (l.map encC) false)]⟩), (1003, some ⟨4, 28, 0, [.t (encD d)]⟩), (1006, some ⟨1, 33, 0, [.t (.sl ((outN l d (i + 1)).map encR) (!fdN l d (i + 1)))]⟩)]) ⟨rfl, rfl, rfl, rfl, rfl, rfl, rfl, rfl, rfl, rfl, rfl, rfl, rfl, rfl, rfl, rfl, trivial⟩ ⟨rfl, okE_one rfl, rfl, okE_one rfl, rfl, okE_one rfl, rfl, okE_one rfl, rfl, okE_one rfl, rfl, okE_one rfl, trivial⟩, i + 1, _, (by omega), (by first | rw [run_send hil hT hok hfo (by omega) (by omega)] | rw [run_hear hil hT hok hfo (by omega) (by omega)] | rw [run_dec hil hT hok hfo (by omega) (by omega)]), (by first | rw [run_send hil hT hok hfo (by omega) (by omega)] | rw [run_hear hil hT hok hfo (by omega) (by omega)] | rw [run_dec hil hT hok hfo (by omega) (by omega)]), rfl, rfl⟩
            omega
        · try simp only [cl] at h4
          refine awj_seq ?_
          refine awj_rj rfl ?_
          refine RJ.op rfl rfl (eff_iop rfl rfl rfl rfl rfl) ?_
          refine RJ.op rfl rfl (eff_assign (v := .t _) rfl rfl rfl) ?_
          refine RJ.nil ?_
          refine awj_cond rfl (fun h6 => ?_) (fun h6 => ?_)
          · try simp only [cl] at h6
            refine awj_rj rfl ?_
            refine RJ.op rfl rfl (eff_load rfl rfl ti64 rfl (.whole rfl rfl rfl rfl rfl rfl)) ?_
            refine RJ.op rfl rfl (eff_fieldAddr rfl rfl tf47_3 (by decide) rfl rfl rfl (Nat.le_of_ble_eq_true rfl)) ?_
            refine RJ.op rfl rfl (eff_loadS (ys := [_, _, _, _]) rfl rfl ti23 rfl rfl rfl rfl rfl rfl) ?_
            refine RJ.op rfl rfl (eff_callXT (thear_ret T _ (hO.hp _ (List.getElem_mem hil)) (by have := hFit.len; omega) (by have := hFit.sl; omega) hFit.bod) co64 rfl rfl rfl ⟨rfl, trivial⟩ rfl) ?_
            refine RJ.op rfl rfl (eff_move (v := .t _) rfl rfl rfl) ?_
            refine RJ.op rfl rfl (eff_extract rfl rfl rfl rfl) ?_
            refine RJ.op rfl rfl (eff_extract rfl rfl rfl rfl) ?_
            refine RJ.store rfl rfl (eff_storeW (v := .t _) (els := [_]) (els' := [_]) rfl rfl ti64 rfl rfl rfl rfl rfl rfl rfl rfl rfl) ?_
            refine RJ.op rfl rfl (eff_assign (v := .t _) rfl rfl rfl) ?_
            refine RJ.nil ?_
            refine awj_seq ?_
            refine awj_seq ?_
            refine awj_rj rfl ?_
            refine RJ.op rfl rfl (eff_move (v := .t _) rfl rfl rfl) ?_
            refine RJ.op rfl rfl (eff_iop rfl rfl rfl rfl rfl) ?_
            refine RJ.nil ?_
            refine awj_cond rfl (fun h7 => ?_) (fun h7 => ?_)
            · try simp only [cl] at h7
              refine awj_seq ?_
              refine awj_rj rfl ?_
              refine RJ.op rfl rfl (eff_buildT (ys := [_, _]) rfl rfl tz64 tg64 rfl) ?_
              refine RJ.op rfl rfl (eff_move (v := .t _) rfl rfl rfl) ?_
              refine RJ.store rfl rfl (eff_storeW (v := .t _) (els := [_]) (els' := [_]) rfl rfl ti64 rfl rfl rfl rfl rfl rfl rfl rfl rfl) ?_
              refine RJ.op rfl rfl (eff_assign (v := .t _) rfl rfl rfl) ?_
              refine RJ.nil ?_
              refine awj_ret ?_
              have hrb := bad_hear hil hT hok hfo (by omega) (by omega)
              rw [all_bad h1 hil hrb (by omega), nvis_bad h1 hil hok hfo hrb (by omega)]
              exact ⟨Or.inr rfl, [_, _], [.t (encT zt), .t _], ⟨.cell rfl ti64 (.whole rfl rfl rfl rfl rfl rfl), .tmp rfl, trivial⟩, rfl, Weak.trans (weak_slot 0 (y := encT zt) rfl (by repeat' first | exact trivial | exact Wk.refl _ | exact Wk.sl _ | refine And.intro ?_ ?_ | refine Wk.tupP ?_ | refine Wk.aggP ?_)) (weak_keep ⟨rfl, rfl, rfl, rfl, rfl, rfl, trivial⟩ ⟨rfl, okE_one rfl, rfl, okE_one rfl, rfl, okE_one rfl, rfl, okE_one rfl, trivial⟩), rfl⟩
            · try simp only [cl] at h7
              refine awj_skip ?_
              refine awj_rj rfl ?_
              refine RJ.op rfl rfl (eff_load rfl rfl ti64 rfl (.whole rfl rfl rfl rfl rfl rfl)) ?_
              refine RJ.store rfl rfl (eff_storeW (v := .t _) (els := [_]) (els' := [_]) rfl rfl ti64 rfl rfl rfl rfl rfl rfl rfl rfl rfl) ?_
              refine RJ.nil ?_
              refine awj_rj rfl ?_
              refine RJ.op rfl rfl (eff_iop rfl rfl rfl rfl (iadd (by omega))) ?_
              refine RJ.op rfl rfl (eff_move (v := .t _) rfl rfl rfl) ?_
              refine RJ.nil ?_
              refine ⟨_, ?_, _, weak_keep (n := 63) (fr' := [(0, .t (.sl (l.map encC) false)), (1, .fn 65 [.ptr 1007 0 0 0, .ptr 1002 0 0 0, .ptr 1003 0 0 0, .ptr 1006 0 0 0]), (4, .ptr 4 0 0 0), (6, .ptr 6 0 0 0), (17, .t (.sl (l.map encC) false)), (18, .t (encI (l.length : Nat))), (19, .t (encI ((i + 1) : Nat))), (64, .t deT)]) (st' := [(4, some ⟨2, 64, 0, [.t z64]⟩), (6, some ⟨2, 64, 0, [.t (encT _)]⟩), (1007, some ⟨1, 4, 0, [.t (.bool (fdN l d (i + 1)))]⟩), (1002, some ⟨1, 32, 0, [.t (.sl (l.map encC) false)]⟩), (1003, some ⟨4, 28, 0, [.t (encD d)]⟩), (1006, some ⟨1, 33, 0, [.t (.sl ((outN l d (i + 1)).map encR) (!fdN l d (i + 1)))]⟩)]) ⟨rfl, rfl, rfl, rfl, rfl, rfl, rfl, rfl, rfl, rfl, rfl, rfl, rfl, rfl, rfl, rfl, trivial⟩ ⟨rfl, okE_one rfl, rfl, okE_one rfl, rfl, okE_one rfl, rfl, okE_one rfl, rfl, okE_one rfl, rfl, okE_one rfl, trivial⟩, i + 1, _, (by omega), (by first | rw [run_send hil hT hok hfo (by omega) (by omega)] | rw [run_hear hil hT hok hfo (by omega) (by omega)] | rw [run_dec hil hT hok hfo (by omega) (by omega)]), (by first | rw [run_send hil hT hok hfo (by omega) (by omega)] | rw [run_hear hil hT hok hfo (by omega) (by omega)] | rw [run_dec hil hT hok hfo (by omega) (by omega)]), rfl, rfl⟩
              omega
          · try simp only [cl] at h6
            refine awj_skip ?_
            refine awj_seq ?_
            refine awj_seq ?_
            refine awj_rj rfl ?_
            refine RJ.op rfl rfl (eff_move (v := .t _) rfl rfl rfl) ?_
            refine RJ.op rfl rfl (eff_iop rfl rfl rfl rfl rfl) ?_
            refine RJ.nil ?_
            refine awj_cond rfl (fun h8 => ?_) (fun h8 => ?_)
            · try simp only [cl] at h8
              refine awj_seq ?_
              refine awj_rj rfl ?_
              refine RJ.op rfl rfl (eff_buildT (ys := [_, _]) rfl rfl tz64 tg64 rfl) ?_
              refine RJ.op rfl rfl (eff_move (v := .t _) rfl rfl rfl) ?_
              refine RJ.store rfl rfl (eff_storeW (v := .t _) (els := [_]) (els' := [_]) rfl rfl ti64 rfl rfl rfl rfl rfl rfl rfl rfl rfl) ?_
              refine RJ.op rfl rfl (eff_assign (v := .t _) rfl rfl rfl) ?_
              refine RJ.nil ?_
              refine awj_ret ?_
              exact absurd trivial ‹¬ True›
            · try simp only [cl] at h8
              refine awj_skip ?_
              refine awj_rj rfl ?_
              refine RJ.op rfl rfl (eff_load rfl rfl ti64 rfl (.whole rfl rfl rfl rfl rfl rfl)) ?_
              refine RJ.store rfl rfl (eff_storeW (v := .t _) (els := [_]) (els' := [_]) rfl rfl ti64 rfl rfl rfl rfl rfl rfl rfl rfl rfl) ?_
              refine RJ.nil ?_
              refine awj_rj rfl ?_
              refine RJ.op rfl rfl (eff_iop rfl rfl rfl rfl (iadd (by omega))) ?_
              refine RJ.op rfl rfl (eff_move (v := .t _) rfl rfl rfl) ?_
              refine RJ.nil ?_
              refine ⟨_, ?_, _, weak_keep (n := 63) (fr' := [(0, .t (.sl (l.map encC) false)), (1, .fn 65 [.ptr 1007 0 0 0, .ptr 1002 0 0 0, .ptr 1003 0 0 0, .ptr 1006 0 0 0]), (4, .ptr 4 0 0 0), (6, .ptr 6 0 0 0), (17, .t (.sl (l.map encC) false)), (18, .t (encI (l.length : Nat))), (19, .t (encI ((i + 1) : Nat))), (64, .t deT)]) (st' := [(4, some ⟨2, 64, 0, [.t z64]⟩), (6, some ⟨2, 64, 0, [.t (encT _)]⟩), (1007, some ⟨1, 4, 0, [.t (.bool (fdN l d (i + 1)))]⟩), (1002, some ⟨1, 32, 0, [.t (.sl (l.map encC) false)]⟩), (1003, some ⟨4, 28, 0, [.t (encD d)]⟩), (1006, some ⟨1, 33, 0, [.t (.sl ((outN l d (i + 1)).map encR) (!fdN l d (i + 1)))]⟩)]) ⟨rfl, rfl, rfl, rfl, rfl, rfl, rfl, rfl, rfl, rfl, rfl, rfl, rfl, rfl, rfl, rfl, trivial⟩ ⟨rfl, okE_one rfl, rfl, okE_one rfl, rfl, okE_one rfl, rfl, okE_one rfl, rfl, okE_one rfl, rfl, okE_one rfl, trivial⟩, i + 1, _, (by omega), (by first | rw [run_send hil hT hok hfo (by omega) (by omega)] | rw [run_hear hil hT hok hfo (by omega) (by omega)] | rw [run_dec hil hT hok hfo (by omega) (by omega)]), (by first | rw [run_send hil hT hok hfo (by omega) (by omega)] | rw [run_hear hil hT hok hfo (by omega) (by omega)] | rw [run_dec hil hT hok hfo (by omega) (by omega)]), rfl, rfl⟩
              omega
    · try simp only [cl] at h2
      refine awj_exit ?_
      refine awj_seq ?_
      refine awj_rj rfl ?_
      refine RJ.op rfl rfl (eff_load rfl rfl ti64 rfl (.whole rfl rfl rfl rfl rfl rfl)) ?_
      refine RJ.store rfl rfl (eff_storeW (v := .t _) (els := [_]) (els' := [_]) rfl rfl ti64 rfl rfl rfl rfl rfl rfl rfl rfl rfl) ?_
      refine RJ.op rfl rfl (eff_assign (v := .t _) rfl rfl rfl) ?_
      refine RJ.nil ?_
      refine awj_ret ?_
      have hi2 : i = l.length := by omega
      subst hi2
      rw [all_ok h1 hok, nvis_ok h1 hok, ← hT]
      exact ⟨Or.inr rfl, [_, _], [.t (encT T), .t _], ⟨.cell rfl ti64 (.whole rfl rfl rfl rfl rfl rfl), .tmp rfl, trivial⟩, rfl, Weak.trans (weak_slot 0 (y := encT T) rfl (by repeat' first | exact trivial | exact Wk.refl _ | exact Wk.sl _ | refine And.intro ?_ ?_ | refine Wk.tupP ?_ | refine Wk.aggP ?_)) (weak_keep ⟨rfl, rfl, rfl, rfl, rfl, rfl, trivial⟩ ⟨rfl, okE_one rfl, rfl, okE_one rfl, rfl, okE_one rfl, rfl, okE_one rfl, trivial⟩), rfl⟩

end Go.Tv.C36

end
section
open Go Go.Tv Go.Proofs
namespace Go.Tv.C36
set_option maxRecDepth 20000
set_option maxHeartbeats 2000000
set_option linter.unusedSimpArgs false
set_option linter.unusedVariables false
theorem len0 (R : List Rep) : ((R.length : Int) == 0) = decide (R = []) := by
  cases R with
  | nil => rfl
  | cons a R => simp; omega

theorem defence_ret (l : List Rcd) (d : Dec) (hO : OKL l) : RetT Tryd.prog 43 [(1, deT)] [.sl (l.map encC) false, encD d] (.tup [.sl ((defence l d).1.map encR) false, encI (defence l d).2]) := by
  refine retT_of_awp Tryd.func43 rfl (Nat.le_of_ble_eq_true rfl) ?_
  refine awp_seq ?_
  refine awp_rw rfl ?_
  refine RW.new rfl rfl (eff_boxK (v := .t _) (k := 1) (id := 2) rfl rfl rfl rfl rfl rfl) ?_
  refine RW.new rfl rfl (eff_boxK (v := .t _) (k := 4) (id := 3) rfl rfl rfl rfl rfl rfl) ?_
  refine asT ?_
  refine asT ?_
  refine RW.nil ?_
  refine awp_seq ?_
  refine awp_rw rfl ?_
  refine RW.new rfl rfl (eff_allocK (k := 1) (id := 6) rfl rfl tz33 rfl rfl) ?_
  refine RW.nil ?_
  refine awp_seq ?_
  refine awp_rw rfl ?_
  refine RW.new rfl rfl (eff_allocK (k := 1) (id := 7) rfl rfl tz4 rfl rfl) ?_
  refine RW.store rfl rfl (eff_storeW (v := .t _) (els := [_]) (els' := [_]) rfl rfl ti4 rfl rfl rfl rfl rfl rfl rfl rfl rfl) ?_
  refine RW.nil ?_
  refine awp_seq ?_
  refine awp_rw rfl ?_
  refine l1T ti32 rfl rfl rfl rfl rfl (.one rfl rfl rfl rfl) ?_
  refine RW.op rfl rfl (eff_makeFunc rfl rfl rfl rfl) ?_
  refine RW.new4 rfl rfl (eff_callKT (r' := .tup [.t _, .t _]) (replay65_ret l d hO) co38 (fun id => id - 1000) rfl rfl rfl ⟨rfl, trivial⟩ ⟨.t _, .fnL ⟨.ptr _ _ _ _ rfl rfl, .ptr _ _ _ _ rfl rfl, .ptr _ _ _ _ rfl rfl, .ptr _ _ _ _ rfl rfl, trivial⟩, trivial⟩ (.tupL ⟨.t _, .t _, trivial⟩) rfl ⟨⟨rfl, self_one, ⟨_, rfl, .inr ⟨rfl, rfl, rfl, rfl, 1, _, rfl, List.mem_singleton.2 rfl, .inr ⟨_, _, 0, rfl, rfl⟩⟩⟩⟩, ⟨rfl, self_one, ⟨_, rfl, .inr ⟨rfl, rfl, rfl, rfl, 1, _, rfl, List.mem_singleton.2 rfl, .inr ⟨_, _, 1, rfl, rfl⟩⟩⟩⟩, ⟨rfl, self_one, ⟨_, rfl, .inr ⟨rfl, rfl, rfl, rfl, 1, _, rfl, List.mem_singleton.2 rfl, .inr ⟨_, _, 2, rfl, rfl⟩⟩⟩⟩, ⟨rfl, self_one, ⟨_, rfl, .inr ⟨rfl, rfl, rfl, rfl, 1, _, rfl, List.mem_singleton.2 rfl, .inr ⟨_, _, 3, rfl, rfl⟩⟩⟩⟩, trivial⟩ ⟨⟨self_one, .inl rfl⟩, ⟨self_one, .inl rfl⟩, ⟨self_one, .inl rfl⟩, ⟨self_one, .inl rfl⟩, trivial⟩) ?_
  refine RW.op rfl rfl (eff_move (v := .tup _) rfl rfl rfl) ?_
  refine RW.op rfl rfl (eff_extractA rfl rfl rfl rfl) ?_
  refine RW.op rfl rfl (eff_extractA rfl rfl rfl rfl) ?_
  refine RW.new rfl rfl (eff_allocK (k := 2) (id := 8) rfl rfl tz64 rfl rfl) ?_
  refine RW.store rfl rfl (eff_storeW (v := .t _) (els := [_]) (els' := [_]) rfl rfl ti64 rfl rfl rfl rfl rfl rfl rfl rfl rfl) ?_
  refine asT ?_
  refine RW.nil ?_
  refine awp_seq ?_
  refine awp_block ?_
  refine awp_seq ?_
  refine awp_rw rfl ?_
  refine mvT ?_
  refine ioT ?_
  refine asT ?_
  refine RW.nil ?_
  refine awp_cond rfl (fun h1 => ?_) (fun h1 => ?_)
  · try simp only [cl] at h1
    refine awp_seq ?_
    refine awp_rw rfl ?_
    refine mvT ?_
    refine asT ?_
    refine asT ?_
    refine RW.nil ?_
    refine awp_ret ?_
    rw [defence_bad (all_zt h1) h1]
    exact ⟨Or.inr rfl, [_, _], ⟨.tmp (.t _), .tmp (.t _), trivial⟩, (by repeat' first | exact trivial | exact Wk.refl _ | exact Wk.sl _ | refine And.intro ?_ ?_ | refine Wk.tupP ?_ | refine Wk.aggP ?_)⟩
  · try simp only [cl] at h1
    refine awp_seq ?_
    refine awp_rw rfl ?_
    refine l1T ti4 rfl rfl rfl rfl rfl (.one rfl rfl rfl rfl) ?_
    refine RW.op rfl rfl (eff_unop rfl rfl rfl rfl) ?_
    refine asT ?_
    refine RW.nil ?_
    refine awp_cond rfl (fun h2 => ?_) (fun h2 => ?_)
    · try simp only [cl] at h2
      refine awp_seq ?_
      refine awp_rw rfl ?_
      refine asT ?_
      refine asT ?_
      refine RW.nil ?_
      refine awp_ret ?_
      rw [defence_none (by omega) (by first | assumption | simpa using h2)]
      exact ⟨Or.inr rfl, [_, _], ⟨.tmp (.t _), .tmp (.t _), trivial⟩, (by repeat' first | exact trivial | exact Wk.refl _ | exact Wk.sl _ | refine And.intro ?_ ?_ | refine Wk.tupP ?_ | refine Wk.aggP ?_)⟩
    · try simp only [cl] at h2
      refine awp_skip ?_
      refine awp_seq ?_
      refine awp_rw rfl ?_
      refine l1T ti33 rfl rfl rfl rfl rfl (.one rfl rfl rfl rfl) ?_
      refine asT ?_
      refine asT ?_
      refine RW.nil ?_
      refine awp_ret ?_
      rw [defence_some (by omega) (by first | assumption | simpa using h2)]
      exact ⟨Or.inr rfl, [_, _], ⟨.tmp (.t _), .tmp (.t _), trivial⟩, (by repeat' first | exact trivial | exact Wk.refl _ | exact Wk.sl _ | (rw [h2]; exact Wk.refl _) | refine And.intro ?_ ?_ | refine Wk.tupP ?_ | refine Wk.aggP ?_)⟩

theorem judge_ret (l : List Rcd) (d : Dec) (hO : OKL l) : RetT Tryd.prog 22 [(1, deT)] [.sl (l.map encC) false, encD d] (.tup [encV (judge l d).1, encI (judge l d).2]) := by
  refine retT_of_awp Tryd.func22 rfl (Nat.le_of_ble_eq_true rfl) ?_
  refine awp_seq ?_
  refine awp_rw rfl ?_
  refine RW.new rfl rfl (eff_boxK (v := .t _) (k := 4) (id := 3) rfl rfl rfl rfl rfl rfl) ?_
  refine RW.new rfl rfl (eff_allocK (k := 5) (id := 4) rfl rfl tz49 rfl rfl) ?_
  refine asT ?_
  refine RW.nil ?_
  refine awp_seq ?_
  refine awp_rw rfl ?_
  refine mvT ?_
  refine RW.op rfl rfl (eff_load rfl rfl ti28 rfl (.whole rfl rfl rfl rfl rfl rfl)) ?_
  refine RW.op rfl rfl (eff_callXT (defence_ret l d hO) co43 rfl rfl rfl ⟨rfl, trivial⟩ rfl) ?_
  refine mvT ?_
  refine RW.op rfl rfl (eff_extract rfl rfl rfl rfl) ?_
  refine RW.op rfl rfl (eff_extract rfl rfl rfl rfl) ?_
  refine asT ?_
  refine asT ?_
  refine RW.nil ?_
  refine awp_seq ?_
  refine awp_seq ?_
  refine awp_rw rfl ?_
  refine mvT ?_
  refine ioT ?_
  refine RW.nil ?_
  refine awp_cond rfl (fun h1 => ?_) (fun h1 => ?_)
  · try simp only [cl] at h1
    refine awp_seq ?_
    refine awp_rw rfl ?_
    refine RW.op rfl rfl (eff_buildT (ys := [_, _, _, _, _]) rfl rfl tz49 tg49 rfl) ?_
    refine mvT ?_
    refine RW.store rfl rfl (eff_storeW (v := .t _) (els := [_]) (els' := [_]) rfl rfl ti49 rfl rfl rfl rfl rfl rfl rfl rfl rfl) ?_
    refine asT ?_
    refine RW.nil ?_
    refine awp_ret ?_
    rw [judge_err h1]
    exact ⟨Or.inr rfl, [_, _], ⟨.cell rfl ti49 (.whole rfl rfl rfl rfl rfl rfl) (.t _), .tmp (.t _), trivial⟩, .refl _⟩
  · try simp only [cl] at h1
    refine awp_skip ?_
    refine awp_seq ?_
    refine awp_seq ?_
    refine awp_rw rfl ?_
    have hdl := defence_len hO d
    refine mvT ?_
    refine RW.op rfl rfl (eff_lenM rfl rfl te33 rfl) ?_
    refine ioT ?_
    refine RW.nil ?_
    refine awp_cond rfl (fun h2 => ?_) (fun h2 => ?_)
    · try simp only [cl] at h2
      refine awp_seq ?_
      refine awp_rw rfl ?_
      refine RW.op rfl rfl (eff_buildT (ys := [_, _, _, _, _]) rfl rfl tz49 tg49 rfl) ?_
      refine RW.store rfl rfl (eff_storeW (v := .t _) (els := [_]) (els' := [_]) rfl rfl ti49 rfl rfl rfl rfl rfl rfl rfl rfl rfl) ?_
      refine asT ?_
      refine RW.nil ?_
      refine awp_ret ?_
      rw [judge_nil (by omega) h2]
      exact ⟨Or.inr rfl, [_, _], ⟨.cell rfl ti49 (.whole rfl rfl rfl rfl rfl rfl) (.t _), .tmp (.t _), trivial⟩, .refl _⟩
    · try simp only [cl] at h2
      refine awp_skip ?_
      refine awp_seq ?_
      refine awp_rw rfl ?_
      have hd0 : 0 < (defence l d).1.length := by omega
      refine mvT ?_
      refine RW.op rfl rfl (eff_indexM (i := 0) rfl rfl te33 rfl rfl (by first | rfl | omega) (by exact List.getElem?_eq_getElem (by omega)) rfl (by decide)) ?_
      refine RW.op rfl rfl (eff_loadW rfl rfl ti23 rfl rfl rfl) ?_
      refine RW.op rfl rfl (eff_buildT (ys := [_, _, _, _, _]) rfl rfl tz49 tg49 rfl) ?_
      refine RW.store rfl rfl (eff_storeW (v := .t _) (els := [_]) (els' := [_]) rfl rfl ti49 rfl rfl rfl rfl rfl rfl rfl rfl rfl) ?_
      refine asT ?_
      refine RW.nil ?_
      refine awp_ret ?_
      rw [judge_cons (by omega) hd0]
      exact ⟨Or.inr rfl, [_, _], ⟨.cell rfl ti49 (.whole rfl rfl rfl rfl rfl rfl) (.t _), .tmp (.t _), trivial⟩, .refl _⟩

theorem confirms_ret (l : List Rcd) (d : Dec) (v : Vrd) (hO : OKL l) : RetT Tryd.prog 32 [(1, deT)] [.sl (l.map encC) false, encD d, encV v] (.bool (confirms l d v)) := by
  refine retT_of_awp Tryd.func32 rfl (Nat.le_of_ble_eq_true rfl) ?_
  refine awp_seq ?_
  refine awp_rw rfl ?_
  refine RW.new rfl rfl (eff_boxK (v := .t _) (k := 4) (id := 4) rfl rfl rfl rfl rfl rfl) ?_
  refine RW.new rfl rfl (eff_boxK (v := .t _) (k := 5) (id := 5) rfl rfl rfl rfl rfl rfl) ?_
  refine asT ?_
  refine RW.nil ?_
  refine awp_seq ?_
  refine awp_rw rfl ?_
  refine mvT ?_
  refine RW.op rfl rfl (eff_load rfl rfl ti28 rfl (.whole rfl rfl rfl rfl rfl rfl)) ?_
  refine RW.op rfl rfl (eff_callXT (defence_ret l d hO) co43 rfl rfl rfl ⟨rfl, trivial⟩ rfl) ?_
  refine mvT ?_
  refine RW.op rfl rfl (eff_extract rfl rfl rfl rfl) ?_
  refine RW.op rfl rfl (eff_extract rfl rfl rfl rfl) ?_
  refine asT ?_
  refine asT ?_
  refine RW.nil ?_
  refine awp_seq ?_
  refine awp_seq ?_
  refine awp_rw rfl ?_
  have hdl := defence_len hO d
  refine mvT ?_
  refine ioT ?_
  refine mvT ?_
  refine RW.split 17 rfl (fun h1 => ?_) (fun h1 => ?_)
  · try simp only [cl] at h1
    refine gkT ?_
    refine gkT ?_
    refine gkT ?_
    refine gkT ?_
    refine gkT ?_
    refine gkT ?_
    refine pkT ?_
    refine RW.nil ?_
    refine awp_cond rfl (fun _ => ?_) (fun h => nomatch h)
    refine awp_seq ?_
    refine awp_rw rfl ?_
    refine asT ?_
    refine RW.nil ?_
    refine awp_ret ?_
    exact ⟨Or.inr rfl, [_], ⟨.tmp (.t _), trivial⟩, wk_bool (by unfold confirms; simp only [len0] at *; simp_all)⟩
  · try simp only [cl] at h1
    refine RW.gop rfl rfl rfl rfl rfl rfl (eff_fieldAddr rfl rfl tf49_0 (by decide) rfl rfl rfl (Nat.le_of_ble_eq_true rfl)) ?_
    refine RW.gop rfl rfl rfl rfl rfl rfl (eff_load (y := .t _) rfl rfl ti4 rfl (.one rfl rfl rfl rfl)) ?_
    refine RW.gop rfl rfl rfl rfl rfl rfl (eff_move (v := .t _) rfl rfl rfl) ?_
    refine RW.gop rfl rfl rfl rfl rfl rfl (eff_lenM rfl rfl te33 rfl) ?_
    refine RW.gop rfl rfl rfl rfl rfl rfl (eff_iop rfl rfl rfl rfl rfl) ?_
    refine RW.gop rfl rfl rfl rfl rfl rfl (eff_boolEq rfl rfl (.inr rfl) tu4 rfl rfl rfl) ?_
    refine pkT ?_
    refine RW.nil ?_
    refine awp_cond rfl (fun h2 => ?_) (fun h2 => ?_)
    · try simp only [cl] at h2
      refine awp_seq ?_
      refine awp_rw rfl ?_
      refine asT ?_
      refine RW.nil ?_
      refine awp_ret ?_
      exact ⟨Or.inr rfl, [_], ⟨.tmp (.t _), trivial⟩, wk_bool (by unfold confirms; simp only [len0] at *; simp_all)⟩
    · try simp only [cl] at h2
      refine awp_skip ?_
      refine awp_seq ?_
      refine awp_seq ?_
      refine awp_rw rfl ?_
      refine faT tf49_0 ?_
      refine l1T ti4 rfl rfl rfl rfl rfl (.one rfl rfl rfl rfl) ?_
      refine RW.nil ?_
      refine awp_cond rfl (fun h3 => ?_) (fun h3 => ?_)
      · try simp only [cl] at h3
        refine awp_seq ?_
        refine awp_rw rfl ?_
        refine faT tf49_1 ?_
        refine RW.op rfl rfl (eff_loadS (ys := [_, _, _, _]) rfl rfl ti23 rfl rfl rfl rfl rfl rfl) ?_
        refine RW.op rfl rfl (eff_buildT (ys := [_, _, _, _]) rfl rfl tz23 tg23 rfl) ?_
        refine RW.op rfl rfl (eff_structEqlA (cells := cellsR) (a := v.wit) (b := zr) rfl rfl ts23s ti23 th23 cellsR_inj cellsR_kind rfl rfl) ?_
        refine asT ?_
        refine RW.nil ?_
        refine awp_ret ?_
        exact ⟨Or.inr rfl, [_], ⟨.tmp (.t _), trivial⟩, wk_bool (by unfold confirms; simp only [len0] at *; simp_all)⟩
      · try simp only [cl] at h3
        refine awp_skip ?_
        refine awp_seq ?_
        refine awp_rw rfl ?_
        refine mvT ?_
        refine faT tf49_1 ?_
        refine RW.op rfl rfl (eff_loadS (ys := [_, _, _, _]) rfl rfl ti23 rfl rfl rfl rfl rfl rfl) ?_
        refine RW.op rfl rfl (eff_callT (contains_ret (defence l d).1 v.wit (by omega)) co51 rfl rfl rfl rfl) ?_
        refine asT ?_
        refine RW.nil ?_
        refine awp_ret ?_
        exact ⟨Or.inr rfl, [_], ⟨.tmp (.t _), trivial⟩, wk_bool (by unfold confirms; simp only [len0] at *; simp_all)⟩

end Go.Tv.C36

end
section
open Go Go.Tv Go.Proofs
namespace Go.Tv.C36
set_option maxRecDepth 20000
set_option maxHeartbeats 2000000
set_option linter.unusedSimpArgs false
set_option linter.unusedVariables false
theorem hRn {R : List Rep} {k : Int} (h : (decide (k = 3) && R.isEmpty) = false) (hk : k = 3) : (R.length : Int) ≠ 0 := by
  intro hl
  rw [decide_eq_true hk, List.length_eq_zero_iff.1 (show R.length = 0 by omega)] at h
  cases h

theorem hvis_n (l : List Rcd) (i : Nat) (T : Twn) (hi : i < l.length) (hl : l.length ≤ 1000000) (hT : T = (runTo l i).1) (hF : Fit 12 T) (hq : ∀ r, r ∈ l → 0 ≤ r.frame.seq ∧ r.frame.seq ≤ 1000000) (hf : form l i = 0) (hn : heldAt l i = false) : RetK Tryd.prog 39 [(1001, some ⟨1, 32, 0, [.t (.sl (l.map encC) false)]⟩), (1004, some ⟨1, 26, 0, [.own 1100 i 0 (heldTo l i).length]⟩), (1100, some ⟨1, 3, i, ((heldTo l i).map encN).map .t⟩)] [.t (encI (i : Nat)), .t (encT T), .ptr 1001 0 0 0, .ptr 1004 0 0 0] [(1001, some ⟨1, 32, 0, [.t (.sl (l.map encC) false)]⟩), (1004, some ⟨1, 26, 0, [.own 1100 (i + 1) 0 (heldTo l i).length]⟩), (1100, some ⟨1, 3, (i + 1), ((heldTo l i).map encN).map .t⟩)] (.tup []) [(2, .ptr 1001 0 0 0), (3, .ptr 1004 0 0 0)] := by
  have hRE : rightsAt l (l[i]'hi).dec i = (rights T (l[i]'hi).dec (sentN (l.take i))) := by rw [hT]; rfl
  have hhl := heldTo_len l i
  rw [heldAt_at hi, hRE] at hn
  refine retK_of_awj (kp := fun i => Nat.beq i 2 || Nat.beq i 3) Tryd.func39 rfl (Nat.le_of_ble_eq_true rfl) (by simp) ?_
  intro F0 w0
  refine awj_seq ?_
  refine awj_rj rfl ?_
  refine RJ.new rfl rfl (eff_boxK (v := .t _) (k := 2) (id := 5) rfl rfl rfl rfl rfl rfl) ?_
  refine RJ.nil ?_
  refine awj_seq ?_
  by_cases hc1 : (l[i]'hi).kind = 3
  · refine awj_rd [(some 6, []), (some 7, []), (some 8, []), (some 9, []), (some 10, []), (some 11, []), (some 12, []), (some 13, []), (some 14, []), (some 15, []), (some 16, []), (some 17, []), (some 18, []), (some 19, []), (some 20, []), (some 21, []), (some 22, []), (some 23, []), (some 24, []), (some 25, []), (some 26, [])] [[], [], [0, 1], [0, 1, 2], [0, 1, 2, 3], [0, 1, 2, 3, 4], [0, 1, 2, 3, 4, 5], [0, 1, 2, 3, 4, 5, 6], [0, 1, 2, 3, 4, 5, 6], [0, 1, 2, 3, 4, 5, 6], [0, 1, 2, 3, 4, 5, 6, 8, 9], [0, 1, 2, 3, 4, 5, 6, 8, 9, 10], [0, 1, 2, 3, 4, 5, 6, 8, 9, 10, 11], [0, 1, 2, 3, 4, 5, 6], [0, 1, 2, 3, 4, 5, 6], [0, 1, 2, 3, 4, 5, 6, 13, 14], [0, 1, 2, 3, 4, 5, 6, 13, 14, 15], [0, 1, 2, 3, 4, 5, 6, 7, 8, 9, 10, 11, 12, 13, 14, 15, 16], [0, 1, 2, 3, 4, 5, 6, 7, 8, 9, 10, 11, 12, 13, 14, 15, 16, 17], [0, 1, 2, 3, 4, 5, 6, 7, 8, 9, 10, 11, 12, 13, 14, 15, 16, 17, 18], [0, 1, 2, 3, 4, 5, 6, 7, 8, 9, 10, 11, 12, 13, 14, 15, 16, 17, 18, 19]] tm rfl rfl rfl rfl ?_
    refine RD.op rfl rfl rfl (eff_load (y := .t _) rfl rfl ti32 rfl (.one rfl rfl rfl rfl)) ?_
    refine mvD ?_
    refine RD.op rfl rfl rfl (eff_indexM (i := i) rfl rfl te32 rfl rfl (by first | rfl | omega) (by first | assumption | exact List.getElem?_eq_getElem (by omega)) rfl (by decide)) ?_
    refine RD.op rfl rfl rfl (eff_fieldAddrT rfl rfl tf47_1 (by decide) rfl) ?_
    refine RD.op rfl rfl rfl (eff_loadT1 rfl rfl ti3 rfl rfl) ?_
    refine RD.op rfl rfl rfl (eff_iop (r := .bool true) rfl rfl rfl rfl (by simp [iop, hc1])) ?_
    refine mvD ?_
    refine RD.gop rfl rfl rfl rfl rfl rfl rfl (eff_load rfl rfl ti64 rfl (.whole rfl rfl rfl rfl rfl rfl)) ?_
    refine RD.gop rfl rfl rfl rfl rfl rfl rfl (eff_load (y := .t _) rfl rfl ti32 rfl (.one rfl rfl rfl rfl)) ?_
    refine RD.gop rfl rfl rfl rfl rfl rfl rfl (eff_move (v := .t _) rfl rfl rfl) ?_
    refine RD.gop rfl rfl rfl rfl rfl rfl rfl (eff_indexM (i := i) rfl rfl te32 rfl rfl (by first | rfl | omega) (by first | assumption | exact List.getElem?_eq_getElem (by omega)) rfl (by decide)) ?_
    refine RD.gop rfl rfl rfl rfl rfl rfl rfl (eff_fieldAddrT rfl rfl tf47_4 (by decide) rfl) ?_
    refine RD.gop rfl rfl rfl rfl rfl rfl rfl (eff_loadT (ys := [_, _, _, _]) rfl rfl ti28 rfl rfl rfl) ?_
    refine RD.gop rfl rfl rfl rfl rfl rfl rfl (eff_load (y := .t _) rfl rfl ti32 rfl (.one rfl rfl rfl rfl)) ?_
    refine RD.gop rfl rfl rfl rfl rfl rfl rfl (eff_move (v := .t _) rfl rfl rfl) ?_
    refine RD.gop rfl rfl rfl rfl rfl rfl rfl (eff_sliceM (g := encC) (l := none) (h := some i) (r := l.take i) rfl rfl te32 rfl (fun _ => rfl) .no (.yes rfl rfl) (Nat.zero_le _) (by simp; omega) (by simp)) ?_
    refine RD.gop rfl rfl rfl rfl rfl rfl rfl (eff_callT (sent_ret (l.take i) (by rw [List.length_take]; omega) (fun r hr => hq r (List.mem_of_mem_take hr))) co41 rfl rfl rfl rfl) ?_
    refine RD.gop rfl rfl rfl rfl rfl rfl rfl (eff_callT (rights_ret T _ _ hF.hp (fun y hy => (hF.nx y hy).mono (by decide)) (by have := form_dec hi hf hc1; omega) (by have := hF.len; omega)) co40 rfl rfl rfl rfl) ?_
    refine RD.gop rfl rfl rfl rfl rfl rfl rfl (eff_lenM rfl rfl te33 rfl) ?_
    refine RD.gop rfl rfl rfl rfl rfl rfl rfl (eff_iop (r := .bool false) rfl rfl rfl rfl (by exact congrArg (fun b => some (Tr.bool b)) (beq_eq_false_iff_ne.2 (hRn hn hc1)))) ?_
    refine RD.op rfl rfl rfl (eff_pick (v := .t _) rfl rfl rfl rfl) ?_
    refine RD.nil ?_
    refine awj_cond rfl (fun h => nomatch h) (fun _ => ?_)
    refine awj_skip ?_
    exact ⟨Or.inl rfl, [], [], trivial, rfl, weak_gen ⟨.ptr 1001 0 0 0 0 rfl rfl rfl rfl rfl rfl, .ptr 1004 0 0 0 0 rfl rfl rfl rfl rfl rfl, trivial⟩ ⟨⟨_, rfl, rfl, rfl, rfl, gen_t1⟩, ⟨_, rfl, rfl, rfl, rfl, gen_own1 (.own 1100 _ _ 0 _ rfl rfl rfl rfl rfl rfl rfl)⟩, ⟨_, rfl, rfl, rfl, rfl, gen_trees⟩, trivial⟩, rfl⟩
  · refine awj_rd [(some 6, []), (some 7, []), (some 8, []), (some 9, []), (some 10, []), (some 11, []), (some 12, []), (some 13, []), (some 14, []), (some 15, []), (some 16, []), (some 17, []), (some 18, []), (some 19, []), (some 20, []), (some 21, []), (some 22, []), (some 23, []), (some 24, []), (some 25, []), (some 26, [])] [[], [], [0, 1], [0, 1, 2], [0, 1, 2, 3], [0, 1, 2, 3, 4], [0, 1, 2, 3, 4, 5], [0, 1, 2, 3, 4, 5, 6], [0, 1, 2, 3, 4, 5, 6], [0, 1, 2, 3, 4, 5, 6], [0, 1, 2, 3, 4, 5, 6, 8, 9], [0, 1, 2, 3, 4, 5, 6, 8, 9, 10], [0, 1, 2, 3, 4, 5, 6, 8, 9, 10, 11], [0, 1, 2, 3, 4, 5, 6], [0, 1, 2, 3, 4, 5, 6], [0, 1, 2, 3, 4, 5, 6, 13, 14], [0, 1, 2, 3, 4, 5, 6, 13, 14, 15], [0, 1, 2, 3, 4, 5, 6, 7, 8, 9, 10, 11, 12, 13, 14, 15, 16], [0, 1, 2, 3, 4, 5, 6, 7, 8, 9, 10, 11, 12, 13, 14, 15, 16, 17], [0, 1, 2, 3, 4, 5, 6, 7, 8, 9, 10, 11, 12, 13, 14, 15, 16, 17, 18], [0, 1, 2, 3, 4, 5, 6, 7, 8, 9, 10, 11, 12, 13, 14, 15, 16, 17, 18, 19]] tm rfl rfl rfl rfl ?_
    refine RD.op rfl rfl rfl (eff_load (y := .t _) rfl rfl ti32 rfl (.one rfl rfl rfl rfl)) ?_
    refine mvD ?_
    refine RD.op rfl rfl rfl (eff_indexM (i := i) rfl rfl te32 rfl rfl (by first | rfl | omega) (by first | assumption | exact List.getElem?_eq_getElem (by omega)) rfl (by decide)) ?_
    refine RD.op rfl rfl rfl (eff_fieldAddrT rfl rfl tf47_1 (by decide) rfl) ?_
    refine RD.op rfl rfl rfl (eff_loadT1 rfl rfl ti3 rfl rfl) ?_
    refine RD.op rfl rfl rfl (eff_iop (r := .bool false) rfl rfl rfl rfl (by simp [iop, hc1])) ?_
    refine mvD ?_
    refine gkD ?_
    refine gkD ?_
    refine gkD ?_
    refine gkD ?_
    refine gkD ?_
    refine gkD ?_
    refine gkD ?_
    refine gkD ?_
    refine gkD ?_
    refine gkD ?_
    refine gkD ?_
    refine gkD ?_
    refine gkD ?_
    refine RD.op rfl rfl rfl (eff_pick (v := .t _) rfl rfl rfl rfl) ?_
    refine RD.nil ?_
    refine awj_cond rfl (fun h => nomatch h) (fun _ => ?_)
    refine awj_skip ?_
    exact ⟨Or.inl rfl, [], [], trivial, rfl, weak_gen ⟨.ptr 1001 0 0 0 0 rfl rfl rfl rfl rfl rfl, .ptr 1004 0 0 0 0 rfl rfl rfl rfl rfl rfl, trivial⟩ ⟨⟨_, rfl, rfl, rfl, rfl, gen_t1⟩, ⟨_, rfl, rfl, rfl, rfl, gen_own1 (.own 1100 _ _ 0 _ rfl rfl rfl rfl rfl rfl rfl)⟩, ⟨_, rfl, rfl, rfl, rfl, gen_trees⟩, trivial⟩, rfl⟩

theorem hvis_y (l : List Rcd) (i : Nat) (T : Twn) (hi : i < l.length) (hl : l.length ≤ 1000000) (hT : T = (runTo l i).1) (hF : Fit 12 T) (hq : ∀ r, r ∈ l → 0 ≤ r.frame.seq ∧ r.frame.seq ≤ 1000000) (hf : form l i = 0) (hn : heldAt l i = true) : RetK Tryd.prog 39 [(1001, some ⟨1, 32, 0, [.t (.sl (l.map encC) false)]⟩), (1004, some ⟨1, 26, 0, [.own 1100 i 0 (heldTo l i).length]⟩), (1100, some ⟨1, 3, i, ((heldTo l i).map encN).map .t⟩)] [.t (encI (i : Nat)), .t (encT T), .ptr 1001 0 0 0, .ptr 1004 0 0 0] [(1001, some ⟨1, 32, 0, [.t (.sl (l.map encC) false)]⟩), (1004, some ⟨1, 26, 0, [.own 1100 (i + 1) 0 (heldTo l (i + 1)).length]⟩), (1100, some ⟨1, 3, (i + 1), ((heldTo l (i + 1)).map encN).map .t⟩)] (.tup []) [(2, .ptr 1001 0 0 0), (3, .ptr 1004 0 0 0)] := by
  have hn0 := hn
  have hRE : rightsAt l (l[i]'hi).dec i = (rights T (l[i]'hi).dec (sentN (l.take i))) := by rw [hT]; rfl
  have hhl := heldTo_len l i
  rw [heldAt_at hi, hRE] at hn
  simp only [Bool.and_eq_true, decide_eq_true_eq, List.isEmpty_iff] at hn
  obtain ⟨hk3, hR0⟩ := hn
  refine retK_of_awj (kp := fun i => Nat.beq i 2 || Nat.beq i 3) Tryd.func39 rfl (Nat.le_of_ble_eq_true rfl) (by simp) ?_
  intro F0 w0
  refine awj_seq ?_
  refine awj_rj rfl ?_
  refine RJ.new rfl rfl (eff_boxK (v := .t _) (k := 2) (id := 5) rfl rfl rfl rfl rfl rfl) ?_
  refine RJ.nil ?_
  refine awj_seq ?_
  refine awj_rd [(some 6, []), (some 7, []), (some 8, []), (some 9, []), (some 10, []), (some 11, []), (some 12, []), (some 13, []), (some 14, []), (some 15, []), (some 16, []), (some 17, []), (some 18, []), (some 19, []), (some 20, []), (some 21, []), (some 22, []), (some 23, []), (some 24, []), (some 25, []), (some 26, [])] [[], [], [0, 1], [0, 1, 2], [0, 1, 2, 3], [0, 1, 2, 3, 4], [0, 1, 2, 3, 4, 5], [0, 1, 2, 3, 4, 5, 6], [0, 1, 2, 3, 4, 5, 6], [0, 1, 2, 3, 4, 5, 6], [0, 1, 2, 3, 4, 5, 6, 8, 9], [0, 1, 2, 3, 4, 5, 6, 8, 9, 10], [0, 1, 2, 3, 4, 5, 6, 8, 9, 10, 11], [0, 1, 2, 3, 4, 5, 6], [0, 1, 2, 3, 4, 5, 6], [0, 1, 2, 3, 4, 5, 6, 13, 14], [0, 1, 2, 3, 4, 5, 6, 13, 14, 15], [0, 1, 2, 3, 4, 5, 6, 7, 8, 9, 10, 11, 12, 13, 14, 15, 16], [0, 1, 2, 3, 4, 5, 6, 7, 8, 9, 10, 11, 12, 13, 14, 15, 16, 17], [0, 1, 2, 3, 4, 5, 6, 7, 8, 9, 10, 11, 12, 13, 14, 15, 16, 17, 18], [0, 1, 2, 3, 4, 5, 6, 7, 8, 9, 10, 11, 12, 13, 14, 15, 16, 17, 18, 19]] tm rfl rfl rfl rfl ?_
  refine RD.op rfl rfl rfl (eff_load (y := .t _) rfl rfl ti32 rfl (.one rfl rfl rfl rfl)) ?_
  refine mvD ?_
  refine RD.op rfl rfl rfl (eff_indexM (i := i) rfl rfl te32 rfl rfl (by first | rfl | omega) (by first | assumption | exact List.getElem?_eq_getElem (by omega)) rfl (by decide)) ?_
  refine RD.op rfl rfl rfl (eff_fieldAddrT rfl rfl tf47_1 (by decide) rfl) ?_
  refine RD.op rfl rfl rfl (eff_loadT1 rfl rfl ti3 rfl rfl) ?_
  refine RD.op rfl rfl rfl (eff_iop (r := .bool true) rfl rfl rfl rfl (by simp [iop, hk3])) ?_
  refine mvD ?_
  refine RD.gop rfl rfl rfl rfl rfl rfl rfl (eff_load rfl rfl ti64 rfl (.whole rfl rfl rfl rfl rfl rfl)) ?_
  refine RD.gop rfl rfl rfl rfl rfl rfl rfl (eff_load (y := .t _) rfl rfl ti32 rfl (.one rfl rfl rfl rfl)) ?_
  refine RD.gop rfl rfl rfl rfl rfl rfl rfl (eff_move (v := .t _) rfl rfl rfl) ?_
  refine RD.gop rfl rfl rfl rfl rfl rfl rfl (eff_indexM (i := i) rfl rfl te32 rfl rfl (by first | rfl | omega) (by first | assumption | exact List.getElem?_eq_getElem (by omega)) rfl (by decide)) ?_
  refine RD.gop rfl rfl rfl rfl rfl rfl rfl (eff_fieldAddrT rfl rfl tf47_4 (by decide) rfl) ?_
  refine RD.gop rfl rfl rfl rfl rfl rfl rfl (eff_loadT (ys := [_, _, _, _]) rfl rfl ti28 rfl rfl rfl) ?_
  refine RD.gop rfl rfl rfl rfl rfl rfl rfl (eff_load (y := .t _) rfl rfl ti32 rfl (.one rfl rfl rfl rfl)) ?_
  refine RD.gop rfl rfl rfl rfl rfl rfl rfl (eff_move (v := .t _) rfl rfl rfl) ?_
  refine RD.gop rfl rfl rfl rfl rfl rfl rfl (eff_sliceM (g := encC) (l := none) (h := some i) (r := l.take i) rfl rfl te32 rfl (fun _ => rfl) .no (.yes rfl rfl) (Nat.zero_le _) (by simp; omega) (by simp)) ?_
  refine RD.gop rfl rfl rfl rfl rfl rfl rfl (eff_callT (sent_ret (l.take i) (by rw [List.length_take]; omega) (fun r hr => hq r (List.mem_of_mem_take hr))) co41 rfl rfl rfl rfl) ?_
  refine RD.gop rfl rfl rfl rfl rfl rfl rfl (eff_callT (rights_ret T _ _ hF.hp (fun y hy => (hF.nx y hy).mono (by decide)) (by have := form_dec hi hf hk3; omega) (by have := hF.len; omega)) co40 rfl rfl rfl rfl) ?_
  refine RD.gop rfl rfl rfl rfl rfl rfl rfl (eff_lenM rfl rfl te33 rfl) ?_
  refine RD.gop rfl rfl rfl rfl rfl rfl rfl (eff_iop (r := .bool true) rfl rfl rfl rfl (by simp [iop, hR0])) ?_
  refine RD.op rfl rfl rfl (eff_pick (v := .t _) rfl rfl rfl rfl) ?_
  refine RD.nil ?_
  refine awj_cond rfl (fun _ => ?_) (fun h => nomatch h)
  refine awj_rj rfl ?_
  refine RJ.op rfl rfl (eff_load (y := .own _ _ _ _) rfl rfl ti26 rfl (.one rfl rfl rfl rfl)) ?_
  refine RJ.op rfl rfl (eff_move (v := .t _) rfl rfl rfl) ?_
  refine RJ.new rfl rfl (eff_buildSlice1 (id := 29) (els := [_]) rfl rfl te26 tz3 rfl (by decide) rfl rfl rfl rfl) ?_
  refine RJ.new rfl rfl (eff_append (id := 1100) (ys := [_]) rfl rfl ta26 rfl rfl rfl (by simp) rfl rfl (srcOwn rfl rfl rfl rfl rfl rfl) (by simp) (by simp; omega) (by simp; omega)) ?_
  refine RJ.store rfl rfl (eff_storeW (v := .own _ _ _ _) (els := [_]) (els' := [_]) rfl rfl ti26 rfl rfl rfl rfl rfl rfl rfl rfl rfl) ?_
  refine RJ.nil ?_
  have hle : ((heldTo l (i + 1)).map encN).map AV.t = ((heldTo l i).map encN).map AV.t ++ [.t (encI (i : Nat))] := by rw [heldTo_yes hn0]; simp <;> rfl
  have hll : (heldTo l (i + 1)).length = (heldTo l i).length + 1 := by rw [heldTo_yes hn0]; simp
  rw [hle, hll]
  exact ⟨Or.inl rfl, [], [], trivial, rfl, weak_keep ⟨rfl, rfl, rfl, rfl, trivial⟩ ⟨rfl, okE_one rfl, rfl, okE_one rfl, rfl, (by rw [← hle]; exact okE_t), trivial⟩, rfl⟩

theorem hvis_ret (l : List Rcd) (i : Nat) (T : Twn) (hi : i < l.length) (hl : l.length ≤ 1000000) (hT : T = (runTo l i).1) (hF : Fit 12 T) (hq : ∀ r, r ∈ l → 0 ≤ r.frame.seq ∧ r.frame.seq ≤ 1000000) (hf : form l i = 0) :
    RetK Tryd.prog 39 [(1001, some ⟨1, 32, 0, [.t (.sl (l.map encC) false)]⟩), (1004, some ⟨1, 26, 0, [.own 1100 i 0 (heldTo l i).length]⟩), (1100, some ⟨1, 3, i, ((heldTo l i).map encN).map .t⟩)] [.t (encI (i : Nat)), .t (encT T), .ptr 1001 0 0 0, .ptr 1004 0 0 0] [(1001, some ⟨1, 32, 0, [.t (.sl (l.map encC) false)]⟩), (1004, some ⟨1, 26, 0, [.own 1100 (i + 1) 0 (heldTo l (i + 1)).length]⟩), (1100, some ⟨1, 3, (i + 1), ((heldTo l (i + 1)).map encN).map .t⟩)] (.tup []) [(2, .ptr 1001 0 0 0), (3, .ptr 1004 0 0 0)] := by
  cases hn : heldAt l i with
  | true => exact hvis_y l i T hi hl hT hF hq hf hn
  | false =>
    have h := hvis_n l i T hi hl hT hF hq hf hn
    rw [heldTo_no hn]
    exact h

theorem replay39_ret (l : List Rcd) (hO : OKL l) : RetKT Tryd.prog 38 [(1, deT)] [(1001, some ⟨1, 32, 0, [.t (.sl (l.map encC) false)]⟩), (1004, some ⟨1, 26, 0, [.own 1100 0 0 (heldTo l 0).length]⟩), (1100, some ⟨1, 3, 0, ((heldTo l 0).map encN).map .t⟩)] [.t (.sl (l.map encC) false), .fn 39 [.ptr 1001 0 0 0, .ptr 1004 0 0 0]] [(1001, some ⟨1, 32, 0, [.t (.sl (l.map encC) false)]⟩), (1004, some ⟨1, 26, 0, [.own 1100 (nvis l + 1) 0 (heldTo l (nvis l)).length]⟩), (1100, some ⟨1, 3, (nvis l + 1), ((heldTo l (nvis l)).map encN).map .t⟩)] (.tup [.t (encT (allOf l).1), .t (encI (allOf l).2)]) [(1, .fn 39 [.ptr 1001 0 0 0, .ptr 1004 0 0 0])] := by
  refine retKT_of_awj (kp := fun i => Nat.beq i 1) Tryd.func38 rfl (Nat.le_of_ble_eq_true rfl) (by simp) ?_
  intro F0 w0
  refine awj_seq ?_
  refine awj_rj rfl ?_
  refine RJ.new rfl rfl (eff_allocK (k := 2) (id := 4) rfl rfl tz64 rfl rfl) ?_
  refine RJ.op rfl rfl (eff_assign (v := .t _) rfl rfl rfl) ?_
  refine RJ.nil ?_
  refine awj_seq ?_
  refine awj_seq ?_
  refine awj_rj rfl ?_
  refine RJ.op rfl rfl (eff_move (v := .t _) rfl rfl rfl) ?_
  refine RJ.op rfl rfl (eff_lenM rfl rfl te32 rfl) ?_
  refine RJ.op rfl rfl (eff_iop rfl rfl rfl rfl rfl) ?_
  refine RJ.nil ?_
  refine awj_cond rfl (fun h1 => ?_) (fun h1 => ?_)
  · try simp only [cl] at h1
    refine awj_seq ?_
    refine awj_rj rfl ?_
    refine RJ.op rfl rfl (eff_buildT (ys := [_, _]) rfl rfl tz64 tg64 rfl) ?_
    refine RJ.store rfl rfl (eff_storeW (v := .t _) (els := [_]) (els' := [_]) rfl rfl ti64 rfl rfl rfl rfl rfl rfl rfl rfl rfl) ?_
    refine RJ.op rfl rfl (eff_assign (v := .t _) rfl rfl rfl) ?_
    refine RJ.nil ?_
    refine awj_ret ?_
    rw [all_lim h1, nvis_lim h1]
    exact ⟨Or.inr rfl, [_, _], [.t (encT zt), .t _], ⟨.cell rfl ti64 (.whole rfl rfl rfl rfl rfl rfl), .tmp rfl, trivial⟩, rfl, Weak.trans (weak_slot 0 (y := encT zt) rfl (by repeat' first | exact trivial | exact Wk.refl _ | exact Wk.sl _ | refine And.intro ?_ ?_ | refine Wk.tupP ?_ | refine Wk.aggP ?_)) (weak_genX ⟨.a (.t _), .a (.t _), .fn _ _ ⟨.ptr 1001 0 0 0 0 rfl rfl rfl rfl rfl rfl, .ptr 1004 0 0 0 0 rfl rfl rfl rfl rfl rfl, trivial⟩, trivial⟩ ⟨⟨_, rfl, rfl, rfl, rfl, gen_t1⟩, ⟨_, rfl, rfl, rfl, rfl, gen_own1 (.own 1100 _ _ 0 _ rfl rfl rfl rfl rfl rfl rfl)⟩, ⟨_, rfl, rfl, rfl, rfl, gen_trees⟩, trivial⟩), rfl⟩
  · try simp only [cl] at h1
    refine awj_skip ?_
    refine awj_seq ?_
    refine awj_rj rfl ?_
    refine RJ.op rfl rfl (eff_callT (new17_ret) co61 rfl rfl rfl rfl) ?_
    refine RJ.new rfl rfl (eff_allocK (k := 2) (id := 6) rfl rfl tz64 rfl rfl) ?_
    refine RJ.store rfl rfl (eff_storeW (v := .t _) (els := [_]) (els' := [_]) rfl rfl ti64 rfl rfl rfl rfl rfl rfl rfl rfl rfl) ?_
    refine RJ.nil ?_
    refine awj_seq ?_
    refine awj_seq ?_
    refine awj_rj rfl ?_
    refine RJ.op rfl rfl (eff_move (v := .t _) rfl rfl rfl) ?_
    refine RJ.op rfl rfl (eff_lenM rfl rfl te32 rfl) ?_
    refine RJ.op rfl rfl (eff_move (v := .t _) rfl rfl rfl) ?_
    refine RJ.nil ?_
    refine awj_block ?_
    refine awj_loopW (fun m s g => ∃ (i : Nat) (T : Twn), (i ≤ l.length) ∧ (T = (runTo l i).1) ∧ ((runTo l i).2 = 0) ∧ m = l.length - i ∧ s = ⟨63, [(0, .t (.sl (l.map encC) false)), (1, .fn 39 [.ptr 1001 0 0 0, .ptr 1004 0 0 0]), (4, .ptr 4 0 0 0), (6, .ptr 6 0 0 0), (17, .t (.sl (l.map encC) false)), (18, .t (encI (l.length : Nat))), (19, .t (encI (i : Nat))), (64, .t deT)], [(4, some ⟨2, 64, 0, [.t z64]⟩), (6, some ⟨2, 64, 0, [.t (encT T)]⟩), (1001, some ⟨1, 32, 0, [.t (.sl (l.map encC) false)]⟩), (1004, some ⟨1, 26, 0, [.own 1100 i 0 (heldTo l i).length]⟩), (1100, some ⟨1, 3, i, ((heldTo l i).map encN).map .t⟩)]⟩) (_) (⟨_, weak_keep (n := 63) (fr' := [(0, .t (.sl (l.map encC) false)), (1, .fn 39 [.ptr 1001 0 0 0, .ptr 1004 0 0 0]), (4, .ptr 4 0 0 0), (6, .ptr 6 0 0 0), (17, .t (.sl (l.map encC) false)), (18, .t (encI (l.length : Nat))), (19, .t (encI (0 : Nat))), (64, .t deT)]) (st' := [(4, some ⟨2, 64, 0, [.t z64]⟩), (6, some ⟨2, 64, 0, [.t (encT newT)]⟩), (1001, some ⟨1, 32, 0, [.t (.sl (l.map encC) false)]⟩), (1004, some ⟨1, 26, 0, [.own 1100 0 0 (heldTo l 0).length]⟩), (1100, some ⟨1, 3, 0, ((heldTo l 0).map encN).map .t⟩)]) ⟨rfl, rfl, rfl, rfl, rfl, rfl, rfl, rfl, rfl, rfl, rfl, rfl, rfl, rfl, rfl, rfl, trivial⟩ ⟨rfl, okE_one rfl, rfl, okE_one rfl, rfl, okE_one rfl, rfl, okE_one rfl, rfl, okE_t, trivial⟩, 0, newT, (by omega), (by rfl), (by rfl), rfl, rfl⟩) ?_
    rintro m s g ⟨i, T, hi, hT, hok, rfl, rfl⟩
    refine awj_seq ?_
    refine awj_rj rfl ?_
    refine RJ.op rfl rfl (eff_iop rfl rfl rfl rfl rfl) ?_
    refine RJ.nil ?_
    refine awj_seq ?_
    refine awj_cond rfl (fun h2 => ?_) (fun h2 => ?_)
    · try simp only [cl] at h2
      refine awj_skip ?_
      refine awj_seq ?_
      refine awj_block ?_
      refine awj_seq ?_
      refine awj_rj rfl ?_
      have hil : i < l.length := by omega
      have hFit := runTo_fit12 hO (by omega) hok
      rw [← hT] at hFit
      refine RJ.op rfl rfl (eff_move (v := .t _) rfl rfl rfl) ?_
      refine RJ.op rfl rfl (eff_indexM rfl rfl te32 rfl rfl rfl (by first | assumption | exact List.getElem?_eq_getElem (by omega)) rfl (by decide)) ?_
      refine RJ.op rfl rfl (eff_loadW rfl rfl ti47 rfl rfl rfl) ?_
      refine RJ.new rfl rfl (eff_allocK (k := 15) (id := 8) rfl rfl tz47 rfl rfl) ?_
      refine RJ.op rfl rfl (eff_assign (v := .t _) rfl rfl rfl) ?_
      refine RJ.store rfl rfl (eff_storeW (v := .t _) (els := [_]) (els' := [_]) rfl rfl ti47 rfl rfl rfl rfl rfl rfl rfl rfl rfl) ?_
      refine RJ.nil ?_
      refine awj_seq ?_
      refine awj_seq ?_
      refine awj_rj rfl ?_
      refine RJ.op rfl rfl (eff_move (v := .t _) rfl rfl rfl) ?_
      refine RJ.op rfl rfl (eff_move (v := .t _) rfl rfl rfl) ?_
      refine RJ.op rfl rfl (eff_callT (form_ret l i hil (by have := hO.len; omega)) co62 rfl rfl rfl rfl) ?_
      refine RJ.op rfl rfl (eff_assign (v := .t _) rfl rfl rfl) ?_
      refine RJ.nil ?_
      refine awj_seq ?_
      refine awj_rj rfl ?_
      refine RJ.op rfl rfl (eff_move (v := .t _) rfl rfl rfl) ?_
      refine RJ.op rfl rfl (eff_iop rfl rfl rfl rfl rfl) ?_
      refine RJ.nil ?_
      refine awj_cond rfl (fun h3 => ?_) (fun h3 => ?_)
      · try simp only [cl] at h3
        refine awj_seq ?_
        refine awj_rj rfl ?_
        refine RJ.op rfl rfl (eff_buildT (ys := [_, _]) rfl rfl tz64 tg64 rfl) ?_
        refine RJ.op rfl rfl (eff_move (v := .t _) rfl rfl rfl) ?_
        refine RJ.store rfl rfl (eff_storeW (v := .t _) (els := [_]) (els' := [_]) rfl rfl ti64 rfl rfl rfl rfl rfl rfl rfl rfl rfl) ?_
        refine RJ.op rfl rfl (eff_assign (v := .t _) rfl rfl rfl) ?_
        refine RJ.nil ?_
        refine awj_ret ?_
        have hfx : form l i ≠ 0 := by omega
        rw [all_bad h1 hil (run_form hok hfx) hfx, nvis_form h1 hil hok hfx]
        exact ⟨Or.inr rfl, [_, _], [.t (encT zt), .t _], ⟨.cell rfl ti64 (.whole rfl rfl rfl rfl rfl rfl), .tmp rfl, trivial⟩, rfl, Weak.trans (weak_slot 0 (y := encT zt) rfl (by repeat' first | exact trivial | exact Wk.refl _ | exact Wk.sl _ | refine And.intro ?_ ?_ | refine Wk.tupP ?_ | refine Wk.aggP ?_)) (weak_genX ⟨.a (.t _), .a (.t _), .fn _ _ ⟨.ptr 1001 0 0 0 0 rfl rfl rfl rfl rfl rfl, .ptr 1004 0 0 0 0 rfl rfl rfl rfl rfl rfl, trivial⟩, trivial⟩ ⟨⟨_, rfl, rfl, rfl, rfl, gen_t1⟩, ⟨_, rfl, rfl, rfl, rfl, gen_own1 (.own 1100 _ _ 0 _ rfl rfl rfl rfl rfl rfl rfl)⟩, ⟨_, rfl, rfl, rfl, rfl, gen_trees⟩, trivial⟩), rfl⟩
      · try simp only [cl] at h3
        refine awj_skip ?_
        refine awj_seq ?_
        refine awj_rj rfl ?_
        have hfo : form l i = 0 := by omega
        refine RJ.op rfl rfl (eff_move (v := .fn _ _) rfl rfl rfl) ?_
        refine RJ.op rfl rfl (eff_move (v := .t _) rfl rfl rfl) ?_
        refine RJ.op rfl rfl (eff_load rfl rfl ti64 rfl (.whole rfl rfl rfl rfl rfl rfl)) ?_
        refine RJ.new3 rfl rfl (eff_callKF (hvis_ret l i T hil (by have := hO.len; omega) hT hFit hO.seq hfo) co39 (fun id => id) rfl rfl rfl ⟨.t _, .t _, .ptr _ _ _ _ rfl rfl, .ptr _ _ _ _ rfl rfl, trivial⟩ (.tup _ _ rfl (fun i c d h _ => by simp at h)) rfl ⟨⟨rfl, self_one, ⟨_, rfl, .inr ⟨rfl, rfl, rfl, rfl, 2, rfl, (by simp)⟩⟩⟩, ⟨rfl, self_own rfl rfl, ⟨_, rfl, .inr ⟨rfl, rfl, rfl, rfl, 3, rfl, (by simp)⟩⟩⟩, ⟨rfl, self_tree, ⟨_, rfl, .inl (Nat.lt_succ_self _)⟩⟩, trivial⟩ ⟨⟨self_one, .inl rfl⟩, ⟨self_own rfl rfl, .inl rfl⟩, ⟨self_tree, .inl rfl⟩, trivial⟩) ?_
        refine RJ.nil ?_
        refine awj_seq ?_
        refine awj_rj rfl ?_
        refine RJ.op rfl rfl (eff_assign (v := .t _) rfl rfl rfl) ?_
        refine RJ.nil ?_
        refine awj_seq ?_
        refine awj_rj rfl ?_
        refine RJ.op rfl rfl (eff_load rfl rfl ti64 rfl (.whole rfl rfl rfl rfl rfl rfl)) ?_
        refine RJ.new rfl rfl (eff_allocK (k := 2) (id := 11) rfl rfl tz64 rfl rfl) ?_
        refine RJ.store rfl rfl (eff_storeW (v := .t _) (els := [_]) (els' := [_]) rfl rfl ti64 rfl rfl rfl rfl rfl rfl rfl rfl rfl) ?_
        refine RJ.nil ?_
        refine awj_seq ?_
        refine awj_seq ?_
        refine awj_rj rfl ?_
        refine RJ.op rfl rfl (eff_fieldAddr rfl rfl tf47_1 (by decide) rfl rfl rfl (Nat.le_of_ble_eq_true rfl)) ?_
        refine RJ.op rfl rfl (eff_load (y := .t _) rfl rfl ti3 rfl (.one rfl rfl rfl rfl)) ?_
        refine RJ.nil ?_
        refine awj_block ?_
        refine awj_seq ?_
        refine awj_rj rfl ?_
        refine RJ.op rfl rfl (eff_iop rfl rfl rfl rfl rfl) ?_
        refine RJ.op rfl rfl (eff_assign (v := .t _) rfl rfl rfl) ?_
        refine RJ.nil ?_
        refine awj_cond rfl (fun h4 => ?_) (fun h4 => ?_)
        · try simp only [cl] at h4
          refine awj_rj rfl ?_
          refine RJ.op rfl rfl (eff_load rfl rfl ti64 rfl (.whole rfl rfl rfl rfl rfl rfl)) ?_
          refine RJ.op rfl rfl (eff_fieldAddr rfl rfl tf47_2 (by decide) rfl rfl rfl (Nat.le_of_ble_eq_true rfl)) ?_
          refine RJ.op rfl rfl (eff_loadS (ys := [_, _, _, _, _]) rfl rfl ti45 rfl rfl rfl rfl rfl rfl) ?_
          refine RJ.op rfl rfl (eff_callXT (tsend_ret T _ hFit.srt hFit.hp (by have := hFit.len; omega) (by have := hFit.sl; omega) hFit.bod (hO.bod _ (List.getElem_mem hil))) co63 rfl rfl rfl ⟨rfl, trivial⟩ rfl) ?_
          refine RJ.op rfl rfl (eff_move (v := .t _) rfl rfl rfl) ?_
          refine RJ.op rfl rfl (eff_extract rfl rfl rfl rfl) ?_
          refine RJ.op rfl rfl (eff_extract rfl rfl rfl rfl) ?_
          refine RJ.store rfl rfl (eff_storeW (v := .t _) (els := [_]) (els' := [_]) rfl rfl ti64 rfl rfl rfl rfl rfl rfl rfl rfl rfl) ?_
          refine RJ.op rfl rfl (eff_assign (v := .t _) rfl rfl rfl) ?_
          refine RJ.nil ?_
          refine awj_seq ?_
          refine awj_seq ?_
          refine awj_rj rfl ?_
          refine RJ.op rfl rfl (eff_move (v := .t _) rfl rfl rfl) ?_
          refine RJ.op rfl rfl (eff_iop rfl rfl rfl rfl rfl) ?_
          refine RJ.nil ?_
          refine awj_cond rfl (fun h5 => ?_) (fun h5 => ?_)
          · try simp only [cl] at h5
            refine awj_seq ?_
            refine awj_rj rfl ?_
            refine RJ.op rfl rfl (eff_buildT (ys := [_, _]) rfl rfl tz64 tg64 rfl) ?_
            refine RJ.op rfl rfl (eff_move (v := .t _) rfl rfl rfl) ?_
            refine RJ.store rfl rfl (eff_storeW (v := .t _) (els := [_]) (els' := [_]) rfl rfl ti64 rfl rfl rfl rfl rfl rfl rfl rfl rfl) ?_
            refine RJ.op rfl rfl (eff_assign (v := .t _) rfl rfl rfl) ?_
            refine RJ.nil ?_
            refine awj_ret ?_
            have hrb := bad_send hil hT hok hfo (by omega) (by omega)
            rw [all_bad h1 hil hrb (by omega), nvis_bad h1 hil hok hfo hrb (by omega)]
            exact ⟨Or.inr rfl, [_, _], [.t (encT zt), .t _], ⟨.cell rfl ti64 (.whole rfl rfl rfl rfl rfl rfl), .tmp rfl, trivial⟩, rfl, Weak.trans (weak_slot 0 (y := encT zt) rfl (by repeat' first | exact trivial | exact Wk.refl _ | exact Wk.sl _ | refine And.intro ?_ ?_ | refine Wk.tupP ?_ | refine Wk.aggP ?_)) (weak_genX ⟨.a (.t _), .a (.t _), .fn _ _ ⟨.ptr 1001 0 0 0 0 rfl rfl rfl rfl rfl rfl, .ptr 1004 0 0 0 0 rfl rfl rfl rfl rfl rfl, trivial⟩, trivial⟩ ⟨⟨_, rfl, rfl, rfl, rfl, gen_t1⟩, ⟨_, rfl, rfl, rfl, rfl, gen_own1 (.own 1100 _ _ 0 _ rfl rfl rfl rfl rfl rfl rfl)⟩, ⟨_, rfl, rfl, rfl, rfl, gen_trees⟩, trivial⟩), rfl⟩
          · try simp only [cl] at h5
            refine awj_skip ?_
            refine awj_rj rfl ?_
            refine RJ.op rfl rfl (eff_load rfl rfl ti64 rfl (.whole rfl rfl rfl rfl rfl rfl)) ?_
            refine RJ.store rfl rfl (eff_storeW (v := .t _) (els := [_]) (els' := [_]) rfl rfl ti64 rfl rfl rfl rfl rfl rfl rfl rfl rfl) ?_
            refine RJ.nil ?_
            refine awj_rj rfl ?_
            refine RJ.op rfl rfl (eff_iop rfl rfl rfl rfl (iadd (by omega))) ?_
            refine RJ.op rfl rfl (eff_move (v := .t _) rfl rfl rfl) ?_
            refine RJ.nil ?_
            refine ⟨_, ?_, _, weak_keep (n := 63) (fr' := [(0, .t (.sl (l.map encC) false)), (1, .fn 39 [.ptr 1001 0 0 0, .ptr 1004 0 0 0]), (4, .ptr 4 0 0 0), (6, .ptr 6 0 0 0), (17, .t (.sl (l.map encC) false)), (18, .t (encI (l.length : Nat))), (19, .t (encI ((i + 1) : Nat))), (64, .t deT)]) (st' := [(4, some ⟨2, 64, 0, [.t z64]⟩), (6, some ⟨2, 64, 0, [.t (encT _)]⟩), (1001, some ⟨1, 32, 0, [.t (.sl (l.map encC) false)]⟩), (1004, some ⟨1, 26, 0, [.own 1100 (i + 1) 0 (heldTo l (i + 1)).length]⟩), (1100, some ⟨1, 3, (i + 1), ((heldTo l (i + 1)).map encN).map .t⟩)]) ⟨rfl, rfl, rfl, rfl, rfl, rfl, rfl, rfl, rfl, rfl, rfl, rfl, rfl, rfl, rfl, rfl, trivial⟩ ⟨rfl, okE_one rfl, rfl, okE_one rfl, rfl, okE_one rfl, rfl, okE_one rfl, rfl, okE_t, trivial⟩, i + 1, _, (by omega), (by first | rw [run_send hil hT hok hfo (by omega) (by omega)] | rw [run_hear hil hT hok hfo (by omega) (by omega)] | rw [run_dec hil hT hok hfo (by omega) (by omega)]), (by first | rw [run_send hil hT hok hfo (by omega) (by omega)] | rw [run_hear hil hT hok hfo (by omega) (by omega)] | rw [run_dec hil hT hok hfo (by omega) (by omega)]), rfl, rfl⟩
            omega
        · try simp only [cl] at h4
          refine awj_seq ?_
          refine awj_rj rfl ?_
          refine RJ.op rfl rfl (eff_iop rfl rfl rfl rfl rfl) ?_
          refine RJ.op rfl rfl (eff_assign (v := .t _) rfl rfl rfl) ?_
          refine RJ.nil ?_
          refine awj_cond rfl (fun h6 => ?_) (fun h6 => ?_)
          · try simp only [cl] at h6
            refine awj_rj rfl ?_
            refine RJ.op rfl rfl (eff_load rfl rfl ti64 rfl (.whole rfl rfl rfl rfl rfl rfl)) ?_
            refine RJ.op rfl rfl (eff_fieldAddr rfl rfl tf47_3 (by decide) rfl rfl rfl (Nat.le_of_ble_eq_true rfl)) ?_
            refine RJ.op rfl rfl (eff_loadS (ys := [_, _, _, _]) rfl rfl ti23 rfl rfl rfl rfl rfl rfl) ?_
            refine RJ.op rfl rfl (eff_callXT (thear_ret T _ (hO.hp _ (List.getElem_mem hil)) (by have := hFit.len; omega) (by have := hFit.sl; omega) hFit.bod) co64 rfl rfl rfl ⟨rfl, trivial⟩ rfl) ?_
            refine RJ.op rfl rfl (eff_move (v := .t _) rfl rfl rfl) ?_
            refine RJ.op rfl rfl (eff_extract rfl rfl rfl rfl) ?_
            refine RJ.op rfl rfl (eff_extract rfl rfl rfl rfl) ?_
            refine RJ.store rfl rfl (eff_storeW (v := .t _) (els := [_]) (els' := [_]) rfl rfl ti64 rfl rfl rfl rfl rfl rfl rfl rfl rfl) ?_
            refine RJ.op rfl rfl (eff_assign (v := .t _) rfl rfl rfl) ?_
            refine RJ.nil ?_
            refine awj_seq ?_
            refine awj_seq ?_
            refine awj_rj rfl ?_
            refine RJ.op rfl rfl (eff_move (v := .t _) rfl rfl rfl) ?_
            refine RJ.op rfl rfl (eff_iop rfl rfl rfl rfl rfl) ?_
            refine RJ.nil ?_
            refine awj_cond rfl (fun h7 => ?_) (fun h7 => ?_)
            · try simp only [cl] at h7
              refine awj_seq ?_
              refine awj_rj rfl ?_
              refine RJ.op rfl rfl (eff_buildT (ys := [_, _]) rfl rfl tz64 tg64 rfl) ?_
              refine RJ.op rfl rfl (eff_move (v := .t _) rfl rfl rfl) ?_
              refine RJ.store rfl rfl (eff_storeW (v := .t _) (els := [_]) (els' := [_]) rfl rfl ti64 rfl rfl rfl rfl rfl rfl rfl rfl rfl) ?_
              refine RJ.op rfl rfl (eff_assign (v := .t _) rfl rfl rfl) ?_
              refine RJ.nil ?_
              refine awj_ret ?_
              have hrb := bad_hear hil hT hok hfo (by omega) (by omega)
              rw [all_bad h1 hil hrb (by omega), nvis_bad h1 hil hok hfo hrb (by omega)]
              exact ⟨Or.inr rfl, [_, _], [.t (encT zt), .t _], ⟨.cell rfl ti64 (.whole rfl rfl rfl rfl rfl rfl), .tmp rfl, trivial⟩, rfl, Weak.trans (weak_slot 0 (y := encT zt) rfl (by repeat' first | exact trivial | exact Wk.refl _ | exact Wk.sl _ | refine And.intro ?_ ?_ | refine Wk.tupP ?_ | refine Wk.aggP ?_)) (weak_genX ⟨.a (.t _), .a (.t _), .fn _ _ ⟨.ptr 1001 0 0 0 0 rfl rfl rfl rfl rfl rfl, .ptr 1004 0 0 0 0 rfl rfl rfl rfl rfl rfl, trivial⟩, trivial⟩ ⟨⟨_, rfl, rfl, rfl, rfl, gen_t1⟩, ⟨_, rfl, rfl, rfl, rfl, gen_own1 (.own 1100 _ _ 0 _ rfl rfl rfl rfl rfl rfl rfl)⟩, ⟨_, rfl, rfl, rfl, rfl, gen_trees⟩, trivial⟩), rfl⟩
            · try simp only [cl] at h7
              refine awj_skip ?_
              refine awj_rj rfl ?_
              refine RJ.op rfl rfl (eff_load rfl rfl ti64 rfl (.whole rfl rfl rfl rfl rfl rfl)) ?_
              refine RJ.store rfl rfl (eff_storeW (v := .t _) (els := [_]) (els' := [_]) rfl rfl ti64 rfl rfl rfl rfl rfl rfl rfl rfl rfl) ?_
              refine RJ.nil ?_
              refine awj_rj rfl ?_
              refine RJ.op rfl rfl (eff_iop rfl rfl rfl rfl (iadd (by omega))) ?_
              refine RJ.op rfl rfl (eff_move (v := .t _) rfl rfl rfl) ?_
              refine RJ.nil ?_
              refine ⟨_, ?_, _, weak_keep (n := 63) (fr' := [(0, .t (.sl (l.map encC) false)), (1, .fn 39 [.ptr 1001 0 0 0, .ptr 1004 0 0 0]), (4, .ptr 4 0 0 0), (6, .ptr 6 0 0 0), (17, .t (.sl (l.map encC) false)), (18, .t (encI (l.length : Nat))), (19, .t (encI ((i + 1) : Nat))), (64, .t deT)]) (st' := [(4, some ⟨2, 64, 0, [.t z64]⟩), (6, some ⟨2, 64, 0, [.t (encT _)]⟩), (1001, some ⟨1, 32, 0, [.t (.sl (l.map encC) false)]⟩), (1004, some ⟨1, 26, 0, [.own 1100 (i + 1) 0 (heldTo l (i + 1)).length]⟩), (1100, some ⟨1, 3, (i + 1), ((heldTo l (i + 1)).map encN).map .t⟩)]) ⟨rfl, rfl, rfl, rfl, rfl, rfl, rfl, rfl, rfl, rfl, rfl, rfl, rfl, rfl, rfl, rfl, trivial⟩ ⟨rfl, okE_one rfl, rfl, okE_one rfl, rfl, okE_one rfl, rfl, okE_one rfl, rfl, okE_t, trivial⟩, i + 1, _, (by omega), (by first | rw [run_send hil hT hok hfo (by omega) (by omega)] | rw [run_hear hil hT hok hfo (by omega) (by omega)] | rw [run_dec hil hT hok hfo (by omega) (by omega)]), (by first | rw [run_send hil hT hok hfo (by omega) (by omega)] | rw [run_hear hil hT hok hfo (by omega) (by omega)] | rw [run_dec hil hT hok hfo (by omega) (by omega)]), rfl, rfl⟩
              omega
          · try simp only [cl] at h6
            refine awj_skip ?_
            refine awj_seq ?_
            refine awj_seq ?_
            refine awj_rj rfl ?_
            refine RJ.op rfl rfl (eff_move (v := .t _) rfl rfl rfl) ?_
            refine RJ.op rfl rfl (eff_iop rfl rfl rfl rfl rfl) ?_
            refine RJ.nil ?_
            refine awj_cond rfl (fun h8 => ?_) (fun h8 => ?_)
            · try simp only [cl] at h8
              refine awj_seq ?_
              refine awj_rj rfl ?_
              refine RJ.op rfl rfl (eff_buildT (ys := [_, _]) rfl rfl tz64 tg64 rfl) ?_
              refine RJ.op rfl rfl (eff_move (v := .t _) rfl rfl rfl) ?_
              refine RJ.store rfl rfl (eff_storeW (v := .t _) (els := [_]) (els' := [_]) rfl rfl ti64 rfl rfl rfl rfl rfl rfl rfl rfl rfl) ?_
              refine RJ.op rfl rfl (eff_assign (v := .t _) rfl rfl rfl) ?_
              refine RJ.nil ?_
              refine awj_ret ?_
              exact absurd trivial ‹¬ True›
            · try simp only [cl] at h8
              refine awj_skip ?_
              refine awj_rj rfl ?_
              refine RJ.op rfl rfl (eff_load rfl rfl ti64 rfl (.whole rfl rfl rfl rfl rfl rfl)) ?_
              refine RJ.store rfl rfl (eff_storeW (v := .t _) (els := [_]) (els' := [_]) rfl rfl ti64 rfl rfl rfl rfl rfl rfl rfl rfl rfl) ?_
              refine RJ.nil ?_
              refine awj_rj rfl ?_
              refine RJ.op rfl rfl (eff_iop rfl rfl rfl rfl (iadd (by omega))) ?_
              refine RJ.op rfl rfl (eff_move (v := .t _) rfl rfl rfl) ?_
              refine RJ.nil ?_
              refine ⟨_, ?_, _, weak_keep (n := 63) (fr' := [(0, .t (.sl (l.map encC) false)), (1, .fn 39 [.ptr 1001 0 0 0, .ptr 1004 0 0 0]), (4, .ptr 4 0 0 0), (6, .ptr 6 0 0 0), (17, .t (.sl (l.map encC) false)), (18, .t (encI (l.length : Nat))), (19, .t (encI ((i + 1) : Nat))), (64, .t deT)]) (st' := [(4, some ⟨2, 64, 0, [.t z64]⟩), (6, some ⟨2, 64, 0, [.t (encT _)]⟩), (1001, some ⟨1, 32, 0, [.t (.sl (l.map encC) false)]⟩), (1004, some ⟨1, 26, 0, [.own 1100 (i + 1) 0 (heldTo l (i + 1)).length]⟩), (1100, some ⟨1, 3, (i + 1), ((heldTo l (i + 1)).map encN).map .t⟩)]) ⟨rfl, rfl, rfl, rfl, rfl, rfl, rfl, rfl, rfl, rfl, rfl, rfl, rfl, rfl, rfl, rfl, trivial⟩ ⟨rfl, okE_one rfl, rfl, okE_one rfl, rfl, okE_one rfl, rfl, okE_one rfl, rfl, okE_t, trivial⟩, i + 1, _, (by omega), (by first | rw [run_send hil hT hok hfo (by omega) (by omega)] | rw [run_hear hil hT hok hfo (by omega) (by omega)] | rw [run_dec hil hT hok hfo (by omega) (by omega)]), (by first | rw [run_send hil hT hok hfo (by omega) (by omega)] | rw [run_hear hil hT hok hfo (by omega) (by omega)] | rw [run_dec hil hT hok hfo (by omega) (by omega)]), rfl, rfl⟩
              omega
    · try simp only [cl] at h2
      refine awj_exit ?_
      refine awj_seq ?_
      refine awj_rj rfl ?_
      refine RJ.op rfl rfl (eff_load rfl rfl ti64 rfl (.whole rfl rfl rfl rfl rfl rfl)) ?_
      refine RJ.store rfl rfl (eff_storeW (v := .t _) (els := [_]) (els' := [_]) rfl rfl ti64 rfl rfl rfl rfl rfl rfl rfl rfl rfl) ?_
      refine RJ.op rfl rfl (eff_assign (v := .t _) rfl rfl rfl) ?_
      refine RJ.nil ?_
      refine awj_ret ?_
      have hi2 : i = l.length := by omega
      subst hi2
      rw [all_ok h1 hok, nvis_ok h1 hok, ← hT]
      exact ⟨Or.inr rfl, [_, _], [.t (encT T), .t _], ⟨.cell rfl ti64 (.whole rfl rfl rfl rfl rfl rfl), .tmp rfl, trivial⟩, rfl, Weak.trans (weak_slot 0 (y := encT T) rfl (by repeat' first | exact trivial | exact Wk.refl _ | exact Wk.sl _ | refine And.intro ?_ ?_ | refine Wk.tupP ?_ | refine Wk.aggP ?_)) (weak_genX ⟨.a (.t _), .a (.t _), .fn _ _ ⟨.ptr 1001 0 0 0 0 rfl rfl rfl rfl rfl rfl, .ptr 1004 0 0 0 0 rfl rfl rfl rfl rfl rfl, trivial⟩, trivial⟩ ⟨⟨_, rfl, rfl, rfl, rfl, gen_t1⟩, ⟨_, rfl, rfl, rfl, rfl, gen_own1 (.own 1100 _ _ 0 _ rfl rfl rfl rfl rfl rfl rfl)⟩, ⟨_, rfl, rfl, rfl, rfl, gen_trees⟩, trivial⟩), rfl⟩

end Go.Tv.C36

end
section
open Go Go.Tv Go.Proofs
namespace Go.Tv.C36
set_option maxRecDepth 20000
set_option maxHeartbeats 2000000
set_option linter.unusedSimpArgs false
set_option linter.unusedVariables false
theorem held_ret (l : List Rcd) (hO : OKL l) : RetT Tryd.prog 19 [(1, deT)] [.sl (l.map encC) false] (.tup [.sl ((held l).1.map encN) false, encI (held l).2]) := by
  refine retT_of_awp Tryd.func19 rfl (Nat.le_of_ble_eq_true rfl) ?_
  refine awp_seq ?_
  refine awp_rw rfl ?_
  refine RW.new rfl rfl (eff_boxK (v := .t _) (k := 1) (id := 1) rfl rfl rfl rfl rfl rfl) ?_
  refine asT ?_
  refine asT ?_
  refine RW.nil ?_
  refine awp_seq ?_
  refine awp_rw rfl ?_
  refine RW.new rfl rfl (eff_allocK (k := 1) (id := 4) rfl rfl tz26 rfl rfl) ?_
  refine RW.nil ?_
  show AWP _ _ _ _
  refine awp_weak (weak_adopt1 (id0 := 4) 1100 1 3 rfl rfl) ?_
  refine awp_seq ?_
  refine awp_rw rfl ?_
  refine l1T ti32 rfl rfl rfl rfl rfl (.one rfl rfl rfl rfl) ?_
  refine RW.op rfl rfl (eff_makeFunc rfl rfl rfl rfl) ?_
  refine RW.new3 rfl rfl (eff_callKT (r' := .tup [.t _, .t _]) (replay39_ret l hO) co38 (fun id => bif Nat.beq id 1100 then 1100 else id - 1000) rfl rfl rfl ⟨rfl, trivial⟩ ⟨.t _, .fnL ⟨.ptr _ _ _ _ rfl rfl, .ptr _ _ _ _ rfl rfl, trivial⟩, trivial⟩ (.tupL ⟨.t _, .t _, trivial⟩) rfl ⟨⟨rfl, self_one, ⟨_, rfl, .inr ⟨rfl, rfl, rfl, rfl, 1, _, rfl, List.mem_singleton.2 rfl, .inr ⟨_, _, 0, rfl, rfl⟩⟩⟩⟩, ⟨rfl, self_own rfl rfl, ⟨_, rfl, .inr ⟨rfl, rfl, rfl, rfl, 1, _, rfl, List.mem_singleton.2 rfl, .inr ⟨_, _, 1, rfl, rfl⟩⟩⟩⟩, ⟨rfl, self_tree, ⟨_, rfl, .inl (Nat.succ_pos _)⟩⟩, trivial⟩ ⟨⟨self_one, .inl rfl⟩, ⟨self_own rfl rfl, .inl rfl⟩, ⟨self_tree, .inl rfl⟩, trivial⟩) ?_
  refine RW.op rfl rfl (eff_move (v := .tup _) rfl rfl rfl) ?_
  refine RW.op rfl rfl (eff_extractA rfl rfl rfl rfl) ?_
  refine RW.op rfl rfl (eff_extractA rfl rfl rfl rfl) ?_
  refine RW.new rfl rfl (eff_allocK (k := 2) (id := 5) rfl rfl tz64 rfl rfl) ?_
  refine RW.store rfl rfl (eff_storeW (v := .t _) (els := [_]) (els' := [_]) rfl rfl ti64 rfl rfl rfl rfl rfl rfl rfl rfl rfl) ?_
  refine asT ?_
  refine RW.nil ?_
  refine awp_seq ?_
  refine awp_seq ?_
  refine awp_rw rfl ?_
  refine mvT ?_
  refine ioT ?_
  refine RW.nil ?_
  refine awp_cond rfl (fun h1 => ?_) (fun h1 => ?_)
  · try simp only [cl] at h1
    refine awp_seq ?_
    refine awp_rw rfl ?_
    refine mvT ?_
    refine asT ?_
    refine asT ?_
    refine RW.nil ?_
    refine awp_ret ?_
    rw [held_bad (all_zt h1) h1]
    exact ⟨Or.inr rfl, [_, _], ⟨.tmp (.t _), .tmp (.t _), trivial⟩, (by repeat' first | exact trivial | exact Wk.refl _ | exact Wk.sl _ | refine And.intro ?_ ?_ | refine Wk.tupP ?_ | refine Wk.aggP ?_)⟩
  · try simp only [cl] at h1
    refine awp_skip ?_
    refine awp_seq ?_
    refine awp_rw rfl ?_
    refine RW.op rfl rfl (eff_load (y := .own _ _ _ _) rfl rfl ti26 rfl (.one rfl rfl rfl rfl)) ?_
    refine asO ?_
    refine asT ?_
    refine RW.nil ?_
    refine awp_ret ?_
    rw [held_ok (by omega), ← nvis_all (by omega)]
    exact ⟨Or.inr rfl, [_, _], ⟨.tmp (Res.ownT (xs := (heldTo l (nvis l)).map encN) rfl rfl rfl (by simp)), .tmp (.t _), trivial⟩, .refl _⟩

end Go.Tv.C36

end
section
open Go Go.Tv Go.Proofs
namespace Go.Tv.C36
set_option maxRecDepth 20000
set_option maxHeartbeats 2000000
set_option linter.unusedSimpArgs false
set_option linter.unusedVariables false
theorem rjudge_ret (l : List Rcd) (d : Dec) (hO : OKL l) : Ret Tryd.prog 23 [.sl (l.map encC) false, encD d] (.tup [encV (judge l d).1, encI (judge l d).2]) := by
  refine ret_of_awp Tryd.func23 rfl (Nat.le_of_ble_eq_true rfl) ?_
  refine awp_seq ?_
  refine awp_rw rfl ?_
  refine RW.new rfl rfl (eff_boxK (v := .t _) (k := 4) (id := 3) rfl rfl rfl rfl rfl rfl) ?_
  refine RW.new rfl rfl (eff_allocK (k := 5) (id := 4) rfl rfl tz49 rfl rfl) ?_
  refine asT ?_
  refine RW.nil ?_
  refine awp_seq ?_
  refine awp_rw rfl ?_
  refine mvT ?_
  refine RW.op rfl rfl (eff_callT (at_ret l hO) co26 rfl rfl rfl rfl) ?_
  refine mvT ?_
  refine RW.op rfl rfl (eff_extract rfl rfl rfl rfl) ?_
  refine RW.op rfl rfl (eff_extract rfl rfl rfl rfl) ?_
  refine asT ?_
  refine asT ?_
  refine RW.nil ?_
  refine awp_seq ?_
  refine awp_seq ?_
  refine awp_rw rfl ?_
  refine mvT ?_
  refine ioT ?_
  refine RW.nil ?_
  refine awp_cond rfl (fun h1 => ?_) (fun h1 => ?_)
  · try simp only [cl] at h1
    refine awp_seq ?_
    refine awp_rw rfl ?_
    refine RW.op rfl rfl (eff_buildT (ys := [_, _, _, _, _]) rfl rfl tz49 tg49 rfl) ?_
    refine mvT ?_
    refine RW.store rfl rfl (eff_storeW (v := .t _) (els := [_]) (els' := [_]) rfl rfl ti49 rfl rfl rfl rfl rfl rfl rfl rfl rfl) ?_
    refine asT ?_
    refine RW.nil ?_
    refine awp_ret ?_
    have hal : (allOf l).2 ≠ 0 := by
      intro h9; rw [atOf_ok h9] at h1; exact h1 rfl
    rw [judge_bad (all_zt hal) hal, show (atOf l).2 = (allOf l).2 from by rw [atOf_bad (all_zt hal) hal]]
    exact ⟨Or.inr rfl, [_, _], ⟨.cell rfl ti49 (.whole rfl rfl rfl rfl rfl rfl) (.t _), .tmp (.t _), trivial⟩, .refl _⟩
  · try simp only [cl] at h1
    refine awp_skip ?_
    refine awp_seq ?_
    refine awp_seq ?_
    refine awp_rw rfl ?_
    have hal : (allOf l).2 = 0 := by
      have h9 : (atOf l).2 = 0 := by first | assumption | omega
      unfold atOf at h9
      by_cases h10 : (allOf l).2 = 0
      · exact h10
      · rw [if_pos h10] at h9; exact absurd h9 h10
    have hat : (atOf l).1 = atL l (l.length + 1) := by rw [atOf_ok hal]
    have hlen := hO.len
    refine asT ?_
    refine RW.nil ?_
    refine awp_block ?_
    refine awp_loopW (fun m s => ∃ (i : Nat), (i ≤ l.length) ∧ (∀ j, j < i → isD l d j = false) ∧ m = l.length - i ∧ s = ⟨49, [(0, .t (.sl (l.map encC) false)), (3, .ptr 3 0 0 0), (4, .ptr 4 0 0 0), (6, .t (.sl ((atOf l).1.map encT) false)), (8, .t (encI (i : Nat)))], [(3, some ⟨4, 28, 0, [.t (encD d)]⟩), (4, some ⟨5, 49, 0, [.t z49]⟩)]⟩) (_) (⟨_, weak_keep (n := 49) (fr' := [(0, .t (.sl (l.map encC) false)), (3, .ptr 3 0 0 0), (4, .ptr 4 0 0 0), (6, .t (.sl ((atOf l).1.map encT) false)), (8, .t (encI (0 : Nat)))]) (st' := [(3, some ⟨4, 28, 0, [.t (encD d)]⟩), (4, some ⟨5, 49, 0, [.t z49]⟩)]) ⟨rfl, rfl, rfl, rfl, rfl, rfl, rfl, rfl, rfl, rfl, trivial⟩ ⟨rfl, okE_one rfl, rfl, okE_one rfl, trivial⟩, 0, (by omega), (by intro j hj; omega), rfl, rfl⟩) ?_
    rintro m s ⟨i, hi, ha, rfl, rfl⟩
    refine awp_seq ?_
    refine awp_seq ?_
    refine awp_rw rfl ?_
    refine mvT ?_
    refine mvT ?_
    refine RW.op rfl rfl (eff_lenM rfl rfl te32 rfl) ?_
    refine ioT ?_
    refine RW.nil ?_
    refine awp_cond rfl (fun h2 => ?_) (fun h2 => ?_)
    · try simp only [cl] at h2
      refine awp_skip ?_
      refine awp_seq ?_
      refine awp_block ?_
      refine awp_seq ?_
      have hil : i < l.length := by omega
      by_cases hc3 : (l[i]'hil).kind = 3
      · refine awp_rd [(some 24, []), (some 25, []), (some 26, []), (some 27, []), (some 28, []), (some 29, []), (some 30, []), (some 31, []), (some 32, []), (some 33, []), (some 34, []), (some 35, []), (some 36, []), (some 37, []), (some 38, [])] [[], [], [0, 1], [0, 1, 2], [0, 1, 2, 3], [0, 1, 2, 3, 4], [0, 1, 2, 3, 4, 5], [0, 1, 2, 3, 4, 5, 6], [0, 1, 2, 3, 4, 5, 6], [0, 1, 2, 3, 4, 5, 6, 7, 8], [0, 1, 2, 3, 4, 5, 6, 7, 8, 9], [0, 1, 2, 3, 4, 5, 6, 7, 8, 9, 10], [0, 1, 2, 3, 4, 5, 6], [0, 1, 2, 3, 4, 5, 6, 7, 8, 9, 10, 11, 12], [0, 1, 2, 3, 4, 5, 6, 7, 8, 9, 10, 11, 12, 13]] tm rfl rfl rfl rfl ?_
        refine mvD ?_
        refine mvD ?_
        refine RD.op rfl rfl rfl (eff_indexM (i := i) rfl rfl te32 rfl rfl (by first | rfl | omega) (by first | assumption | exact List.getElem?_eq_getElem (by omega)) rfl (by decide)) ?_
        refine RD.op rfl rfl rfl (eff_fieldAddrT rfl rfl tf47_1 (by decide) rfl) ?_
        refine RD.op rfl rfl rfl (eff_loadT1 rfl rfl ti3 rfl rfl) ?_
        refine RD.op rfl rfl rfl (eff_iop (r := .bool true) rfl rfl rfl rfl (by simp [iop, hc3])) ?_
        refine mvD ?_
        refine RD.gop rfl rfl rfl rfl rfl rfl rfl (eff_move (v := .t _) rfl rfl rfl) ?_
        refine RD.gop rfl rfl rfl rfl rfl rfl rfl (eff_move (v := .t _) rfl rfl rfl) ?_
        refine RD.gop rfl rfl rfl rfl rfl rfl rfl (eff_indexM (i := i) rfl rfl te32 rfl rfl (by first | rfl | omega) (by first | assumption | exact List.getElem?_eq_getElem (by omega)) rfl (by decide)) ?_
        refine RD.gop rfl rfl rfl rfl rfl rfl rfl (eff_fieldAddrT rfl rfl tf47_4 (by decide) rfl) ?_
        refine RD.gop rfl rfl rfl rfl rfl rfl rfl (eff_loadT (ys := [_, _, _, _]) rfl rfl ti28 rfl rfl rfl) ?_
        refine RD.gop rfl rfl rfl rfl rfl rfl rfl (eff_load rfl rfl ti28 rfl (.whole rfl rfl rfl rfl rfl rfl)) ?_
        refine RD.gop rfl rfl rfl rfl rfl rfl rfl (eff_structEqlA (cells := cellsD) (a := (l[i]'hil).dec) (b := d) rfl rfl ts28s ti28 th28 cellsD_inj cellsD_kind rfl rfl) ?_
        refine RD.op rfl rfl rfl (eff_pick (v := .t _) rfl rfl rfl rfl) ?_
        refine RD.nil ?_
        refine awp_cond rfl (fun h4 => ?_) (fun h4 => ?_)
        · try simp only [cl] at h4
          refine awp_seq ?_
          have hFit := runTo_fit12 hO (show i ≤ l.length by omega) (run_ok hal (by omega))
          have hfd := form_dec hil (run_form0 (run_ok hal (show i + 1 ≤ l.length by omega))) (by assumption)
          have hde : (l[i]'hil).dec = d := by assumption
          have hD : isD l d i = true := by rw [isD_at hil]; exact decide_eq_true ⟨by assumption, hde⟩
          rw [hde] at hfd
          refine awp_rd [(some 39, []), (some 40, []), (some 41, []), (some 42, []), (some 43, []), (some 44, []), (some 45, []), (some 46, []), (some 47, []), (none, [4]), (some 5, [])] [[], [], [0, 1], [0, 1, 2], [], [], [], [5, 6], [0, 1, 2, 3, 4, 5, 6, 7], [0, 1, 2, 3, 4, 5, 6, 7, 8], [0, 1, 2, 3, 4, 5, 6, 7, 8, 9]] tm rfl rfl rfl rfl ?_
          refine mvD ?_
          refine mvD ?_
          refine RD.op rfl rfl rfl (eff_indexAddrT (i := i) rfl rfl te56 rfl rfl (by first | rfl | omega) (by rw [hat]; exact atL_get (by omega)) rfl (by decide)) ?_
          refine RD.op rfl rfl rfl (eff_loadW rfl rfl ti64 rfl rfl rfl) ?_
          refine RD.op rfl rfl rfl (eff_load rfl rfl ti28 rfl (.whole rfl rfl rfl rfl rfl rfl)) ?_
          refine mvD ?_
          refine mvD ?_
          refine RD.op rfl rfl rfl (eff_callT (rsent_ret l i (by omega) (by omega) hO.seq) co24 rfl rfl rfl rfl) ?_
          refine RD.op rfl rfl rfl (eff_callT (judged_ret _ d _ hFit.hp (fun y hy => (hFit.nx y hy).mono (by decide)) (by omega) (by have := hFit.len; omega)) co42 rfl rfl rfl rfl) ?_
          refine RD.store rfl rfl rfl (eff_storeW (v := .t _) (els := [_]) (els' := [_]) rfl rfl ti49 rfl rfl rfl rfl rfl rfl rfl rfl rfl) ?_
          refine RD.op rfl rfl rfl (eff_assign (v := .t _) rfl rfl rfl) ?_
          refine RD.nil ?_
          refine awp_ret ?_
          rw [judge_hit hal (findD_hit (by omega) ha hD)]
          exact ⟨Or.inr rfl, [_, _], ⟨.cell rfl ti49 (.whole rfl rfl rfl rfl rfl rfl) (.t _), .tmp (.t _), trivial⟩, .refl _⟩
        · try simp only [cl] at h4
          refine awp_skip ?_
          refine awp_rw rfl ?_
          refine mvT ?_
          refine RW.op rfl rfl (eff_iop rfl rfl rfl rfl (iadd (by omega))) ?_
          refine asT ?_
          refine RW.nil ?_
          refine ⟨_, ?_, _, weak_keep (n := 49) (fr' := [(0, .t (.sl (l.map encC) false)), (3, .ptr 3 0 0 0), (4, .ptr 4 0 0 0), (6, .t (.sl ((atOf l).1.map encT) false)), (8, .t (encI ((i + 1) : Nat)))]) (st' := [(3, some ⟨4, 28, 0, [.t (encD d)]⟩), (4, some ⟨5, 49, 0, [.t z49]⟩)]) ⟨rfl, rfl, rfl, rfl, rfl, rfl, rfl, rfl, rfl, rfl, trivial⟩ ⟨rfl, okE_one rfl, rfl, okE_one rfl, trivial⟩, i + 1, (by omega), (by intro j hj; rcases Nat.lt_or_ge j i with h | h; exact ha j h; rw [show j = i from by omega, isD_at hil]; exact decide_eq_false (fun hh => by first | exact absurd hh.1 (by assumption) | exact absurd hh.2 (by assumption))), rfl, rfl⟩
          omega
      · refine awp_rd [(some 24, []), (some 25, []), (some 26, []), (some 27, []), (some 28, []), (some 29, []), (some 30, []), (some 31, []), (some 32, []), (some 33, []), (some 34, []), (some 35, []), (some 36, []), (some 37, []), (some 38, [])] [[], [], [0, 1], [0, 1, 2], [0, 1, 2, 3], [0, 1, 2, 3, 4], [0, 1, 2, 3, 4, 5], [0, 1, 2, 3, 4, 5, 6], [0, 1, 2, 3, 4, 5, 6], [0, 1, 2, 3, 4, 5, 6, 7, 8], [0, 1, 2, 3, 4, 5, 6, 7, 8, 9], [0, 1, 2, 3, 4, 5, 6, 7, 8, 9, 10], [0, 1, 2, 3, 4, 5, 6], [0, 1, 2, 3, 4, 5, 6, 7, 8, 9, 10, 11, 12], [0, 1, 2, 3, 4, 5, 6, 7, 8, 9, 10, 11, 12, 13]] tm rfl rfl rfl rfl ?_
        refine mvD ?_
        refine mvD ?_
        refine RD.op rfl rfl rfl (eff_indexM (i := i) rfl rfl te32 rfl rfl (by first | rfl | omega) (by first | assumption | exact List.getElem?_eq_getElem (by omega)) rfl (by decide)) ?_
        refine RD.op rfl rfl rfl (eff_fieldAddrT rfl rfl tf47_1 (by decide) rfl) ?_
        refine RD.op rfl rfl rfl (eff_loadT1 rfl rfl ti3 rfl rfl) ?_
        refine RD.op rfl rfl rfl (eff_iop (r := .bool false) rfl rfl rfl rfl (by simp [iop, hc3])) ?_
        refine mvD ?_
        refine gkD ?_
        refine gkD ?_
        refine gkD ?_
        refine gkD ?_
        refine gkD ?_
        refine gkD ?_
        refine gkD ?_
        refine RD.op rfl rfl rfl (eff_pick (v := .t _) rfl rfl rfl rfl) ?_
        refine RD.nil ?_
        refine awp_cond rfl (fun h => nomatch h) (fun _ => ?_)
        refine awp_skip ?_
        refine awp_rw rfl ?_
        refine mvT ?_
        refine RW.op rfl rfl (eff_iop rfl rfl rfl rfl (iadd (by omega))) ?_
        refine asT ?_
        refine RW.nil ?_
        refine ⟨_, ?_, _, weak_keep (n := 49) (fr' := [(0, .t (.sl (l.map encC) false)), (3, .ptr 3 0 0 0), (4, .ptr 4 0 0 0), (6, .t (.sl ((atOf l).1.map encT) false)), (8, .t (encI ((i + 1) : Nat)))]) (st' := [(3, some ⟨4, 28, 0, [.t (encD d)]⟩), (4, some ⟨5, 49, 0, [.t z49]⟩)]) ⟨rfl, rfl, rfl, rfl, rfl, rfl, rfl, rfl, rfl, rfl, trivial⟩ ⟨rfl, okE_one rfl, rfl, okE_one rfl, trivial⟩, i + 1, (by omega), (by intro j hj; rcases Nat.lt_or_ge j i with h | h; exact ha j h; rw [show j = i from by omega, isD_at hil]; exact decide_eq_false (fun hh => by first | exact absurd hh.1 (by assumption) | exact absurd hh.2 (by assumption))), rfl, rfl⟩
        omega
    · try simp only [cl] at h2
      refine awp_exit ?_
      refine awp_seq ?_
      refine awp_rw rfl ?_
      refine RW.op rfl rfl (eff_buildT (ys := [_, _, _, _, _]) rfl rfl tz49 tg49 rfl) ?_
      refine RW.store rfl rfl (eff_storeW (v := .t _) (els := [_]) (els' := [_]) rfl rfl ti49 rfl rfl rfl rfl rfl rfl rfl rfl rfl) ?_
      refine asT ?_
      refine RW.nil ?_
      refine awp_ret ?_
      have hi2 : i = l.length := by omega
      subst hi2
      rw [judge_none hal (findD_none ha)]
      exact ⟨Or.inr rfl, [_, _], ⟨.cell rfl ti49 (.whole rfl rfl rfl rfl rfl rfl) (.t _), .tmp (.t _), trivial⟩, .refl _⟩

end Go.Tv.C36

end
section
open Go Go.Tv Go.Proofs
namespace Go.Tv.C36
set_option maxRecDepth 20000
set_option maxHeartbeats 2000000
set_option linter.unusedSimpArgs false
set_option linter.unusedVariables false
theorem sameN_ret (a : List Nat) (hl : a.length ≤ 1000000) : Ret Tryd.prog 21 [.sl (a.map encN) false, .sl (a.map encN) false] (.bool true) := by
  refine ret_of_awp Tryd.func21 rfl (Nat.le_of_ble_eq_true rfl) ?_
  refine awp_seq ?_
  refine awp_rw rfl ?_
  refine asT ?_
  refine RW.nil ?_
  refine awp_seq ?_
  refine awp_seq ?_
  refine awp_rw rfl ?_
  refine mvT ?_
  refine RW.op rfl rfl (eff_lenM rfl rfl te26 rfl) ?_
  refine mvT ?_
  refine RW.op rfl rfl (eff_lenM rfl rfl te26 rfl) ?_
  refine RW.op rfl rfl (eff_iop (r := .bool false) rfl rfl rfl rfl (by simp [iop])) ?_
  refine RW.nil ?_
  refine awp_cond rfl (fun h => nomatch h) (fun _ => ?_)
  refine awp_skip ?_
  refine awp_seq ?_
  refine awp_seq ?_
  refine awp_rw rfl ?_
  refine asT ?_
  refine RW.nil ?_
  refine awp_block ?_
  refine awp_loopW (fun m s => ∃ (i : Nat), (i ≤ a.length) ∧ m = a.length - i ∧ s = ⟨26, [(0, .t (.sl (a.map encN) false)), (1, .t (.sl (a.map encN) false)), (5, .t (encI (i : Nat)))], []⟩) (_) (⟨_, weak_keep (n := 26) (fr' := [(0, .t (.sl (a.map encN) false)), (1, .t (.sl (a.map encN) false)), (5, .t (encI (0 : Nat)))]) (st' := []) ⟨rfl, rfl, rfl, rfl, rfl, rfl, trivial⟩ trivial, 0, (by omega), rfl, rfl⟩) ?_
  rintro m s ⟨i, hi, rfl, rfl⟩
  refine awp_seq ?_
  refine awp_seq ?_
  refine awp_rw rfl ?_
  refine mvT ?_
  refine mvT ?_
  refine RW.op rfl rfl (eff_lenM rfl rfl te26 rfl) ?_
  refine ioT ?_
  refine RW.nil ?_
  refine awp_cond rfl (fun h1 => ?_) (fun h1 => ?_)
  · try simp only [cl] at h1
    refine awp_skip ?_
    refine awp_seq ?_
    refine awp_block ?_
    refine awp_seq ?_
    refine awp_rd [(some 17, []), (some 18, []), (some 19, []), (some 20, []), (some 21, []), (some 22, []), (some 23, []), (some 24, []), (some 25, [])] [[], [], [0, 1], [0, 1, 2], [], [], [4, 5], [4, 5, 6], [0, 1, 2, 3, 4, 5, 6, 7]] tm rfl rfl rfl rfl ?_
    refine mvD ?_
    refine mvD ?_
    refine RD.op rfl rfl rfl (eff_indexM rfl rfl te26 rfl rfl rfl (by first | assumption | exact List.getElem?_eq_getElem (by omega)) rfl (by decide)) ?_
    refine RD.op rfl rfl rfl (eff_loadW1 rfl rfl ti3 rfl rfl) ?_
    refine mvD ?_
    refine mvD ?_
    refine RD.op rfl rfl rfl (eff_indexM rfl rfl te26 rfl rfl rfl (by first | assumption | exact List.getElem?_eq_getElem (by omega)) rfl (by decide)) ?_
    refine RD.op rfl rfl rfl (eff_loadW1 rfl rfl ti3 rfl rfl) ?_
    refine RD.op rfl rfl rfl (eff_iop (r := .bool false) rfl rfl rfl rfl (by simp [iop])) ?_
    refine RD.nil ?_
    refine awp_cond rfl (fun h => nomatch h) (fun _ => ?_)
    refine awp_skip ?_
    refine awp_rw rfl ?_
    refine mvT ?_
    refine RW.op rfl rfl (eff_iop rfl rfl rfl rfl (iadd (by omega))) ?_
    refine asT ?_
    refine RW.nil ?_
    refine ⟨_, ?_, _, weak_keep (n := 26) (fr' := [(0, .t (.sl (a.map encN) false)), (1, .t (.sl (a.map encN) false)), (5, .t (encI ((i + 1) : Nat)))]) (st' := []) ⟨rfl, rfl, rfl, rfl, rfl, rfl, trivial⟩ trivial, i + 1, (by omega), rfl, rfl⟩
    omega
  · try simp only [cl] at h1
    refine awp_exit ?_
    refine awp_seq ?_
    refine awp_rw rfl ?_
    refine asT ?_
    refine RW.nil ?_
    refine awp_ret ?_
    exact ⟨Or.inr rfl, [_], ⟨.tmp (.t _), trivial⟩, .refl _⟩

theorem has_t {l : List Rep} {r : Rep} (hl : l.length ≤ 1000000) (h : r ∈ l) : Ret Tryd.prog 52 [.sl (l.map encR) false, encR r] (.bool true) := by
  have := has_ret l r hl
  rwa [decide_eq_true h] at this
theorem has_f {l : List Rep} {r : Rep} (hl : l.length ≤ 1000000) (h : ¬ r ∈ l) : Ret Tryd.prog 52 [.sl (l.map encR) false, encR r] (.bool false) := by
  have := has_ret l r hl
  rwa [decide_eq_false h] at this
theorem conf_judge (l : List Rcd) (d : Dec) (v : Vrd) : confirms l d v = if (judge l d).2 ≠ 0 ∨ (judge l d).1.held ≠ v.held then false else if v.held then decide (v.wit = zr) else decide (v.wit ∈ (defence l d).1) := by
  unfold confirms judge
  by_cases h : (defence l d).2 = 0
  · rw [if_neg (by rw [h]; decide : ¬ (defence l d).2 ≠ 0)]
    show _ = if (0 : Int) ≠ 0 ∨ (vOf (defence l d).1).held ≠ v.held then _ else _
    rw [vOf_held]
    have e : (defence l d).1.isEmpty = decide ((defence l d).1 = []) := by cases (defence l d).1 <;> rfl
    rw [e]
    by_cases h2 : v.held = decide ((defence l d).1 = [])
    · have c1 : ¬ ((defence l d).2 ≠ 0 ∨ v.held ≠ decide ((defence l d).1 = [])) := fun hh => hh.elim (fun x => x h) (fun x => x h2)
      have c2 : ¬ ((0 : Int) ≠ 0 ∨ decide ((defence l d).1 = []) ≠ v.held) := fun hh => hh.elim (fun x => x rfl) (fun x => x h2.symm)
      rw [if_neg c1, if_neg c2]
    · rw [if_pos (.inr h2), if_pos (.inr (Ne.symm h2))]
  · rw [if_pos (.inl h), if_pos h, if_pos (.inl h)]
theorem conf_hit {l : List Rcd} {d : Dec} {i : Nat} {w : Rep} (h : (allOf l).2 = 0) (hf : findD l d l.length = some i) : decide (w ∈ (defence l d).1) = (decide (w ∈ (runTo l i).1.poss) && rightD d w (sentN (l.take i))) := by
  rw [defence_ok h, hf]
  show decide (w ∈ List.filter _ _) = _
  rw [Bool.eq_iff_iff]
  simp [List.mem_filter]

theorem rconfirms_ret (l : List Rcd) (d : Dec) (v : Vrd) (hO : OKL l) : Ret Tryd.prog 33 [.sl (l.map encC) false, encD d, encV v] (.bool (confirms l d v)) := by
  refine ret_of_awp Tryd.func33 rfl (Nat.le_of_ble_eq_true rfl) ?_
  refine awp_seq ?_
  refine awp_rw rfl ?_
  refine RW.new rfl rfl (eff_boxK (v := .t _) (k := 4) (id := 4) rfl rfl rfl rfl rfl rfl) ?_
  refine RW.new rfl rfl (eff_boxK (v := .t _) (k := 5) (id := 5) rfl rfl rfl rfl rfl rfl) ?_
  refine asT ?_
  refine RW.nil ?_
  refine awp_seq ?_
  refine awp_rw rfl ?_
  refine mvT ?_
  refine RW.op rfl rfl (eff_load rfl rfl ti28 rfl (.whole rfl rfl rfl rfl rfl rfl)) ?_
  refine RW.op rfl rfl (eff_callT (rjudge_ret l d hO) co23 rfl rfl rfl rfl) ?_
  refine mvT ?_
  refine RW.op rfl rfl (eff_extract rfl rfl rfl rfl) ?_
  refine RW.op rfl rfl (eff_extract rfl rfl rfl rfl) ?_
  refine RW.new rfl rfl (eff_allocK (k := 5) (id := 7) rfl rfl tz49 rfl rfl) ?_
  refine RW.store rfl rfl (eff_storeW (v := .t _) (els := [_]) (els' := [_]) rfl rfl ti49 rfl rfl rfl rfl rfl rfl rfl rfl rfl) ?_
  refine asT ?_
  refine RW.nil ?_
  refine awp_seq ?_
  refine awp_seq ?_
  refine awp_rw rfl ?_
  refine mvT ?_
  refine ioT ?_
  refine mvT ?_
  refine RW.split 20 rfl (fun h1 => ?_) (fun h1 => ?_)
  · try simp only [cl] at h1
    refine gkT ?_
    refine gkT ?_
    refine gkT ?_
    refine gkT ?_
    refine gkT ?_
    refine pkT ?_
    refine RW.nil ?_
    refine awp_cond rfl (fun _ => ?_) (fun h => nomatch h)
    refine awp_seq ?_
    refine awp_rw rfl ?_
    refine asT ?_
    refine RW.nil ?_
    refine awp_ret ?_
    exact ⟨Or.inr rfl, [_], ⟨.tmp (.t _), trivial⟩, wk_bool (by rw [conf_judge]; simp_all)⟩
  · try simp only [cl] at h1
    refine RW.gop rfl rfl rfl rfl rfl rfl (eff_fieldAddr rfl rfl tf49_0 (by decide) rfl rfl rfl (Nat.le_of_ble_eq_true rfl)) ?_
    refine RW.gop rfl rfl rfl rfl rfl rfl (eff_load (y := .t _) rfl rfl ti4 rfl (.one rfl rfl rfl rfl)) ?_
    refine RW.gop rfl rfl rfl rfl rfl rfl (eff_fieldAddr rfl rfl tf49_0 (by decide) rfl rfl rfl (Nat.le_of_ble_eq_true rfl)) ?_
    refine RW.gop rfl rfl rfl rfl rfl rfl (eff_load (y := .t _) rfl rfl ti4 rfl (.one rfl rfl rfl rfl)) ?_
    refine RW.gop rfl rfl rfl rfl rfl rfl (eff_boolEq rfl rfl (.inr rfl) tu4 rfl rfl rfl) ?_
    refine pkT ?_
    refine RW.nil ?_
    refine awp_cond rfl (fun h2 => ?_) (fun h2 => ?_)
    · try simp only [cl] at h2
      refine awp_seq ?_
      refine awp_rw rfl ?_
      refine asT ?_
      refine RW.nil ?_
      refine awp_ret ?_
      exact ⟨Or.inr rfl, [_], ⟨.tmp (.t _), trivial⟩, wk_bool (by rw [conf_judge]; simp_all)⟩
    · try simp only [cl] at h2
      refine awp_skip ?_
      refine awp_seq ?_
      refine awp_seq ?_
      refine awp_rw rfl ?_
      refine faT tf49_0 ?_
      refine l1T ti4 rfl rfl rfl rfl rfl (.one rfl rfl rfl rfl) ?_
      refine RW.nil ?_
      refine awp_cond rfl (fun h3 => ?_) (fun h3 => ?_)
      · try simp only [cl] at h3
        refine awp_seq ?_
        refine awp_rw rfl ?_
        refine faT tf49_1 ?_
        refine RW.op rfl rfl (eff_loadS (ys := [_, _, _, _]) rfl rfl ti23 rfl rfl rfl rfl rfl rfl) ?_
        refine RW.op rfl rfl (eff_buildT (ys := [_, _, _, _]) rfl rfl tz23 tg23 rfl) ?_
        refine RW.op rfl rfl (eff_structEqlA (cells := cellsR) (a := v.wit) (b := zr) rfl rfl ts23s ti23 th23 cellsR_inj cellsR_kind rfl rfl) ?_
        refine asT ?_
        refine RW.nil ?_
        refine awp_ret ?_
        exact ⟨Or.inr rfl, [_], ⟨.tmp (.t _), trivial⟩, wk_bool (by rw [conf_judge]; simp_all)⟩
      · try simp only [cl] at h3
        refine awp_skip ?_
        refine awp_seq ?_
        refine awp_rw rfl ?_
        refine mvT ?_
        refine RW.op rfl rfl (eff_callT (at_ret l hO) co26 rfl rfl rfl rfl) ?_
        refine mvT ?_
        refine RW.op rfl rfl (eff_extract rfl rfl rfl rfl) ?_
        refine RW.op rfl rfl (eff_extract rfl rfl rfl rfl) ?_
        refine asT ?_
        refine asT ?_
        refine RW.nil ?_
        refine awp_seq ?_
        refine awp_seq ?_
        refine awp_rw rfl ?_
        refine asT ?_
        refine RW.nil ?_
        have hje : (judge l d).2 = 0 := by assumption
        have hal : (allOf l).2 = 0 := by
          by_cases h10 : (allOf l).2 = 0
          · exact h10
          · rw [judge_bad (all_zt h10) h10] at hje; exact absurd hje h10
        have hat : (atOf l).1 = atL l (l.length + 1) := by rw [atOf_ok hal]
        have hlen := hO.len
        refine awp_block ?_
        refine awp_loopW (fun m s => ∃ (i : Nat), (i ≤ l.length) ∧ (∀ j, j < i → isD l d j = false) ∧ m = l.length - i ∧ s = ⟨76, [(0, .t (.sl (l.map encC) false)), (4, .ptr 4 0 0 0), (5, .ptr 5 0 0 0), (9, .t (.sl ((atOf l).1.map encT) false)), (11, .t (encI (i : Nat)))], [(4, some ⟨4, 28, 0, [.t (encD d)]⟩), (5, some ⟨5, 49, 0, [.t (encV v)]⟩)]⟩) (_) (⟨_, weak_keep (n := 76) (fr' := [(0, .t (.sl (l.map encC) false)), (4, .ptr 4 0 0 0), (5, .ptr 5 0 0 0), (9, .t (.sl ((atOf l).1.map encT) false)), (11, .t (encI (0 : Nat)))]) (st' := [(4, some ⟨4, 28, 0, [.t (encD d)]⟩), (5, some ⟨5, 49, 0, [.t (encV v)]⟩)]) ⟨rfl, rfl, rfl, rfl, rfl, rfl, rfl, rfl, rfl, rfl, trivial⟩ ⟨rfl, okE_one rfl, rfl, okE_one rfl, trivial⟩, 0, (by omega), (by intro j hj; omega), rfl, rfl⟩) ?_
        rintro m s ⟨i, hi, ha, rfl, rfl⟩
        refine awp_seq ?_
        refine awp_seq ?_
        refine awp_rw rfl ?_
        refine mvT ?_
        refine mvT ?_
        refine RW.op rfl rfl (eff_lenM rfl rfl te32 rfl) ?_
        refine ioT ?_
        refine RW.nil ?_
        refine awp_cond rfl (fun h4 => ?_) (fun h4 => ?_)
        · try simp only [cl] at h4
          refine awp_skip ?_
          refine awp_seq ?_
          refine awp_block ?_
          refine awp_seq ?_
          have hil : i < l.length := by omega
          by_cases hc5 : (l[i]'hil).kind = 3
          · refine awp_rd [(some 44, []), (some 45, []), (some 46, []), (some 47, []), (some 48, []), (some 49, []), (some 50, []), (some 51, []), (some 52, []), (some 53, []), (some 54, []), (some 55, []), (some 56, []), (some 57, []), (some 58, [])] [[], [], [0, 1], [0, 1, 2], [0, 1, 2, 3], [0, 1, 2, 3, 4], [0, 1, 2, 3, 4, 5], [0, 1, 2, 3, 4, 5, 6], [0, 1, 2, 3, 4, 5, 6], [0, 1, 2, 3, 4, 5, 6, 7, 8], [0, 1, 2, 3, 4, 5, 6, 7, 8, 9], [0, 1, 2, 3, 4, 5, 6, 7, 8, 9, 10], [0, 1, 2, 3, 4, 5, 6], [0, 1, 2, 3, 4, 5, 6, 7, 8, 9, 10, 11, 12], [0, 1, 2, 3, 4, 5, 6, 7, 8, 9, 10, 11, 12, 13]] tm rfl rfl rfl rfl ?_
            refine mvD ?_
            refine mvD ?_
            refine RD.op rfl rfl rfl (eff_indexM (i := i) rfl rfl te32 rfl rfl (by first | rfl | omega) (by first | assumption | exact List.getElem?_eq_getElem (by omega)) rfl (by decide)) ?_
            refine RD.op rfl rfl rfl (eff_fieldAddrT rfl rfl tf47_1 (by decide) rfl) ?_
            refine RD.op rfl rfl rfl (eff_loadT1 rfl rfl ti3 rfl rfl) ?_
            refine RD.op rfl rfl rfl (eff_iop (r := .bool true) rfl rfl rfl rfl (by simp [iop, hc5])) ?_
            refine mvD ?_
            refine RD.gop rfl rfl rfl rfl rfl rfl rfl (eff_move (v := .t _) rfl rfl rfl) ?_
            refine RD.gop rfl rfl rfl rfl rfl rfl rfl (eff_move (v := .t _) rfl rfl rfl) ?_
            refine RD.gop rfl rfl rfl rfl rfl rfl rfl (eff_indexM (i := i) rfl rfl te32 rfl rfl (by first | rfl | omega) (by first | assumption | exact List.getElem?_eq_getElem (by omega)) rfl (by decide)) ?_
            refine RD.gop rfl rfl rfl rfl rfl rfl rfl (eff_fieldAddrT rfl rfl tf47_4 (by decide) rfl) ?_
            refine RD.gop rfl rfl rfl rfl rfl rfl rfl (eff_loadT (ys := [_, _, _, _]) rfl rfl ti28 rfl rfl rfl) ?_
            refine RD.gop rfl rfl rfl rfl rfl rfl rfl (eff_load rfl rfl ti28 rfl (.whole rfl rfl rfl rfl rfl rfl)) ?_
            refine RD.gop rfl rfl rfl rfl rfl rfl rfl (eff_structEqlA (cells := cellsD) (a := (l[i]'hil).dec) (b := d) rfl rfl ts28s ti28 th28 cellsD_inj cellsD_kind rfl rfl) ?_
            refine RD.op rfl rfl rfl (eff_pick (v := .t _) rfl rfl rfl rfl) ?_
            refine RD.nil ?_
            refine awp_cond rfl (fun h6 => ?_) (fun h6 => ?_)
            · try simp only [cl] at h6
              refine awp_seq ?_
              have hFit := runTo_fit12 hO (show i ≤ l.length by omega) (run_ok hal (by omega))
              have hfd := form_dec hil (run_form0 (run_ok hal (show i + 1 ≤ l.length by omega))) (by assumption)
              have hde : (l[i]'hil).dec = d := by assumption
              have hD : isD l d i = true := by rw [isD_at hil]; exact decide_eq_true ⟨by assumption, hde⟩
              rw [hde] at hfd
              have hch := fun w => conf_hit (w := w) hal (findD_hit (n := l.length) (by omega) ha hD)
              by_cases hc7 : v.wit ∈ (runTo l i).1.poss
              · refine awp_rd [(some 59, []), (some 60, []), (some 61, []), (some 62, []), (some 63, []), (some 64, []), (some 65, []), (some 66, []), (some 67, []), (some 68, []), (some 69, []), (some 70, []), (some 71, []), (some 72, []), (some 73, []), (some 74, []), (some 75, []), (some 6, [])] [[], [], [0, 1], [0, 1, 2], [0, 1, 2, 3], [], [5], [0, 1, 2, 3, 4, 5, 6], [0, 1, 2, 3, 4, 5, 6, 7], [0, 1, 2, 3, 4, 5, 6, 7, 8], [0, 1, 2, 3, 4, 5, 6, 7, 8], [0, 1, 2, 3, 4, 5, 6, 7, 8, 10], [0, 1, 2, 3, 4, 5, 6, 7, 8], [0, 1, 2, 3, 4, 5, 6, 7, 8], [0, 1, 2, 3, 4, 5, 6, 7, 8, 12, 13], [0, 1, 2, 3, 4, 5, 6, 7, 8, 9, 10, 11, 12, 13, 14], [0, 1, 2, 3, 4, 5, 6, 7, 8, 9, 10, 11, 12, 13, 14, 15], [0, 1, 2, 3, 4, 5, 6, 7, 8, 9, 10, 11, 12, 13, 14, 15, 16]] tm rfl rfl rfl rfl ?_
                refine mvD ?_
                refine mvD ?_
                refine RD.op rfl rfl rfl (eff_indexAddrT (i := i) rfl rfl te56 rfl rfl (by first | rfl | omega) (by rw [hat]; exact atL_get (by omega)) rfl (by decide)) ?_
                refine RD.op rfl rfl rfl (eff_fieldAddrT rfl rfl tf64_1 (by decide) rfl) ?_
                refine RD.op rfl rfl rfl (eff_loadT1 rfl rfl ti33 rfl rfl) ?_
                refine RD.op rfl rfl rfl (eff_fieldAddr rfl rfl tf49_1 (by decide) rfl rfl rfl (Nat.le_of_ble_eq_true rfl)) ?_
                refine RD.op rfl rfl rfl (eff_loadS (ys := [_, _, _, _]) rfl rfl ti23 rfl rfl rfl rfl rfl rfl) ?_
                refine RD.op rfl rfl rfl (eff_callT (has_t (by have := hFit.len; omega) hc7) co52 rfl rfl rfl rfl) ?_
                refine mvD ?_
                refine RD.gop rfl rfl rfl rfl rfl rfl rfl (eff_load rfl rfl ti28 rfl (.whole rfl rfl rfl rfl rfl rfl)) ?_
                refine RD.gop rfl rfl rfl rfl rfl rfl rfl (eff_fieldAddr rfl rfl tf49_1 (by decide) rfl rfl rfl (Nat.le_of_ble_eq_true rfl)) ?_
                refine RD.gop rfl rfl rfl rfl rfl rfl rfl (eff_loadS (ys := [_, _, _, _]) rfl rfl ti23 rfl rfl rfl rfl rfl rfl) ?_
                refine RD.gop rfl rfl rfl rfl rfl rfl rfl (eff_move (v := .t _) rfl rfl rfl) ?_
                refine RD.gop rfl rfl rfl rfl rfl rfl rfl (eff_move (v := .t _) rfl rfl rfl) ?_
                refine RD.gop rfl rfl rfl rfl rfl rfl rfl (eff_callT (rsent_ret l i (by omega) (by omega) hO.seq) co24 rfl rfl rfl rfl) ?_
                refine RD.gop rfl rfl rfl rfl rfl rfl rfl (eff_callT (rright_ret d v.wit _ (hFit.hp _ hc7) ((hFit.nx _ hc7).mono (by decide)) (by omega)) co15 rfl rfl rfl rfl) ?_
                refine RD.op rfl rfl rfl (eff_pick (v := .t _) rfl rfl rfl rfl) ?_
                refine RD.op rfl rfl rfl (eff_assign (v := .t _) rfl rfl rfl) ?_
                refine RD.nil ?_
                refine awp_ret ?_
                exact ⟨Or.inr rfl, [_], ⟨.tmp (.t _), trivial⟩, wk_bool (by rw [conf_judge]; simp_all)⟩
              · refine awp_rd [(some 59, []), (some 60, []), (some 61, []), (some 62, []), (some 63, []), (some 64, []), (some 65, []), (some 66, []), (some 67, []), (some 68, []), (some 69, []), (some 70, []), (some 71, []), (some 72, []), (some 73, []), (some 74, []), (some 75, []), (some 6, [])] [[], [], [0, 1], [0, 1, 2], [0, 1, 2, 3], [], [5], [0, 1, 2, 3, 4, 5, 6], [0, 1, 2, 3, 4, 5, 6, 7], [0, 1, 2, 3, 4, 5, 6, 7, 8], [0, 1, 2, 3, 4, 5, 6, 7, 8], [0, 1, 2, 3, 4, 5, 6, 7, 8, 10], [0, 1, 2, 3, 4, 5, 6, 7, 8], [0, 1, 2, 3, 4, 5, 6, 7, 8], [0, 1, 2, 3, 4, 5, 6, 7, 8, 12, 13], [0, 1, 2, 3, 4, 5, 6, 7, 8, 9, 10, 11, 12, 13, 14], [0, 1, 2, 3, 4, 5, 6, 7, 8, 9, 10, 11, 12, 13, 14, 15], [0, 1, 2, 3, 4, 5, 6, 7, 8, 9, 10, 11, 12, 13, 14, 15, 16]] tm rfl rfl rfl rfl ?_
                refine mvD ?_
                refine mvD ?_
                refine RD.op rfl rfl rfl (eff_indexAddrT (i := i) rfl rfl te56 rfl rfl (by first | rfl | omega) (by rw [hat]; exact atL_get (by omega)) rfl (by decide)) ?_
                refine RD.op rfl rfl rfl (eff_fieldAddrT rfl rfl tf64_1 (by decide) rfl) ?_
                refine RD.op rfl rfl rfl (eff_loadT1 rfl rfl ti33 rfl rfl) ?_
                refine RD.op rfl rfl rfl (eff_fieldAddr rfl rfl tf49_1 (by decide) rfl rfl rfl (Nat.le_of_ble_eq_true rfl)) ?_
                refine RD.op rfl rfl rfl (eff_loadS (ys := [_, _, _, _]) rfl rfl ti23 rfl rfl rfl rfl rfl rfl) ?_
                refine RD.op rfl rfl rfl (eff_callT (has_f (by have := hFit.len; omega) hc7) co52 rfl rfl rfl rfl) ?_
                refine mvD ?_
                refine gkD ?_
                refine gkD ?_
                refine gkD ?_
                refine gkD ?_
                refine gkD ?_
                refine gkD ?_
                refine gkD ?_
                refine RD.op rfl rfl rfl (eff_pick (v := .t _) rfl rfl rfl rfl) ?_
                refine RD.op rfl rfl rfl (eff_assign (v := .t _) rfl rfl rfl) ?_
                refine RD.nil ?_
                refine awp_ret ?_
                exact ⟨Or.inr rfl, [_], ⟨.tmp (.t _), trivial⟩, wk_bool (by rw [conf_judge]; simp_all)⟩
            · try simp only [cl] at h6
              refine awp_skip ?_
              refine awp_rw rfl ?_
              refine mvT ?_
              refine RW.op rfl rfl (eff_iop rfl rfl rfl rfl (iadd (by omega))) ?_
              refine asT ?_
              refine RW.nil ?_
              refine ⟨_, ?_, _, weak_keep (n := 76) (fr' := [(0, .t (.sl (l.map encC) false)), (4, .ptr 4 0 0 0), (5, .ptr 5 0 0 0), (9, .t (.sl ((atOf l).1.map encT) false)), (11, .t (encI ((i + 1) : Nat)))]) (st' := [(4, some ⟨4, 28, 0, [.t (encD d)]⟩), (5, some ⟨5, 49, 0, [.t (encV v)]⟩)]) ⟨rfl, rfl, rfl, rfl, rfl, rfl, rfl, rfl, rfl, rfl, trivial⟩ ⟨rfl, okE_one rfl, rfl, okE_one rfl, trivial⟩, i + 1, (by omega), (by intro j hj; rcases Nat.lt_or_ge j i with h | h; exact ha j h; rw [show j = i from by omega, isD_at hil]; exact decide_eq_false (fun hh => by first | exact absurd hh.1 (by assumption) | exact absurd hh.2 (by assumption))), rfl, rfl⟩
              omega
          · refine awp_rd [(some 44, []), (some 45, []), (some 46, []), (some 47, []), (some 48, []), (some 49, []), (some 50, []), (some 51, []), (some 52, []), (some 53, []), (some 54, []), (some 55, []), (some 56, []), (some 57, []), (some 58, [])] [[], [], [0, 1], [0, 1, 2], [0, 1, 2, 3], [0, 1, 2, 3, 4], [0, 1, 2, 3, 4, 5], [0, 1, 2, 3, 4, 5, 6], [0, 1, 2, 3, 4, 5, 6], [0, 1, 2, 3, 4, 5, 6, 7, 8], [0, 1, 2, 3, 4, 5, 6, 7, 8, 9], [0, 1, 2, 3, 4, 5, 6, 7, 8, 9, 10], [0, 1, 2, 3, 4, 5, 6], [0, 1, 2, 3, 4, 5, 6, 7, 8, 9, 10, 11, 12], [0, 1, 2, 3, 4, 5, 6, 7, 8, 9, 10, 11, 12, 13]] tm rfl rfl rfl rfl ?_
            refine mvD ?_
            refine mvD ?_
            refine RD.op rfl rfl rfl (eff_indexM (i := i) rfl rfl te32 rfl rfl (by first | rfl | omega) (by first | assumption | exact List.getElem?_eq_getElem (by omega)) rfl (by decide)) ?_
            refine RD.op rfl rfl rfl (eff_fieldAddrT rfl rfl tf47_1 (by decide) rfl) ?_
            refine RD.op rfl rfl rfl (eff_loadT1 rfl rfl ti3 rfl rfl) ?_
            refine RD.op rfl rfl rfl (eff_iop (r := .bool false) rfl rfl rfl rfl (by simp [iop, hc5])) ?_
            refine mvD ?_
            refine gkD ?_
            refine gkD ?_
            refine gkD ?_
            refine gkD ?_
            refine gkD ?_
            refine gkD ?_
            refine gkD ?_
            refine RD.op rfl rfl rfl (eff_pick (v := .t _) rfl rfl rfl rfl) ?_
            refine RD.nil ?_
            refine awp_cond rfl (fun h => nomatch h) (fun _ => ?_)
            refine awp_skip ?_
            refine awp_rw rfl ?_
            refine mvT ?_
            refine RW.op rfl rfl (eff_iop rfl rfl rfl rfl (iadd (by omega))) ?_
            refine asT ?_
            refine RW.nil ?_
            refine ⟨_, ?_, _, weak_keep (n := 76) (fr' := [(0, .t (.sl (l.map encC) false)), (4, .ptr 4 0 0 0), (5, .ptr 5 0 0 0), (9, .t (.sl ((atOf l).1.map encT) false)), (11, .t (encI ((i + 1) : Nat)))]) (st' := [(4, some ⟨4, 28, 0, [.t (encD d)]⟩), (5, some ⟨5, 49, 0, [.t (encV v)]⟩)]) ⟨rfl, rfl, rfl, rfl, rfl, rfl, rfl, rfl, rfl, rfl, trivial⟩ ⟨rfl, okE_one rfl, rfl, okE_one rfl, trivial⟩, i + 1, (by omega), (by intro j hj; rcases Nat.lt_or_ge j i with h | h; exact ha j h; rw [show j = i from by omega, isD_at hil]; exact decide_eq_false (fun hh => by first | exact absurd hh.1 (by assumption) | exact absurd hh.2 (by assumption))), rfl, rfl⟩
            omega
        · try simp only [cl] at h4
          refine awp_exit ?_
          refine awp_seq ?_
          refine awp_rw rfl ?_
          refine asT ?_
          refine RW.nil ?_
          refine awp_ret ?_
          have hi2 : i = l.length := by omega
          subst hi2
          rw [judge_none hal (findD_none ha)] at hje
          exact absurd hje (by decide)

end Go.Tv.C36

end
section
open Go Go.Tv Go.Proofs
namespace Go.Tv.C36

theorem snoc_ind {α : Type} {p : List α → Prop} (h0 : p []) (h1 : ∀ l a, p l → p (l ++ [a])) : ∀ l, p l := by
  have : ∀ l : List α, p l.reverse := by
    intro l
    induction l with
    | nil => exact h0
    | cons a l ih => rw [List.reverse_cons]; exact h1 _ _ ih
  intro l
  have h := this l.reverse
  rwa [List.reverse_reverse] at h

/-- Frames in the order of their keys. -/
def Inc (l : List Frm) : Prop := l.Pairwise fun a b => a.key < b.key
def KB (l : List Frm) : Prop := ∀ f, f ∈ l → 0 ≤ f.key ∧ f.key ≤ 1000000000

theorem reach_snoc (x : Rep) (l : List Frm) (f : Frm) : reachF x (l ++ [f]) = stepF (reachF x l) f := by unfold reachF; rw [List.foldl_append]; rfl
theorem reach_cases {x y : Rep} {l : List Frm} {f : Frm} : y ∈ reachF x (l ++ [f]) ↔ y ∈ reachF x l ∨ ∃ z, z ∈ reachF x l ∧ y = apply z f := by rw [reach_snoc]; exact stepF_mem
theorem stepF_self {f : Frm} {out : List Rep} {x : Rep} (h : x ∈ out) : x ∈ stepF out f := stepF_mem.2 (.inl h)
theorem reachF_self : ∀ (l : List Frm) (out : List Rep) (x : Rep), x ∈ out → x ∈ l.foldl stepF out
  | [], _, _, h => h
  | f :: l, out, x, h => reachF_self l (stepF out f) x (stepF_self h)
theorem reach_self (x : Rep) (l : List Frm) : x ∈ reachF x l := reachF_self l [x] x (List.mem_singleton.2 rfl)

theorem apply_acc {s : Rep} {f : Frm} (hk : 0 ≤ f.key ∧ f.key ≤ 1000000000) : apply s f = s ∨ (s.key ≤ f.key ∧ (apply s f).key = f.key + 1) := by
  by_cases h : f.key < s.key ∨ w64 (s.key + 4096) < f.key
  · exact .inl (apply_stay h)
  · right
    refine ⟨by omega, ?_⟩
    have e : w64 (f.key + 1) = f.key + 1 := by unfold w64; rw [wi64]; omega
    unfold apply
    rw [if_neg h]
    split
    · exact e
    · split
      · exact e
      · split
        · exact e
        · split
          · exact e
          · exact e
theorem apply_old {s : Rep} {f : Frm} (h : f.key < s.key) : apply s f = s := apply_stay (.inl h)

theorem reach_above {s : Rep} : ∀ (l : List Frm) (out : List Rep), (∀ f, f ∈ l → f.key < s.key) → (∀ y, y ∈ out → y = s) → ∀ y, y ∈ l.foldl stepF out → y = s
  | [], _, _, h, y, hy => h y hy
  | f :: l, out, hk, h, y, hy => by
    refine reach_above l (stepF out f) (fun g hg => hk g (List.mem_cons_of_mem _ hg)) (fun z hz => ?_) y hy
    rcases stepF_mem.1 hz with h1 | ⟨x, hx, rfl⟩
    · exact h z h1
    · rw [h x hx]; exact apply_old (hk f List.mem_cons_self)

theorem reach_trans {l : List Frm} : Inc l → KB l → ∀ r s x : Rep, s ∈ reachF r l → x ∈ reachF s l → x ∈ reachF r l := by
  refine snoc_ind (p := fun l => Inc l → KB l → ∀ r s x : Rep, s ∈ reachF r l → x ∈ reachF s l → x ∈ reachF r l) ?_ ?_ l
  · intro _ _ r s x hs hx
    have e1 : s = r := List.mem_singleton.1 hs
    rw [← e1]; exact hx
  · intro l f ih hi hk r s x hs hx
    have hi' : Inc l := (List.pairwise_append.1 hi).1
    have hlt : ∀ a, a ∈ l → a.key < f.key := fun a ha => (List.pairwise_append.1 hi).2.2 a ha f (List.mem_singleton.2 rfl)
    have hk' : KB l := fun g hg => hk g (List.mem_append_left _ hg)
    have first : ∀ s, s ∈ reachF r l → x ∈ reachF s (l ++ [f]) → x ∈ reachF r (l ++ [f]) := by
      intro s hs hx
      rcases reach_cases.1 hx with h | ⟨z, hz, rfl⟩
      · exact reach_cases.2 (.inl (ih hi' hk' r s x hs h))
      · exact reach_cases.2 (.inr ⟨z, ih hi' hk' r s z hs hz, rfl⟩)
    rcases reach_cases.1 hs with h | ⟨z, hz, rfl⟩
    · exact first s h hx
    · rcases apply_acc (s := z) (hk f (List.mem_append_right _ (List.mem_singleton.2 rfl))) with h | ⟨h1, h2⟩
      · rw [h] at hx; exact first z hz hx
      · have := reach_above (s := apply z f) (l ++ [f]) [apply z f] (fun g hg => by
          rw [h2]
          rcases List.mem_append.1 hg with hg | hg
          · have := hlt g hg; omega
          · rw [List.mem_singleton.1 hg]; omega) (fun y hy => List.mem_singleton.1 hy) x hx
        rw [this]; exact hs

theorem reach_arrive {l : List Frm} {f : Frm} (hf : f ∈ l) (s : Rep) : apply s f ∈ reachF s l := by
  obtain ⟨a, b, rfl⟩ := List.append_of_mem hf
  unfold reachF
  rw [List.foldl_append, List.foldl_cons]
  exact reachF_self b _ _ (stepF_mem.2 (.inr ⟨s, reachF_self a [s] s (List.mem_singleton.2 rfl), rfl⟩))

/-- The state s, and what frames that may still arrive lead it to, is possible. -/
def Inv (T : Twn) (s : Rep) : Prop := ∀ x, x ∈ reachF s T.sent → x ∈ T.poss
theorem Inv.mem {T : Twn} {s : Rep} (h : Inv T s) : s ∈ T.poss := h s (reach_self s _)
/-! ### Ledgers with a true receiver -/
def sentF (l : List Rcd) : List Frm := (l.filter fun r => decide (r.kind = 1)).map (·.frame)
structure Led (l : List Rcd) (sts : List Rep) : Prop where
  len : sts.length = l.length
  short : l.length ≤ 16
  form : ∀ i, i < l.length → form l i = 0
  inc : Inc (sentF l)
  kb : KB (sentF l)
  s0 : 0 < l.length → sts.getD 0 zr = zr
  nxt : ∀ i, i + 1 < l.length → sts.getD (i + 1) zr ∈ reachF (sts.getD i zr) (sentF (l.take (i + 1)))
  heard : ∀ i, i < l.length → (l.getD i zc).kind = 2 → sts.getD i zr ∈ reachF (l.getD i zc).rep (sentF (l.take i))
  okl : OKL l
  opr : ∀ r, r ∈ l → r.dec.op ≤ 2
  shp : ∀ s, s ∈ sts → HP s
  snx : ∀ s, s ∈ sts → NX 1000000 s

end Go.Tv.C36

end
section
open Go Go.Tv Go.Proofs
namespace Go.Tv.C36

structure Gst where
  recs : List Rcd
  sts : List Rep
  s : Rep
  reps : List Rep
  sn : Nat
  tick : Int

def gst0 : Gst := ⟨[], [], zr, [zr], 0, 0⟩
def gput (G : Gst) (r : Rcd) (sn : Nat) (tick : Int) : Gst := ⟨G.recs ++ [r], G.sts ++ [G.s], G.s, G.reps, sn, tick⟩
def garr (G : Gst) (f : Frm) (tick : Int) : Gst := ⟨G.recs, G.sts, apply G.s f, G.reps ++ [apply G.s f], G.sn, tick⟩
def repAt (G : Gst) (n : Int) : Rep := G.reps.getD (imax 0 ((G.reps.length : Int) - 1 - n / 15 % 3)).toNat zr
def gstep (F : List Frm) (n : Int) (G : Gst) : Gst :=
  if n / 3 % 5 < 2 ∧ G.sn < F.length then gput G ⟨G.tick + n % 3, 1, F.getD G.sn zf, zr, zd⟩ (G.sn + 1) (G.tick + n % 3)
  else if n / 3 % 5 = 2 ∧ 0 < G.sn then garr G (F.getD (n / 15 % (G.sn : Int)).toNat zf) (G.tick + n % 3)
  else if n / 3 % 5 = 3 then gput G ⟨G.tick + n % 3, 2, zf, repAt G n, zd⟩ G.sn (G.tick + n % 3)
  else gput G ⟨G.tick + n % 3, 3, zf, zr, ⟨G.tick + n % 3, n / 15 % 3, n / 45 % 4, n / 180 % 8⟩⟩ G.sn (G.tick + n % 3)
def gnext (F : List Frm) (x : Int) (G : Gst) : Gst := if G.recs.length < 16 then gstep F (around x 1000000) G else G
def gall (F : List Frm) (what : List Int) (i : Nat) : Gst := (what.take i).foldl (fun G x => gnext F x G) gst0
def ledger (l what : List Int) : List Rcd × List Rep := ((gall (frames l 7) what 30).recs, (gall (frames l 7) what 30).sts)

theorem gall_succ {F : List Frm} {what : List Int} {i : Nat} (h : i < what.length) : gall F what (i + 1) = gnext F what[i] (gall F what i) := by
  unfold gall; rw [take_succ_get h, List.foldl_append]; rfl
theorem gall_end {F : List Frm} {what : List Int} {i : Nat} (h : what.length ≤ i) : gall F what i = gall F what what.length := by
  unfold gall; rw [List.take_of_length_le h, List.take_length]
theorem gall_full {F : List Frm} {what : List Int} {i : Nat} (h : ¬ (gall F what i).recs.length < 16) : ∀ j, i ≤ j → gall F what j = gall F what i
  | 0, hj => by obtain rfl : i = 0 := by omega
                rfl
  | j + 1, hj => by
    rcases Nat.lt_or_ge j i with h1 | h1
    · obtain rfl : i = j + 1 := by omega
      rfl
    · have ih := gall_full h j h1
      rcases Nat.lt_or_ge j what.length with h2 | h2
      · rw [gall_succ h2, ih]; unfold gnext; rw [if_neg h]
      · rw [gall_end (i := j + 1) (by omega), ← gall_end (i := j) h2, ih]
/-- Where the generator's loop ends. -/
theorem gall_stop {F : List Frm} {what : List Int} {i : Nat} (hi : i ≤ what.length) (h30 : i ≤ 30) (h : ¬ (i < what.length ∧ (gall F what i).recs.length < 16 ∧ i < 30)) : gall F what 30 = gall F what i := by
  by_cases h1 : (gall F what i).recs.length < 16
  · rcases Nat.lt_or_ge i what.length with h2 | h2
    · have : i = 30 := by omega
      rw [this]
    · obtain rfl : i = what.length := by omega
      exact gall_end h30
  · exact gall_full h1 30 h30

/-- Frames that a generator sends. -/
structure FOK (F : List Frm) : Prop where
  inc : Inc F
  kb : KB F
  len : F.length ≤ 7
  bod : ∀ f, f ∈ F → f.body.length ≤ 1000000
  seq : ∀ f, f ∈ F → 0 ≤ f.seq ∧ f.seq ≤ 1000000

structure GI (F : List Frm) (k : Nat) (G : Gst) : Prop where
  sn : G.sn ≤ F.length
  sent : sentF G.recs = F.take G.sn
  len : G.sts.length = G.recs.length
  short : G.recs.length ≤ 16
  form : ∀ i, i < G.recs.length → form G.recs i = 0
  tick : 0 ≤ G.tick ∧ G.tick ≤ 2 * (k : Int)
  last : prevT G.recs G.recs.length ≤ G.tick
  s0 : 0 < G.recs.length → G.sts.getD 0 zr = zr
  e0 : G.recs.length = 0 → G.s = zr
  nxt : ∀ i, i + 1 < G.recs.length → G.sts.getD (i + 1) zr ∈ reachF (G.sts.getD i zr) (sentF (G.recs.take (i + 1)))
  cur : 0 < G.recs.length → G.s ∈ reachF (G.sts.getD (G.recs.length - 1) zr) (sentF G.recs)
  rne : 0 < G.reps.length
  rlen : G.reps.length ≤ k + 1
  reps : ∀ p, p ∈ G.reps → G.s ∈ reachF p (sentF G.recs)
  rhp : ∀ p, p ∈ G.reps → HP p
  heard : ∀ i, i < G.recs.length → (G.recs.getD i zc).kind = 2 → G.sts.getD i zr ∈ reachF (G.recs.getD i zc).rep (sentF (G.recs.take i))
  hp : ∀ r, r ∈ G.recs → HP r.rep
  bod : ∀ r, r ∈ G.recs → r.frame.body.length ≤ 1000000
  seq : ∀ r, r ∈ G.recs → 0 ≤ r.frame.seq ∧ r.frame.seq ≤ 1000000
  opr : ∀ r, r ∈ G.recs → r.dec.op ≤ 2
  shp : ∀ s, s ∈ G.sts → HP s
  chp : HP G.s
  cnx : NX (128 * (k : Int)) G.s
  snx : ∀ s, s ∈ G.sts → NX (128 * (k : Int)) s

theorem hpzr : HP zr := hp0 zr (List.mem_singleton.2 rfl)
theorem gi0 (F : List Frm) : GI F 0 gst0 where
  sn := Nat.zero_le _
  sent := rfl
  len := rfl
  short := by decide
  form := by intro i h; cases h
  tick := by decide
  last := by decide
  s0 := by intro h; cases h
  e0 := fun _ => rfl
  nxt := by intro i h; cases h
  cur := by intro h; cases h
  rne := by decide
  rlen := by decide
  reps := by intro p hp; rw [List.mem_singleton.1 hp]; exact List.mem_singleton.2 rfl
  rhp := by intro p hp; rw [List.mem_singleton.1 hp]; exact hpzr
  heard := by intro i h; cases h
  hp := by intro r h; cases h
  bod := by intro r h; cases h
  seq := by intro r h; cases h
  opr := by intro r h; cases h
  shp := by intro r h; cases h
  chp := hpzr
  cnx := ⟨Int.le_refl _, Int.le_refl _⟩
  snx := by intro r h; cases h

theorem getD_snoc_lt {α : Type} {l : List α} {x d : α} {i : Nat} (h : i < l.length) : (l ++ [x]).getD i d = l.getD i d := by simp [List.getD_eq_getElem?_getD, List.getElem?_append_left h]
theorem getD_snoc_eq {α : Type} {l : List α} {x d : α} : (l ++ [x]).getD l.length d = x := by simp [List.getD_eq_getElem?_getD]
theorem take_snoc {α : Type} {l : List α} {x : α} {i : Nat} (h : i ≤ l.length) : (l ++ [x]).take i = l.take i := List.take_append_of_le_length h
theorem sentF_snoc (l : List Rcd) (r : Rcd) : sentF (l ++ [r]) = sentF l ++ if r.kind = 1 then [r.frame] else [] := by
  unfold sentF
  rw [List.filter_append, List.map_append]
  congr 1
  by_cases hk : r.kind = 1
  · rw [if_pos hk, List.filter_cons, if_pos (decide_eq_true hk)]; rfl
  · rw [if_neg hk, List.filter_cons, if_neg (by rw [decide_eq_false hk]; decide)]; rfl
theorem reach_more_sent {p s : Rep} {l : List Rcd} {r : Rcd} (h : s ∈ reachF p (sentF l)) : s ∈ reachF p (sentF (l ++ [r])) := by
  rw [sentF_snoc]
  split
  · exact reach_cases.2 (.inl h)
  · rw [List.append_nil]; exact h

theorem gi_put {F : List Frm} {k : Nat} {G : Gst} (h : GI F k G) {r : Rcd} {sn : Nat} {t : Int} (hs : G.recs.length < 16) (ht : 0 ≤ t ∧ t ≤ 2 * ((k + 1 : Nat) : Int)) (hrt : r.tick = t)
    (hf : formR (prevT G.recs G.recs.length) r = 0) (hsn : sn ≤ F.length) (hse : (F.take G.sn ++ if r.kind = 1 then [r.frame] else []) = F.take sn)
    (hh : r.kind = 2 → G.s ∈ reachF r.rep (sentF G.recs)) (hr : HP r.rep) (hb : r.frame.body.length ≤ 1000000) (hq : 0 ≤ r.frame.seq ∧ r.frame.seq ≤ 1000000) (ho : r.dec.op ≤ 2) : GI F (k + 1) (gput G r sn t) where
  sn := hsn
  sent := by show sentF (G.recs ++ [r]) = _; rw [sentF_snoc, h.sent]; exact hse
  len := by show (G.sts ++ [G.s]).length = (G.recs ++ [r]).length; simp [h.len]
  short := by show (G.recs ++ [r]).length ≤ 16; simp; omega
  form := by
    intro i hi
    change i < (G.recs ++ [r]).length at hi
    show form (G.recs ++ [r]) i = 0
    rw [List.length_append, List.length_singleton] at hi
    rcases Nat.lt_or_ge i G.recs.length with h1 | h1
    · rw [form_app h1]; exact h.form i h1
    · obtain rfl : i = G.recs.length := by omega
      unfold Go.Tv.C36.form
      rw [getD_snoc_eq]
      have : prevT (G.recs ++ [r]) G.recs.length = prevT G.recs G.recs.length := by
        unfold prevT
        split
        · rfl
        · rw [getD_snoc_lt (by omega)]
      rw [this]; exact hf
  tick := ht
  last := by
    show prevT (G.recs ++ [r]) (G.recs ++ [r]).length ≤ t
    unfold prevT
    rw [List.length_append, List.length_singleton, if_neg (by omega), Nat.add_sub_cancel, getD_snoc_eq]
    omega
  s0 := by
    intro _
    show (G.sts ++ [G.s]).getD 0 zr = zr
    rcases Nat.eq_zero_or_pos G.recs.length with h1 | h1
    · have : G.sts = [] := List.length_eq_zero_iff.1 (by rw [h.len, h1])
      rw [this]; exact h.e0 h1
    · rw [getD_snoc_lt (by rw [h.len]; exact h1)]; exact h.s0 h1
  e0 := by intro h1; change (G.recs ++ [r]).length = 0 at h1; simp at h1
  nxt := by
    intro i hi
    change i + 1 < (G.recs ++ [r]).length at hi
    rw [List.length_append, List.length_singleton] at hi
    show (G.sts ++ [G.s]).getD (i + 1) zr ∈ reachF ((G.sts ++ [G.s]).getD i zr) (sentF ((G.recs ++ [r]).take (i + 1)))
    rw [take_snoc (by omega), getD_snoc_lt (i := i) (by rw [h.len]; omega)]
    rcases Nat.lt_or_ge (i + 1) G.recs.length with h1 | h1
    · rw [getD_snoc_lt (by rw [h.len]; exact h1)]; exact h.nxt i h1
    · obtain h2 : i + 1 = G.recs.length := by omega
      have := h.cur (by omega)
      rw [show i + 1 = G.sts.length from by rw [h.len]; exact h2, getD_snoc_eq, h.len, List.take_length]
      rwa [show G.recs.length - 1 = i from by omega] at this
  cur := by
    intro _
    show G.s ∈ reachF ((G.sts ++ [G.s]).getD ((G.recs ++ [r]).length - 1) zr) _
    rw [List.length_append, List.length_singleton, Nat.add_sub_cancel, ← h.len, getD_snoc_eq]
    exact reach_self _ _
  rne := h.rne
  rlen := by have := h.rlen; show G.reps.length ≤ k + 1 + 1; omega
  reps := fun p hp => reach_more_sent (h.reps p hp)
  rhp := h.rhp
  heard := by
    intro i hi
    change i < (G.recs ++ [r]).length at hi
    rw [List.length_append, List.length_singleton] at hi
    show ((G.recs ++ [r]).getD i zc).kind = 2 → (G.sts ++ [G.s]).getD i zr ∈ reachF ((G.recs ++ [r]).getD i zc).rep (sentF ((G.recs ++ [r]).take i))
    rw [take_snoc (by omega)]
    rcases Nat.lt_or_ge i G.recs.length with h1 | h1
    · rw [getD_snoc_lt h1, getD_snoc_lt (by rw [h.len]; exact h1)]; exact h.heard i h1
    · obtain rfl : i = G.recs.length := by omega
      rw [getD_snoc_eq, ← h.len, getD_snoc_eq, h.len, List.take_length]
      exact hh
  hp := by intro q hq'; rcases List.mem_append.1 hq' with h1 | h1
           · exact h.hp q h1
           · rw [List.mem_singleton.1 h1]; exact hr
  bod := by intro q hq'; rcases List.mem_append.1 hq' with h1 | h1
            · exact h.bod q h1
            · rw [List.mem_singleton.1 h1]; exact hb
  seq := by intro q hq'; rcases List.mem_append.1 hq' with h1 | h1
            · exact h.seq q h1
            · rw [List.mem_singleton.1 h1]; exact hq
  opr := by intro q hq'; rcases List.mem_append.1 hq' with h1 | h1
            · exact h.opr q h1
            · rw [List.mem_singleton.1 h1]; exact ho
  shp := by intro q hq'; rcases List.mem_append.1 hq' with h1 | h1
            · exact h.shp q h1
            · rw [List.mem_singleton.1 h1]; exact h.chp
  chp := h.chp
  cnx := h.cnx.mono (by omega)
  snx := by intro q hq'; rcases List.mem_append.1 hq' with h1 | h1
            · exact (h.snx q h1).mono (by omega)
            · rw [List.mem_singleton.1 h1]; exact h.cnx.mono (by omega)

theorem gi_arr {F : List Frm} {k : Nat} {G : Gst} (hF : FOK F) (h : GI F k G) (hk : k ≤ 1000) {f : Frm} {t : Int} (ht : 0 ≤ t ∧ t ≤ 2 * ((k + 1 : Nat) : Int)) (ht2 : G.tick ≤ t) (hf : f ∈ F.take G.sn) : GI F (k + 1) (garr G f t) := by
  have hin : Inc (sentF G.recs) := by rw [h.sent]; exact hF.inc.sublist (List.take_sublist _ _)
  have hkb : KB (sentF G.recs) := by rw [h.sent]; exact fun g hg => hF.kb g (List.mem_of_mem_take hg)
  have harr : apply G.s f ∈ reachF G.s (sentF G.recs) := reach_arrive (by rw [h.sent]; exact hf) _
  exact {
    sn := h.sn, sent := h.sent, len := h.len, short := h.short, form := h.form, tick := ht, last := Int.le_trans h.last ht2, s0 := h.s0
    e0 := by
      intro h1
      have h2 : G.recs = [] := List.length_eq_zero_iff.1 h1
      have h3 := h.sent
      rw [h2] at h3
      rw [← h3] at hf
      cases hf
    nxt := h.nxt
    cur := fun h1 => reach_trans hin hkb _ _ _ (h.cur h1) harr
    rne := by show 0 < (G.reps ++ [apply G.s f]).length; simp
    rlen := by have := h.rlen; show (G.reps ++ [apply G.s f]).length ≤ k + 1 + 1; simp; omega
    reps := by
      intro p hp
      rcases List.mem_append.1 hp with h1 | h1
      · exact reach_trans hin hkb _ _ _ (h.reps p h1) harr
      · rw [List.mem_singleton.1 h1]; exact reach_self _ _
    rhp := by
      intro p hp
      rcases List.mem_append.1 hp with h1 | h1
      · exact h.rhp p h1
      · rw [List.mem_singleton.1 h1]; exact apply_hp h.chp
    heard := h.heard, hp := h.hp, bod := h.bod, seq := h.seq, opr := h.opr, shp := h.shp, chp := apply_hp h.chp
    cnx := (apply_nx h.cnx (by omega)).mono (by omega)
    snx := fun q hq => (h.snx q hq).mono (by omega) }

theorem GI.up {F : List Frm} {k : Nat} {G : Gst} (h : GI F k G) : GI F (k + 1) G :=
  { h with tick := by have := h.tick; omega, cnx := h.cnx.mono (by omega), snx := fun q hq => (h.snx q hq).mono (by omega), rlen := by have := h.rlen; omega }
theorem formR_ok {p : Int} {r : Rcd} (hk : r.kind = 1 ∨ r.kind = 2) (ht : 0 ≤ r.tick ∧ r.tick ≤ 1000000) (hp : p ≤ r.tick) : formR p r = 0 := by
  unfold formR
  rw [if_neg (by omega), if_neg (by omega), if_neg (by omega), if_pos (by omega)]
theorem formR_dec {p : Int} {r : Rcd} (hk : r.kind = 3) (ht : 0 ≤ r.tick ∧ r.tick ≤ 1000000) (hp : p ≤ r.tick) (h1 : r.dec.tick = r.tick) (h2 : 0 ≤ r.dec.kind ∧ r.dec.kind ≤ 3) (h3 : 0 ≤ r.dec.seq ∧ r.dec.seq ≤ 1000000) : formR p r = 0 := by
  unfold formR
  rw [if_neg (by omega), if_neg (by omega), if_neg (by omega), if_neg (by omega), if_neg (by omega)]
theorem gi_step {F : List Frm} {k : Nat} {G : Gst} (hF : FOK F) (h : GI F k G) (hk : k ≤ 1000) (hs : G.recs.length < 16) {n : Int} (hn : 0 ≤ n) : GI F (k + 1) (gstep F n G) := by
  have ht := h.tick
  have h3 : 0 ≤ n % 3 ∧ n % 3 < 3 := by omega
  have hl := h.last
  unfold gstep
  split
  · rename_i hc
    refine gi_put h hs (by omega) rfl (formR_ok (.inl rfl) (by show 0 ≤ G.tick + n % 3 ∧ G.tick + n % 3 ≤ 1000000; omega) (by show prevT G.recs G.recs.length ≤ G.tick + n % 3; omega)) (by omega) ?_ (fun e => by cases e) hpzr ?_ ?_ (by show (0 : Int) ≤ 2; decide)
    · show _ ++ [F.getD G.sn zf] = _
      rw [take_succ_get hc.2]; simp [List.getD_eq_getElem?_getD, hc.2]
    · show (F.getD G.sn zf).body.length ≤ _
      rw [show F.getD G.sn zf = F[G.sn]'hc.2 from by simp [List.getD_eq_getElem?_getD, hc.2]]
      exact hF.bod _ (List.getElem_mem _)
    · show 0 ≤ (F.getD G.sn zf).seq ∧ _
      rw [show F.getD G.sn zf = F[G.sn]'hc.2 from by simp [List.getD_eq_getElem?_getD, hc.2]]
      exact hF.seq _ (List.getElem_mem _)
  · split
    · rename_i _ hc
      have h1 := Int.emod_nonneg (n / 15) (show (G.sn : Int) ≠ 0 by omega)
      have h2 := Int.emod_lt_of_pos (n / 15) (show (0 : Int) < G.sn by omega)
      have hsn := h.sn
      have hj : (n / 15 % (G.sn : Int)).toNat < (F.take G.sn).length := by rw [List.length_take]; omega
      refine gi_arr hF h (by omega) (by omega) (by omega) ?_
      have : F.getD (n / 15 % (G.sn : Int)).toNat zf = (F.take G.sn)[(n / 15 % (G.sn : Int)).toNat]'hj := by
        rw [List.getElem_take, List.getD_eq_getElem?_getD, List.getElem?_eq_getElem (by omega)]; rfl
      rw [this]
      exact List.getElem_mem _
    · split
      · have hm : repAt G n ∈ G.reps := by
          unfold repAt
          have h4 : (imax 0 ((G.reps.length : Int) - 1 - n / 15 % 3)).toNat < G.reps.length := by
            have := h.rne
            unfold imax
            split <;> omega
          rw [List.getD_eq_getElem?_getD, List.getElem?_eq_getElem h4]
          exact List.getElem_mem _
        refine gi_put h hs (by omega) rfl (formR_ok (.inr rfl) (by show 0 ≤ G.tick + n % 3 ∧ G.tick + n % 3 ≤ 1000000; omega) (by show prevT G.recs G.recs.length ≤ G.tick + n % 3; omega)) h.sn ?_ (fun _ => h.reps _ hm) (h.rhp _ hm) (by show (0 : Nat) ≤ _; omega) (by show (0 : Int) ≤ 0 ∧ (0 : Int) ≤ 1000000; decide) (by show (0 : Int) ≤ 2; decide)
        show _ ++ (if (2 : Int) = 1 then _ else []) = _
        rw [if_neg (by decide), List.append_nil]
      · refine gi_put h hs (by omega) rfl (formR_dec rfl (by show 0 ≤ G.tick + n % 3 ∧ G.tick + n % 3 ≤ 1000000; omega) (by show prevT G.recs G.recs.length ≤ G.tick + n % 3; omega) rfl (by show 0 ≤ n / 45 % 4 ∧ n / 45 % 4 ≤ 3; omega) (by show 0 ≤ n / 180 % 8 ∧ n / 180 % 8 ≤ 1000000; omega)) h.sn ?_ (fun e => by cases e) hpzr (by show (0 : Nat) ≤ _; omega) (by show (0 : Int) ≤ 0 ∧ (0 : Int) ≤ 1000000; decide) (by show n / 15 % 3 ≤ 2; omega)
        show _ ++ (if (3 : Int) = 1 then _ else []) = _
        rw [if_neg (by decide), List.append_nil]
theorem gi_all {F : List Frm} (hF : FOK F) (what : List Int) : ∀ i, i ≤ what.length → i ≤ 1000 → GI F i (gall F what i)
  | 0, _, _ => gi0 F
  | i + 1, hi, hk => by
    have ih := gi_all hF what i (by omega) (by omega)
    rw [gall_succ (by omega)]
    unfold gnext
    split
    · rename_i hs; exact gi_step hF ih (by omega) hs (around_range (by decide)).1
    · exact ih.up
theorem nSent_sentF (l : List Rcd) : (l.filter fun r => decide (r.kind = 1)).length = (sentF l).length := by unfold sentF; rw [List.length_map]
theorem GI.led {F : List Frm} {k : Nat} {G : Gst} (hF : FOK F) (h : GI F k G) (hk : k ≤ 1000) : Led G.recs G.sts where
  len := h.len
  short := h.short
  form := h.form
  inc := by rw [h.sent]; exact hF.inc.sublist (List.take_sublist _ _)
  kb := by rw [h.sent]; exact fun g hg => hF.kb g (List.mem_of_mem_take hg)
  s0 := h.s0
  nxt := h.nxt
  heard := h.heard
  okl := ⟨by have := h.short; omega, by rw [nSent_sentF, h.sent, List.length_take]; have := hF.len; omega, h.hp, h.bod, h.seq⟩
  opr := h.opr
  shp := h.shp
  snx := fun s hs => (h.snx s hs).mono (by omega)
theorem frames_ok (l : List Int) : FOK (frames l 7) where
  inc := by
    unfold Inc
    rw [List.pairwise_iff_getElem]
    intro i j hi hj hij
    rw [frames_get, frames_get, frame_key, frame_key]
    exact keyAt_mono l hij
  kb := by
    intro f hf
    obtain ⟨j, hj, rfl⟩ := frames_mem hf
    rw [frame_key]
    have := keyAt_range l j
    omega
  len := by rw [frames_len]; omega
  bod := by intro f hf; obtain ⟨j, _, rfl⟩ := frames_mem hf; rw [frame_body]; decide
  seq := by
    intro f hf
    obtain ⟨j, hj, rfl⟩ := frames_mem hf
    have := around_range (n := l.getD j 0) (m := 1000000) (by decide)
    have hm : 0 ≤ imax 0 ((j : Int) - 3) ∧ imax 0 ((j : Int) - 3) ≤ 20 := by unfold imax; split <;> omega
    unfold frameAt frm
    split
    · show 0 ≤ imax 0 ((j : Int) - 3) + around (l.getD j 0) 1000000 % 7 ∧ imax 0 ((j : Int) - 3) + around (l.getD j 0) 1000000 % 7 ≤ 1000000; omega
    · split
      · show 0 ≤ around (l.getD j 0) 1000000 / 84 % 300 ∧ around (l.getD j 0) 1000000 / 84 % 300 ≤ 1000000; omega
      · show 0 ≤ imax 0 ((j : Int) - 3) + around (l.getD j 0) 1000000 % 7 ∧ imax 0 ((j : Int) - 3) + around (l.getD j 0) 1000000 % 7 ≤ 1000000; omega
theorem ledger_led (l what : List Int) : Led (ledger l what).1 (ledger l what).2 := by
  unfold ledger
  rcases Nat.lt_or_ge what.length 30 with h | h
  · rw [gall_end (i := 30) (by omega)]
    exact (gi_all (frames_ok l) what what.length (Nat.le_refl _) (by omega)).led (frames_ok l) (by omega)
  · exact (gi_all (frames_ok l) what 30 h (by omega)).led (frames_ok l) (by omega)

/-! ### The generator's steps -/
section
variable {F : List Frm} {what : List Int} {i : Nat}
theorem gall_on (hi : i < what.length) (h16 : (gall F what i).recs.length < 16) : gall F what (i + 1) = gstep F (around what[i] 1000000) (gall F what i) := by
  rw [gall_succ hi]; unfold gnext; rw [if_pos h16]
theorem gall_send {n : Int} {sn : Nat} (hi : i < what.length) (hn : around what[i] 1000000 = n) (h16 : (gall F what i).recs.length < 16) (hs : sn = (gall F what i).sn) (c : n / 3 % 5 < 2) (c2 : sn < F.length) :
    gall F what (i + 1) = gput (gall F what i) ⟨(gall F what i).tick + n % 3, 1, F[sn], zr, zd⟩ (sn + 1) ((gall F what i).tick + n % 3) := by
  subst hs hn
  rw [gall_on hi h16]; unfold gstep
  rw [if_pos ⟨c, c2⟩, show F.getD (gall F what i).sn zf = F[(gall F what i).sn] from by simp [List.getD_eq_getElem?_getD, c2]]
theorem gall_arr {n : Int} {sn q : Nat} (hi : i < what.length) (hn : around what[i] 1000000 = n) (h16 : (gall F what i).recs.length < 16) (hs : sn = (gall F what i).sn) (c : n / 3 % 5 = 2) (c2 : 0 < sn) (hq : n / 15 % (sn : Int) = (q : Int)) (hqf : q < F.length) :
    gall F what (i + 1) = garr (gall F what i) F[q] ((gall F what i).tick + n % 3) := by
  subst hs hn
  rw [gall_on hi h16]; unfold gstep
  rw [if_neg (by omega), if_pos ⟨c, c2⟩, hq, Int.toNat_natCast, show F.getD q zf = F[q] from by simp [List.getD_eq_getElem?_getD, hqf]]
theorem gall_hear {n : Int} {sn q : Nat} (hi : i < what.length) (hn : around what[i] 1000000 = n) (h16 : (gall F what i).recs.length < 16) (hs : sn = (gall F what i).sn) (c : n / 3 % 5 = 3) (hq : imax 0 (((gall F what i).reps.length : Int) - 1 - n / 15 % 3) = (q : Int)) (hql : q < (gall F what i).reps.length) :
    gall F what (i + 1) = gput (gall F what i) ⟨(gall F what i).tick + n % 3, 2, zf, (gall F what i).reps[q], zd⟩ sn ((gall F what i).tick + n % 3) := by
  subst hs hn
  rw [gall_on hi h16]; unfold gstep repAt
  rw [if_neg (by omega), if_neg (by omega), if_pos c, hq, Int.toNat_natCast, show (gall F what i).reps.getD q zr = (gall F what i).reps[q] from by simp [List.getD_eq_getElem?_getD, hql]]
theorem gall_dec {n : Int} {sn : Nat} (hi : i < what.length) (hn : around what[i] 1000000 = n) (h16 : (gall F what i).recs.length < 16) (hs : sn = (gall F what i).sn) (c1 : ¬ (n / 3 % 5 < 2 ∧ sn < F.length)) (c2 : ¬ (n / 3 % 5 = 2 ∧ 0 < sn)) (c3 : ¬ n / 3 % 5 = 3) :
    gall F what (i + 1) = gput (gall F what i) ⟨(gall F what i).tick + n % 3, 3, zf, zr, ⟨(gall F what i).tick + n % 3, n / 15 % 3, n / 45 % 4, n / 180 % 8⟩⟩ sn ((gall F what i).tick + n % 3) := by
  subst hs hn
  rw [gall_on hi h16]; unfold gstep
  rw [if_neg c1, if_neg c2, if_neg c3]
end
theorem mapT_snoc {α : Type} {f : α → Tr} {l : List α} {x : α} {y : AV} (h : y = .t (f x)) : (l.map f).map AV.t ++ [y] = ((l ++ [x]).map f).map .t := by subst h; simp
theorem elR {l : List Rep} {i : Nat} (h : i < l.length) : ((l.map encR).map AV.t)[i]? = some (.t (encR l[i])) := by simp [h]

/-! ### A ledger with one field replaced -/
/-! ### The examples -/
abbrev dAg : Dec := ⟨3, 0, 1, 0⟩
abbrev dTo : Dec := ⟨3, 0, 3, 0⟩
abbrev rSe : Rcd := ⟨0, 1, zf, zr, zd⟩
abbrev rHe : Rcd := ⟨3, 2, zf, ⟨1, 0, 1, false⟩, zd⟩
abbrev rX : Rcd := ⟨3, 3, zf, zr, dAg⟩
abbrev rY : Rcd := ⟨3, 3, zf, zr, dTo⟩
abbrev late4 : List Rcd := [rSe, rX, rY, rHe]
abbrev early4 : List Rcd := [rSe, rHe, rX, rY]
theorem livA : judge late4 dAg = (zv, 0) := by decide +kernel
theorem livB : judge late4 dTo = (⟨false, ⟨1, 0, 1, false⟩⟩, 0) := by decide +kernel
theorem livC : judge early4 dAg = (⟨true, zr⟩, 0) := by decide +kernel
theorem livD : held early4 = ([2], 0) := by decide +kernel
theorem hp1 : HP ⟨1, 0, 1, false⟩ := ⟨by decide, by decide⟩
theorem okL4 {l : List Rcd} (h : ∀ r, r ∈ l → r = rSe ∨ r = rX ∨ r = rY ∨ r = rHe) (hl : l.length ≤ 12) : OKL l where
  len := by omega
  few := Nat.le_trans (List.length_filter_le _ _) hl
  hp := by intro r hr; rcases h r hr with rfl | rfl | rfl | rfl <;> first | exact hpzr | exact hp1
  bod := by intro r hr; rcases h r hr with rfl | rfl | rfl | rfl <;> exact Nat.zero_le _
  seq := by intro r hr; rcases h r hr with rfl | rfl | rfl | rfl <;> exact ⟨Int.le_refl _, by decide⟩
theorem okLate : OKL late4 := okL4 (by simp) (by decide)
theorem okEarly : OKL early4 := okL4 (by simp) (by decide)
end Go.Tv.C36

end
