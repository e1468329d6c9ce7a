/- TwinTruth: for every input that reads as data, the call returns true and leaves its arguments as they were. No condition. -/
import Derived.Test.YtofiemifpgcfhaaDoorT4
import Derived.Test.YtofiemifpgcfhaaDoorT2
import Derived.Test.YtofiemifpgcfhaaDoorT1
import Derived.Test.YtofiemifpgcfhaaDoorRows
import Derived.ProofKit
import Derived.Test.YtofiemifpgcfhaaDoorTie
import Derived.Test.YtofiemifpgcfhaaDoorCards
import Derived.SevenTiedAt
set_option linter.unnecessarySimpa false
set_option linter.unusedVariables false
set_option linter.unusedSimpArgs false
section
open Go Go.Tv Go.Proofs
namespace Go.Tv.C34
set_option maxRecDepth 20000
set_option maxHeartbeats 2000000
set_option linter.unusedSimpArgs false
set_option linter.unusedVariables false
theorem thear_ret (t : Twn) (r : Rep) (hr : HP r) (hl : t.poss.length ≤ 1000) (hs : t.sent.length ≤ 1000) (hb : ∀ x, x ∈ t.sent → x.body.length ≤ 1000000) : RetT Tryd.prog 22 [(1, deT)] [encT t, encR r] (.tup [encT (hear t r).1, encI (hear t r).2]) := by
  refine retT_of_awp Tryd.func22 rfl (Nat.le_of_ble_eq_true rfl) ?_
  refine awp_seq ?_
  refine awp_rw rfl ?_
  refine RW.new rfl rfl (eff_boxK (v := .t _) (k := 2) (id := 2) rfl rfl rfl rfl rfl rfl) ?_
  refine RW.new rfl rfl (eff_boxK (v := .t _) (k := 4) (id := 3) rfl rfl rfl rfl rfl rfl) ?_
  refine RW.new rfl rfl (eff_allocK (k := 2) (id := 4) rfl rfl tz37 rfl rfl) ?_
  refine RW.op rfl rfl (eff_assign (v := .t _) rfl rfl rfl) ?_
  refine RW.nil ?_
  refine awp_seq ?_
  refine awp_rw rfl ?_
  refine RW.op rfl rfl (eff_assign (v := .t _) rfl rfl rfl) ?_
  refine RW.nil ?_
  show AWP _ _ _ _
  refine awp_weak (weak_adopt (d := 6) (id := 6) (k := 5) (ty := 30) rfl rfl) ?_
  refine awp_seq ?_
  refine awp_seq ?_
  refine awp_rw rfl ?_
  refine RW.op rfl rfl (eff_fieldAddr rfl rfl tf37_0 (by decide) rfl rfl rfl (Nat.le_of_ble_eq_true rfl)) ?_
  refine RW.op rfl rfl (eff_load (y := .t _) rfl rfl ti34 rfl (.one rfl rfl rfl rfl)) ?_
  refine RW.op rfl rfl (eff_lenM rfl rfl te34 rfl) ?_
  refine RW.op rfl rfl (eff_move (v := .t _) rfl rfl rfl) ?_
  refine RW.nil ?_
  refine awp_block ?_
  refine awp_loopW (fun m s => ∃ (i : Nat) (gn : Nat) (n : Nat) (els : List AV), (i ≤ t.sent.length) ∧ (n = (open_ (t.sent.take i) r).length) ∧ (els = ((open_ (t.sent.take i) r).map encF).map .t) ∧ m = t.sent.length - i ∧ s = ⟨57, [(2, .ptr 2 0 0 0), (3, .ptr 3 0 0 0), (4, .ptr 4 0 0 0), (6, .own 6 gn 0 n), (14, .t (.sl (t.sent.map encF) false)), (15, .t (encI t.sent.length)), (16, .t (encI (i : Nat))), (58, .t deT)], [(2, some ⟨2, 37, 0, [.t (encT t)]⟩), (3, some ⟨4, 23, 0, [.t (encR r)]⟩), (4, some ⟨2, 37, 0, [.t z37]⟩), (6, some ⟨5, 30, gn, els⟩)]⟩) (_) (⟨_, weak_keep (n := 57) (fr' := [(2, .ptr 2 0 0 0), (3, .ptr 3 0 0 0), (4, .ptr 4 0 0 0), (6, .own 6 0 0 0), (14, .t (.sl (t.sent.map encF) false)), (15, .t (encI t.sent.length)), (16, .t (encI (0 : Nat))), (58, .t deT)]) (st' := [(2, some ⟨2, 37, 0, [.t (encT t)]⟩), (3, some ⟨4, 23, 0, [.t (encR r)]⟩), (4, some ⟨2, 37, 0, [.t z37]⟩), (6, some ⟨5, 30, 0, ([])⟩)]) ⟨rfl, rfl, rfl, rfl, rfl, rfl, rfl, rfl, rfl, rfl, rfl, rfl, rfl, rfl, rfl, rfl, trivial⟩ ⟨rfl, okE_one rfl, rfl, okE_one rfl, rfl, okE_one rfl, rfl, (by first | exact okE_nil | (rw [he]; exact okE_t) | (rw [he]; intro x hx; simp only [List.mem_append, List.mem_map, List.mem_singleton] at hx; rcases hx with ⟨y, _, rfl⟩ | rfl <;> rfl)), trivial⟩, 0, 0, 0, [], (by omega), (by rfl), (by rfl), rfl, rfl⟩) ?_
  rintro m s ⟨i, gn, n, els, hi, hnn, he, rfl, rfl⟩
  have hol : (open_ (t.sent.take i) r).length ≤ t.sent.length := open_len _ _ _
  refine awp_seq ?_
  refine awp_rw rfl ?_
  refine RW.op rfl rfl (eff_iop rfl rfl rfl rfl rfl) ?_
  refine RW.nil ?_
  refine awp_seq ?_
  refine awp_cond rfl (fun h1 => ?_) (fun h1 => ?_)
  · try simp only [decide_eq_true_eq, decide_eq_false_iff_not, beq_iff_eq, bne_iff_ne, bne_eq_false_iff_eq, beq_eq_false_iff_ne, Bool.not_eq_true, Bool.not_eq_false, Bool.not_eq_true', Bool.not_eq_false', ne_eq] at h1
    refine awp_skip ?_
    refine awp_seq ?_
    refine awp_block ?_
    refine awp_seq ?_
    refine awp_rw rfl ?_
    refine RW.op rfl rfl (eff_indexM rfl rfl te34 rfl rfl rfl (by first | assumption | exact List.getElem?_eq_getElem (by omega)) rfl (by decide)) ?_
    refine RW.op rfl rfl (eff_loadW rfl rfl ti30 rfl rfl rfl) ?_
    refine RW.new rfl rfl (eff_allocK (k := 5) (id := 8) rfl rfl tz30 rfl rfl) ?_
    refine RW.store rfl rfl (eff_storeW (v := .t _) (els := [_]) (els' := [_]) rfl rfl ti30 rfl rfl rfl rfl rfl rfl rfl rfl rfl) ?_
    refine RW.nil ?_
    refine awp_seq ?_
    refine awp_rw rfl ?_
    refine RW.op rfl rfl (eff_fieldAddr rfl rfl tf30_1 (by decide) rfl rfl rfl (Nat.le_of_ble_eq_true rfl)) ?_
    refine RW.op rfl rfl (eff_load (y := .t _) rfl rfl ti3 rfl (.one rfl rfl rfl rfl)) ?_
    refine RW.op rfl rfl (eff_fieldAddr rfl rfl tf23_2 (by decide) rfl rfl rfl (Nat.le_of_ble_eq_true rfl)) ?_
    refine RW.op rfl rfl (eff_load (y := .t _) rfl rfl ti3 rfl (.one rfl rfl rfl rfl)) ?_
    refine RW.op rfl rfl (eff_iop rfl rfl rfl rfl rfl) ?_
    refine RW.nil ?_
    refine awp_cond rfl (fun h2 => ?_) (fun h2 => ?_)
    · try simp only [decide_eq_true_eq, decide_eq_false_iff_not, beq_iff_eq, bne_iff_ne, bne_eq_false_iff_eq, beq_eq_false_iff_ne, Bool.not_eq_true, Bool.not_eq_false, Bool.not_eq_true', Bool.not_eq_false', ne_eq] at h2
      refine awp_rw rfl ?_
      refine RW.op rfl rfl (eff_move (v := .own _ _ _ _) rfl rfl rfl) ?_
      refine RW.op rfl rfl (eff_load rfl rfl ti30 rfl (.whole rfl rfl rfl rfl rfl rfl)) ?_
      refine RW.new rfl rfl (eff_buildSliceL (id := 27) (els := [.t (.agg [_, _, _, _, _])]) rfl rfl te34 tz30 rfl (by decide) (by decide) rfl rfl rfl rfl) ?_
      refine RW.new rfl rfl (eff_append (id := 6) (ys := [_]) rfl rfl ta34 rfl rfl rfl (by rw [he, hnn]; simp) rfl rfl (srcOwn rfl rfl rfl rfl rfl rfl) (by simp) (by simp; omega) (by simp; omega)) ?_
      refine RW.op rfl rfl (eff_assign (v := .own _ _ _ _) rfl rfl rfl) ?_
      refine RW.nil ?_
      refine awp_rw rfl ?_
      refine RW.op rfl rfl (eff_iop rfl rfl rfl rfl (iadd (by omega))) ?_
      refine RW.op rfl rfl (eff_move (v := .t _) rfl rfl rfl) ?_
      refine RW.nil ?_
      have hil : i < t.sent.length := by omega
      first
        | have ho : open_ (t.sent.take (i + 1)) r = (open_ (t.sent.take i) r) ++ [t.sent[i]'hil] := open_take hil (by omega)
        | have ho : open_ (t.sent.take (i + 1)) r = (open_ (t.sent.take i) r) := open_skip hil (by omega)
      refine ⟨_, ?_, _, weak_keep (n := 57) (fr' := [(2, .ptr 2 0 0 0), (3, .ptr 3 0 0 0), (4, .ptr 4 0 0 0), (6, .own 6 _ 0 _), (14, .t (.sl (t.sent.map encF) false)), (15, .t (encI t.sent.length)), (16, .t (encI ((i + 1) : Nat))), (58, .t deT)]) (st' := [(2, some ⟨2, 37, 0, [.t (encT t)]⟩), (3, some ⟨4, 23, 0, [.t (encR r)]⟩), (4, some ⟨2, 37, 0, [.t z37]⟩), (6, some ⟨5, 30, _, _⟩)]) ⟨rfl, rfl, rfl, rfl, rfl, rfl, rfl, rfl, rfl, rfl, rfl, rfl, rfl, rfl, rfl, rfl, trivial⟩ ⟨rfl, okE_one rfl, rfl, okE_one rfl, rfl, okE_one rfl, rfl, (by first | exact okE_nil | (rw [he]; exact okE_t) | (rw [he]; intro x hx; simp only [List.mem_append, List.mem_map, List.mem_singleton] at hx; rcases hx with ⟨y, _, rfl⟩ | rfl <;> rfl)), trivial⟩, i + 1, _, _, _, (by omega), (by rw [ho]; simp [hnn]), (by rw [ho]; simp [he] <;> rfl), rfl, rfl⟩
      omega
    · try simp only [decide_eq_true_eq, decide_eq_false_iff_not, beq_iff_eq, bne_iff_ne, bne_eq_false_iff_eq, beq_eq_false_iff_ne, Bool.not_eq_true, Bool.not_eq_false, Bool.not_eq_true', Bool.not_eq_false', ne_eq] at h2
      refine awp_skip ?_
      refine awp_rw rfl ?_
      refine RW.op rfl rfl (eff_iop rfl rfl rfl rfl (iadd (by omega))) ?_
      refine RW.op rfl rfl (eff_move (v := .t _) rfl rfl rfl) ?_
      refine RW.nil ?_
      have hil : i < t.sent.length := by omega
      first
        | have ho : open_ (t.sent.take (i + 1)) r = (open_ (t.sent.take i) r) ++ [t.sent[i]'hil] := open_take hil (by omega)
        | have ho : open_ (t.sent.take (i + 1)) r = (open_ (t.sent.take i) r) := open_skip hil (by omega)
      refine ⟨_, ?_, _, weak_keep (n := 57) (fr' := [(2, .ptr 2 0 0 0), (3, .ptr 3 0 0 0), (4, .ptr 4 0 0 0), (6, .own 6 _ 0 _), (14, .t (.sl (t.sent.map encF) false)), (15, .t (encI t.sent.length)), (16, .t (encI ((i + 1) : Nat))), (58, .t deT)]) (st' := [(2, some ⟨2, 37, 0, [.t (encT t)]⟩), (3, some ⟨4, 23, 0, [.t (encR r)]⟩), (4, some ⟨2, 37, 0, [.t z37]⟩), (6, some ⟨5, 30, _, _⟩)]) ⟨rfl, rfl, rfl, rfl, rfl, rfl, rfl, rfl, rfl, rfl, rfl, rfl, rfl, rfl, rfl, rfl, trivial⟩ ⟨rfl, okE_one rfl, rfl, okE_one rfl, rfl, okE_one rfl, rfl, (by first | exact okE_nil | (rw [he]; exact okE_t) | (rw [he]; intro x hx; simp only [List.mem_append, List.mem_map, List.mem_singleton] at hx; rcases hx with ⟨y, _, rfl⟩ | rfl <;> rfl)), trivial⟩, i + 1, _, _, _, (by omega), (by rw [ho]; simp [hnn]), (by rw [ho]; simp [he] <;> rfl), rfl, rfl⟩
      omega
  · try simp only [decide_eq_true_eq, decide_eq_false_iff_not, beq_iff_eq, bne_iff_ne, bne_eq_false_iff_eq, beq_eq_false_iff_ne, Bool.not_eq_true, Bool.not_eq_false, Bool.not_eq_true', Bool.not_eq_false', ne_eq] at h1
    refine awp_exit ?_
    refine awp_seq ?_
    have hi2 : i = t.sent.length := by omega
    subst hi2
    rw [List.take_length] at hnn he
    refine awp_weak (weak_frz (n := 57) (fr' := [(2, .ptr 2 0 0 0), (3, .ptr 3 0 0 0), (4, .ptr 4 0 0 0), (6, .t (.sl ((open_ t.sent r).map encF) false)), (58, .t deT)]) (st' := [(2, some ⟨2, 37, 0, [.t (encT t)]⟩), (3, some ⟨4, 23, 0, [.t (encR r)]⟩), (4, some ⟨2, 37, 0, [.t z37]⟩)]) [(6, some ⟨5, 30, gn, els⟩)] ⟨rfl, trivial⟩ ⟨rfl, rfl, rfl, trivial⟩ ⟨wa_eq rfl rfl, wa_eq rfl rfl, wa_eq rfl rfl, .res (Res.ownT (xs := (open_ t.sent r).map encF) rfl rfl he (by rw [hnn]; simp)) (.refl _), wa_eq rfl rfl, trivial⟩ ⟨rfl, okE_one rfl, rfl, okE_one rfl, rfl, okE_one rfl, trivial⟩) ?_
    have hol2 : (open_ t.sent r).length ≤ t.sent.length := List.length_filter_le _ _
    refine awp_rw rfl ?_
    refine RW.op rfl rfl (eff_load rfl rfl ti23 rfl (.whole rfl rfl rfl rfl rfl rfl)) ?_
    refine RW.op rfl rfl (eff_move (v := .t _) rfl rfl rfl) ?_
    refine RW.op rfl rfl (eff_callXT (reach_ret r (open_ t.sent r) hr (by omega)) co48 rfl rfl rfl ⟨rfl, trivial⟩ rfl) ?_
    refine RW.op rfl rfl (eff_assign (v := .t _) rfl rfl rfl) ?_
    refine RW.nil ?_
    refine awp_seq ?_
    refine awp_rw rfl ?_
    refine RW.op rfl rfl (eff_assign (v := .t _) rfl rfl rfl) ?_
    refine RW.nil ?_
    show AWP _ _ _ _
    refine awp_weak (weak_adopt (d := 10) (id := 10) (k := 4) (ty := 23) rfl rfl) ?_
    refine awp_seq ?_
    refine awp_seq ?_
    refine awp_rw rfl ?_
    refine RW.op rfl rfl (eff_fieldAddr rfl rfl tf37_1 (by decide) rfl rfl rfl (Nat.le_of_ble_eq_true rfl)) ?_
    refine RW.op rfl rfl (eff_load (y := .t _) rfl rfl ti35 rfl (.one rfl rfl rfl rfl)) ?_
    refine RW.op rfl rfl (eff_lenM rfl rfl te35 rfl) ?_
    refine RW.op rfl rfl (eff_move (v := .t _) rfl rfl rfl) ?_
    refine RW.nil ?_
    refine awp_block ?_
    refine awp_loopW (fun m s => ∃ (k : Nat) (gm : Nat) (n2 : Nat) (els2 : List AV), (k ≤ t.poss.length) ∧ (n2 = ((t.poss.take k).filter (fun x => decide (x ∈ reachF r (open_ t.sent r)))).length) ∧ (els2 = (((t.poss.take k).filter (fun x => decide (x ∈ reachF r (open_ t.sent r)))).map encR).map .t) ∧ m = t.poss.length - k ∧ s = ⟨57, [(2, .ptr 2 0 0 0), (4, .ptr 4 0 0 0), (9, .t (mset (reachF r (open_ t.sent r)))), (10, .own 10 gm 0 n2), (34, .t (.sl (t.poss.map encR) false)), (35, .t (encI t.poss.length)), (36, .t (encI (k : Nat))), (58, .t deT)], [(2, some ⟨2, 37, 0, [.t (encT t)]⟩), (4, some ⟨2, 37, 0, [.t z37]⟩), (10, some ⟨4, 23, gm, els2⟩)]⟩) (_) (⟨_, weak_keep (n := 57) (fr' := [(2, .ptr 2 0 0 0), (4, .ptr 4 0 0 0), (9, .t (mset (reachF r (open_ t.sent r)))), (10, .own 10 0 0 0), (34, .t (.sl (t.poss.map encR) false)), (35, .t (encI t.poss.length)), (36, .t (encI (0 : Nat))), (58, .t deT)]) (st' := [(2, some ⟨2, 37, 0, [.t (encT t)]⟩), (4, some ⟨2, 37, 0, [.t z37]⟩), (10, some ⟨4, 23, 0, ([])⟩)]) ⟨rfl, rfl, rfl, rfl, rfl, rfl, rfl, rfl, rfl, rfl, rfl, rfl, rfl, rfl, rfl, rfl, trivial⟩ ⟨rfl, okE_one rfl, rfl, okE_one rfl, rfl, (by first | exact okE_nil | (rw [he2]; exact okE_t) | (rw [he2]; intro x hx; simp only [List.mem_append, List.mem_map, List.mem_singleton] at hx; rcases hx with ⟨y, _, rfl⟩ | rfl <;> rfl)), trivial⟩, 0, 0, 0, [], (by omega), (by simp), (by simp), rfl, rfl⟩) ?_
    rintro m s ⟨k, gm, n2, els2, hk, hnn2, he2, rfl, rfl⟩
    have hfl0 : n2 ≤ k := by rw [hnn2]; exact Nat.le_trans (List.length_filter_le _ _) (by simp; omega)
    refine awp_seq ?_
    refine awp_rw rfl ?_
    refine RW.op rfl rfl (eff_iop rfl rfl rfl rfl rfl) ?_
    refine RW.nil ?_
    refine awp_seq ?_
    refine awp_cond rfl (fun h3 => ?_) (fun h3 => ?_)
    · try simp only [decide_eq_true_eq, decide_eq_false_iff_not, beq_iff_eq, bne_iff_ne, bne_eq_false_iff_eq, beq_eq_false_iff_ne, Bool.not_eq_true, Bool.not_eq_false, Bool.not_eq_true', Bool.not_eq_false', ne_eq] at h3
      refine awp_skip ?_
      refine awp_seq ?_
      refine awp_block ?_
      refine awp_seq ?_
      refine awp_rw rfl ?_
      refine RW.op rfl rfl (eff_indexM rfl rfl te35 rfl rfl rfl (by first | assumption | exact List.getElem?_eq_getElem (by omega)) rfl (by decide)) ?_
      refine RW.op rfl rfl (eff_loadW rfl rfl ti23 rfl rfl rfl) ?_
      refine RW.new rfl rfl (eff_allocK (k := 4) (id := 12) rfl rfl tz23 rfl rfl) ?_
      refine RW.store rfl rfl (eff_storeW (v := .t _) (els := [_]) (els' := [_]) rfl rfl ti23 rfl rfl rfl rfl rfl rfl rfl rfl rfl) ?_
      refine RW.nil ?_
      refine awp_seq ?_
      refine awp_rw rfl ?_
      refine RW.op rfl rfl (eff_move (v := .t _) rfl rfl rfl) ?_
      refine RW.op rfl rfl (eff_load rfl rfl ti23 rfl (.whole rfl rfl rfl rfl rfl rfl)) ?_
      refine RW.op rfl rfl (eff_hasS (t.poss[k]'(by omega)) (srt_nodup (srt_reach r _)) Tryd.underlying78 tz4 rfl rfl rfl rfl) ?_
      refine RW.nil ?_
      refine awp_cond rfl (fun h4 => ?_) (fun h4 => ?_)
      · try simp only [decide_eq_true_eq, decide_eq_false_iff_not, beq_iff_eq, bne_iff_ne, bne_eq_false_iff_eq, beq_eq_false_iff_ne, Bool.not_eq_true, Bool.not_eq_false, Bool.not_eq_true', Bool.not_eq_false', ne_eq] at h4
        refine awp_rw rfl ?_
        refine RW.op rfl rfl (eff_move (v := .own _ _ _ _) rfl rfl rfl) ?_
        refine RW.op rfl rfl (eff_load rfl rfl ti23 rfl (.whole rfl rfl rfl rfl rfl rfl)) ?_
        refine RW.new rfl rfl (eff_buildSliceL (id := 45) (els := [.t (.agg [_, _, _, _])]) rfl rfl te35 tz23 rfl (by decide) (by decide) rfl rfl rfl rfl) ?_
        refine RW.new rfl rfl (eff_append (id := 10) (ys := [_]) rfl rfl ta35 rfl rfl rfl (by rw [he2, hnn2]; simp) rfl rfl (srcOwn rfl rfl rfl rfl rfl rfl) (by simp) (by simp; omega) (by simp; omega)) ?_
        refine RW.op rfl rfl (eff_assign (v := .own _ _ _ _) rfl rfl rfl) ?_
        refine RW.nil ?_
        refine awp_rw rfl ?_
        refine RW.op rfl rfl (eff_iop rfl rfl rfl rfl (iadd (by omega))) ?_
        refine RW.op rfl rfl (eff_move (v := .t _) rfl rfl rfl) ?_
        refine RW.nil ?_
        have hft : (t.poss.take (k + 1)).filter (fun x => decide (x ∈ reachF r (open_ t.sent r))) = _ := (left_take (by omega)).trans (congrArg _ (by first | exact if_pos (by assumption) | exact if_neg (by assumption)))
        refine ⟨_, ?_, _, weak_keep (n := 57) (fr' := [(2, .ptr 2 0 0 0), (4, .ptr 4 0 0 0), (9, .t (mset (reachF r (open_ t.sent r)))), (10, .own 10 _ 0 _), (34, .t (.sl (t.poss.map encR) false)), (35, .t (encI t.poss.length)), (36, .t (encI ((k + 1) : Nat))), (58, .t deT)]) (st' := [(2, some ⟨2, 37, 0, [.t (encT t)]⟩), (4, some ⟨2, 37, 0, [.t z37]⟩), (10, some ⟨4, 23, _, _⟩)]) ⟨rfl, rfl, rfl, rfl, rfl, rfl, rfl, rfl, rfl, rfl, rfl, rfl, rfl, rfl, rfl, rfl, trivial⟩ ⟨rfl, okE_one rfl, rfl, okE_one rfl, rfl, (by first | exact okE_nil | (rw [he2]; exact okE_t) | (rw [he2]; intro x hx; simp only [List.mem_append, List.mem_map, List.mem_singleton] at hx; rcases hx with ⟨y, _, rfl⟩ | rfl <;> rfl)), trivial⟩, k + 1, _, _, _, (by omega), (by rw [hft, hnn2]; simp), (by rw [hft, he2]; simp <;> rfl), rfl, rfl⟩
        omega
      · try simp only [decide_eq_true_eq, decide_eq_false_iff_not, beq_iff_eq, bne_iff_ne, bne_eq_false_iff_eq, beq_eq_false_iff_ne, Bool.not_eq_true, Bool.not_eq_false, Bool.not_eq_true', Bool.not_eq_false', ne_eq] at h4
        refine awp_skip ?_
        refine awp_rw rfl ?_
        refine RW.op rfl rfl (eff_iop rfl rfl rfl rfl (iadd (by omega))) ?_
        refine RW.op rfl rfl (eff_move (v := .t _) rfl rfl rfl) ?_
        refine RW.nil ?_
        have hft : (t.poss.take (k + 1)).filter (fun x => decide (x ∈ reachF r (open_ t.sent r))) = _ := (left_take (by omega)).trans (congrArg _ (by first | exact if_pos (by assumption) | exact if_neg (by assumption)))
        refine ⟨_, ?_, _, weak_keep (n := 57) (fr' := [(2, .ptr 2 0 0 0), (4, .ptr 4 0 0 0), (9, .t (mset (reachF r (open_ t.sent r)))), (10, .own 10 _ 0 _), (34, .t (.sl (t.poss.map encR) false)), (35, .t (encI t.poss.length)), (36, .t (encI ((k + 1) : Nat))), (58, .t deT)]) (st' := [(2, some ⟨2, 37, 0, [.t (encT t)]⟩), (4, some ⟨2, 37, 0, [.t z37]⟩), (10, some ⟨4, 23, _, _⟩)]) ⟨rfl, rfl, rfl, rfl, rfl, rfl, rfl, rfl, rfl, rfl, rfl, rfl, rfl, rfl, rfl, rfl, trivial⟩ ⟨rfl, okE_one rfl, rfl, okE_one rfl, rfl, (by first | exact okE_nil | (rw [he2]; exact okE_t) | (rw [he2]; intro x hx; simp only [List.mem_append, List.mem_map, List.mem_singleton] at hx; rcases hx with ⟨y, _, rfl⟩ | rfl <;> rfl)), trivial⟩, k + 1, _, _, _, (by omega), (by rw [hft, hnn2]; simp), (by rw [hft, he2]; simp <;> rfl), rfl, rfl⟩
        omega
    · try simp only [decide_eq_true_eq, decide_eq_false_iff_not, beq_iff_eq, bne_iff_ne, bne_eq_false_iff_eq, beq_eq_false_iff_ne, Bool.not_eq_true, Bool.not_eq_false, Bool.not_eq_true', Bool.not_eq_false', ne_eq] at h3
      refine awp_exit ?_
      refine awp_seq ?_
      refine awp_seq ?_
      refine awp_rw rfl ?_
      refine RW.op rfl rfl (eff_move (v := .own _ _ _ _) rfl rfl rfl) ?_
      refine RW.op rfl rfl (eff_len rfl rfl te35 rfl rfl rfl) ?_
      refine RW.op rfl rfl (eff_iop rfl rfl rfl rfl rfl) ?_
      refine RW.nil ?_
      refine awp_cond rfl (fun h5 => ?_) (fun h5 => ?_)
      · try simp only [decide_eq_true_eq, decide_eq_false_iff_not, beq_iff_eq, bne_iff_ne, bne_eq_false_iff_eq, beq_eq_false_iff_ne, Bool.not_eq_true, Bool.not_eq_false, Bool.not_eq_true', Bool.not_eq_false', ne_eq] at h5
        refine awp_seq ?_
        refine awp_rw rfl ?_
        refine RW.op rfl rfl (eff_buildT (ys := [_, _]) rfl rfl tz37 tg37 rfl) ?_
        refine RW.store rfl rfl (eff_storeW (v := .t _) (els := [_]) (els' := [_]) rfl rfl ti37 rfl rfl rfl rfl rfl rfl rfl rfl rfl) ?_
        refine RW.op rfl rfl (eff_assign (v := .t _) rfl rfl rfl) ?_
        refine RW.nil ?_
        refine awp_ret ?_
        have hk2 : k = t.poss.length := by omega
        subst hk2
        have htl : t.poss.take t.poss.length = t.poss := List.take_length
        have hlf : left_ t r = (t.poss.take t.poss.length).filter (fun x => decide (x ∈ reachF r (open_ t.sent r))) := by rw [htl]; rfl
        first
          | (rw [hear_no (by rw [hlf]; omega)]
             exact ⟨Or.inr rfl, [_, _], ⟨.cell rfl ti37 (.whole rfl rfl rfl rfl rfl rfl) (.t _), .tmp (.t _), trivial⟩, (by repeat' first | exact trivial | exact Wk.refl _ | exact Wk.sl _ | refine And.intro ?_ ?_ | refine Wk.tupP ?_ | refine Wk.aggP ?_)⟩)
          | (rw [hear_ok (by rw [hlf]; omega), hlf]
             exact ⟨Or.inr rfl, [_, _], ⟨.cell rfl ti37 (.whole rfl rfl rfl rfl rfl rfl) (Res.aggP (xs := [_, _]) ⟨.t _, Res.ownT (xs := ((t.poss.take t.poss.length).filter (fun x => decide (x ∈ reachF r (open_ t.sent r)))).map encR) rfl rfl he2 (by rw [hnn2]; simp), trivial⟩), .tmp (.t _), trivial⟩, .refl _⟩)
      · try simp only [decide_eq_true_eq, decide_eq_false_iff_not, beq_iff_eq, bne_iff_ne, bne_eq_false_iff_eq, beq_eq_false_iff_ne, Bool.not_eq_true, Bool.not_eq_false, Bool.not_eq_true', Bool.not_eq_false', ne_eq] at h5
        refine awp_skip ?_
        refine awp_seq ?_
        refine awp_rw rfl ?_
        refine RW.op rfl rfl (eff_fieldAddr rfl rfl tf37_0 (by decide) rfl rfl rfl (Nat.le_of_ble_eq_true rfl)) ?_
        refine RW.op rfl rfl (eff_load (y := .t _) rfl rfl ti34 rfl (.one rfl rfl rfl rfl)) ?_
        refine RW.op rfl rfl (eff_callT (own_ret t.sent (by omega) hb) co44 rfl rfl rfl rfl) ?_
        refine RW.op rfl rfl (eff_move (v := .own _ _ _ _) rfl rfl rfl) ?_
        refine RW.op rfl rfl (eff_buildA (ys := [_, _]) rfl rfl tz37 tg37 rfl rfl) ?_
        refine RW.store rfl rfl (eff_storeW (v := .agg _) (els := [_]) (els' := [_]) rfl rfl ti37 rfl rfl rfl rfl rfl rfl rfl rfl rfl) ?_
        refine RW.op rfl rfl (eff_assign (v := .t _) rfl rfl rfl) ?_
        refine RW.nil ?_
        refine awp_ret ?_
        have hk2 : k = t.poss.length := by omega
        subst hk2
        have htl : t.poss.take t.poss.length = t.poss := List.take_length
        have hlf : left_ t r = (t.poss.take t.poss.length).filter (fun x => decide (x ∈ reachF r (open_ t.sent r))) := by rw [htl]; rfl
        first
          | (rw [hear_no (by rw [hlf]; omega)]
             exact ⟨Or.inr rfl, [_, _], ⟨.cell rfl ti37 (.whole rfl rfl rfl rfl rfl rfl) (.t _), .tmp (.t _), trivial⟩, (by repeat' first | exact trivial | exact Wk.refl _ | exact Wk.sl _ | refine And.intro ?_ ?_ | refine Wk.tupP ?_ | refine Wk.aggP ?_)⟩)
          | (rw [hear_ok (by rw [hlf]; omega), hlf]
             exact ⟨Or.inr rfl, [_, _], ⟨.cell rfl ti37 (.whole rfl rfl rfl rfl rfl rfl) (Res.aggP (xs := [_, _]) ⟨.t _, Res.ownT (xs := ((t.poss.take t.poss.length).filter (fun x => decide (x ∈ reachF r (open_ t.sent r)))).map encR) rfl rfl he2 (by rw [hnn2]; simp), trivial⟩), .tmp (.t _), trivial⟩, .refl _⟩)

end Go.Tv.C34

end
section
open Go Go.Tv Go.Proofs
namespace Go.Tv.C34
set_option maxRecDepth 20000
set_option maxHeartbeats 2000000
set_option linter.unusedSimpArgs false
set_option linter.unusedVariables false
theorem frames_ret (l : List Int) (mo : Nat) (hI : ∀ x, x ∈ l → I64 x) (hl : l.length ≤ 9223372036854775807) (hm : mo ≤ 20) : Ret Tryd.prog 19 [.sl (l.map encI) false, encI (mo : Nat)] (.sl ((frames l mo).map encF) false) := by
  refine ret_of_awp Tryd.func19 rfl (Nat.le_of_ble_eq_true rfl) ?_
  refine awp_seq ?_
  refine awp_rw rfl ?_
  refine RW.op rfl rfl (eff_assign (v := .t _) rfl rfl rfl) ?_
  refine RW.nil ?_
  refine awp_seq ?_
  refine awp_rw rfl ?_
  refine RW.op rfl rfl (eff_assign (v := .t _) rfl rfl rfl) ?_
  refine RW.nil ?_
  show AWP _ _ _ _
  refine awp_weak (weak_adopt (d := 5) (id := 5) (k := 5) (ty := 30) rfl rfl) ?_
  refine awp_seq ?_
  refine awp_rw rfl ?_
  refine RW.op rfl rfl (eff_assign (v := .t _) rfl rfl rfl) ?_
  refine RW.nil ?_
  refine awp_seq ?_
  refine awp_seq ?_
  refine awp_rw rfl ?_
  refine RW.op rfl rfl (eff_assign (v := .t _) rfl rfl rfl) ?_
  refine RW.nil ?_
  refine awp_block ?_
  refine awp_loopW (fun m s => ∃ (i : Nat) (gn : Nat) (n : Nat) (key : Int) (els : List AV), (i ≤ l.length) ∧ (i ≤ mo) ∧ (n = i) ∧ (key = keyAt l i) ∧ (els = (((List.range i).map (frameAt l)).map encF).map .t) ∧ m = l.length - i ∧ s = ⟨59, [(0, .t (.sl (l.map encI) false)), (1, .t (encI (mo : Nat))), (5, .own 5 gn 0 n), (6, .t (encI key)), (7, .t (encI (i : Nat)))], [(5, some ⟨5, 30, gn, els⟩)]⟩) (_) (⟨_, weak_keep (n := 59) (fr' := [(0, .t (.sl (l.map encI) false)), (1, .t (encI (mo : Nat))), (5, .own 5 0 0 0), (6, .t (encI 0)), (7, .t (encI (0 : Nat)))]) (st' := [(5, some ⟨5, 30, 0, ([])⟩)]) ⟨rfl, rfl, rfl, rfl, rfl, rfl, rfl, rfl, rfl, rfl, trivial⟩ ⟨rfl, (by first | exact okE_nil | (rw [he]; exact okE_t) | (rw [he]; intro x hx; simp only [List.mem_append, List.mem_map, List.mem_singleton] at hx; rcases hx with ⟨y, _, rfl⟩ | rfl <;> rfl)), trivial⟩, 0, 0, 0, 0, [], (by omega), (by omega), (by rfl), (by rfl), (by rfl), rfl, rfl⟩) ?_
  rintro m s ⟨i, gn, n, key, els, hi, him, hnn, hky, he, rfl, rfl⟩
  have hkr := keyAt_range l i
  rw [← hky] at hkr
  refine awp_seq ?_
  refine awp_seq ?_
  refine awp_rw rfl ?_
  refine RW.op rfl rfl (eff_move (v := .t _) rfl rfl rfl) ?_
  refine RW.op rfl rfl (eff_move (v := .t _) rfl rfl rfl) ?_
  refine RW.op rfl rfl (eff_lenM rfl rfl te26 rfl) ?_
  refine RW.op rfl rfl (eff_iop rfl rfl rfl rfl rfl) ?_
  refine RW.op rfl rfl (eff_move (v := .t _) rfl rfl rfl) ?_
  refine RW.split 14 rfl (fun h1 => ?_) (fun h1 => ?_)
  · try simp only [decide_eq_true_eq, decide_eq_false_iff_not, beq_iff_eq, bne_iff_ne, bne_eq_false_iff_eq, beq_eq_false_iff_ne, Bool.not_eq_true, Bool.not_eq_false, Bool.not_eq_true', Bool.not_eq_false', ne_eq] at h1
    refine RW.gop rfl rfl rfl rfl rfl rfl (eff_move (v := .t _) rfl rfl rfl) ?_
    refine RW.gop rfl rfl rfl rfl rfl rfl (eff_move (v := .t _) rfl rfl rfl) ?_
    refine RW.gop rfl rfl rfl rfl rfl rfl (eff_iop rfl rfl rfl rfl rfl) ?_
    refine RW.op rfl rfl (eff_pick (v := .t _) rfl rfl rfl rfl) ?_
    refine RW.nil ?_
    refine awp_cond rfl (fun h2 => ?_) (fun h2 => ?_)
    · try simp only [decide_eq_true_eq, decide_eq_false_iff_not, beq_iff_eq, bne_iff_ne, bne_eq_false_iff_eq, beq_eq_false_iff_ne, Bool.not_eq_true, Bool.not_eq_false, Bool.not_eq_true', Bool.not_eq_false', ne_eq] at h2
      refine awp_skip ?_
      refine awp_seq ?_
      refine awp_block ?_
      refine awp_seq ?_
      refine awp_rw rfl ?_
      have hil : i < l.length := by omega
      refine RW.op rfl rfl (eff_move (v := .t _) rfl rfl rfl) ?_
      refine RW.op rfl rfl (eff_move (v := .t _) rfl rfl rfl) ?_
      refine RW.op rfl rfl (eff_indexM rfl rfl te26 rfl rfl rfl (by first | assumption | exact List.getElem?_eq_getElem (by omega)) rfl (by decide)) ?_
      refine RW.op rfl rfl (eff_loadW1 rfl rfl ti3 rfl rfl) ?_
      refine RW.op rfl rfl (eff_callT (around_ret _ _ (hI _ (List.getElem_mem _)) (by omega)) co13 rfl rfl rfl rfl) ?_
      refine RW.op rfl rfl (eff_assign (v := .t _) rfl rfl rfl) ?_
      refine RW.nil ?_
      refine awp_seq ?_
      refine awp_rw rfl ?_
      have har := around_range (n := l[i]'hil) (m := 1000000) (by decide)
      have him2 : 0 ≤ imax 0 ((i : Int) - 3) ∧ imax 0 ((i : Int) - 3) ≤ 20 := by unfold imax; split <;> omega
      refine RW.op rfl rfl (eff_move (v := .t _) rfl rfl rfl) ?_
      refine RW.op rfl rfl (eff_move (v := .t _) rfl rfl rfl) ?_
      refine RW.op rfl rfl (eff_iop rfl rfl rfl rfl (isub (by omega))) ?_
      refine RW.op rfl rfl (eff_max rfl rfl rfl rfl) ?_
      refine RW.op rfl rfl (eff_move (v := .t _) rfl rfl rfl) ?_
      refine RW.op rfl rfl (eff_remE (r := (around (l[i]'hil) 1000000) % 7) rfl rfl rfl rfl (by decide) (tmod_pos (by omega))) ?_
      refine RW.op rfl rfl (eff_iop rfl rfl rfl rfl (iadd (by omega))) ?_
      refine RW.op rfl rfl (eff_buildT (ys := [_, _, _, _, _]) rfl rfl tz30 tg30 rfl) ?_
      refine RW.new rfl rfl (eff_allocK (k := 5) (id := 9) rfl rfl tz30 rfl rfl) ?_
      refine RW.store rfl rfl (eff_storeW (v := .t _) (els := [_]) (els' := [_]) rfl rfl ti30 rfl rfl rfl rfl rfl rfl rfl rfl rfl) ?_
      refine RW.nil ?_
      refine awp_seq ?_
      refine awp_seq ?_
      refine awp_rw rfl ?_
      refine RW.op rfl rfl (eff_move (v := .t _) rfl rfl rfl) ?_
      refine RW.op rfl rfl (eff_quoE (r := (around (l[i]'hil) 1000000) / 7) rfl rfl rfl rfl (by decide) (quoN (by omega) (by decide))) ?_
      refine RW.op rfl rfl (eff_remE (r := ((around (l[i]'hil) 1000000) / 7) % 12) rfl rfl rfl rfl (by decide) (tmod_pos (by omega))) ?_
      refine RW.nil ?_
      refine awp_block ?_
      refine awp_seq ?_
      refine awp_rw rfl ?_
      refine RW.op rfl rfl (eff_iop rfl rfl rfl rfl rfl) ?_
      refine RW.op rfl rfl (eff_assign (v := .t _) rfl rfl rfl) ?_
      refine RW.nil ?_
      refine awp_cond rfl (fun h3 => ?_) (fun h3 => ?_)
      · try simp only [decide_eq_true_eq, decide_eq_false_iff_not, beq_iff_eq, bne_iff_ne, bne_eq_false_iff_eq, beq_eq_false_iff_ne, Bool.not_eq_true, Bool.not_eq_false, Bool.not_eq_true', Bool.not_eq_false', ne_eq] at h3
        refine awp_rw rfl ?_
        refine RW.op rfl rfl (eff_fieldAddr rfl rfl tf30_2 (by decide) rfl rfl rfl (Nat.le_of_ble_eq_true rfl)) ?_
        refine RW.store rfl rfl (eff_storeS (v := .t _) (ys := [_, _, _, _, _]) (els := [_]) (els' := [_]) rfl rfl ti4 rfl rfl rfl rfl rfl rfl rfl (Nat.le_of_ble_eq_true rfl) rfl rfl) ?_
        refine RW.nil ?_
        refine awp_seq ?_
        refine awp_rw rfl ?_
        refine RW.op rfl rfl (eff_move (v := .own _ _ _ _) rfl rfl rfl) ?_
        refine RW.op rfl rfl (eff_load rfl rfl ti30 rfl (.whole rfl rfl rfl rfl rfl rfl)) ?_
        first
          | (have hfr : frameAt l i = ⟨imax 0 ((i : Int) - 3) + (around (l[i]'hil) 1000000) % 7, key, true, [], 0⟩ := by unfold frameAt; rw [getD_get hil, ← hky]; exact frm_0 (by omega)
             refine RW.weak (weak_slot 47 (y := encF ⟨imax 0 ((i : Int) - 3) + (around (l[i]'hil) 1000000) % 7, key, true, [], 0⟩) rfl (by repeat' first | exact trivial | exact Wk.refl _ | exact Wk.sl _ | refine And.intro ?_ ?_ | refine Wk.tupP ?_ | refine Wk.aggP ?_)) rfl ?_)
          | (have hfr : frameAt l i = ⟨(around (l[i]'hil) 1000000) / 84 % 300, key, false, [], 0⟩ := by unfold frameAt; rw [getD_get hil, ← hky]; exact frm_1 (by omega) (by omega)
             refine RW.weak (weak_slot 47 (y := encF ⟨(around (l[i]'hil) 1000000) / 84 % 300, key, false, [], 0⟩) rfl (by repeat' first | exact trivial | exact Wk.refl _ | exact Wk.sl _ | refine And.intro ?_ ?_ | refine Wk.tupP ?_ | refine Wk.aggP ?_)) rfl ?_)
          | (have hfr : frameAt l i = ⟨imax 0 ((i : Int) - 3) + (around (l[i]'hil) 1000000) % 7, key, false, [], 0⟩ := by unfold frameAt; rw [getD_get hil, ← hky]; exact frm_2 (by omega) (by omega)
             refine RW.weak (weak_slot 47 (y := encF ⟨imax 0 ((i : Int) - 3) + (around (l[i]'hil) 1000000) % 7, key, false, [], 0⟩) rfl (by repeat' first | exact trivial | exact Wk.refl _ | exact Wk.sl _ | refine And.intro ?_ ?_ | refine Wk.tupP ?_ | refine Wk.aggP ?_)) rfl ?_)
        refine RW.new rfl rfl (eff_buildSliceL (id := 48) (els := [.t (.agg [_, _, _, _, _])]) rfl rfl te34 tz30 rfl (by decide) (by decide) rfl rfl rfl rfl) ?_
        refine RW.new rfl rfl (eff_append (id := 5) (ys := [_]) rfl rfl ta34 rfl rfl rfl (by rw [he, hnn]; simp) rfl rfl (srcOwn rfl rfl rfl rfl rfl rfl) (by simp) (by simp; omega) (by simp; omega)) ?_
        refine RW.op rfl rfl (eff_assign (v := .own _ _ _ _) rfl rfl rfl) ?_
        refine RW.nil ?_
        refine awp_rw rfl ?_
        refine RW.op rfl rfl (eff_move (v := .t _) rfl rfl rfl) ?_
        refine RW.op rfl rfl (eff_iop rfl rfl rfl rfl (iadd (by omega))) ?_
        refine RW.op rfl rfl (eff_move (v := .t _) rfl rfl rfl) ?_
        refine RW.op rfl rfl (eff_quoE (r := (around (l[i]'hil) 1000000) / 84) rfl rfl rfl rfl (by decide) (quoN (by omega) (by decide))) ?_
        refine RW.op rfl rfl (eff_remE (r := ((around (l[i]'hil) 1000000) / 84) % 40) rfl rfl rfl rfl (by decide) (tmod_pos (by omega))) ?_
        refine RW.op rfl rfl (eff_quoE (r := ((around (l[i]'hil) 1000000) / 84 % 40) / 39) rfl rfl rfl rfl (by decide) (quoN (by omega) (by decide))) ?_
        refine RW.op rfl rfl (eff_iop rfl rfl rfl rfl (imul (by omega))) ?_
        refine RW.op rfl rfl (eff_iop rfl rfl rfl rfl (iadd (by omega))) ?_
        refine RW.op rfl rfl (eff_assign (v := .t _) rfl rfl rfl) ?_
        refine RW.nil ?_
        refine awp_rw rfl ?_
        refine RW.op rfl rfl (eff_move (v := .t _) rfl rfl rfl) ?_
        refine RW.op rfl rfl (eff_iop rfl rfl rfl rfl (iadd (by omega))) ?_
        refine RW.op rfl rfl (eff_assign (v := .t _) rfl rfl rfl) ?_
        refine RW.nil ?_
        have hkn : keyAt l (i + 1) = key + 1 + (around (l[i]'hil) 1000000) / 84 % 40 / 39 * 5000 := by show nxt _ _ = _; rw [getD_get hil, ← hky]; rfl
        refine ⟨_, ?_, _, weak_keep (n := 59) (fr' := [(0, .t (.sl (l.map encI) false)), (1, .t (encI (mo : Nat))), (5, .own 5 _ 0 _), (6, .t (encI _)), (7, .t (encI ((i + 1) : Nat)))]) (st' := [(5, some ⟨5, 30, _, _⟩)]) ⟨rfl, rfl, rfl, rfl, rfl, rfl, rfl, rfl, rfl, rfl, trivial⟩ ⟨rfl, (by first | exact okE_nil | (rw [he]; exact okE_t) | (rw [he]; intro x hx; simp only [List.mem_append, List.mem_map, List.mem_singleton] at hx; rcases hx with ⟨y, _, rfl⟩ | rfl <;> rfl)), trivial⟩, i + 1, _, _, _, _, (by omega), (by omega), (by rw [hnn]; simp), (by exact hkn.symm), (by rw [range_succ, he]; simp only [List.map_append, List.map_cons, List.map_nil]; rw [hfr]; rfl), rfl, rfl⟩
        omega
      · try simp only [decide_eq_true_eq, decide_eq_false_iff_not, beq_iff_eq, bne_iff_ne, bne_eq_false_iff_eq, beq_eq_false_iff_ne, Bool.not_eq_true, Bool.not_eq_false, Bool.not_eq_true', Bool.not_eq_false', ne_eq] at h3
        refine awp_seq ?_
        refine awp_rw rfl ?_
        refine RW.op rfl rfl (eff_iop rfl rfl rfl rfl rfl) ?_
        refine RW.op rfl rfl (eff_assign (v := .t _) rfl rfl rfl) ?_
        refine RW.nil ?_
        refine awp_cond rfl (fun h4 => ?_) (fun h4 => ?_)
        · try simp only [decide_eq_true_eq, decide_eq_false_iff_not, beq_iff_eq, bne_iff_ne, bne_eq_false_iff_eq, beq_eq_false_iff_ne, Bool.not_eq_true, Bool.not_eq_false, Bool.not_eq_true', Bool.not_eq_false', ne_eq] at h4
          refine awp_rw rfl ?_
          refine RW.op rfl rfl (eff_move (v := .t _) rfl rfl rfl) ?_
          refine RW.op rfl rfl (eff_quoE (r := (around (l[i]'hil) 1000000) / 84) rfl rfl rfl rfl (by decide) (quoN (by omega) (by decide))) ?_
          refine RW.op rfl rfl (eff_remE (r := ((around (l[i]'hil) 1000000) / 84) % 300) rfl rfl rfl rfl (by decide) (tmod_pos (by omega))) ?_
          refine RW.op rfl rfl (eff_fieldAddr rfl rfl tf30_0 (by decide) rfl rfl rfl (Nat.le_of_ble_eq_true rfl)) ?_
          refine RW.store rfl rfl (eff_storeS (v := .t _) (ys := [_, _, _, _, _]) (els := [_]) (els' := [_]) rfl rfl ti3 rfl rfl rfl rfl rfl rfl rfl (Nat.le_of_ble_eq_true rfl) rfl rfl) ?_
          refine RW.nil ?_
          refine awp_seq ?_
          refine awp_rw rfl ?_
          refine RW.op rfl rfl (eff_move (v := .own _ _ _ _) rfl rfl rfl) ?_
          refine RW.op rfl rfl (eff_load rfl rfl ti30 rfl (.whole rfl rfl rfl rfl rfl rfl)) ?_
          first
            | (have hfr : frameAt l i = ⟨imax 0 ((i : Int) - 3) + (around (l[i]'hil) 1000000) % 7, key, true, [], 0⟩ := by unfold frameAt; rw [getD_get hil, ← hky]; exact frm_0 (by omega)
               refine RW.weak (weak_slot 47 (y := encF ⟨imax 0 ((i : Int) - 3) + (around (l[i]'hil) 1000000) % 7, key, true, [], 0⟩) rfl (by repeat' first | exact trivial | exact Wk.refl _ | exact Wk.sl _ | refine And.intro ?_ ?_ | refine Wk.tupP ?_ | refine Wk.aggP ?_)) rfl ?_)
            | (have hfr : frameAt l i = ⟨(around (l[i]'hil) 1000000) / 84 % 300, key, false, [], 0⟩ := by unfold frameAt; rw [getD_get hil, ← hky]; exact frm_1 (by omega) (by omega)
               refine RW.weak (weak_slot 47 (y := encF ⟨(around (l[i]'hil) 1000000) / 84 % 300, key, false, [], 0⟩) rfl (by repeat' first | exact trivial | exact Wk.refl _ | exact Wk.sl _ | refine And.intro ?_ ?_ | refine Wk.tupP ?_ | refine Wk.aggP ?_)) rfl ?_)
            | (have hfr : frameAt l i = ⟨imax 0 ((i : Int) - 3) + (around (l[i]'hil) 1000000) % 7, key, false, [], 0⟩ := by unfold frameAt; rw [getD_get hil, ← hky]; exact frm_2 (by omega) (by omega)
               refine RW.weak (weak_slot 47 (y := encF ⟨imax 0 ((i : Int) - 3) + (around (l[i]'hil) 1000000) % 7, key, false, [], 0⟩) rfl (by repeat' first | exact trivial | exact Wk.refl _ | exact Wk.sl _ | refine And.intro ?_ ?_ | refine Wk.tupP ?_ | refine Wk.aggP ?_)) rfl ?_)
          refine RW.new rfl rfl (eff_buildSliceL (id := 48) (els := [.t (.agg [_, _, _, _, _])]) rfl rfl te34 tz30 rfl (by decide) (by decide) rfl rfl rfl rfl) ?_
          refine RW.new rfl rfl (eff_append (id := 5) (ys := [_]) rfl rfl ta34 rfl rfl rfl (by rw [he, hnn]; simp) rfl rfl (srcOwn rfl rfl rfl rfl rfl rfl) (by simp) (by simp; omega) (by simp; omega)) ?_
          refine RW.op rfl rfl (eff_assign (v := .own _ _ _ _) rfl rfl rfl) ?_
          refine RW.nil ?_
          refine awp_rw rfl ?_
          refine RW.op rfl rfl (eff_move (v := .t _) rfl rfl rfl) ?_
          refine RW.op rfl rfl (eff_iop rfl rfl rfl rfl (iadd (by omega))) ?_
          refine RW.op rfl rfl (eff_move (v := .t _) rfl rfl rfl) ?_
          refine RW.op rfl rfl (eff_quoE (r := (around (l[i]'hil) 1000000) / 84) rfl rfl rfl rfl (by decide) (quoN (by omega) (by decide))) ?_
          refine RW.op rfl rfl (eff_remE (r := ((around (l[i]'hil) 1000000) / 84) % 40) rfl rfl rfl rfl (by decide) (tmod_pos (by omega))) ?_
          refine RW.op rfl rfl (eff_quoE (r := ((around (l[i]'hil) 1000000) / 84 % 40) / 39) rfl rfl rfl rfl (by decide) (quoN (by omega) (by decide))) ?_
          refine RW.op rfl rfl (eff_iop rfl rfl rfl rfl (imul (by omega))) ?_
          refine RW.op rfl rfl (eff_iop rfl rfl rfl rfl (iadd (by omega))) ?_
          refine RW.op rfl rfl (eff_assign (v := .t _) rfl rfl rfl) ?_
          refine RW.nil ?_
          refine awp_rw rfl ?_
          refine RW.op rfl rfl (eff_move (v := .t _) rfl rfl rfl) ?_
          refine RW.op rfl rfl (eff_iop rfl rfl rfl rfl (iadd (by omega))) ?_
          refine RW.op rfl rfl (eff_assign (v := .t _) rfl rfl rfl) ?_
          refine RW.nil ?_
          have hkn : keyAt l (i + 1) = key + 1 + (around (l[i]'hil) 1000000) / 84 % 40 / 39 * 5000 := by show nxt _ _ = _; rw [getD_get hil, ← hky]; rfl
          refine ⟨_, ?_, _, weak_keep (n := 59) (fr' := [(0, .t (.sl (l.map encI) false)), (1, .t (encI (mo : Nat))), (5, .own 5 _ 0 _), (6, .t (encI _)), (7, .t (encI ((i + 1) : Nat)))]) (st' := [(5, some ⟨5, 30, _, _⟩)]) ⟨rfl, rfl, rfl, rfl, rfl, rfl, rfl, rfl, rfl, rfl, trivial⟩ ⟨rfl, (by first | exact okE_nil | (rw [he]; exact okE_t) | (rw [he]; intro x hx; simp only [List.mem_append, List.mem_map, List.mem_singleton] at hx; rcases hx with ⟨y, _, rfl⟩ | rfl <;> rfl)), trivial⟩, i + 1, _, _, _, _, (by omega), (by omega), (by rw [hnn]; simp), (by exact hkn.symm), (by rw [range_succ, he]; simp only [List.map_append, List.map_cons, List.map_nil]; rw [hfr]; rfl), rfl, rfl⟩
          omega
        · try simp only [decide_eq_true_eq, decide_eq_false_iff_not, beq_iff_eq, bne_iff_ne, bne_eq_false_iff_eq, beq_eq_false_iff_ne, Bool.not_eq_true, Bool.not_eq_false, Bool.not_eq_true', Bool.not_eq_false', ne_eq] at h4
          refine awp_skip ?_
          refine awp_seq ?_
          refine awp_rw rfl ?_
          refine RW.op rfl rfl (eff_move (v := .own _ _ _ _) rfl rfl rfl) ?_
          refine RW.op rfl rfl (eff_load rfl rfl ti30 rfl (.whole rfl rfl rfl rfl rfl rfl)) ?_
          first
            | (have hfr : frameAt l i = ⟨imax 0 ((i : Int) - 3) + (around (l[i]'hil) 1000000) % 7, key, true, [], 0⟩ := by unfold frameAt; rw [getD_get hil, ← hky]; exact frm_0 (by omega)
               refine RW.weak (weak_slot 47 (y := encF ⟨imax 0 ((i : Int) - 3) + (around (l[i]'hil) 1000000) % 7, key, true, [], 0⟩) rfl (by repeat' first | exact trivial | exact Wk.refl _ | exact Wk.sl _ | refine And.intro ?_ ?_ | refine Wk.tupP ?_ | refine Wk.aggP ?_)) rfl ?_)
            | (have hfr : frameAt l i = ⟨(around (l[i]'hil) 1000000) / 84 % 300, key, false, [], 0⟩ := by unfold frameAt; rw [getD_get hil, ← hky]; exact frm_1 (by omega) (by omega)
               refine RW.weak (weak_slot 47 (y := encF ⟨(around (l[i]'hil) 1000000) / 84 % 300, key, false, [], 0⟩) rfl (by repeat' first | exact trivial | exact Wk.refl _ | exact Wk.sl _ | refine And.intro ?_ ?_ | refine Wk.tupP ?_ | refine Wk.aggP ?_)) rfl ?_)
            | (have hfr : frameAt l i = ⟨imax 0 ((i : Int) - 3) + (around (l[i]'hil) 1000000) % 7, key, false, [], 0⟩ := by unfold frameAt; rw [getD_get hil, ← hky]; exact frm_2 (by omega) (by omega)
               refine RW.weak (weak_slot 47 (y := encF ⟨imax 0 ((i : Int) - 3) + (around (l[i]'hil) 1000000) % 7, key, false, [], 0⟩) rfl (by repeat' first | exact trivial | exact Wk.refl _ | exact Wk.sl _ | refine And.intro ?_ ?_ | refine Wk.tupP ?_ | refine Wk.aggP ?_)) rfl ?_)
          refine RW.new rfl rfl (eff_buildSliceL (id := 48) (els := [.t (.agg [_, _, _, _, _])]) rfl rfl te34 tz30 rfl (by decide) (by decide) rfl rfl rfl rfl) ?_
          refine RW.new rfl rfl (eff_append (id := 5) (ys := [_]) rfl rfl ta34 rfl rfl rfl (by rw [he, hnn]; simp) rfl rfl (srcOwn rfl rfl rfl rfl rfl rfl) (by simp) (by simp; omega) (by simp; omega)) ?_
          refine RW.op rfl rfl (eff_assign (v := .own _ _ _ _) rfl rfl rfl) ?_
          refine RW.nil ?_
          refine awp_rw rfl ?_
          refine RW.op rfl rfl (eff_move (v := .t _) rfl rfl rfl) ?_
          refine RW.op rfl rfl (eff_iop rfl rfl rfl rfl (iadd (by omega))) ?_
          refine RW.op rfl rfl (eff_move (v := .t _) rfl rfl rfl) ?_
          refine RW.op rfl rfl (eff_quoE (r := (around (l[i]'hil) 1000000) / 84) rfl rfl rfl rfl (by decide) (quoN (by omega) (by decide))) ?_
          refine RW.op rfl rfl (eff_remE (r := ((around (l[i]'hil) 1000000) / 84) % 40) rfl rfl rfl rfl (by decide) (tmod_pos (by omega))) ?_
          refine RW.op rfl rfl (eff_quoE (r := ((around (l[i]'hil) 1000000) / 84 % 40) / 39) rfl rfl rfl rfl (by decide) (quoN (by omega) (by decide))) ?_
          refine RW.op rfl rfl (eff_iop rfl rfl rfl rfl (imul (by omega))) ?_
          refine RW.op rfl rfl (eff_iop rfl rfl rfl rfl (iadd (by omega))) ?_
          refine RW.op rfl rfl (eff_assign (v := .t _) rfl rfl rfl) ?_
          refine RW.nil ?_
          refine awp_rw rfl ?_
          refine RW.op rfl rfl (eff_move (v := .t _) rfl rfl rfl) ?_
          refine RW.op rfl rfl (eff_iop rfl rfl rfl rfl (iadd (by omega))) ?_
          refine RW.op rfl rfl (eff_assign (v := .t _) rfl rfl rfl) ?_
          refine RW.nil ?_
          have hkn : keyAt l (i + 1) = key + 1 + (around (l[i]'hil) 1000000) / 84 % 40 / 39 * 5000 := by show nxt _ _ = _; rw [getD_get hil, ← hky]; rfl
          refine ⟨_, ?_, _, weak_keep (n := 59) (fr' := [(0, .t (.sl (l.map encI) false)), (1, .t (encI (mo : Nat))), (5, .own 5 _ 0 _), (6, .t (encI _)), (7, .t (encI ((i + 1) : Nat)))]) (st' := [(5, some ⟨5, 30, _, _⟩)]) ⟨rfl, rfl, rfl, rfl, rfl, rfl, rfl, rfl, rfl, rfl, trivial⟩ ⟨rfl, (by first | exact okE_nil | (rw [he]; exact okE_t) | (rw [he]; intro x hx; simp only [List.mem_append, List.mem_map, List.mem_singleton] at hx; rcases hx with ⟨y, _, rfl⟩ | rfl <;> rfl)), trivial⟩, i + 1, _, _, _, _, (by omega), (by omega), (by rw [hnn]; simp), (by exact hkn.symm), (by rw [range_succ, he]; simp only [List.map_append, List.map_cons, List.map_nil]; rw [hfr]; rfl), rfl, rfl⟩
          omega
    · try simp only [decide_eq_true_eq, decide_eq_false_iff_not, beq_iff_eq, bne_iff_ne, bne_eq_false_iff_eq, beq_eq_false_iff_ne, Bool.not_eq_true, Bool.not_eq_false, Bool.not_eq_true', Bool.not_eq_false', ne_eq] at h2
      refine awp_exit ?_
      refine awp_seq ?_
      refine awp_rw rfl ?_
      refine RW.op rfl rfl (eff_move (v := .own _ _ _ _) rfl rfl rfl) ?_
      refine RW.op rfl rfl (eff_assign (v := .own _ _ _ _) rfl rfl rfl) ?_
      refine RW.nil ?_
      refine awp_ret ?_
      have hmi : i = min l.length mo := by omega
      exact ⟨Or.inr rfl, [_], ⟨.tmp (Res.ownT (xs := (frames l mo).map encF) rfl rfl (by unfold frames; rw [← hmi]; exact he) (by rw [hnn]; simp [frames_len]; omega)), trivial⟩, .refl _⟩
  · try simp only [decide_eq_true_eq, decide_eq_false_iff_not, beq_iff_eq, bne_iff_ne, bne_eq_false_iff_eq, beq_eq_false_iff_ne, Bool.not_eq_true, Bool.not_eq_false, Bool.not_eq_true', Bool.not_eq_false', ne_eq] at h1
    refine RW.gskip rfl rfl rfl rfl rfl (by decide) ?_
    refine RW.gskip rfl rfl rfl rfl rfl (by decide) ?_
    refine RW.gskip rfl rfl rfl rfl rfl (by decide) ?_
    refine RW.op rfl rfl (eff_pick (v := .t _) rfl rfl rfl rfl) ?_
    refine RW.nil ?_
    refine awp_cond rfl (fun h => nomatch h) (fun _ => ?_)
    refine awp_exit ?_
    refine awp_seq ?_
    refine awp_rw rfl ?_
    refine RW.op rfl rfl (eff_move (v := .own _ _ _ _) rfl rfl rfl) ?_
    refine RW.op rfl rfl (eff_assign (v := .own _ _ _ _) rfl rfl rfl) ?_
    refine RW.nil ?_
    refine awp_ret ?_
    have hmi : i = min l.length mo := by omega
    exact ⟨Or.inr rfl, [_], ⟨.tmp (Res.ownT (xs := (frames l mo).map encF) rfl rfl (by unfold frames; rw [← hmi]; exact he) (by rw [hnn]; simp [frames_len]; omega)), trivial⟩, .refl _⟩

end Go.Tv.C34

end
section
open Go Go.Tv Go.Proofs
namespace Go.Tv.C34
set_option maxRecDepth 20000
set_option maxHeartbeats 2000000
set_option linter.unusedSimpArgs false
set_option linter.unusedVariables false
theorem sendA : RetT Tryd.prog 20 [(1, deT)] [encT ⟨[], [zr]⟩, encF zf] (.tup [encT tA, encI 0]) := by
  have h := tsend_ret ⟨[], [zr]⟩ zf srt0 hp0 (by decide) (by decide) (fun x hx => by simp at hx) (by decide)
  rw [liv1] at h; exact h
theorem sendB : RetT Tryd.prog 20 [(1, deT)] [encT tA, encF f1] (.tup [encT tB, encI 0]) := by
  have h := tsend_ret tA f1 srtA hpA (by decide) (by decide) (fun x hx => by rw [List.mem_singleton.1 hx]; decide) (by decide)
  rw [liv2] at h; exact h
theorem bodB : ∀ x, x ∈ tB.sent → x.body.length ≤ 1000000 := by
  intro x hx
  have : x = zf ∨ x = f1 := by simpa using hx
  rcases this with rfl | rfl <;> decide
theorem hearC : RetT Tryd.prog 22 [(1, deT)] [encT tB, encR ⟨1, 0, 1, false⟩] (.tup [encT tC, encI 0]) := by
  have h := thear_ret tB ⟨1, 0, 1, false⟩ ⟨by decide, by decide⟩ (by decide) (by decide) bodB
  rw [liv3] at h; exact h
theorem hearD : RetT Tryd.prog 22 [(1, deT)] [encT tB, encR ⟨3, 0, 2, false⟩] (.tup [encT zt, encI 45]) := by
  have h := thear_ret tB ⟨3, 0, 2, false⟩ ⟨by decide, by decide⟩ (by decide) (by decide) bodB
  rw [liv4] at h; exact h

theorem lives_ret  : RetT Tryd.prog 16 [(1, deT)] [] (.bool true) := by
  refine retT_of_awp Tryd.func16 rfl (Nat.le_of_ble_eq_true rfl) ?_
  refine awp_seq ?_
  refine awp_rw rfl ?_
  refine RW.op rfl rfl (eff_assign (v := .t _) rfl rfl rfl) ?_
  refine RW.nil ?_
  refine awp_seq ?_
  refine awp_rw rfl ?_
  refine RW.op rfl rfl (eff_callT (new17_ret) co17 rfl rfl rfl rfl) ?_
  refine RW.op rfl rfl (eff_buildT (ys := [_, _, _, _, _]) rfl rfl tz30 tg30 rfl) ?_
  refine RW.op rfl rfl (eff_callXW (xs := [_, _]) (sendA) co20 rfl rfl rfl ⟨rfl, trivial⟩ rfl (by repeat' first | exact trivial | exact Wk.refl _ | exact Wk.sl _ | refine And.intro ?_ ?_ | refine Wk.aggP ?_)) ?_
  refine RW.op rfl rfl (eff_move (v := .t _) rfl rfl rfl) ?_
  refine RW.op rfl rfl (eff_extract rfl rfl rfl rfl) ?_
  refine RW.op rfl rfl (eff_extract rfl rfl rfl rfl) ?_
  refine RW.new rfl rfl (eff_allocK (k := 2) (id := 1) rfl rfl tz37 rfl rfl) ?_
  refine RW.store rfl rfl (eff_storeW (v := .t _) (els := [_]) (els' := [_]) rfl rfl ti37 rfl rfl rfl rfl rfl rfl rfl rfl rfl) ?_
  refine RW.op rfl rfl (eff_assign (v := .t _) rfl rfl rfl) ?_
  refine RW.nil ?_
  refine awp_seq ?_
  refine awp_rw rfl ?_
  refine RW.op rfl rfl (eff_load rfl rfl ti37 rfl (.whole rfl rfl rfl rfl rfl rfl)) ?_
  refine RW.op rfl rfl (eff_buildT (ys := [_, _, _, _, _]) rfl rfl tz30 tg30 rfl) ?_
  refine RW.op rfl rfl (eff_callXW (xs := [_, _]) (sendB) co20 rfl rfl rfl ⟨rfl, trivial⟩ rfl (by repeat' first | exact trivial | exact Wk.refl _ | exact Wk.sl _ | refine And.intro ?_ ?_ | refine Wk.aggP ?_)) ?_
  refine RW.op rfl rfl (eff_move (v := .t _) rfl rfl rfl) ?_
  refine RW.op rfl rfl (eff_extract rfl rfl rfl rfl) ?_
  refine RW.op rfl rfl (eff_extract rfl rfl rfl rfl) ?_
  refine RW.new rfl rfl (eff_allocK (k := 2) (id := 3) rfl rfl tz37 rfl rfl) ?_
  refine RW.store rfl rfl (eff_storeW (v := .t _) (els := [_]) (els' := [_]) rfl rfl ti37 rfl rfl rfl rfl rfl rfl rfl rfl rfl) ?_
  refine RW.op rfl rfl (eff_assign (v := .t _) rfl rfl rfl) ?_
  refine RW.nil ?_
  refine awp_seq ?_
  refine awp_rw rfl ?_
  refine RW.op rfl rfl (eff_load rfl rfl ti37 rfl (.whole rfl rfl rfl rfl rfl rfl)) ?_
  refine RW.op rfl rfl (eff_buildT (ys := [_, _, _, _]) rfl rfl tz23 tg23 rfl) ?_
  refine RW.op rfl rfl (eff_callXT (hearC) co22 rfl rfl rfl ⟨rfl, trivial⟩ rfl) ?_
  refine RW.op rfl rfl (eff_move (v := .t _) rfl rfl rfl) ?_
  refine RW.op rfl rfl (eff_extract rfl rfl rfl rfl) ?_
  refine RW.op rfl rfl (eff_extract rfl rfl rfl rfl) ?_
  refine RW.new rfl rfl (eff_allocK (k := 2) (id := 5) rfl rfl tz37 rfl rfl) ?_
  refine RW.store rfl rfl (eff_storeW (v := .t _) (els := [_]) (els' := [_]) rfl rfl ti37 rfl rfl rfl rfl rfl rfl rfl rfl rfl) ?_
  refine RW.op rfl rfl (eff_assign (v := .t _) rfl rfl rfl) ?_
  refine RW.nil ?_
  refine awp_seq ?_
  refine awp_rw rfl ?_
  refine RW.op rfl rfl (eff_load rfl rfl ti37 rfl (.whole rfl rfl rfl rfl rfl rfl)) ?_
  refine RW.op rfl rfl (eff_buildT (ys := [_, _, _, _]) rfl rfl tz23 tg23 rfl) ?_
  refine RW.op rfl rfl (eff_callXT (hearD) co22 rfl rfl rfl ⟨rfl, trivial⟩ rfl) ?_
  refine RW.op rfl rfl (eff_move (v := .t _) rfl rfl rfl) ?_
  refine RW.op rfl rfl (eff_extract rfl rfl rfl rfl) ?_
  refine RW.op rfl rfl (eff_extract rfl rfl rfl rfl) ?_
  refine RW.new rfl rfl (eff_allocK (k := 2) (id := 7) rfl rfl tz37 rfl rfl) ?_
  refine RW.store rfl rfl (eff_storeW (v := .t _) (els := [_]) (els' := [_]) rfl rfl ti37 rfl rfl rfl rfl rfl rfl rfl rfl rfl) ?_
  refine RW.op rfl rfl (eff_assign (v := .t _) rfl rfl rfl) ?_
  refine RW.nil ?_
  refine awp_seq ?_
  refine awp_seq ?_
  refine awp_rw rfl ?_
  refine RW.op rfl rfl (eff_move (v := .t _) rfl rfl rfl) ?_
  refine RW.op rfl rfl (eff_iop (r := .bool false) rfl rfl rfl rfl (by rfl)) ?_
  refine RW.op rfl rfl (eff_move (v := .t _) rfl rfl rfl) ?_
  refine RW.gop rfl rfl rfl rfl rfl rfl (eff_move (v := .t _) rfl rfl rfl) ?_
  refine RW.gop rfl rfl rfl rfl rfl rfl (eff_iop (r := .bool false) rfl rfl rfl rfl (by rfl)) ?_
  refine RW.op rfl rfl (eff_pick (v := .t _) rfl rfl rfl rfl) ?_
  refine RW.op rfl rfl (eff_move (v := .t _) rfl rfl rfl) ?_
  refine RW.gop rfl rfl rfl rfl rfl rfl (eff_move (v := .t _) rfl rfl rfl) ?_
  refine RW.gop rfl rfl rfl rfl rfl rfl (eff_iop (r := .bool false) rfl rfl rfl rfl (by rfl)) ?_
  refine RW.op rfl rfl (eff_pick (v := .t _) rfl rfl rfl rfl) ?_
  refine RW.op rfl rfl (eff_move (v := .t _) rfl rfl rfl) ?_
  refine RW.gop rfl rfl rfl rfl rfl rfl (eff_move (v := .t _) rfl rfl rfl) ?_
  refine RW.gop rfl rfl rfl rfl rfl rfl (eff_iop (r := .bool false) rfl rfl rfl rfl (by rfl)) ?_
  refine RW.op rfl rfl (eff_pick (v := .t _) rfl rfl rfl rfl) ?_
  refine RW.nil ?_
  refine awp_cond rfl (fun h => nomatch h) (fun _ => ?_)
  refine awp_skip ?_
  refine awp_seq ?_
  refine awp_rw rfl ?_
  refine RW.op rfl rfl (eff_buildT (ys := [_, _, _, _]) rfl rfl tz23 tg23 rfl) ?_
  refine RW.op rfl rfl (eff_buildT (ys := [_, _, _, _]) rfl rfl tz23 tg23 rfl) ?_
  refine RW.op rfl rfl (eff_buildT (ys := [_, _, _, _]) rfl rfl tz23 tg23 rfl) ?_
  refine RW.op rfl rfl (eff_buildT (ys := [_, _, _, _]) rfl rfl tz23 tg23 rfl) ?_
  refine RW.new rfl rfl (eff_buildSliceL (id := 52) (els := [.t (.agg [_, _, _, _]), .t (.agg [_, _, _, _]), .t (.agg [_, _, _, _]), .t (.agg [_, _, _, _])]) rfl rfl te35 tz23 rfl (by decide) (by decide) rfl rfl rfl rfl) ?_
  refine RW.op rfl rfl (eff_assign (v := .own _ _ _ _) rfl rfl rfl) ?_
  refine RW.nil ?_
  refine awp_seq ?_
  refine awp_weak (weak_frz (n := 70) (fr' := [(3, .ptr 3 0 0 0), (5, .ptr 5 0 0 0), (9, .t (.sl (L4.map encR) false)), (71, .t deT)]) (st' := [(3, some ⟨2, 37, 0, [.t (encT tB)]⟩), (5, some ⟨2, 37, 0, [.t (encT tC)]⟩)]) [(52, some ⟨4, 23, 0, (L4.map encR).map .t⟩)] ⟨rfl, trivial⟩ ⟨rfl, rfl, trivial⟩ ⟨wa_eq rfl rfl, wa_eq rfl rfl, .res (Res.ownT (xs := L4.map encR) rfl rfl rfl rfl) (.refl _), wa_eq rfl rfl, trivial⟩ ⟨rfl, okE_one rfl, rfl, okE_one rfl, trivial⟩) ?_
  refine awp_rd [(some 53, []), (some 54, []), (some 55, []), (some 56, []), (some 57, []), (some 58, []), (some 59, []), (some 60, []), (some 61, []), (some 62, []), (some 63, []), (some 64, []), (some 65, []), (some 66, []), (some 67, []), (some 68, []), (some 69, []), (some 0, [])] [[], [0], [], [0, 1, 2], [0, 1, 2, 3], [0, 1, 2, 3, 4], [0, 1, 2, 3, 4, 5], [0, 1, 2, 3, 4], [0, 1, 2, 3, 4, 7], [0, 1, 2, 3, 4, 5, 6, 7, 8], [0, 1, 2, 3, 4, 5, 6, 7, 8, 9], [0, 1, 2, 3, 4, 5, 6, 7, 8, 9, 10], [0, 1, 2, 3, 4, 5, 6, 7, 8, 9, 10, 11], [0, 1, 2, 3, 4, 5, 6, 7, 8, 9, 10, 11, 12], [0, 1, 2, 3, 4, 5, 6, 7, 8, 9, 10, 11, 12, 13], [0, 1, 2, 3, 4, 5, 6, 7, 8, 9, 10, 11, 12, 13, 14], [0, 1, 2, 3, 4, 5, 6, 7, 8, 9, 10, 11, 12, 13, 14, 15], [0, 1, 2, 3, 4, 5, 6, 7, 8, 9, 10, 11, 12, 13, 14, 15, 16]] tm rfl rfl rfl rfl ?_
  refine RD.op rfl rfl rfl (eff_fieldAddr rfl rfl tf37_1 (by decide) rfl rfl rfl (Nat.le_of_ble_eq_true rfl)) ?_
  refine RD.op rfl rfl rfl (eff_load (y := .t _) rfl rfl ti35 rfl (.one rfl rfl rfl rfl)) ?_
  refine RD.op rfl rfl rfl (eff_move (v := .t _) rfl rfl rfl) ?_
  refine RD.op rfl rfl rfl (eff_callT (sameStates_ret L4 (by decide)) co25 rfl rfl rfl rfl) ?_
  refine RD.op rfl rfl rfl (eff_move (v := .t _) rfl rfl rfl) ?_
  refine RD.gop rfl rfl rfl rfl rfl rfl rfl (eff_fieldAddr rfl rfl tf37_1 (by decide) rfl rfl rfl (Nat.le_of_ble_eq_true rfl)) ?_
  refine RD.gop rfl rfl rfl rfl rfl rfl rfl (eff_load (y := .t _) rfl rfl ti35 rfl (.one rfl rfl rfl rfl)) ?_
  refine RD.gop rfl rfl rfl rfl rfl rfl rfl (eff_move (v := .t _) rfl rfl rfl) ?_
  refine RD.gop rfl rfl rfl rfl rfl rfl rfl (eff_sliceM (g := encR) (xs := L4) (l := some 2) (h := none) (r := [⟨1, 0, 1, false⟩, ⟨2, 0, 2, false⟩]) rfl rfl te35 rfl (fun _ => rfl) (.yes rfl rfl) .no (by decide) (by decide) (by decide)) ?_
  refine RD.gop rfl rfl rfl rfl rfl rfl rfl (eff_callT (sameStates_ret [⟨1, 0, 1, false⟩, ⟨2, 0, 2, false⟩] (by decide)) co25 rfl rfl rfl rfl) ?_
  refine RD.op rfl rfl rfl (eff_pick (v := .t _) rfl rfl rfl rfl) ?_
  refine RD.op rfl rfl rfl (eff_move (v := .t _) rfl rfl rfl) ?_
  refine RD.gop rfl rfl rfl rfl rfl rfl rfl (eff_fieldAddr rfl rfl tf37_0 (by decide) rfl rfl rfl (Nat.le_of_ble_eq_true rfl)) ?_
  refine RD.gop rfl rfl rfl rfl rfl rfl rfl (eff_load (y := .t _) rfl rfl ti34 rfl (.one rfl rfl rfl rfl)) ?_
  refine RD.gop rfl rfl rfl rfl rfl rfl rfl (eff_lenM rfl rfl te34 rfl) ?_
  refine RD.gop rfl rfl rfl rfl rfl rfl rfl (eff_iop (r := .bool true) rfl rfl rfl rfl (by rfl)) ?_
  refine RD.op rfl rfl rfl (eff_pick (v := .t _) rfl rfl rfl rfl) ?_
  refine RD.op rfl rfl rfl (eff_assign (v := .t _) rfl rfl rfl) ?_
  refine RD.nil ?_
  refine awp_ret ?_
  first
    | exact ⟨Or.inr rfl, [_], ⟨.tmp (.t _), trivial⟩, .refl _⟩
    | exact ⟨Or.inr rfl, [_], ⟨.tmp (.t _), trivial⟩, (by repeat' first | exact trivial | exact Wk.refl _ | exact Wk.sl _ | refine And.intro ?_ ?_ | refine Wk.tupP ?_ | refine Wk.aggP ?_)⟩
    | exact ⟨Or.inr rfl, [_], ⟨.tmp (Res.ownT rfl rfl rfl rfl), trivial⟩, .refl _⟩
    | exact ⟨Or.inr rfl, [_], ⟨.tmp (Res.ownT rfl rfl rfl rfl), trivial⟩, (by repeat' first | exact trivial | exact Wk.refl _ | exact Wk.sl _ | refine And.intro ?_ ?_ | refine Wk.tupP ?_ | refine Wk.aggP ?_)⟩

end Go.Tv.C34

end
section
open Go Go.Tv Go.Proofs
namespace Go.Tv.C34
set_option maxRecDepth 20000
set_option maxHeartbeats 2000000
set_option linter.unusedSimpArgs false
set_option linter.unusedVariables false
theorem tcontains_mem (t : Twn) (r : Rep) (hl : t.poss.length ≤ 1000000) (hm : r ∈ t.poss) : Ret Tryd.prog 29 [encT t, encR r] (.bool true) := by
  have h := tcontains_ret t r hl; rwa [decide_eq_true hm] at h
end Go.Tv.C34

end
section
open Go Go.Tv Go.Proofs
namespace Go.Tv.C34
set_option maxRecDepth 20000
set_option maxHeartbeats 2000000
set_option linter.unusedSimpArgs false
set_option linter.unusedVariables false
end Go.Tv.C34

end
section
open Go Go.Tv Go.Proofs
namespace Go.Tv.C34
set_option maxRecDepth 20000
set_option maxHeartbeats 2000000
set_option linter.unusedSimpArgs false
set_option linter.unusedVariables false
end Go.Tv.C34

end
section
open Go Go.Tv Go.Proofs
namespace Go.Tv.C34
set_option linter.unusedVariables false

structure RG (first : Int) (i : Nat) (r : Rcv) : Prop where
  inv : RInv first r
  nx : r.next ≤ 256 * i
  ix : r.lad.i ≤ 50000
theorem rg0 (first : Int) : RG first 0 ⟨0, [], false, ⟨first, 0⟩⟩ :=
  ⟨⟨List.Pairwise.nil, fun f hf => (by simp at hf), rfl, Int.le_refl _, Int.le_refl _, fun f hf => (by simp at hf)⟩, by show (0 : Int) ≤ _; omega, by show (0 : Int) ≤ 50000; decide⟩
theorem RG.mono {first : Int} {i j : Nat} {r : Rcv} (h : RG first i r) (hj : i ≤ j) : RG first j r := ⟨h.inv, by have := h.nx; omega, h.ix⟩
theorem RG.rb {first : Int} {i : Nat} {r : Rcv} (h : RG first i r) (hi : i ≤ 60) : RB r :=
  ⟨by have := h.inv.len; omega, ⟨h.inv.nx, by have := h.nx; omega⟩, ⟨h.inv.ix, by have := h.ix; omega⟩, fun f hf => by have := h.inv.bd f hf; omega⟩
theorem RG.hp {first : Int} {i : Nat} {r : Rcv} (h : RG first i r) : HP (stateR r) := by
  have h1 := havL_lt h.inv.win
  unfold HP stateR
  simp only []
  omega
theorem RG.st {first : Int} {i : Nat} {r : Rcv} (h : RG first i r) (hi : i ≤ 60) : Ret Tryd.prog 38 [encV r] (encR (stateR r)) :=
  rstate_ret r (by have := h.inv.len; omega) ⟨h.inv.nx, by have := h.nx; omega⟩ h.inv.win
theorem RG.step {first : Int} {i : Nat} {r : Rcv} {f : Frm} (h : RG first i r) (hi : i ≤ 60) (hs : Sgn first f) (hk : 0 ≤ f.key ∧ f.key ≤ 49000) (hb : f.body.length ≤ 512) :
    stateR (recvF r f).1 = apply (stateR r) f ∧ RG first (i + 1) (recvF r f).1 ∧ (f.key < r.lad.i ∨ f.key > r.lad.i + 4096 ∨ (recvF r f).1.lad.i = f.key + 1) := by
  have hnx := h.nx
  have hix := h.ix
  obtain ⟨h1, h2, h3, h4, h5⟩ := recv_state h.inv hs ⟨hk.1, by omega⟩ hb (by omega) (by omega)
  refine ⟨h1, ⟨h2, by omega, ?_⟩, h5⟩
  rcases h4 with h4 | h4
  · rw [h4]; exact hix
  · omega
theorem frames_keyB {l : List Int} {m : Nat} {f : Frm} (hm : m ≤ 9) (h : f ∈ frames l m) : 0 ≤ f.key ∧ f.key ≤ 49000 := by
  obtain ⟨j, hj, rfl⟩ := frames_mem h
  have := keyAt_range l j
  rw [frame_key]
  omega
/-- A frame with a tag that was put on with the key of its number. -/
def sgn (first : Int) (f : Frm) : Frm := ⟨f.seq, f.key, f.unlock, f.body, tagF (stepN f.key.toNat first) (signedF f)⟩
theorem signedF_sgn (first : Int) (f : Frm) : signedF (sgn first f) = signedF f := by unfold signedF sgn; simp only []
theorem sgn_key (first : Int) (f : Frm) : (sgn first f).key = f.key := by unfold sgn; simp only []
theorem sgn_tag (first : Int) (f : Frm) : (sgn first f).tag = tagF (stepN f.key.toNat first) (signedF f) := by unfold sgn; simp only []
theorem sgn_ok (first : Int) (f : Frm) : Sgn first (sgn first f) := by
  unfold Sgn
  rw [signedF_sgn, sgn_key, sgn_tag]
theorem byt0 : Byt [] := fun b hb => by simp at hb
theorem apply_sgn (s : Rep) (first : Int) (f : Frm) : apply s (sgn first f) = apply s f := by unfold apply dist sgn; simp only []
end Go.Tv.C34

end
section
open Go Go.Tv Go.Proofs
namespace Go.Tv.C34
set_option linter.unusedVariables false

theorem snoc_ind {α : Type} {p : List α → Prop} (h0 : p []) (h1 : ∀ l a, p l → p (l ++ [a])) : ∀ l, p l := by
  have : ∀ l : List α, p l.reverse := by
    intro l
    induction l with
    | nil => exact h0
    | cons a l ih => rw [List.reverse_cons]; exact h1 _ _ ih
  intro l
  have h := this l.reverse
  rwa [List.reverse_reverse] at h

/-- Frames in the order of their keys. -/
def Inc (l : List Frm) : Prop := l.Pairwise fun a b => a.key < b.key
def KB (l : List Frm) : Prop := ∀ f, f ∈ l → 0 ≤ f.key ∧ f.key ≤ 1000000000

theorem reach_snoc (x : Rep) (l : List Frm) (f : Frm) : reachF x (l ++ [f]) = stepF (reachF x l) f := by unfold reachF; rw [List.foldl_append]; rfl
theorem reach_cases {x y : Rep} {l : List Frm} {f : Frm} : y ∈ reachF x (l ++ [f]) ↔ y ∈ reachF x l ∨ ∃ z, z ∈ reachF x l ∧ y = apply z f := by rw [reach_snoc]; exact stepF_mem
theorem apply_acc {s : Rep} {f : Frm} (hk : 0 ≤ f.key ∧ f.key ≤ 1000000000) : apply s f = s ∨ (s.key ≤ f.key ∧ (apply s f).key = f.key + 1) := by
  by_cases h : f.key < s.key ∨ w64 (s.key + 4096) < f.key
  · exact .inl (apply_stay h)
  · right
    refine ⟨by omega, ?_⟩
    have e : w64 (f.key + 1) = f.key + 1 := by unfold w64; rw [wi64]; omega
    unfold apply
    rw [if_neg h]
    split
    · exact e
    · split
      · exact e
      · split
        · exact e
        · split
          · exact e
          · exact e
theorem apply_old {s : Rep} {f : Frm} (h : f.key < s.key) : apply s f = s := apply_stay (.inl h)

theorem reach_above {s : Rep} : ∀ (l : List Frm) (out : List Rep), (∀ f, f ∈ l → f.key < s.key) → (∀ y, y ∈ out → y = s) → ∀ y, y ∈ l.foldl stepF out → y = s
  | [], _, _, h, y, hy => h y hy
  | f :: l, out, hk, h, y, hy => by
    refine reach_above l (stepF out f) (fun g hg => hk g (List.mem_cons_of_mem _ hg)) (fun z hz => ?_) y hy
    rcases stepF_mem.1 hz with h1 | ⟨x, hx, rfl⟩
    · exact h z h1
    · rw [h x hx]; exact apply_old (hk f List.mem_cons_self)

theorem reach_trans {l : List Frm} : Inc l → KB l → ∀ r s x : Rep, s ∈ reachF r l → x ∈ reachF s l → x ∈ reachF r l := by
  refine snoc_ind (p := fun l => Inc l → KB l → ∀ r s x : Rep, s ∈ reachF r l → x ∈ reachF s l → x ∈ reachF r l) ?_ ?_ l
  · intro _ _ r s x hs hx
    have e1 : s = r := List.mem_singleton.1 hs
    rw [← e1]; exact hx
  · intro l f ih hi hk r s x hs hx
    have hi' : Inc l := (List.pairwise_append.1 hi).1
    have hlt : ∀ a, a ∈ l → a.key < f.key := fun a ha => (List.pairwise_append.1 hi).2.2 a ha f (List.mem_singleton.2 rfl)
    have hk' : KB l := fun g hg => hk g (List.mem_append_left _ hg)
    have first : ∀ s, s ∈ reachF r l → x ∈ reachF s (l ++ [f]) → x ∈ reachF r (l ++ [f]) := by
      intro s hs hx
      rcases reach_cases.1 hx with h | ⟨z, hz, rfl⟩
      · exact reach_cases.2 (.inl (ih hi' hk' r s x hs h))
      · exact reach_cases.2 (.inr ⟨z, ih hi' hk' r s z hs hz, rfl⟩)
    rcases reach_cases.1 hs with h | ⟨z, hz, rfl⟩
    · exact first s h hx
    · rcases apply_acc (s := z) (hk f (List.mem_append_right _ (List.mem_singleton.2 rfl))) with h | ⟨h1, h2⟩
      · rw [h] at hx; exact first z hz hx
      · have := reach_above (s := apply z f) (l ++ [f]) [apply z f] (fun g hg => by
          rw [h2]
          rcases List.mem_append.1 hg with hg | hg
          · have := hlt g hg; omega
          · rw [List.mem_singleton.1 hg]; omega) (fun y hy => List.mem_singleton.1 hy) x hx
        rw [this]; exact hs

theorem reach_arrive {l : List Frm} {f : Frm} (hf : f ∈ l) (s : Rep) : apply s f ∈ reachF s l := by
  obtain ⟨a, b, rfl⟩ := List.append_of_mem hf
  unfold reachF
  rw [List.foldl_append, List.foldl_cons]
  exact reachF_self b _ _ (stepF_mem.2 (.inr ⟨s, reachF_self a [s] s (List.mem_singleton.2 rfl), rfl⟩))

theorem reach_open {r : Rep} : ∀ (l : List Frm) (o o' : List Rep), KB l → (∀ y, y ∈ o → y ∈ o' ∧ r.key ≤ y.key) → ∀ y, y ∈ l.foldl stepF o → y ∈ (open_ l r).foldl stepF o' ∧ r.key ≤ y.key
  | [], _, _, _, h, y, hy => h y hy
  | f :: l, o, o', hk, h, y, hy => by
    have hkf := hk f List.mem_cons_self
    have hkl : KB l := fun g hg => hk g (List.mem_cons_of_mem _ hg)
    have key : ∀ z, z ∈ stepF o f → r.key ≤ z.key := by
      intro z hz
      rcases stepF_mem.1 hz with h1 | ⟨x, hx, rfl⟩
      · exact (h z h1).2
      · have := (h x hx).2
        rcases apply_acc (s := x) hkf with e | ⟨e1, e2⟩
        · rw [e]; exact this
        · omega
    by_cases hf : r.key ≤ f.key
    · have e : open_ (f :: l) r = f :: open_ l r := by unfold open_; rw [List.filter_cons, if_pos (decide_eq_true hf)]
      rw [e, List.foldl_cons]
      refine reach_open l (stepF o f) (stepF o' f) hkl (fun z hz => ⟨?_, key z hz⟩) y hy
      rcases stepF_mem.1 hz with h1 | ⟨x, hx, rfl⟩
      · exact stepF_mem.2 (.inl (h z h1).1)
      · exact stepF_mem.2 (.inr ⟨x, (h x hx).1, rfl⟩)
    · have e : open_ (f :: l) r = open_ l r := by unfold open_; rw [List.filter_cons, if_neg (by simp only [decide_eq_true_eq]; exact hf)]
      rw [e]
      refine reach_open l (stepF o f) o' hkl (fun z hz => ⟨?_, key z hz⟩) y hy
      rcases stepF_mem.1 hz with h1 | ⟨x, hx, rfl⟩
      · exact (h z h1).1
      · have := (h x hx).2
        rw [apply_old (by omega)]; exact (h x hx).1
theorem reach_opens {r x : Rep} {l : List Frm} (hk : KB l) (h : x ∈ reachF r l) : x ∈ reachF r (open_ l r) :=
  (reach_open (r := r) l [r] [r] hk (fun y hy => ⟨hy, by rw [List.mem_singleton.1 hy]; exact Int.le_refl _⟩) x h).1

/-- The state s, and what frames that may still arrive lead it to, is possible. -/
def Inv (T : Twn) (s : Rep) : Prop := ∀ x, x ∈ reachF s T.sent → x ∈ T.poss
theorem inv_new : Inv ⟨[], [zr]⟩ zr := fun x hx => hx
theorem Inv.mem {T : Twn} {s : Rep} (h : Inv T s) : s ∈ T.poss := h s (reach_self s _)
theorem inv_arrive {T : Twn} {s s' : Rep} (h : Inv T s) (hi : Inc T.sent) (hk : KB T.sent) (hs : s' ∈ reachF s T.sent) : Inv T s' := fun x hx => h x (reach_trans hi hk s s' x hs hx)

theorem send_inv {T : Twn} {f : Frm} (h : (send T f).2 = 0) : (send T f).1.sent = T.sent ++ [f] ∧ (send T f).1.poss = stepF T.poss f := by
  unfold send at h ⊢
  split
  · rename_i hc; rw [if_pos hc] at h; simp at h
  · rename_i hc; rw [if_neg hc] at h
    split
    · rename_i hd; rw [if_pos hd] at h; simp at h
    · exact ⟨rfl, rfl⟩
theorem hear_inv {T : Twn} {r : Rep} (h : (hear T r).2 = 0) : (hear T r).1.sent = T.sent ∧ (hear T r).1.poss = left_ T r := by
  unfold hear at h ⊢
  split
  · rename_i hc; rw [if_pos hc] at h; simp at h
  · exact ⟨rfl, rfl⟩
theorem inv_send {T : Twn} {f : Frm} {s : Rep} (h : Inv T s) (hs : (send T f).2 = 0) : Inv (send T f).1 s := by
  obtain ⟨e1, e2⟩ := send_inv hs
  intro x hx
  rw [e1] at hx
  rw [e2]
  rcases reach_cases.1 hx with h1 | ⟨z, hz, rfl⟩
  · exact stepF_mem.2 (.inl (h x h1))
  · exact stepF_mem.2 (.inr ⟨z, h z hz, rfl⟩)
theorem left_mem {T : Twn} {s r x : Rep} (h : Inv T s) (hi : Inc T.sent) (hk : KB T.sent) (hr : s ∈ reachF r T.sent) (hx : x ∈ reachF s T.sent) : x ∈ left_ T r :=
  List.mem_filter.2 ⟨h x hx, decide_eq_true (reach_opens hk (reach_trans hi hk r s x hr hx))⟩
theorem inv_hear {T : Twn} {s r : Rep} (h : Inv T s) (hi : Inc T.sent) (hk : KB T.sent) (hr : s ∈ reachF r T.sent) : (hear T r).2 = 0 ∧ Inv (hear T r).1 s := by
  have h0 : (hear T r).2 = 0 := by
    have := left_mem h hi hk hr (reach_self s _)
    unfold hear
    rw [if_neg (fun e => by rw [e] at this; cases this)]
  refine ⟨h0, fun x hx => ?_⟩
  obtain ⟨e1, e2⟩ := hear_inv h0
  rw [e1] at hx; rw [e2]
  exact left_mem h hi hk hr hx
theorem late_no {l : List Frm} {f : Frm} (h : Inc (l ++ [f])) : late l f = false := by
  unfold late
  rcases e : l.getLast? with _ | x
  · rfl
  · have hx : x ∈ l := List.mem_of_getLast? e
    have := (List.pairwise_append.1 h).2.2 x hx f (List.mem_singleton.2 rfl)
    show decide _ = false
    exact decide_eq_false (by omega)
theorem send_err {T : Twn} {f : Frm} (h : Inc (T.sent ++ [f])) (he : (send T f).2 ≠ 0) : (send T f).2 = 2 := by
  unfold send at he ⊢
  rw [if_neg (by rw [late_no h]; decide)] at he ⊢
  split
  · rfl
  · rename_i h2; rw [if_neg h2] at he; exact absurd rfl he


/-! ### The laws -/
theorem frames_inc (l : List Int) (m : Nat) : Inc (frames l m) := by
  unfold Inc frames
  rw [List.pairwise_map]
  refine List.Pairwise.imp (fun {a b} h => ?_) List.pairwise_lt_range
  rw [frame_key, frame_key]; exact keyAt_mono l h
theorem inc_take {l : List Frm} (h : Inc l) (n : Nat) : Inc (l.take n) := h.sublist (List.take_sublist n l)
theorem frames_kb {l : List Int} {m : Nat} (hm : m ≤ 9) (n : Nat) : KB ((frames l m).take n) := fun f hf => by
  have := frames_keyB hm (List.mem_of_mem_take hf); omega
structure TG (l : List Int) (m : Nat) (first : Int) (i n : Nat) (T : Twn) (r : Rcv) : Prop where
  good : Good l m T
  sent : T.sent = (frames l m).take n
  rg : RG first i r
  inv : Inv T (stateR r)
theorem tg0 (l : List Int) (m : Nat) (first : Int) : TG l m first 0 0 ⟨[], [zr]⟩ ⟨0, [], false, ⟨first, 0⟩⟩ :=
  ⟨good0 l m, rfl, rg0 first, inv_new⟩
theorem TG.inc {l : List Int} {m : Nat} {first : Int} {i n : Nat} {T : Twn} {r : Rcv} (h : TG l m first i n T r) : Inc T.sent := by rw [h.sent]; exact inc_take (frames_inc l m) n
theorem TG.kb {l : List Int} {m : Nat} {first : Int} {i n : Nat} {T : Twn} {r : Rcv} (h : TG l m first i n T r) (hm : m ≤ 9) : KB T.sent := by rw [h.sent]; exact frames_kb hm n
theorem TG.mono {l : List Int} {m : Nat} {first : Int} {i j n : Nat} {T : Twn} {r : Rcv} (h : TG l m first i n T r) (hj : i ≤ j) : TG l m first j n T r := ⟨h.good, h.sent, h.rg.mono hj, h.inv⟩
theorem TG.sends {l : List Int} {m : Nat} {first : Int} {i n : Nat} {T : Twn} {r : Rcv} (h : TG l m first i n T r) (hn : n < (frames l m).length) (he : (send T (frames l m)[n]).2 = 0) :
    TG l m first i (n + 1) (send T (frames l m)[n]).1 r :=
  ⟨(send_step h.good (List.getElem_mem hn)).1 he, by rw [(send_inv he).1, h.sent, ← take_succ_get hn], h.rg, inv_send h.inv he⟩
theorem TG.bad {l : List Int} {m : Nat} {first : Int} {i n : Nat} {T : Twn} {r : Rcv} (h : TG l m first i n T r) (hn : n < (frames l m).length) (he : (send T (frames l m)[n]).2 ≠ 0) : (send T (frames l m)[n]).2 = 2 :=
  send_err (by rw [h.sent, ← take_succ_get hn]; exact inc_take (frames_inc l m) _) he
theorem sgn_body (first : Int) (f : Frm) : (sgn first f).body = f.body := by unfold sgn; simp only []
theorem TG.recv {l : List Int} {m : Nat} {first : Int} {i n q : Nat} {T : Twn} {r : Rcv} (h : TG l m first i n T r) (hm : m ≤ 9) (hi : i ≤ 60) (hq : q < n) (hqn : q < (frames l m).length) :
    TG l m first (i + 1) n T (recvF r (sgn first (frames l m)[q])).1 ∧ stateR (recvF r (sgn first (frames l m)[q])).1 ∈ reachF (stateR r) T.sent ∧
      ((frames l m)[q].key < r.lad.i ∨ (frames l m)[q].key > r.lad.i + 4096 ∨ (recvF r (sgn first (frames l m)[q])).1.lad.i = (frames l m)[q].key + 1) := by
  have hb : ((frames l m)[q]).body.length ≤ 512 := by
    obtain ⟨j, _, e⟩ := frames_mem (List.getElem_mem hqn)
    rw [e, frame_body]; decide
  obtain ⟨h1, h2, h3⟩ := h.rg.step (f := sgn first (frames l m)[q]) hi (sgn_ok _ _) (by rw [sgn_key]; exact frames_keyB hm (List.getElem_mem hqn)) (by rw [sgn_body]; exact hb)
  rw [sgn_key] at h3
  have hmem : (frames l m)[q] ∈ T.sent := by
    rw [h.sent, List.mem_take_iff_getElem]
    exact ⟨q, by omega, rfl⟩
  have hs : stateR (recvF r (sgn first (frames l m)[q])).1 ∈ reachF (stateR r) T.sent := by
    rw [h1, apply_sgn]; exact reach_arrive hmem _
  exact ⟨⟨h.good, h.sent, h2, inv_arrive h.inv h.inc (h.kb hm) hs⟩, hs, h3⟩

end Go.Tv.C34

end
section
open Go Go.Tv Go.Proofs
namespace Go.Tv.C34
set_option linter.unusedVariables false
structure TR (rs : List Rep) (T : Twn) (r : Rcv) (i : Nat) : Prop where
  ne : 0 < rs.length
  len : rs.length ≤ i + 1
  ok : ∀ x, x ∈ rs → HP x ∧ stateR r ∈ reachF x T.sent
theorem tr0 (first : Int) : TR [stateR ⟨0, [], false, ⟨first, 0⟩⟩] ⟨[], [zr]⟩ ⟨0, [], false, ⟨first, 0⟩⟩ 0 :=
  ⟨Nat.le_refl _, Nat.le_refl _, fun x hx => by rw [List.mem_singleton.1 hx]; exact ⟨(rg0 first).hp, reach_self _ _⟩⟩
theorem TR.mono {rs : List Rep} {T : Twn} {r : Rcv} {i j : Nat} (h : TR rs T r i) (hj : i ≤ j) : TR rs T r j := ⟨h.ne, by have := h.len; omega, h.ok⟩
theorem TR.sends {rs : List Rep} {T : Twn} {r : Rcv} {i : Nat} {f : Frm} (h : TR rs T r i) (he : (send T f).2 = 0) : TR rs (send T f).1 r i :=
  ⟨h.ne, h.len, fun x hx => ⟨(h.ok x hx).1, by rw [(send_inv he).1]; exact reach_cases.2 (.inl (h.ok x hx).2)⟩⟩
theorem TR.hears {rs : List Rep} {T : Twn} {r : Rcv} {i : Nat} {q : Rep} (h : TR rs T r i) (he : (hear T q).2 = 0) : TR rs (hear T q).1 r i :=
  ⟨h.ne, h.len, fun x hx => ⟨(h.ok x hx).1, by rw [(hear_inv he).1]; exact (h.ok x hx).2⟩⟩
theorem TR.recv {l : List Int} {m : Nat} {first : Int} {i n : Nat} {rs : List Rep} {T : Twn} {r r' : Rcv} (h : TR rs T r i) (hm : m ≤ 9) (hg : TG l m first i n T r) (hg' : TG l m first (i + 1) n T r') (hs : stateR r' ∈ reachF (stateR r) T.sent) :
    TR (rs ++ [stateR r']) T r' (i + 1) :=
  ⟨by simp, by have := h.len; simp; omega, fun x hx => by
    rcases List.mem_append.1 hx with hx | hx
    · exact ⟨(h.ok x hx).1, reach_trans hg.inc (hg.kb hm) x _ _ (h.ok x hx).2 hs⟩
    · rw [List.mem_singleton.1 hx]; exact ⟨hg'.rg.hp, reach_self _ _⟩⟩
theorem TG.hears {l : List Int} {m : Nat} {first : Int} {i n : Nat} {T : Twn} {r : Rcv} {rs : List Rep} {q : Rep} (h : TG l m first i n T r) (hm : m ≤ 9) (hr : TR rs T r i) (hq : q ∈ rs) :
    (hear T q).2 = 0 ∧ TG l m first i n (hear T q).1 r := by
  obtain ⟨h0, h1⟩ := inv_hear h.inv h.inc (h.kb hm) (hr.ok q hq).2
  exact ⟨h0, (hear_step h.good q).1 h0, by rw [(hear_inv h0).1]; exact h.sent, h.rg, h1⟩
theorem elR2 {l : List Rep} {i : Nat} (h : i < l.length) : ((l.map encR).map AV.t)[i]? = some (.t (encR l[i])) := by simp [h]
theorem rs_snoc {l : List Rep} {s : Rep} : ((l ++ [s]).map encR).map AV.t = (l.map encR).map AV.t ++ [.t (encR s)] := by simp
end Go.Tv.C34

end
section
open Go Go.Tv Go.Proofs
namespace Go.Tv.C34
set_option maxRecDepth 20000
set_option maxHeartbeats 2000000
set_option linter.unusedSimpArgs false
set_option linter.unusedVariables false
theorem law11 (l wh : List Int) (first : Int) (hI : ∀ x, x ∈ l → I64 x) (hl : l.length ≤ 9223372036854775807) (hJ : ∀ x, x ∈ wh → I64 x) (hwl : wh.length ≤ 9223372036854775807) : RetT Tryd.prog 11 [(1, deT)] [.sl (l.map encI) false, .sl (wh.map encI) false, encU first] (.bool true) := by
  refine retT_of_awp Tryd.func11 rfl (Nat.le_of_ble_eq_true rfl) ?_
  refine awp_seq ?_
  refine awp_rw rfl ?_
  refine RW.op rfl rfl (eff_assign (v := .t _) rfl rfl rfl) ?_
  refine RW.nil ?_
  refine awp_seq ?_
  refine awp_rw rfl ?_
  refine RW.op rfl rfl (eff_callT (new17_ret) co17 rfl rfl rfl rfl) ?_
  refine RW.new rfl rfl (eff_allocK (k := 2) (id := 7) rfl rfl tz37 rfl rfl) ?_
  refine RW.store rfl rfl (eff_storeW (v := .t _) (els := [_]) (els' := [_]) rfl rfl ti37 rfl rfl rfl rfl rfl rfl rfl rfl rfl) ?_
  refine RW.nil ?_
  refine awp_seq ?_
  refine awp_rw rfl ?_
  refine RW.op rfl rfl (eff_move (v := .t _) rfl rfl rfl) ?_
  refine RW.op rfl rfl (eff_callT (newReceiver_ret _) co33 rfl rfl rfl rfl) ?_
  refine RW.new rfl rfl (eff_allocK (k := 5) (id := 8) rfl rfl tz62 rfl rfl) ?_
  refine RW.store rfl rfl (eff_storeW (v := .t _) (els := [_]) (els' := [_]) rfl rfl ti62 rfl rfl rfl rfl rfl rfl rfl rfl rfl) ?_
  refine RW.nil ?_
  refine awp_seq ?_
  refine awp_rw rfl ?_
  refine RW.op rfl rfl (eff_move (v := .t _) rfl rfl rfl) ?_
  refine RW.op rfl rfl (eff_callT (frames_ret l 8 hI hl (by decide)) co19 rfl rfl rfl rfl) ?_
  refine RW.op rfl rfl (eff_assign (v := .t _) rfl rfl rfl) ?_
  refine RW.nil ?_
  refine awp_seq ?_
  refine awp_rw rfl ?_
  refine RW.op rfl rfl (eff_load rfl rfl ti62 rfl (.whole rfl rfl rfl rfl rfl rfl)) ?_
  refine RW.op rfl rfl (eff_callT ((rg0 first).st (by decide)) co38 rfl rfl rfl rfl) ?_
  refine RW.new rfl rfl (eff_buildSliceL (id := 31) (els := [.t (.agg [_, _, _, _])]) rfl rfl te35 tz23 rfl (by decide) (by decide) rfl rfl rfl rfl) ?_
  refine RW.op rfl rfl (eff_assign (v := .own _ _ _ _) rfl rfl rfl) ?_
  refine RW.nil ?_
  refine awp_seq ?_
  refine awp_rw rfl ?_
  refine RW.op rfl rfl (eff_assign (v := .t _) rfl rfl rfl) ?_
  refine RW.nil ?_
  refine awp_seq ?_
  refine awp_seq ?_
  refine awp_rw rfl ?_
  refine RW.op rfl rfl (eff_assign (v := .t _) rfl rfl rfl) ?_
  refine RW.nil ?_
  refine awp_block ?_
  refine awp_loopW (fun m s => ∃ (i : Nat) (n : Nat) (mr : Nat) (gn : Nat) (T : Twn) (r : Rcv) (rs : List Rep) (els : List AV), (i ≤ wh.length) ∧ (i ≤ 30) ∧ (n ≤ (frames l 8).length) ∧ (TG l 8 first i n T r) ∧ (TR rs T r i) ∧ (mr = rs.length) ∧ (els = (rs.map encR).map .t) ∧ m = wh.length - i ∧ s = ⟨140, [(1, .t (.sl (wh.map encI) false)), (2, .t (encU first)), (7, .ptr 7 0 0 0), (8, .ptr 8 0 0 0), (9, .t (.sl ((frames l 8).map encF) false)), (10, .own 31 gn 0 mr), (11, .t (encI (n : Nat))), (12, .t (encI (i : Nat))), (141, .t deT)], [(7, some ⟨2, 37, 0, [.t (encT T)]⟩), (8, some ⟨5, 62, 0, [.t (encV r)]⟩), (31, some ⟨4, 23, gn, els⟩)]⟩) (_) (⟨_, weak_keep (n := 140) (fr' := [(1, .t (.sl (wh.map encI) false)), (2, .t (encU first)), (7, .ptr 7 0 0 0), (8, .ptr 8 0 0 0), (9, .t (.sl ((frames l 8).map encF) false)), (10, .own 31 0 0 1), (11, .t (encI (0 : Nat))), (12, .t (encI (0 : Nat))), (141, .t deT)]) (st' := [(7, some ⟨2, 37, 0, [.t (encT _)]⟩), (8, some ⟨5, 62, 0, [.t (encV _)]⟩), (31, some ⟨4, 23, 0, _⟩)]) ⟨rfl, rfl, rfl, rfl, rfl, rfl, rfl, rfl, rfl, rfl, rfl, rfl, rfl, rfl, rfl, rfl, rfl, rfl, trivial⟩ ⟨rfl, okE_one rfl, rfl, okE_one rfl, rfl, (by first | exact okE_one rfl | (rw [he']; exact okE_t)), trivial⟩, 0, 0, 1, 0, _, _, _, _, (by omega), (by omega), (by omega), (by exact tg0 l 8 first), (by exact tr0 first), (by rfl), (by rfl), rfl, rfl⟩) ?_
  rintro m s ⟨i, n, mr, gn, T, r, rs, els, hi, hi30, hn, hg, hr, hm, he, rfl, rfl⟩
  have hfl : (frames l 8).length ≤ 8 := by rw [frames_len]; omega
  have hgg := hg.good
  have hg1 := hgg.len
  have hg3 := hgg.sent
  have hg4 := hgg.srt
  have hg5 := hgg.hp
  have hg6 := hgg.bod
  have hr1 := hr.ne
  have hr2 := hr.len
  refine awp_seq ?_
  refine awp_seq ?_
  refine awp_rw rfl ?_
  refine RW.op rfl rfl (eff_move (v := .t _) rfl rfl rfl) ?_
  refine RW.op rfl rfl (eff_move (v := .t _) rfl rfl rfl) ?_
  refine RW.op rfl rfl (eff_lenM rfl rfl te26 rfl) ?_
  refine RW.op rfl rfl (eff_iop rfl rfl rfl rfl rfl) ?_
  refine RW.op rfl rfl (eff_move (v := .t _) rfl rfl rfl) ?_
  refine RW.split 36 rfl (fun h1 => ?_) (fun h1 => ?_)
  · try simp only [decide_eq_true_eq, decide_eq_false_iff_not, beq_iff_eq, bne_iff_ne, bne_eq_false_iff_eq, beq_eq_false_iff_ne, Bool.not_eq_true, Bool.not_eq_false, Bool.not_eq_true', Bool.not_eq_false', ne_eq] at h1
    refine RW.gop rfl rfl rfl rfl rfl rfl (eff_move (v := .t _) rfl rfl rfl) ?_
    refine RW.gop rfl rfl rfl rfl rfl rfl (eff_iop rfl rfl rfl rfl rfl) ?_
    refine RW.op rfl rfl (eff_pick (v := .t _) rfl rfl rfl rfl) ?_
    refine RW.nil ?_
    refine awp_cond rfl (fun h2 => ?_) (fun h2 => ?_)
    · try simp only [decide_eq_true_eq, decide_eq_false_iff_not, beq_iff_eq, bne_iff_ne, bne_eq_false_iff_eq, beq_eq_false_iff_ne, Bool.not_eq_true, Bool.not_eq_false, Bool.not_eq_true', Bool.not_eq_false', ne_eq] at h2
      refine awp_skip ?_
      refine awp_seq ?_
      refine awp_block ?_
      refine awp_seq ?_
      refine awp_rw rfl ?_
      have hil : i < wh.length := by omega
      refine RW.op rfl rfl (eff_move (v := .t _) rfl rfl rfl) ?_
      refine RW.op rfl rfl (eff_move (v := .t _) rfl rfl rfl) ?_
      refine RW.op rfl rfl (eff_indexM rfl rfl te26 rfl rfl rfl (by first | assumption | exact List.getElem?_eq_getElem (by omega)) rfl (by decide)) ?_
      refine RW.op rfl rfl (eff_loadW1 rfl rfl ti3 rfl rfl) ?_
      refine RW.op rfl rfl (eff_callT (around_ret _ _ (hJ _ (List.getElem_mem _)) (by omega)) co13 rfl rfl rfl rfl) ?_
      refine RW.op rfl rfl (eff_assign (v := .t _) rfl rfl rfl) ?_
      refine RW.nil ?_
      refine awp_seq_mid (fun s => ∃ (T' : Twn) (r' : Rcv) (rs' : List Rep) (n' m' g' : Nat) (els' : List AV), n' ≤ (frames l 8).length ∧ TG l 8 first (i + 1) n' T' r' ∧ TR rs' T' r' (i + 1) ∧ m' = rs'.length ∧ els' = (rs'.map encR).map .t ∧ Weak s ⟨140, [(1, .t (.sl (wh.map encI) false)), (2, .t (encU first)), (7, .ptr 7 0 0 0), (8, .ptr 8 0 0 0), (9, .t (.sl ((frames l 8).map encF) false)), (10, .own 31 g' 0 m'), (11, .t (encI (n' : Nat))), (12, .t (encI (i : Nat))), (141, .t deT)], [(7, some ⟨2, 37, 0, [.t (encT T')]⟩), (8, some ⟨5, 62, 0, [.t (encV r')]⟩), (31, some ⟨4, 23, g', els'⟩)]⟩) ?_ ?_
      · refine awp_block ?_
        refine awp_seq ?_
        refine awp_rw rfl ?_
        have har := around_range (n := wh[i]'hil) (m := 1000000) (by decide)
        refine RW.op rfl rfl (eff_move (v := .t _) rfl rfl rfl) ?_
        refine RW.op rfl rfl (eff_remE (r := (around (wh[i]'hil) 1000000) % 3) rfl rfl rfl rfl (by decide) (tmod_pos (by omega))) ?_
        refine RW.op rfl rfl (eff_iop rfl rfl rfl rfl rfl) ?_
        refine RW.op rfl rfl (eff_move (v := .t _) rfl rfl rfl) ?_
        refine RW.split 67 rfl (fun h3 => ?_) (fun h3 => ?_)
        · try simp only [decide_eq_true_eq, decide_eq_false_iff_not, beq_iff_eq, bne_iff_ne, bne_eq_false_iff_eq, beq_eq_false_iff_ne, Bool.not_eq_true, Bool.not_eq_false, Bool.not_eq_true', Bool.not_eq_false', ne_eq] at h3
          refine RW.gop rfl rfl rfl rfl rfl rfl (eff_move (v := .t _) rfl rfl rfl) ?_
          refine RW.gop rfl rfl rfl rfl rfl rfl (eff_move (v := .t _) rfl rfl rfl) ?_
          refine RW.gop rfl rfl rfl rfl rfl rfl (eff_lenM rfl rfl te34 rfl) ?_
          refine RW.gop rfl rfl rfl rfl rfl rfl (eff_iop rfl rfl rfl rfl rfl) ?_
          refine RW.op rfl rfl (eff_pick (v := .t _) rfl rfl rfl rfl) ?_
          refine RW.op rfl rfl (eff_assign (v := .t _) rfl rfl rfl) ?_
          refine RW.nil ?_
          refine awp_cond rfl (fun h4 => ?_) (fun h4 => ?_)
          · try simp only [decide_eq_true_eq, decide_eq_false_iff_not, beq_iff_eq, bne_iff_ne, bne_eq_false_iff_eq, beq_eq_false_iff_ne, Bool.not_eq_true, Bool.not_eq_false, Bool.not_eq_true', Bool.not_eq_false', ne_eq] at h4
            refine awp_seq ?_
            refine awp_rd [(some 74, []), (some 75, []), (some 76, []), (some 77, []), (some 78, []), (some 79, []), (some 73, []), (some 80, []), (some 81, []), (some 14, [14]), (none, [14]), (some 15, [])] [[], [], [], [1, 2], [1, 2, 3], [0, 1, 2, 3, 4], [0, 1, 2, 3, 4, 5], [0, 1, 2, 3, 4, 5, 6], [0, 1, 2, 3, 4, 5, 6], [], [0, 1, 2, 3, 4, 5, 6, 7, 9], [0, 1, 2, 3, 4, 5, 6, 7, 8, 9, 10]] tm rfl rfl rfl rfl ?_
            have hnl : n < (frames l 8).length := by omega
            refine RD.op rfl rfl rfl (eff_load rfl rfl ti37 rfl (.whole rfl rfl rfl rfl rfl rfl)) ?_
            refine RD.op rfl rfl rfl (eff_move (v := .t _) rfl rfl rfl) ?_
            refine RD.op rfl rfl rfl (eff_move (v := .t _) rfl rfl rfl) ?_
            refine RD.op rfl rfl rfl (eff_indexM rfl rfl te34 rfl rfl rfl (by first | assumption | exact List.getElem?_eq_getElem (by omega)) rfl (by decide)) ?_
            refine RD.op rfl rfl rfl (eff_loadW rfl rfl ti30 rfl rfl rfl) ?_
            refine RD.op rfl rfl rfl (eff_callXT (tsend_ret T ((frames l 8)[n]'hnl) hg4 hg5 (by omega) (by omega) hg6 (frames_bod (List.getElem_mem _))) co20 rfl rfl rfl ⟨rfl, trivial⟩ rfl) ?_
            refine RD.op rfl rfl rfl (eff_move (v := .t _) rfl rfl rfl) ?_
            refine RD.op rfl rfl rfl (eff_extract rfl rfl rfl rfl) ?_
            refine RD.op rfl rfl rfl (eff_extract rfl rfl rfl rfl) ?_
            refine RD.new rfl rfl rfl (eff_allocK (k := 2) (id := 14) rfl rfl tz37 rfl rfl) ?_
            refine RD.store rfl rfl rfl (eff_storeW (v := .t _) (els := [_]) (els' := [_]) rfl rfl ti37 rfl rfl rfl rfl rfl rfl rfl rfl rfl) ?_
            refine RD.op rfl rfl rfl (eff_assign (v := .t _) rfl rfl rfl) ?_
            refine RD.nil ?_
            refine awp_seq ?_
            refine awp_seq ?_
            refine awp_rw rfl ?_
            refine RW.op rfl rfl (eff_move (v := .t _) rfl rfl rfl) ?_
            refine RW.op rfl rfl (eff_iop rfl rfl rfl rfl rfl) ?_
            refine RW.nil ?_
            refine awp_cond rfl (fun h5 => ?_) (fun h5 => ?_)
            · try simp only [decide_eq_true_eq, decide_eq_false_iff_not, beq_iff_eq, bne_iff_ne, bne_eq_false_iff_eq, beq_eq_false_iff_ne, Bool.not_eq_true, Bool.not_eq_false, Bool.not_eq_true', Bool.not_eq_false', ne_eq] at h5
              refine awp_seq ?_
              refine awp_rw rfl ?_
              have hbad := hg.bad hnl (by assumption)
              refine RW.op rfl rfl (eff_move (v := .t _) rfl rfl rfl) ?_
              refine RW.op rfl rfl (eff_iop (r := .bool true) rfl rfl rfl rfl (by simp [iop, hbad])) ?_
              refine RW.op rfl rfl (eff_move (v := .t _) rfl rfl rfl) ?_
              refine RW.gop rfl rfl rfl rfl rfl rfl (eff_callXT (lives_ret) co16 rfl rfl rfl ⟨rfl, trivial⟩ rfl) ?_
              refine RW.op rfl rfl (eff_pick (v := .t _) rfl rfl rfl rfl) ?_
              refine RW.op rfl rfl (eff_assign (v := .t _) rfl rfl rfl) ?_
              refine RW.nil ?_
              refine awp_ret ?_
              exact ⟨Or.inr rfl, [_], ⟨.tmp (.t _), trivial⟩, .refl _⟩
            · try simp only [decide_eq_true_eq, decide_eq_false_iff_not, beq_iff_eq, bne_iff_ne, bne_eq_false_iff_eq, beq_eq_false_iff_ne, Bool.not_eq_true, Bool.not_eq_false, Bool.not_eq_true', Bool.not_eq_false', ne_eq] at h5
              refine awp_skip ?_
              refine awp_seq ?_
              refine awp_rw rfl ?_
              refine RW.op rfl rfl (eff_load rfl rfl ti37 rfl (.whole rfl rfl rfl rfl rfl rfl)) ?_
              refine RW.store rfl rfl (eff_storeW (v := .t _) (els := [_]) (els' := [_]) rfl rfl ti37 rfl rfl rfl rfl rfl rfl rfl rfl rfl) ?_
              refine RW.nil ?_
              refine awp_rw rfl ?_
              refine RW.op rfl rfl (eff_move (v := .t _) rfl rfl rfl) ?_
              refine RW.op rfl rfl (eff_iop rfl rfl rfl rfl (iadd (by omega))) ?_
              refine RW.op rfl rfl (eff_assign (v := .t _) rfl rfl rfl) ?_
              refine RW.nil ?_
              show ∃ (T' : Twn) (r' : Rcv) (rs' : List Rep) (n' m' g' : Nat) (els' : List AV), _
              exact ⟨_, r, rs, n + 1, mr, _, els, by omega, (hg.sends hnl (by assumption)).mono (by omega), (hr.sends (by assumption)).mono (by omega), hm, he, weak_keep (n := 140) ⟨rfl, rfl, rfl, rfl, rfl, rfl, rfl, rfl, rfl, rfl, rfl, rfl, rfl, rfl, rfl, rfl, rfl, rfl, trivial⟩ ⟨rfl, okE_one rfl, rfl, okE_one rfl, rfl, (by first | exact okE_one rfl | (rw [he]; exact okE_t) | (rw [he]; intro x hx; simp only [List.mem_append, List.mem_map, List.mem_singleton] at hx; rcases hx with ⟨y, _, rfl⟩ | rfl <;> rfl)), trivial⟩⟩
          · try simp only [decide_eq_true_eq, decide_eq_false_iff_not, beq_iff_eq, bne_iff_ne, bne_eq_false_iff_eq, beq_eq_false_iff_ne, Bool.not_eq_true, Bool.not_eq_false, Bool.not_eq_true', Bool.not_eq_false', ne_eq] at h4
            refine awp_seq ?_
            refine awp_rw rfl ?_
            refine RW.op rfl rfl (eff_move (v := .t _) rfl rfl rfl) ?_
            refine RW.op rfl rfl (eff_remE (r := (around (wh[i]'hil) 1000000) % 3) rfl rfl rfl rfl (by decide) (tmod_pos (by omega))) ?_
            refine RW.op rfl rfl (eff_iop rfl rfl rfl rfl rfl) ?_
            refine RW.op rfl rfl (eff_move (v := .t _) rfl rfl rfl) ?_
            refine RW.split 96 rfl (fun h6 => ?_) (fun h6 => ?_)
            · try simp only [decide_eq_true_eq, decide_eq_false_iff_not, beq_iff_eq, bne_iff_ne, bne_eq_false_iff_eq, beq_eq_false_iff_ne, Bool.not_eq_true, Bool.not_eq_false, Bool.not_eq_true', Bool.not_eq_false', ne_eq] at h6
              refine RW.gop rfl rfl rfl rfl rfl rfl (eff_move (v := .t _) rfl rfl rfl) ?_
              refine RW.gop rfl rfl rfl rfl rfl rfl (eff_iop rfl rfl rfl rfl rfl) ?_
              refine RW.op rfl rfl (eff_pick (v := .t _) rfl rfl rfl rfl) ?_
              refine RW.op rfl rfl (eff_assign (v := .t _) rfl rfl rfl) ?_
              refine RW.nil ?_
              refine awp_cond rfl (fun h7 => ?_) (fun h7 => ?_)
              · try simp only [decide_eq_true_eq, decide_eq_false_iff_not, beq_iff_eq, bne_iff_ne, bne_eq_false_iff_eq, beq_eq_false_iff_ne, Bool.not_eq_true, Bool.not_eq_false, Bool.not_eq_true', Bool.not_eq_false', ne_eq] at h7
                refine awp_seq ?_
                refine awp_rw rfl ?_
                obtain ⟨q, hq, hqm⟩ : ∃ q : Nat, (around (wh[i]'hil) 1000000) / 3 % (n : Int) = (q : Int) ∧ q < n := ⟨((around (wh[i]'hil) 1000000) / 3 % (n : Int)).toNat, by have := Int.emod_nonneg ((around (wh[i]'hil) 1000000) / 3) (show (n : Int) ≠ 0 by omega); omega, by have := Int.emod_lt_of_pos ((around (wh[i]'hil) 1000000) / 3) (show (0 : Int) < n by omega); have := Int.emod_nonneg ((around (wh[i]'hil) 1000000) / 3) (show (n : Int) ≠ 0 by omega); omega⟩
                have hqn : q < (frames l 8).length := by omega
                have hkb := frames_keyB (m := 8) (by decide) (List.getElem_mem hqn)
                obtain ⟨K, hK⟩ : ∃ K : Nat, ((frames l 8)[q]'hqn).key = (K : Int) := ⟨((frames l 8)[q]'hqn).key.toNat, by omega⟩
                have hKt : ((frames l 8)[q]'hqn).key.toNat = K := by omega
                have hbd0 : ((frames l 8)[q]'hqn).body = [] := by
                  obtain ⟨j, _, e⟩ := frames_mem (List.getElem_mem hqn)
                  rw [e, frame_body]
                refine RW.op rfl rfl (eff_move (v := .t _) rfl rfl rfl) ?_
                refine RW.op rfl rfl (eff_move (v := .t _) rfl rfl rfl) ?_
                refine RW.op rfl rfl (eff_quoE (r := (around (wh[i]'hil) 1000000) / 3) rfl rfl rfl rfl (by decide) (quoN (by omega) (by decide))) ?_
                refine RW.op rfl rfl (eff_move (v := .t _) rfl rfl rfl) ?_
                refine RW.op rfl rfl (eff_remE (r := ((q : Nat) : Int)) rfl rfl rfl rfl (by omega) (by rw [tmod_pos (by omega), hq])) ?_
                refine RW.op rfl rfl (eff_indexM rfl rfl te34 rfl rfl rfl (by first | assumption | exact List.getElem?_eq_getElem (by omega)) rfl (by decide)) ?_
                refine RW.op rfl rfl (eff_loadW rfl rfl ti30 rfl rfl rfl) ?_
                refine RW.new rfl rfl (eff_allocK (k := 5) (id := 16) rfl rfl tz30 rfl rfl) ?_
                refine RW.store rfl rfl (eff_storeW (v := .t _) (els := [_]) (els' := [_]) rfl rfl ti30 rfl rfl rfl rfl rfl rfl rfl rfl rfl) ?_
                refine RW.nil ?_
                refine awp_seq ?_
                refine awp_rw rfl ?_
                refine RW.op rfl rfl (eff_move (v := .t _) rfl rfl rfl) ?_
                refine RW.op rfl rfl (eff_assign (v := .t _) rfl rfl rfl) ?_
                refine RW.nil ?_
                refine awp_seq ?_
                refine awp_seq ?_
                refine awp_rw rfl ?_
                refine RW.op rfl rfl (eff_assign (v := .t _) rfl rfl rfl) ?_
                refine RW.nil ?_
                refine awp_block ?_
                refine awp_loopW (fun m s => ∃ (c : Nat), (c ≤ K) ∧ m = K - c ∧ s = ⟨140, [(1, .t (.sl (wh.map encI) false)), (2, .t (encU first)), (7, .ptr 7 0 0 0), (8, .ptr 8 0 0 0), (9, .t (.sl ((frames l 8).map encF) false)), (10, .own 31 gn 0 mr), (11, .t (encI (n : Nat))), (12, .t (encI (i : Nat))), (16, .ptr 16 0 0 0), (17, .t (encU (stepN c first))), (18, .t (encI (c : Nat))), (141, .t deT)], [(7, some ⟨2, 37, 0, [.t (encT T)]⟩), (8, some ⟨5, 62, 0, [.t (encV r)]⟩), (31, some ⟨4, 23, gn, els⟩), (16, some ⟨5, 30, 0, [.t (encF ((frames l 8)[q]'hqn))]⟩)]⟩) (_) (⟨_, weak_keep (n := 140) (fr' := [(1, .t (.sl (wh.map encI) false)), (2, .t (encU first)), (7, .ptr 7 0 0 0), (8, .ptr 8 0 0 0), (9, .t (.sl ((frames l 8).map encF) false)), (10, .own 31 gn 0 mr), (11, .t (encI (n : Nat))), (12, .t (encI (i : Nat))), (16, .ptr 16 0 0 0), (17, .t (encU (stepN 0 first))), (18, .t (encI (0 : Nat))), (141, .t deT)]) (st' := [(7, some ⟨2, 37, 0, [.t (encT T)]⟩), (8, some ⟨5, 62, 0, [.t (encV r)]⟩), (31, some ⟨4, 23, gn, els⟩), (16, some ⟨5, 30, 0, [.t (encF ((frames l 8)[q]'hqn))]⟩)]) ⟨rfl, rfl, rfl, rfl, rfl, rfl, rfl, rfl, rfl, rfl, rfl, rfl, rfl, rfl, rfl, rfl, rfl, rfl, rfl, rfl, rfl, rfl, rfl, rfl, trivial⟩ ⟨rfl, okE_one rfl, rfl, okE_one rfl, rfl, (by rw [he]; exact okE_t), rfl, okE_one rfl, trivial⟩, 0, (by omega), rfl, rfl⟩) ?_
                rintro m s ⟨c, hc, rfl, rfl⟩
                refine awp_seq ?_
                refine awp_seq ?_
                refine awp_rw rfl ?_
                refine RW.op rfl rfl (eff_move (v := .t _) rfl rfl rfl) ?_
                refine RW.op rfl rfl (eff_fieldAddr rfl rfl tf30_1 (by decide) rfl rfl rfl (Nat.le_of_ble_eq_true rfl)) ?_
                refine RW.op rfl rfl (eff_load (y := .t _) rfl rfl ti3 rfl (.one rfl rfl rfl rfl)) ?_
                refine RW.op rfl rfl (eff_iop rfl rfl rfl rfl rfl) ?_
                refine RW.nil ?_
                refine awp_cond rfl (fun h8 => ?_) (fun h8 => ?_)
                · try simp only [decide_eq_true_eq, decide_eq_false_iff_not, beq_iff_eq, bne_iff_ne, bne_eq_false_iff_eq, beq_eq_false_iff_ne, Bool.not_eq_true, Bool.not_eq_false, Bool.not_eq_true', Bool.not_eq_false', ne_eq] at h8
                  refine awp_skip ?_
                  refine awp_seq ?_
                  refine awp_block ?_
                  refine awp_rw rfl ?_
                  refine RW.op rfl rfl (eff_move (v := .t _) rfl rfl rfl) ?_
                  refine RW.op rfl rfl (eff_callT (step34_ret _) co34 rfl rfl rfl rfl) ?_
                  refine RW.op rfl rfl (eff_assign (v := .t _) rfl rfl rfl) ?_
                  refine RW.nil ?_
                  refine awp_rw rfl ?_
                  refine RW.op rfl rfl (eff_move (v := .t _) rfl rfl rfl) ?_
                  refine RW.op rfl rfl (eff_iop rfl rfl rfl rfl (iadd (by omega))) ?_
                  refine RW.op rfl rfl (eff_assign (v := .t _) rfl rfl rfl) ?_
                  refine RW.nil ?_
                  refine ⟨_, ?_, _, weak_keep (n := 140) (fr' := [(1, .t (.sl (wh.map encI) false)), (2, .t (encU first)), (7, .ptr 7 0 0 0), (8, .ptr 8 0 0 0), (9, .t (.sl ((frames l 8).map encF) false)), (10, .own 31 gn 0 mr), (11, .t (encI (n : Nat))), (12, .t (encI (i : Nat))), (16, .ptr 16 0 0 0), (17, .t (encU (stepN (c + 1) first))), (18, .t (encI ((c + 1) : Nat))), (141, .t deT)]) (st' := [(7, some ⟨2, 37, 0, [.t (encT T)]⟩), (8, some ⟨5, 62, 0, [.t (encV r)]⟩), (31, some ⟨4, 23, gn, els⟩), (16, some ⟨5, 30, 0, [.t (encF ((frames l 8)[q]'hqn))]⟩)]) ⟨rfl, rfl, rfl, rfl, rfl, rfl, rfl, rfl, rfl, rfl, rfl, rfl, rfl, rfl, rfl, rfl, rfl, rfl, rfl, rfl, rfl, rfl, rfl, rfl, trivial⟩ ⟨rfl, okE_one rfl, rfl, okE_one rfl, rfl, (by rw [he]; exact okE_t), rfl, okE_one rfl, trivial⟩, c + 1, (by omega), rfl, rfl⟩
                  omega
                · try simp only [decide_eq_true_eq, decide_eq_false_iff_not, beq_iff_eq, bne_iff_ne, bne_eq_false_iff_eq, beq_eq_false_iff_ne, Bool.not_eq_true, Bool.not_eq_false, Bool.not_eq_true', Bool.not_eq_false', ne_eq] at h8
                  refine awp_exit ?_
                  refine awp_seq ?_
                  refine awp_rw rfl ?_
                  obtain rfl : c = K := by omega
                  refine RW.op rfl rfl (eff_move (v := .t _) rfl rfl rfl) ?_
                  refine RW.op rfl rfl (eff_load rfl rfl ti30 rfl (.whole rfl rfl rfl rfl rfl rfl)) ?_
                  refine RW.op rfl rfl (eff_callT (signed_ret ((frames l 8)[q]'hqn) (by rw [hbd0]; exact Nat.zero_le _)) co36 rfl rfl rfl rfl) ?_
                  refine RW.op rfl rfl (eff_callT ((show Ret Tryd.prog 35 [encU (stepN c first), .sl ((signedF ((frames l 8)[q]'hqn)).map encBy) false] (encU (sgn first ((frames l 8)[q]'hqn)).tag) from by rw [sgn_tag, hKt]; exact tag35_ret (stepN c first) (signedF ((frames l 8)[q]'hqn)) (signedF_byt (by rw [hbd0]; exact byt0)) (by have := signedF_len ((frames l 8)[q]'hqn) (by rw [hbd0]; exact Nat.zero_le _); rw [hbd0] at this; simp at this; omega))) co35 rfl rfl rfl rfl) ?_
                  refine RW.op rfl rfl (eff_fieldAddr rfl rfl tf30_4 (by decide) rfl rfl rfl (Nat.le_of_ble_eq_true rfl)) ?_
                  refine RW.store rfl rfl (eff_storeS (v := .t _) (ys := [_, _, _, _, _]) (els := [_]) (els' := [_]) rfl rfl ti28 rfl rfl rfl rfl rfl rfl rfl (Nat.le_of_ble_eq_true rfl) rfl rfl) ?_
                  refine RW.nil ?_
                  refine awp_seq ?_
                  refine awp_rw rfl ?_
                  have hrc := hg.recv (by decide) (by omega) hqm hqn
                  refine RW.op rfl rfl (eff_load rfl rfl ti62 rfl (.whole rfl rfl rfl rfl rfl rfl)) ?_
                  refine RW.op rfl rfl (eff_load rfl rfl ti30 rfl (.whole rfl rfl rfl rfl rfl rfl)) ?_
                  refine RW.op rfl rfl (eff_callT (receive_ret r (sgn first ((frames l 8)[q]'hqn)) (hg.rg.rb (by omega)) (by rw [sgn_key]; omega) (by rw [sgn_body, hbd0]; exact byt0) (by rw [sgn_body, hbd0]; exact Nat.zero_le _)) co37 rfl rfl rfl rfl) ?_
                  refine RW.op rfl rfl (eff_move (v := .t _) rfl rfl rfl) ?_
                  refine RW.op rfl rfl (eff_extract rfl rfl rfl rfl) ?_
                  refine RW.op rfl rfl (eff_extract rfl rfl rfl rfl) ?_
                  refine RW.op rfl rfl (eff_extract rfl rfl rfl rfl) ?_
                  refine RW.new rfl rfl (eff_allocK (k := 5) (id := 19) rfl rfl tz62 rfl rfl) ?_
                  refine RW.store rfl rfl (eff_storeW (v := .t _) (els := [_]) (els' := [_]) rfl rfl ti62 rfl rfl rfl rfl rfl rfl rfl rfl rfl) ?_
                  refine RW.op rfl rfl (eff_assign (v := .t _) rfl rfl rfl) ?_
                  refine RW.op rfl rfl (eff_assign (v := .t _) rfl rfl rfl) ?_
                  refine RW.nil ?_
                  refine awp_seq ?_
                  refine awp_rw rfl ?_
                  refine RW.op rfl rfl (eff_load rfl rfl ti62 rfl (.whole rfl rfl rfl rfl rfl rfl)) ?_
                  refine RW.store rfl rfl (eff_storeW (v := .t _) (els := [_]) (els' := [_]) rfl rfl ti62 rfl rfl rfl rfl rfl rfl rfl rfl rfl) ?_
                  refine RW.nil ?_
                  refine awp_rw rfl ?_
                  refine RW.op rfl rfl (eff_move (v := .own _ _ _ _) rfl rfl rfl) ?_
                  refine RW.op rfl rfl (eff_load rfl rfl ti62 rfl (.whole rfl rfl rfl rfl rfl rfl)) ?_
                  refine RW.op rfl rfl (eff_callT (hrc.1.rg.st (by omega)) co38 rfl rfl rfl rfl) ?_
                  refine RW.new rfl rfl (eff_buildSliceL (id := 132) (els := [.t (.agg [_, _, _, _])]) rfl rfl te35 tz23 rfl (by decide) (by decide) rfl rfl rfl rfl) ?_
                  refine RW.new rfl rfl (eff_append (id := 31) (ys := [_]) rfl rfl ta35 rfl rfl rfl (by rw [he, hm]; simp) rfl rfl (srcOwn rfl rfl rfl rfl rfl rfl) (by simp) (by simp; omega) (by simp; omega)) ?_
                  refine RW.op rfl rfl (eff_assign (v := .own _ _ _ _) rfl rfl rfl) ?_
                  refine RW.nil ?_
                  show ∃ (T' : Twn) (r' : Rcv) (rs' : List Rep) (n' m' g' : Nat) (els' : List AV), _
                  exact ⟨T, _, _, n, mr + 1, _, _, hn, hrc.1, hr.recv (by decide) hg hrc.1 hrc.2.1, by simp [hm], by rw [rs_snoc, ← he]; rfl, weak_keep (n := 140) ⟨rfl, rfl, rfl, rfl, rfl, rfl, rfl, rfl, rfl, rfl, rfl, rfl, rfl, rfl, rfl, rfl, rfl, rfl, trivial⟩ ⟨rfl, okE_one rfl, rfl, okE_one rfl, rfl, (by first | exact okE_one rfl | (rw [he]; exact okE_t) | (rw [he]; intro x hx; simp only [List.mem_append, List.mem_map, List.mem_singleton] at hx; rcases hx with ⟨y, _, rfl⟩ | rfl <;> rfl)), trivial⟩⟩
              · try simp only [decide_eq_true_eq, decide_eq_false_iff_not, beq_iff_eq, bne_iff_ne, bne_eq_false_iff_eq, beq_eq_false_iff_ne, Bool.not_eq_true, Bool.not_eq_false, Bool.not_eq_true', Bool.not_eq_false', ne_eq] at h7
                refine awp_seq ?_
                refine awp_rd [(some 48, []), (some 49, []), (some 50, []), (some 51, []), (some 52, []), (some 53, []), (some 54, []), (some 55, []), (some 56, []), (some 57, []), (some 47, []), (some 58, []), (some 59, []), (some 22, [22]), (none, [22]), (some 23, [])] [[], [], [], [2], [], [4], [2, 3, 4, 5], [1, 2, 3, 4, 5, 6], [1, 2, 3, 4, 5, 6, 7], [0, 1, 2, 3, 4, 5, 6, 7, 8], [0, 1, 2, 3, 4, 5, 6, 7, 8, 9], [0, 1, 2, 3, 4, 5, 6, 7, 8, 9, 10], [0, 1, 2, 3, 4, 5, 6, 7, 8, 9, 10], [], [0, 1, 2, 3, 4, 5, 6, 7, 8, 9, 10, 11, 13], [0, 1, 2, 3, 4, 5, 6, 7, 8, 9, 10, 11, 12, 13, 14]] tm rfl rfl rfl rfl ?_
                obtain ⟨q2, hq2, hq2m⟩ : ∃ q2 : Nat, (around (wh[i]'hil) 1000000) / 3 % (mr : Int) = (q2 : Int) ∧ q2 < mr := ⟨((around (wh[i]'hil) 1000000) / 3 % (mr : Int)).toNat, by have := Int.emod_nonneg ((around (wh[i]'hil) 1000000) / 3) (show (mr : Int) ≠ 0 by omega); omega, by have := Int.emod_lt_of_pos ((around (wh[i]'hil) 1000000) / 3) (show (0 : Int) < mr by omega); have := Int.emod_nonneg ((around (wh[i]'hil) 1000000) / 3) (show (mr : Int) ≠ 0 by omega); omega⟩
                have hq2n : q2 < rs.length := by omega
                have hhr := hg.hears (by decide) hr (List.getElem_mem hq2n)
                refine RD.op rfl rfl rfl (eff_load rfl rfl ti37 rfl (.whole rfl rfl rfl rfl rfl rfl)) ?_
                refine RD.op rfl rfl rfl (eff_move (v := .own _ _ _ _) rfl rfl rfl) ?_
                refine RD.op rfl rfl rfl (eff_move (v := .t _) rfl rfl rfl) ?_
                refine RD.op rfl rfl rfl (eff_quoE (r := (around (wh[i]'hil) 1000000) / 3) rfl rfl rfl rfl (by decide) (quoN (by omega) (by decide))) ?_
                refine RD.op rfl rfl rfl (eff_move (v := .own _ _ _ _) rfl rfl rfl) ?_
                refine RD.op rfl rfl rfl (eff_len rfl rfl te35 rfl rfl rfl) ?_
                refine RD.op rfl rfl rfl (eff_remE (r := ((q2 : Nat) : Int)) rfl rfl rfl rfl (by omega) (by rw [tmod_pos (by omega), hq2])) ?_
                refine RD.op rfl rfl rfl (eff_indexAddr rfl rfl te35 rfl rfl rfl rfl rfl rfl (by omega)) ?_
                refine RD.op rfl rfl rfl (eff_load (y := .t (encR (rs[q2]'hq2n))) rfl rfl ti23 rfl (.whole rfl rfl (by rw [Nat.zero_add, he]; exact elR2 hq2n) rfl rfl rfl)) ?_
                refine RD.op rfl rfl rfl (eff_callXT (thear_ret T (rs[q2]'hq2n) (hr.ok _ (List.getElem_mem hq2n)).1 (by omega) (by omega) hg6) co22 rfl rfl rfl ⟨rfl, trivial⟩ rfl) ?_
                refine RD.op rfl rfl rfl (eff_move (v := .t _) rfl rfl rfl) ?_
                refine RD.op rfl rfl rfl (eff_extract rfl rfl rfl rfl) ?_
                refine RD.op rfl rfl rfl (eff_extract rfl rfl rfl rfl) ?_
                refine RD.new rfl rfl rfl (eff_allocK (k := 2) (id := 22) rfl rfl tz37 rfl rfl) ?_
                refine RD.store rfl rfl rfl (eff_storeW (v := .t _) (els := [_]) (els' := [_]) rfl rfl ti37 rfl rfl rfl rfl rfl rfl rfl rfl rfl) ?_
                refine RD.op rfl rfl rfl (eff_assign (v := .t _) rfl rfl rfl) ?_
                refine RD.nil ?_
                refine awp_seq ?_
                refine awp_seq ?_
                refine awp_rw rfl ?_
                refine RW.op rfl rfl (eff_move (v := .t _) rfl rfl rfl) ?_
                refine RW.op rfl rfl (eff_iop (r := .bool false) rfl rfl rfl rfl (by simp [iop, hhr.1])) ?_
                refine RW.nil ?_
                refine awp_cond rfl (fun h => nomatch h) (fun _ => ?_)
                refine awp_skip ?_
                refine awp_rw rfl ?_
                refine RW.op rfl rfl (eff_load rfl rfl ti37 rfl (.whole rfl rfl rfl rfl rfl rfl)) ?_
                refine RW.store rfl rfl (eff_storeW (v := .t _) (els := [_]) (els' := [_]) rfl rfl ti37 rfl rfl rfl rfl rfl rfl rfl rfl rfl) ?_
                refine RW.nil ?_
                show ∃ (T' : Twn) (r' : Rcv) (rs' : List Rep) (n' m' g' : Nat) (els' : List AV), _
                exact ⟨_, r, rs, n, mr, _, els, hn, hhr.2.mono (by omega), (hr.hears hhr.1).mono (by omega), hm, he, weak_keep (n := 140) ⟨rfl, rfl, rfl, rfl, rfl, rfl, rfl, rfl, rfl, rfl, rfl, rfl, rfl, rfl, rfl, rfl, rfl, rfl, trivial⟩ ⟨rfl, okE_one rfl, rfl, okE_one rfl, rfl, (by first | exact okE_one rfl | (rw [he]; exact okE_t) | (rw [he]; intro x hx; simp only [List.mem_append, List.mem_map, List.mem_singleton] at hx; rcases hx with ⟨y, _, rfl⟩ | rfl <;> rfl)), trivial⟩⟩
            · try simp only [decide_eq_true_eq, decide_eq_false_iff_not, beq_iff_eq, bne_iff_ne, bne_eq_false_iff_eq, beq_eq_false_iff_ne, Bool.not_eq_true, Bool.not_eq_false, Bool.not_eq_true', Bool.not_eq_false', ne_eq] at h6
              refine RW.gskip rfl rfl rfl rfl rfl (by decide) ?_
              refine RW.gskip rfl rfl rfl rfl rfl (by decide) ?_
              refine RW.op rfl rfl (eff_pick (v := .t _) rfl rfl rfl rfl) ?_
              refine RW.op rfl rfl (eff_assign (v := .t _) rfl rfl rfl) ?_
              refine RW.nil ?_
              refine awp_cond rfl (fun h => nomatch h) (fun _ => ?_)
              refine awp_seq ?_
              refine awp_rd [(some 48, []), (some 49, []), (some 50, []), (some 51, []), (some 52, []), (some 53, []), (some 54, []), (some 55, []), (some 56, []), (some 57, []), (some 47, []), (some 58, []), (some 59, []), (some 22, [22]), (none, [22]), (some 23, [])] [[], [], [], [2], [], [4], [2, 3, 4, 5], [1, 2, 3, 4, 5, 6], [1, 2, 3, 4, 5, 6, 7], [0, 1, 2, 3, 4, 5, 6, 7, 8], [0, 1, 2, 3, 4, 5, 6, 7, 8, 9], [0, 1, 2, 3, 4, 5, 6, 7, 8, 9, 10], [0, 1, 2, 3, 4, 5, 6, 7, 8, 9, 10], [], [0, 1, 2, 3, 4, 5, 6, 7, 8, 9, 10, 11, 13], [0, 1, 2, 3, 4, 5, 6, 7, 8, 9, 10, 11, 12, 13, 14]] tm rfl rfl rfl rfl ?_
              obtain ⟨q2, hq2, hq2m⟩ : ∃ q2 : Nat, (around (wh[i]'hil) 1000000) / 3 % (mr : Int) = (q2 : Int) ∧ q2 < mr := ⟨((around (wh[i]'hil) 1000000) / 3 % (mr : Int)).toNat, by have := Int.emod_nonneg ((around (wh[i]'hil) 1000000) / 3) (show (mr : Int) ≠ 0 by omega); omega, by have := Int.emod_lt_of_pos ((around (wh[i]'hil) 1000000) / 3) (show (0 : Int) < mr by omega); have := Int.emod_nonneg ((around (wh[i]'hil) 1000000) / 3) (show (mr : Int) ≠ 0 by omega); omega⟩
              have hq2n : q2 < rs.length := by omega
              have hhr := hg.hears (by decide) hr (List.getElem_mem hq2n)
              refine RD.op rfl rfl rfl (eff_load rfl rfl ti37 rfl (.whole rfl rfl rfl rfl rfl rfl)) ?_
              refine RD.op rfl rfl rfl (eff_move (v := .own _ _ _ _) rfl rfl rfl) ?_
              refine RD.op rfl rfl rfl (eff_move (v := .t _) rfl rfl rfl) ?_
              refine RD.op rfl rfl rfl (eff_quoE (r := (around (wh[i]'hil) 1000000) / 3) rfl rfl rfl rfl (by decide) (quoN (by omega) (by decide))) ?_
              refine RD.op rfl rfl rfl (eff_move (v := .own _ _ _ _) rfl rfl rfl) ?_
              refine RD.op rfl rfl rfl (eff_len rfl rfl te35 rfl rfl rfl) ?_
              refine RD.op rfl rfl rfl (eff_remE (r := ((q2 : Nat) : Int)) rfl rfl rfl rfl (by omega) (by rw [tmod_pos (by omega), hq2])) ?_
              refine RD.op rfl rfl rfl (eff_indexAddr rfl rfl te35 rfl rfl rfl rfl rfl rfl (by omega)) ?_
              refine RD.op rfl rfl rfl (eff_load (y := .t (encR (rs[q2]'hq2n))) rfl rfl ti23 rfl (.whole rfl rfl (by rw [Nat.zero_add, he]; exact elR2 hq2n) rfl rfl rfl)) ?_
              refine RD.op rfl rfl rfl (eff_callXT (thear_ret T (rs[q2]'hq2n) (hr.ok _ (List.getElem_mem hq2n)).1 (by omega) (by omega) hg6) co22 rfl rfl rfl ⟨rfl, trivial⟩ rfl) ?_
              refine RD.op rfl rfl rfl (eff_move (v := .t _) rfl rfl rfl) ?_
              refine RD.op rfl rfl rfl (eff_extract rfl rfl rfl rfl) ?_
              refine RD.op rfl rfl rfl (eff_extract rfl rfl rfl rfl) ?_
              refine RD.new rfl rfl rfl (eff_allocK (k := 2) (id := 22) rfl rfl tz37 rfl rfl) ?_
              refine RD.store rfl rfl rfl (eff_storeW (v := .t _) (els := [_]) (els' := [_]) rfl rfl ti37 rfl rfl rfl rfl rfl rfl rfl rfl rfl) ?_
              refine RD.op rfl rfl rfl (eff_assign (v := .t _) rfl rfl rfl) ?_
              refine RD.nil ?_
              refine awp_seq ?_
              refine awp_seq ?_
              refine awp_rw rfl ?_
              refine RW.op rfl rfl (eff_move (v := .t _) rfl rfl rfl) ?_
              refine RW.op rfl rfl (eff_iop (r := .bool false) rfl rfl rfl rfl (by simp [iop, hhr.1])) ?_
              refine RW.nil ?_
              refine awp_cond rfl (fun h => nomatch h) (fun _ => ?_)
              refine awp_skip ?_
              refine awp_rw rfl ?_
              refine RW.op rfl rfl (eff_load rfl rfl ti37 rfl (.whole rfl rfl rfl rfl rfl rfl)) ?_
              refine RW.store rfl rfl (eff_storeW (v := .t _) (els := [_]) (els' := [_]) rfl rfl ti37 rfl rfl rfl rfl rfl rfl rfl rfl rfl) ?_
              refine RW.nil ?_
              show ∃ (T' : Twn) (r' : Rcv) (rs' : List Rep) (n' m' g' : Nat) (els' : List AV), _
              exact ⟨_, r, rs, n, mr, _, els, hn, hhr.2.mono (by omega), (hr.hears hhr.1).mono (by omega), hm, he, weak_keep (n := 140) ⟨rfl, rfl, rfl, rfl, rfl, rfl, rfl, rfl, rfl, rfl, rfl, rfl, rfl, rfl, rfl, rfl, rfl, rfl, trivial⟩ ⟨rfl, okE_one rfl, rfl, okE_one rfl, rfl, (by first | exact okE_one rfl | (rw [he]; exact okE_t) | (rw [he]; intro x hx; simp only [List.mem_append, List.mem_map, List.mem_singleton] at hx; rcases hx with ⟨y, _, rfl⟩ | rfl <;> rfl)), trivial⟩⟩
        · try simp only [decide_eq_true_eq, decide_eq_false_iff_not, beq_iff_eq, bne_iff_ne, bne_eq_false_iff_eq, beq_eq_false_iff_ne, Bool.not_eq_true, Bool.not_eq_false, Bool.not_eq_true', Bool.not_eq_false', ne_eq] at h3
          refine RW.gskip rfl rfl rfl rfl rfl (by decide) ?_
          refine RW.gskip rfl rfl rfl rfl rfl (by decide) ?_
          refine RW.gskip rfl rfl rfl rfl rfl (by decide) ?_
          refine RW.gskip rfl rfl rfl rfl rfl (by decide) ?_
          refine RW.op rfl rfl (eff_pick (v := .t _) rfl rfl rfl rfl) ?_
          refine RW.op rfl rfl (eff_assign (v := .t _) rfl rfl rfl) ?_
          refine RW.nil ?_
          refine awp_cond rfl (fun h => nomatch h) (fun _ => ?_)
          refine awp_seq ?_
          refine awp_rw rfl ?_
          refine RW.op rfl rfl (eff_move (v := .t _) rfl rfl rfl) ?_
          refine RW.op rfl rfl (eff_remE (r := (around (wh[i]'hil) 1000000) % 3) rfl rfl rfl rfl (by decide) (tmod_pos (by omega))) ?_
          refine RW.op rfl rfl (eff_iop rfl rfl rfl rfl rfl) ?_
          refine RW.op rfl rfl (eff_move (v := .t _) rfl rfl rfl) ?_
          refine RW.split 96 rfl (fun h9 => ?_) (fun h9 => ?_)
          · try simp only [decide_eq_true_eq, decide_eq_false_iff_not, beq_iff_eq, bne_iff_ne, bne_eq_false_iff_eq, beq_eq_false_iff_ne, Bool.not_eq_true, Bool.not_eq_false, Bool.not_eq_true', Bool.not_eq_false', ne_eq] at h9
            refine RW.gop rfl rfl rfl rfl rfl rfl (eff_move (v := .t _) rfl rfl rfl) ?_
            refine RW.gop rfl rfl rfl rfl rfl rfl (eff_iop rfl rfl rfl rfl rfl) ?_
            refine RW.op rfl rfl (eff_pick (v := .t _) rfl rfl rfl rfl) ?_
            refine RW.op rfl rfl (eff_assign (v := .t _) rfl rfl rfl) ?_
            refine RW.nil ?_
            refine awp_cond rfl (fun h10 => ?_) (fun h10 => ?_)
            · try simp only [decide_eq_true_eq, decide_eq_false_iff_not, beq_iff_eq, bne_iff_ne, bne_eq_false_iff_eq, beq_eq_false_iff_ne, Bool.not_eq_true, Bool.not_eq_false, Bool.not_eq_true', Bool.not_eq_false', ne_eq] at h10
              refine awp_seq ?_
              refine awp_rw rfl ?_
              obtain ⟨q, hq, hqm⟩ : ∃ q : Nat, (around (wh[i]'hil) 1000000) / 3 % (n : Int) = (q : Int) ∧ q < n := ⟨((around (wh[i]'hil) 1000000) / 3 % (n : Int)).toNat, by have := Int.emod_nonneg ((around (wh[i]'hil) 1000000) / 3) (show (n : Int) ≠ 0 by omega); omega, by have := Int.emod_lt_of_pos ((around (wh[i]'hil) 1000000) / 3) (show (0 : Int) < n by omega); have := Int.emod_nonneg ((around (wh[i]'hil) 1000000) / 3) (show (n : Int) ≠ 0 by omega); omega⟩
              have hqn : q < (frames l 8).length := by omega
              have hkb := frames_keyB (m := 8) (by decide) (List.getElem_mem hqn)
              obtain ⟨K, hK⟩ : ∃ K : Nat, ((frames l 8)[q]'hqn).key = (K : Int) := ⟨((frames l 8)[q]'hqn).key.toNat, by omega⟩
              have hKt : ((frames l 8)[q]'hqn).key.toNat = K := by omega
              have hbd0 : ((frames l 8)[q]'hqn).body = [] := by
                obtain ⟨j, _, e⟩ := frames_mem (List.getElem_mem hqn)
                rw [e, frame_body]
              refine RW.op rfl rfl (eff_move (v := .t _) rfl rfl rfl) ?_
              refine RW.op rfl rfl (eff_move (v := .t _) rfl rfl rfl) ?_
              refine RW.op rfl rfl (eff_quoE (r := (around (wh[i]'hil) 1000000) / 3) rfl rfl rfl rfl (by decide) (quoN (by omega) (by decide))) ?_
              refine RW.op rfl rfl (eff_move (v := .t _) rfl rfl rfl) ?_
              refine RW.op rfl rfl (eff_remE (r := ((q : Nat) : Int)) rfl rfl rfl rfl (by omega) (by rw [tmod_pos (by omega), hq])) ?_
              refine RW.op rfl rfl (eff_indexM rfl rfl te34 rfl rfl rfl (by first | assumption | exact List.getElem?_eq_getElem (by omega)) rfl (by decide)) ?_
              refine RW.op rfl rfl (eff_loadW rfl rfl ti30 rfl rfl rfl) ?_
              refine RW.new rfl rfl (eff_allocK (k := 5) (id := 16) rfl rfl tz30 rfl rfl) ?_
              refine RW.store rfl rfl (eff_storeW (v := .t _) (els := [_]) (els' := [_]) rfl rfl ti30 rfl rfl rfl rfl rfl rfl rfl rfl rfl) ?_
              refine RW.nil ?_
              refine awp_seq ?_
              refine awp_rw rfl ?_
              refine RW.op rfl rfl (eff_move (v := .t _) rfl rfl rfl) ?_
              refine RW.op rfl rfl (eff_assign (v := .t _) rfl rfl rfl) ?_
              refine RW.nil ?_
              refine awp_seq ?_
              refine awp_seq ?_
              refine awp_rw rfl ?_
              refine RW.op rfl rfl (eff_assign (v := .t _) rfl rfl rfl) ?_
              refine RW.nil ?_
              refine awp_block ?_
              refine awp_loopW (fun m s => ∃ (c : Nat), (c ≤ K) ∧ m = K - c ∧ s = ⟨140, [(1, .t (.sl (wh.map encI) false)), (2, .t (encU first)), (7, .ptr 7 0 0 0), (8, .ptr 8 0 0 0), (9, .t (.sl ((frames l 8).map encF) false)), (10, .own 31 gn 0 mr), (11, .t (encI (n : Nat))), (12, .t (encI (i : Nat))), (16, .ptr 16 0 0 0), (17, .t (encU (stepN c first))), (18, .t (encI (c : Nat))), (141, .t deT)], [(7, some ⟨2, 37, 0, [.t (encT T)]⟩), (8, some ⟨5, 62, 0, [.t (encV r)]⟩), (31, some ⟨4, 23, gn, els⟩), (16, some ⟨5, 30, 0, [.t (encF ((frames l 8)[q]'hqn))]⟩)]⟩) (_) (⟨_, weak_keep (n := 140) (fr' := [(1, .t (.sl (wh.map encI) false)), (2, .t (encU first)), (7, .ptr 7 0 0 0), (8, .ptr 8 0 0 0), (9, .t (.sl ((frames l 8).map encF) false)), (10, .own 31 gn 0 mr), (11, .t (encI (n : Nat))), (12, .t (encI (i : Nat))), (16, .ptr 16 0 0 0), (17, .t (encU (stepN 0 first))), (18, .t (encI (0 : Nat))), (141, .t deT)]) (st' := [(7, some ⟨2, 37, 0, [.t (encT T)]⟩), (8, some ⟨5, 62, 0, [.t (encV r)]⟩), (31, some ⟨4, 23, gn, els⟩), (16, some ⟨5, 30, 0, [.t (encF ((frames l 8)[q]'hqn))]⟩)]) ⟨rfl, rfl, rfl, rfl, rfl, rfl, rfl, rfl, rfl, rfl, rfl, rfl, rfl, rfl, rfl, rfl, rfl, rfl, rfl, rfl, rfl, rfl, rfl, rfl, trivial⟩ ⟨rfl, okE_one rfl, rfl, okE_one rfl, rfl, (by rw [he]; exact okE_t), rfl, okE_one rfl, trivial⟩, 0, (by omega), rfl, rfl⟩) ?_
              rintro m s ⟨c, hc, rfl, rfl⟩
              refine awp_seq ?_
              refine awp_seq ?_
              refine awp_rw rfl ?_
              refine RW.op rfl rfl (eff_move (v := .t _) rfl rfl rfl) ?_
              refine RW.op rfl rfl (eff_fieldAddr rfl rfl tf30_1 (by decide) rfl rfl rfl (Nat.le_of_ble_eq_true rfl)) ?_
              refine RW.op rfl rfl (eff_load (y := .t _) rfl rfl ti3 rfl (.one rfl rfl rfl rfl)) ?_
              refine RW.op rfl rfl (eff_iop rfl rfl rfl rfl rfl) ?_
              refine RW.nil ?_
              refine awp_cond rfl (fun h11 => ?_) (fun h11 => ?_)
              · try simp only [decide_eq_true_eq, decide_eq_false_iff_not, beq_iff_eq, bne_iff_ne, bne_eq_false_iff_eq, beq_eq_false_iff_ne, Bool.not_eq_true, Bool.not_eq_false, Bool.not_eq_true', Bool.not_eq_false', ne_eq] at h11
                refine awp_skip ?_
                refine awp_seq ?_
                refine awp_block ?_
                refine awp_rw rfl ?_
                refine RW.op rfl rfl (eff_move (v := .t _) rfl rfl rfl) ?_
                refine RW.op rfl rfl (eff_callT (step34_ret _) co34 rfl rfl rfl rfl) ?_
                refine RW.op rfl rfl (eff_assign (v := .t _) rfl rfl rfl) ?_
                refine RW.nil ?_
                refine awp_rw rfl ?_
                refine RW.op rfl rfl (eff_move (v := .t _) rfl rfl rfl) ?_
                refine RW.op rfl rfl (eff_iop rfl rfl rfl rfl (iadd (by omega))) ?_
                refine RW.op rfl rfl (eff_assign (v := .t _) rfl rfl rfl) ?_
                refine RW.nil ?_
                refine ⟨_, ?_, _, weak_keep (n := 140) (fr' := [(1, .t (.sl (wh.map encI) false)), (2, .t (encU first)), (7, .ptr 7 0 0 0), (8, .ptr 8 0 0 0), (9, .t (.sl ((frames l 8).map encF) false)), (10, .own 31 gn 0 mr), (11, .t (encI (n : Nat))), (12, .t (encI (i : Nat))), (16, .ptr 16 0 0 0), (17, .t (encU (stepN (c + 1) first))), (18, .t (encI ((c + 1) : Nat))), (141, .t deT)]) (st' := [(7, some ⟨2, 37, 0, [.t (encT T)]⟩), (8, some ⟨5, 62, 0, [.t (encV r)]⟩), (31, some ⟨4, 23, gn, els⟩), (16, some ⟨5, 30, 0, [.t (encF ((frames l 8)[q]'hqn))]⟩)]) ⟨rfl, rfl, rfl, rfl, rfl, rfl, rfl, rfl, rfl, rfl, rfl, rfl, rfl, rfl, rfl, rfl, rfl, rfl, rfl, rfl, rfl, rfl, rfl, rfl, trivial⟩ ⟨rfl, okE_one rfl, rfl, okE_one rfl, rfl, (by rw [he]; exact okE_t), rfl, okE_one rfl, trivial⟩, c + 1, (by omega), rfl, rfl⟩
                omega
              · try simp only [decide_eq_true_eq, decide_eq_false_iff_not, beq_iff_eq, bne_iff_ne, bne_eq_false_iff_eq, beq_eq_false_iff_ne, Bool.not_eq_true, Bool.not_eq_false, Bool.not_eq_true', Bool.not_eq_false', ne_eq] at h11
                refine awp_exit ?_
                refine awp_seq ?_
                refine awp_rw rfl ?_
                obtain rfl : c = K := by omega
                refine RW.op rfl rfl (eff_move (v := .t _) rfl rfl rfl) ?_
                refine RW.op rfl rfl (eff_load rfl rfl ti30 rfl (.whole rfl rfl rfl rfl rfl rfl)) ?_
                refine RW.op rfl rfl (eff_callT (signed_ret ((frames l 8)[q]'hqn) (by rw [hbd0]; exact Nat.zero_le _)) co36 rfl rfl rfl rfl) ?_
                refine RW.op rfl rfl (eff_callT ((show Ret Tryd.prog 35 [encU (stepN c first), .sl ((signedF ((frames l 8)[q]'hqn)).map encBy) false] (encU (sgn first ((frames l 8)[q]'hqn)).tag) from by rw [sgn_tag, hKt]; exact tag35_ret (stepN c first) (signedF ((frames l 8)[q]'hqn)) (signedF_byt (by rw [hbd0]; exact byt0)) (by have := signedF_len ((frames l 8)[q]'hqn) (by rw [hbd0]; exact Nat.zero_le _); rw [hbd0] at this; simp at this; omega))) co35 rfl rfl rfl rfl) ?_
                refine RW.op rfl rfl (eff_fieldAddr rfl rfl tf30_4 (by decide) rfl rfl rfl (Nat.le_of_ble_eq_true rfl)) ?_
                refine RW.store rfl rfl (eff_storeS (v := .t _) (ys := [_, _, _, _, _]) (els := [_]) (els' := [_]) rfl rfl ti28 rfl rfl rfl rfl rfl rfl rfl (Nat.le_of_ble_eq_true rfl) rfl rfl) ?_
                refine RW.nil ?_
                refine awp_seq ?_
                refine awp_rw rfl ?_
                have hrc := hg.recv (by decide) (by omega) hqm hqn
                refine RW.op rfl rfl (eff_load rfl rfl ti62 rfl (.whole rfl rfl rfl rfl rfl rfl)) ?_
                refine RW.op rfl rfl (eff_load rfl rfl ti30 rfl (.whole rfl rfl rfl rfl rfl rfl)) ?_
                refine RW.op rfl rfl (eff_callT (receive_ret r (sgn first ((frames l 8)[q]'hqn)) (hg.rg.rb (by omega)) (by rw [sgn_key]; omega) (by rw [sgn_body, hbd0]; exact byt0) (by rw [sgn_body, hbd0]; exact Nat.zero_le _)) co37 rfl rfl rfl rfl) ?_
                refine RW.op rfl rfl (eff_move (v := .t _) rfl rfl rfl) ?_
                refine RW.op rfl rfl (eff_extract rfl rfl rfl rfl) ?_
                refine RW.op rfl rfl (eff_extract rfl rfl rfl rfl) ?_
                refine RW.op rfl rfl (eff_extract rfl rfl rfl rfl) ?_
                refine RW.new rfl rfl (eff_allocK (k := 5) (id := 19) rfl rfl tz62 rfl rfl) ?_
                refine RW.store rfl rfl (eff_storeW (v := .t _) (els := [_]) (els' := [_]) rfl rfl ti62 rfl rfl rfl rfl rfl rfl rfl rfl rfl) ?_
                refine RW.op rfl rfl (eff_assign (v := .t _) rfl rfl rfl) ?_
                refine RW.op rfl rfl (eff_assign (v := .t _) rfl rfl rfl) ?_
                refine RW.nil ?_
                refine awp_seq ?_
                refine awp_rw rfl ?_
                refine RW.op rfl rfl (eff_load rfl rfl ti62 rfl (.whole rfl rfl rfl rfl rfl rfl)) ?_
                refine RW.store rfl rfl (eff_storeW (v := .t _) (els := [_]) (els' := [_]) rfl rfl ti62 rfl rfl rfl rfl rfl rfl rfl rfl rfl) ?_
                refine RW.nil ?_
                refine awp_rw rfl ?_
                refine RW.op rfl rfl (eff_move (v := .own _ _ _ _) rfl rfl rfl) ?_
                refine RW.op rfl rfl (eff_load rfl rfl ti62 rfl (.whole rfl rfl rfl rfl rfl rfl)) ?_
                refine RW.op rfl rfl (eff_callT (hrc.1.rg.st (by omega)) co38 rfl rfl rfl rfl) ?_
                refine RW.new rfl rfl (eff_buildSliceL (id := 132) (els := [.t (.agg [_, _, _, _])]) rfl rfl te35 tz23 rfl (by decide) (by decide) rfl rfl rfl rfl) ?_
                refine RW.new rfl rfl (eff_append (id := 31) (ys := [_]) rfl rfl ta35 rfl rfl rfl (by rw [he, hm]; simp) rfl rfl (srcOwn rfl rfl rfl rfl rfl rfl) (by simp) (by simp; omega) (by simp; omega)) ?_
                refine RW.op rfl rfl (eff_assign (v := .own _ _ _ _) rfl rfl rfl) ?_
                refine RW.nil ?_
                show ∃ (T' : Twn) (r' : Rcv) (rs' : List Rep) (n' m' g' : Nat) (els' : List AV), _
                exact ⟨T, _, _, n, mr + 1, _, _, hn, hrc.1, hr.recv (by decide) hg hrc.1 hrc.2.1, by simp [hm], by rw [rs_snoc, ← he]; rfl, weak_keep (n := 140) ⟨rfl, rfl, rfl, rfl, rfl, rfl, rfl, rfl, rfl, rfl, rfl, rfl, rfl, rfl, rfl, rfl, rfl, rfl, trivial⟩ ⟨rfl, okE_one rfl, rfl, okE_one rfl, rfl, (by first | exact okE_one rfl | (rw [he]; exact okE_t) | (rw [he]; intro x hx; simp only [List.mem_append, List.mem_map, List.mem_singleton] at hx; rcases hx with ⟨y, _, rfl⟩ | rfl <;> rfl)), trivial⟩⟩
            · try simp only [decide_eq_true_eq, decide_eq_false_iff_not, beq_iff_eq, bne_iff_ne, bne_eq_false_iff_eq, beq_eq_false_iff_ne, Bool.not_eq_true, Bool.not_eq_false, Bool.not_eq_true', Bool.not_eq_false', ne_eq] at h10
              refine awp_seq ?_
              refine awp_rd [(some 48, []), (some 49, []), (some 50, []), (some 51, []), (some 52, []), (some 53, []), (some 54, []), (some 55, []), (some 56, []), (some 57, []), (some 47, []), (some 58, []), (some 59, []), (some 22, [22]), (none, [22]), (some 23, [])] [[], [], [], [2], [], [4], [2, 3, 4, 5], [1, 2, 3, 4, 5, 6], [1, 2, 3, 4, 5, 6, 7], [0, 1, 2, 3, 4, 5, 6, 7, 8], [0, 1, 2, 3, 4, 5, 6, 7, 8, 9], [0, 1, 2, 3, 4, 5, 6, 7, 8, 9, 10], [0, 1, 2, 3, 4, 5, 6, 7, 8, 9, 10], [], [0, 1, 2, 3, 4, 5, 6, 7, 8, 9, 10, 11, 13], [0, 1, 2, 3, 4, 5, 6, 7, 8, 9, 10, 11, 12, 13, 14]] tm rfl rfl rfl rfl ?_
              obtain ⟨q2, hq2, hq2m⟩ : ∃ q2 : Nat, (around (wh[i]'hil) 1000000) / 3 % (mr : Int) = (q2 : Int) ∧ q2 < mr := ⟨((around (wh[i]'hil) 1000000) / 3 % (mr : Int)).toNat, by have := Int.emod_nonneg ((around (wh[i]'hil) 1000000) / 3) (show (mr : Int) ≠ 0 by omega); omega, by have := Int.emod_lt_of_pos ((around (wh[i]'hil) 1000000) / 3) (show (0 : Int) < mr by omega); have := Int.emod_nonneg ((around (wh[i]'hil) 1000000) / 3) (show (mr : Int) ≠ 0 by omega); omega⟩
              have hq2n : q2 < rs.length := by omega
              have hhr := hg.hears (by decide) hr (List.getElem_mem hq2n)
              refine RD.op rfl rfl rfl (eff_load rfl rfl ti37 rfl (.whole rfl rfl rfl rfl rfl rfl)) ?_
              refine RD.op rfl rfl rfl (eff_move (v := .own _ _ _ _) rfl rfl rfl) ?_
              refine RD.op rfl rfl rfl (eff_move (v := .t _) rfl rfl rfl) ?_
              refine RD.op rfl rfl rfl (eff_quoE (r := (around (wh[i]'hil) 1000000) / 3) rfl rfl rfl rfl (by decide) (quoN (by omega) (by decide))) ?_
              refine RD.op rfl rfl rfl (eff_move (v := .own _ _ _ _) rfl rfl rfl) ?_
              refine RD.op rfl rfl rfl (eff_len rfl rfl te35 rfl rfl rfl) ?_
              refine RD.op rfl rfl rfl (eff_remE (r := ((q2 : Nat) : Int)) rfl rfl rfl rfl (by omega) (by rw [tmod_pos (by omega), hq2])) ?_
              refine RD.op rfl rfl rfl (eff_indexAddr rfl rfl te35 rfl rfl rfl rfl rfl rfl (by omega)) ?_
              refine RD.op rfl rfl rfl (eff_load (y := .t (encR (rs[q2]'hq2n))) rfl rfl ti23 rfl (.whole rfl rfl (by rw [Nat.zero_add, he]; exact elR2 hq2n) rfl rfl rfl)) ?_
              refine RD.op rfl rfl rfl (eff_callXT (thear_ret T (rs[q2]'hq2n) (hr.ok _ (List.getElem_mem hq2n)).1 (by omega) (by omega) hg6) co22 rfl rfl rfl ⟨rfl, trivial⟩ rfl) ?_
              refine RD.op rfl rfl rfl (eff_move (v := .t _) rfl rfl rfl) ?_
              refine RD.op rfl rfl rfl (eff_extract rfl rfl rfl rfl) ?_
              refine RD.op rfl rfl rfl (eff_extract rfl rfl rfl rfl) ?_
              refine RD.new rfl rfl rfl (eff_allocK (k := 2) (id := 22) rfl rfl tz37 rfl rfl) ?_
              refine RD.store rfl rfl rfl (eff_storeW (v := .t _) (els := [_]) (els' := [_]) rfl rfl ti37 rfl rfl rfl rfl rfl rfl rfl rfl rfl) ?_
              refine RD.op rfl rfl rfl (eff_assign (v := .t _) rfl rfl rfl) ?_
              refine RD.nil ?_
              refine awp_seq ?_
              refine awp_seq ?_
              refine awp_rw rfl ?_
              refine RW.op rfl rfl (eff_move (v := .t _) rfl rfl rfl) ?_
              refine RW.op rfl rfl (eff_iop (r := .bool false) rfl rfl rfl rfl (by simp [iop, hhr.1])) ?_
              refine RW.nil ?_
              refine awp_cond rfl (fun h => nomatch h) (fun _ => ?_)
              refine awp_skip ?_
              refine awp_rw rfl ?_
              refine RW.op rfl rfl (eff_load rfl rfl ti37 rfl (.whole rfl rfl rfl rfl rfl rfl)) ?_
              refine RW.store rfl rfl (eff_storeW (v := .t _) (els := [_]) (els' := [_]) rfl rfl ti37 rfl rfl rfl rfl rfl rfl rfl rfl rfl) ?_
              refine RW.nil ?_
              show ∃ (T' : Twn) (r' : Rcv) (rs' : List Rep) (n' m' g' : Nat) (els' : List AV), _
              exact ⟨_, r, rs, n, mr, _, els, hn, hhr.2.mono (by omega), (hr.hears hhr.1).mono (by omega), hm, he, weak_keep (n := 140) ⟨rfl, rfl, rfl, rfl, rfl, rfl, rfl, rfl, rfl, rfl, rfl, rfl, rfl, rfl, rfl, rfl, rfl, rfl, trivial⟩ ⟨rfl, okE_one rfl, rfl, okE_one rfl, rfl, (by first | exact okE_one rfl | (rw [he]; exact okE_t) | (rw [he]; intro x hx; simp only [List.mem_append, List.mem_map, List.mem_singleton] at hx; rcases hx with ⟨y, _, rfl⟩ | rfl <;> rfl)), trivial⟩⟩
          · try simp only [decide_eq_true_eq, decide_eq_false_iff_not, beq_iff_eq, bne_iff_ne, bne_eq_false_iff_eq, beq_eq_false_iff_ne, Bool.not_eq_true, Bool.not_eq_false, Bool.not_eq_true', Bool.not_eq_false', ne_eq] at h9
            refine RW.gskip rfl rfl rfl rfl rfl (by decide) ?_
            refine RW.gskip rfl rfl rfl rfl rfl (by decide) ?_
            refine RW.op rfl rfl (eff_pick (v := .t _) rfl rfl rfl rfl) ?_
            refine RW.op rfl rfl (eff_assign (v := .t _) rfl rfl rfl) ?_
            refine RW.nil ?_
            refine awp_cond rfl (fun h => nomatch h) (fun _ => ?_)
            refine awp_seq ?_
            refine awp_rd [(some 48, []), (some 49, []), (some 50, []), (some 51, []), (some 52, []), (some 53, []), (some 54, []), (some 55, []), (some 56, []), (some 57, []), (some 47, []), (some 58, []), (some 59, []), (some 22, [22]), (none, [22]), (some 23, [])] [[], [], [], [2], [], [4], [2, 3, 4, 5], [1, 2, 3, 4, 5, 6], [1, 2, 3, 4, 5, 6, 7], [0, 1, 2, 3, 4, 5, 6, 7, 8], [0, 1, 2, 3, 4, 5, 6, 7, 8, 9], [0, 1, 2, 3, 4, 5, 6, 7, 8, 9, 10], [0, 1, 2, 3, 4, 5, 6, 7, 8, 9, 10], [], [0, 1, 2, 3, 4, 5, 6, 7, 8, 9, 10, 11, 13], [0, 1, 2, 3, 4, 5, 6, 7, 8, 9, 10, 11, 12, 13, 14]] tm rfl rfl rfl rfl ?_
            obtain ⟨q2, hq2, hq2m⟩ : ∃ q2 : Nat, (around (wh[i]'hil) 1000000) / 3 % (mr : Int) = (q2 : Int) ∧ q2 < mr := ⟨((around (wh[i]'hil) 1000000) / 3 % (mr : Int)).toNat, by have := Int.emod_nonneg ((around (wh[i]'hil) 1000000) / 3) (show (mr : Int) ≠ 0 by omega); omega, by have := Int.emod_lt_of_pos ((around (wh[i]'hil) 1000000) / 3) (show (0 : Int) < mr by omega); have := Int.emod_nonneg ((around (wh[i]'hil) 1000000) / 3) (show (mr : Int) ≠ 0 by omega); omega⟩
            have hq2n : q2 < rs.length := by omega
            have hhr := hg.hears (by decide) hr (List.getElem_mem hq2n)
            refine RD.op rfl rfl rfl (eff_load rfl rfl ti37 rfl (.whole rfl rfl rfl rfl rfl rfl)) ?_
            refine RD.op rfl rfl rfl (eff_move (v := .own _ _ _ _) rfl rfl rfl) ?_
            refine RD.op rfl rfl rfl (eff_move (v := .t _) rfl rfl rfl) ?_
            refine RD.op rfl rfl rfl (eff_quoE (r := (around (wh[i]'hil) 1000000) / 3) rfl rfl rfl rfl (by decide) (quoN (by omega) (by decide))) ?_
            refine RD.op rfl rfl rfl (eff_move (v := .own _ _ _ _) rfl rfl rfl) ?_
            refine RD.op rfl rfl rfl (eff_len rfl rfl te35 rfl rfl rfl) ?_
            refine RD.op rfl rfl rfl (eff_remE (r := ((q2 : Nat) : Int)) rfl rfl rfl rfl (by omega) (by rw [tmod_pos (by omega), hq2])) ?_
            refine RD.op rfl rfl rfl (eff_indexAddr rfl rfl te35 rfl rfl rfl rfl rfl rfl (by omega)) ?_
            refine RD.op rfl rfl rfl (eff_load (y := .t (encR (rs[q2]'hq2n))) rfl rfl ti23 rfl (.whole rfl rfl (by rw [Nat.zero_add, he]; exact elR2 hq2n) rfl rfl rfl)) ?_
            refine RD.op rfl rfl rfl (eff_callXT (thear_ret T (rs[q2]'hq2n) (hr.ok _ (List.getElem_mem hq2n)).1 (by omega) (by omega) hg6) co22 rfl rfl rfl ⟨rfl, trivial⟩ rfl) ?_
            refine RD.op rfl rfl rfl (eff_move (v := .t _) rfl rfl rfl) ?_
            refine RD.op rfl rfl rfl (eff_extract rfl rfl rfl rfl) ?_
            refine RD.op rfl rfl rfl (eff_extract rfl rfl rfl rfl) ?_
            refine RD.new rfl rfl rfl (eff_allocK (k := 2) (id := 22) rfl rfl tz37 rfl rfl) ?_
            refine RD.store rfl rfl rfl (eff_storeW (v := .t _) (els := [_]) (els' := [_]) rfl rfl ti37 rfl rfl rfl rfl rfl rfl rfl rfl rfl) ?_
            refine RD.op rfl rfl rfl (eff_assign (v := .t _) rfl rfl rfl) ?_
            refine RD.nil ?_
            refine awp_seq ?_
            refine awp_seq ?_
            refine awp_rw rfl ?_
            refine RW.op rfl rfl (eff_move (v := .t _) rfl rfl rfl) ?_
            refine RW.op rfl rfl (eff_iop (r := .bool false) rfl rfl rfl rfl (by simp [iop, hhr.1])) ?_
            refine RW.nil ?_
            refine awp_cond rfl (fun h => nomatch h) (fun _ => ?_)
            refine awp_skip ?_
            refine awp_rw rfl ?_
            refine RW.op rfl rfl (eff_load rfl rfl ti37 rfl (.whole rfl rfl rfl rfl rfl rfl)) ?_
            refine RW.store rfl rfl (eff_storeW (v := .t _) (els := [_]) (els' := [_]) rfl rfl ti37 rfl rfl rfl rfl rfl rfl rfl rfl rfl) ?_
            refine RW.nil ?_
            show ∃ (T' : Twn) (r' : Rcv) (rs' : List Rep) (n' m' g' : Nat) (els' : List AV), _
            exact ⟨_, r, rs, n, mr, _, els, hn, hhr.2.mono (by omega), (hr.hears hhr.1).mono (by omega), hm, he, weak_keep (n := 140) ⟨rfl, rfl, rfl, rfl, rfl, rfl, rfl, rfl, rfl, rfl, rfl, rfl, rfl, rfl, rfl, rfl, rfl, rfl, trivial⟩ ⟨rfl, okE_one rfl, rfl, okE_one rfl, rfl, (by first | exact okE_one rfl | (rw [he]; exact okE_t) | (rw [he]; intro x hx; simp only [List.mem_append, List.mem_map, List.mem_singleton] at hx; rcases hx with ⟨y, _, rfl⟩ | rfl <;> rfl)), trivial⟩⟩
      · rintro s1 ⟨T', r', rs', n', m', g', els', hn', hg', hr', hm', he', hw⟩
        refine awp_weak hw ?_
        have hgl' := hg'.good.len
        refine awp_seq ?_
        refine awp_rd [(some 134, []), (some 135, []), (some 136, []), (some 137, []), (some 138, [])] [[], [], [1], [0, 1, 2], [0, 1, 2, 3]] tm rfl rfl rfl rfl ?_
        refine RD.op rfl rfl rfl (eff_load rfl rfl ti37 rfl (.whole rfl rfl rfl rfl rfl rfl)) ?_
        refine RD.op rfl rfl rfl (eff_load rfl rfl ti62 rfl (.whole rfl rfl rfl rfl rfl rfl)) ?_
        refine RD.op rfl rfl rfl (eff_callT (hg'.rg.st (by omega)) co38 rfl rfl rfl rfl) ?_
        refine RD.op rfl rfl rfl (eff_callT (tcontains_mem T' (stateR r') (by omega) hg'.inv.mem) co29 rfl rfl rfl rfl) ?_
        refine RD.op rfl rfl rfl (eff_unop rfl rfl rfl rfl) ?_
        refine RD.nil ?_
        refine awp_cond rfl (fun h => nomatch h) (fun _ => ?_)
        refine awp_skip ?_
        refine awp_rw rfl ?_
        refine RW.op rfl rfl (eff_move (v := .t _) rfl rfl rfl) ?_
        refine RW.op rfl rfl (eff_iop rfl rfl rfl rfl (iadd (by omega))) ?_
        refine RW.op rfl rfl (eff_assign (v := .t _) rfl rfl rfl) ?_
        refine RW.nil ?_
        refine ⟨_, ?_, _, weak_keep (n := 140) (fr' := [(1, .t (.sl (wh.map encI) false)), (2, .t (encU first)), (7, .ptr 7 0 0 0), (8, .ptr 8 0 0 0), (9, .t (.sl ((frames l 8).map encF) false)), (10, .own 31 _ 0 _), (11, .t (encI (_ : Nat))), (12, .t (encI ((i + 1) : Nat))), (141, .t deT)]) (st' := [(7, some ⟨2, 37, 0, [.t (encT _)]⟩), (8, some ⟨5, 62, 0, [.t (encV _)]⟩), (31, some ⟨4, 23, _, _⟩)]) ⟨rfl, rfl, rfl, rfl, rfl, rfl, rfl, rfl, rfl, rfl, rfl, rfl, rfl, rfl, rfl, rfl, rfl, rfl, trivial⟩ ⟨rfl, okE_one rfl, rfl, okE_one rfl, rfl, (by first | exact okE_one rfl | (rw [he']; exact okE_t)), trivial⟩, i + 1, _, _, _, _, _, _, _, (by omega), (by omega), (by exact hn'), (by exact hg'), (by exact hr'), (by exact hm'), (by exact he'), rfl, rfl⟩
        omega
    · try simp only [decide_eq_true_eq, decide_eq_false_iff_not, beq_iff_eq, bne_iff_ne, bne_eq_false_iff_eq, beq_eq_false_iff_ne, Bool.not_eq_true, Bool.not_eq_false, Bool.not_eq_true', Bool.not_eq_false', ne_eq] at h2
      refine awp_exit ?_
      refine awp_seq ?_
      refine awp_rw rfl ?_
      refine RW.op rfl rfl (eff_callXT (lives_ret) co16 rfl rfl rfl ⟨rfl, trivial⟩ rfl) ?_
      refine RW.op rfl rfl (eff_assign (v := .t _) rfl rfl rfl) ?_
      refine RW.nil ?_
      refine awp_ret ?_
      exact ⟨Or.inr rfl, [_], ⟨.tmp (.t _), trivial⟩, .refl _⟩
  · try simp only [decide_eq_true_eq, decide_eq_false_iff_not, beq_iff_eq, bne_iff_ne, bne_eq_false_iff_eq, beq_eq_false_iff_ne, Bool.not_eq_true, Bool.not_eq_false, Bool.not_eq_true', Bool.not_eq_false', ne_eq] at h1
    refine RW.gskip rfl rfl rfl rfl rfl (by decide) ?_
    refine RW.gskip rfl rfl rfl rfl rfl (by decide) ?_
    refine RW.op rfl rfl (eff_pick (v := .t _) rfl rfl rfl rfl) ?_
    refine RW.nil ?_
    refine awp_cond rfl (fun h => nomatch h) (fun _ => ?_)
    refine awp_exit ?_
    refine awp_seq ?_
    refine awp_rw rfl ?_
    refine RW.op rfl rfl (eff_callXT (lives_ret) co16 rfl rfl rfl ⟨rfl, trivial⟩ rfl) ?_
    refine RW.op rfl rfl (eff_assign (v := .t _) rfl rfl rfl) ?_
    refine RW.nil ?_
    refine awp_ret ?_
    exact ⟨Or.inr rfl, [_], ⟨.tmp (.t _), trivial⟩, .refl _⟩

end Go.Tv.C34

end
section
open Go Go.Tv Go.Proofs Go.ChangeShapes Go.WideShapes Go.ChangeAt Go.RowKit
namespace Go.Tv.C34
set_option maxRecDepth 100000

theorem wfI64 {n : Int} (h : (Lit.int .i64 n).wf = true) : I64 n := by
  unfold I64
  simp [Lit.wf, IntKind.min, IntKind.max, IntKind.signed, IntKind.bits] at h; omega
theorem map_of {α : Type} {f : α → Tr} {p : α → Prop} : ∀ {els : List Tr}, (∀ x, x ∈ els → ∃ n, p n ∧ x = f n) → ∃ l : List α, els = l.map f ∧ ∀ n, n ∈ l → p n
  | [], _ => ⟨[], rfl, fun n h => by simp at h⟩
  | x :: els, h => by
    obtain ⟨n, hp, rfl⟩ := h x List.mem_cons_self
    obtain ⟨l, rfl, hl⟩ := map_of (els := els) (fun y hy => h y (List.mem_cons_of_mem _ hy))
    exact ⟨n :: l, rfl, fun m hm => (List.mem_cons.1 hm).elim (fun e => e ▸ hp) (hl m)⟩
theorem rd3 : Reads Tryd.prog 3 1 (fun ts => ∃ n, ts = [encI n] ∧ I64 n) := (reads_int Tryd.underlying3 (by kernel_rfl)).mono (fun ts ⟨n, h, hw⟩ => ⟨n, h, wfI64 hw⟩)
theorem rd26 : Reads Tryd.prog 26 1 (fun ts => ∃ l : List Int, ts = [.sl (l.map encI) false] ∧ l.length ≤ maxLen ∧ ∀ n, n ∈ l → I64 n) :=
  (reads_slice Tryd.underlying26 (by kernel_rfl) (by decide) (.inr rfl) rd3 (g := false)).mono (by
    rintro ts ⟨els, rfl, hm, h⟩
    obtain ⟨l, rfl, hl⟩ := map_of (f := encI) (p := I64) (fun x hx => by obtain ⟨_, ⟨n, rfl, hn⟩, rfl⟩ := h x hx; exact ⟨n, hn, rfl⟩)
    exact ⟨l, rfl, by simpa using hm, hl⟩)
def laid1 : List (String × DataW Unit) := [("math/bits.deBruijn32tab", Go.Proofs.YtofiemifpgcfhaaDoor.Rows.laid_math_bits_deBruijn32tab), ("math/bits.deBruijn64tab", Go.Proofs.YtofiemifpgcfhaaDoor.Rows.laid_math_bits_deBruijn64tab)]
theorem gDe : Tryd.prog.globalNamed "math/bits.deBruijn64tab" = some 1 := by kernel_rfl
theorem tDe : (Tryd.prog.globals[1]?).map (·.type) = some 119 := by kernel_rfl
theorem door_met (os : Os) (args : Array Value) : laidMetH Tryd.prog laid1 ((World.doorLaid Tryd.prog 400 os).forCall (fun _ _ => 0) ⟨#[], args, []⟩).memory :=
  laidMetH_of_parts3 (fuel := 8) (laidMet_of_run' 8 (by kernel_rfl) (by kernel_rfl)) (by kernel_rfl) (by kernel_rfl)
theorem tabs_of_laid {W : World} (h : laidMetH Tryd.prog laid1 W) : TabOK W (fun _ => False) [(1, deT)] := by
  intro g x hm
  simp only [List.mem_singleton, Prod.mk.injEq] at hm
  obtain ⟨rfl, rfl⟩ := hm
  exact tab_of_laid (l := deB) (k := .u8) h rfl (List.mem_cons_of_mem _ (List.mem_singleton.2 rfl)) (by intro e; cases e) gDe tDe Tryd.underlying119 Tryd.underlying5 (by kernel_rfl)
end Go.Tv.C34

end
section
namespace Go.Proofs.YtofiemifpgcfhaaDoor
open Go Go.Tv Go.Tv.C34 Go.ChangeShapes Go.WideShapes Go.ChangeAt Go.RowKit
set_option linter.unusedVariables false
set_option maxRecDepth 100000
theorem twinTruth_contract (H : Type) (enc : TypeId × Value → H) (W : World) (base : Nat) (args : Array Value) (ds gs : List (DataW H)) (before : List MemPlace)
    (hval : ∀ (j : Nat) t v, Tryd.f11.params[j]? = some t → args[j]? = some v → Value.okWide Tryd.prog W .any base t v)
    (hW : DataW.Whole enc Tryd.prog Tryd.f11.params.toList Rows.twinTruthSpec.vars false W args.toList ds gs before) (hL : laidMetH Tryd.prog laid1 W) :
    Calls Tryd.prog 11 args W fun e W' => ∃ v, e = .returned v ∧ Rows.twinTruthSpec.post enc Tryd.prog Tryd.f11 false true false false W args v W' := by
  have hW' := hW
  obtain ⟨p, q, hA0, hV, rfl, hfz, hnd⟩ := hW
  have hA : DataW.TrodAll enc Tryd.prog W 0 (fun _ => true) true Tryd.f11.params.toList args.toList ds p := hA0
  rw [Tryd.params11] at hA hval
  obtain ⟨v0, vs0, d0, ds0, p0, q0, hargs, rfl, rfl, h0, r0⟩ := trodAll_cons hA
  obtain ⟨v1, vs1, d1, ds1, p1, q1, rfl, rfl, rfl, h1, r1⟩ := trodAll_cons r0
  obtain ⟨v2, vs2, d2, ds2, p2, q2, rfl, rfl, rfl, h2, r2⟩ := trodAll_cons r1
  obtain ⟨rfl, rfl, rfl⟩ := trodAll_nil r2
  obtain rfl : args = #[v0, v1, v2] := by cases args; simp_all
  obtain ⟨rfl, rfl⟩ := trodVars_none hV
  have k0 := hval 0 26 v0 rfl rfl
  have k1 := hval 1 26 v1 rfl rfl
  have k2 := hval 2 28 v2 rfl rfl
  obtain ⟨x0, hx0, l, e0, m0, b0⟩ := arg_slice Tryd.underlying26 rd26 k0 h0
  obtain rfl : x0 = .sl (l.map Go.Tv.C34.encI) false := by simpa using e0
  unfold maxLen at m0
  have n0 : l.length ≤ 9223372036854775807 := by simpa using m0
  obtain ⟨x1, hx1, wh, e1, m1, b1⟩ := arg_slice Tryd.underlying26 rd26 k1 h1
  obtain rfl : x1 = .sl (wh.map Go.Tv.C34.encI) false := by simpa using e1
  unfold maxLen at m1
  have n1 : wh.length ≤ 9223372036854775807 := by simpa using m1
  obtain ⟨first, rfl, wfirst⟩ := arg_int Tryd.underlying28 k2 h2
  refine (law_callsT (law11 l wh first b0 n0 b1 n1) (tabs_of_laid hL) (vl_cons hx0 (vl_cons hx1 (vl_cons (.int _ _) vl_nil)))).mono ?_
  rintro e W' ⟨rfl, hb⟩
  refine ⟨_, rfl, law_post (P := Tryd.prog) (by kernel_rfl) rfl (fun t ht => ?_) rfl Tryd.underlying4 hW' ⟨rfl, rfl, rfl⟩ hb⟩
  rw [Tryd.params11] at ht
  simp only [List.mem_cons, List.not_mem_nil, or_false] at ht
  rcases ht with rfl | rfl | rfl <;> exact ⟨by kernel_rfl, Nat.le_of_ble_eq_true (by kernel_rfl)⟩

theorem twinTruth_lifted (os : Os) (started : os.Started) (H : Type) (enc : TypeId × Value → H) :
    ReturnsInHanded {} Tryd.checked os 11 .any (fun w args => (Rows.twinTruthSpec.pre enc Tryd.prog Tryd.f11 [] false w args ∧ laidMetH Tryd.prog laid1 w) ∧ sizedMet enc Tryd.prog Tryd.f11 (OpenSpec.ofChange Rows.twinTruthSpec) false w args)
      (Rows.twinTruthSpec.post enc Tryd.prog Tryd.f11 false true false false) := by
  refine returnsInHanded_of_change_and (C := Tryd.checked) (X := fun w _ => laidMetH Tryd.prog laid1 w) (fun _ _ _ hh h => h.of_heap hh) (by kernel_rfl) started (by kernel_rfl) Tryd.func11
    (ChangeSpec.witness_shaped (enc := enc) (C := Tryd.checked) (os := os) (X := fun w _ => laidMetH Tryd.prog laid1 w) false (World.doorLaid Tryd.prog 400 os) #[.slice none 0 0, .slice none 0 0, .int .u64 0] 8 rfl (World.shaped_of_RefB (by kernel_rfl) (by kernel_rfl)) (by kernel_rfl) (by kernel_rfl) (by kernel_rfl) (door_met os _)) ?_
  intro W base args ds gs before hval hW _ _ hL _
  exact twinTruth_contract H enc W base args ds gs before hval hW hL

theorem twinTruth_row_holds : Rows.TwinTruthSaid :=
  OpenClaim.holds_of_wide 11 Tryd.f11 rfl rfl rfl rfl rfl rfl rfl ⟨rfl, rfl, rfl, rfl, rfl⟩ rfl rfl rfl rfl rfl (by kernel_rfl) Tryd.func11 (by kernel_rfl)
    (of_decide_eq_true (by kernel_rfl)) (by unfold Func.isWrapper; first | (rw [if_pos (by decide +kernel)]; kernel_rfl) | (rw [if_neg (by decide +kernel)]; exact ⟨rfl, rfl⟩))
    (fun os started H enc _ => twinTruth_lifted os started H enc)

theorem twinTruthCard_holds : Rows.TwinTruthCardSaid :=
  Claim7.holds_tied_plain_at .later [] [.data, .data] true _ false
    twinTruth_row_holds (fun _ h => by cases h) (by kernel_rfl) (fun _ h => by cases h) twinTruth_row_tie rfl ⟨rfl, rfl⟩ (by kernel_rfl) rfl
    (fun f fn hf hfn => by
      obtain rfl : f = 11 := Option.some.inj ((show Tryd.prog.funcNamed "perigee/perigeelaw34.TwinTruth" = some 11 by kernel_rfl).symm.trans hf) |>.symm
      obtain rfl : fn = Tryd.f11 := (Option.some.inj (Tryd.func11.symm.trans hfn)).symm
      exact ⟨by kernel_rfl, fun j t ht => by
        rw [Tryd.params11] at ht
        have hm : t ∈ [26, 26, 28] := by simpa using Array.mem_of_getElem? ht
        have hall : ([26, 26, 28].all fun u => !Tryd.prog.wantsStandIn u) = true := by kernel_rfl
        exact (show Tryd.prog.wantsStandIn t = false by simpa using List.all_eq_true.1 hall t hm)⟩)
    (by kernel_rfl)

end Go.Proofs.YtofiemifpgcfhaaDoor

end
