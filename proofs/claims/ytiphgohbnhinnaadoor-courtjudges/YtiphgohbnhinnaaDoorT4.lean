/- Part of the proof that the laws of this seat return true for every input. No condition. -/
import Derived.Test.YtiphgohbnhinnaaDoorT3
import Derived.Test.YtiphgohbnhinnaaDoorT2
set_option linter.unnecessarySimpa false
set_option linter.unusedVariables false
set_option linter.unusedSimpArgs false
section
open Go Go.Tv Go.Proofs
namespace Go.Tv.C36
set_option maxRecDepth 20000
set_option maxHeartbeats 2000000
set_option linter.unusedSimpArgs false
set_option linter.unusedVariables false
theorem thear_ret (t : Twn) (r : Rep) (hr : HP r) (hl : t.poss.length ≤ 1000) (hs : t.sent.length ≤ 1000) (hb : ∀ x, x ∈ t.sent → x.body.length ≤ 1000000) : RetT Tryd.prog 64 [(1, deT)] [encT t, encR r] (.tup [encT (hear t r).1, encI (hear t r).2]) := by
  refine retT_of_awp Tryd.func64 rfl (Nat.le_of_ble_eq_true rfl) ?_
  refine awp_seq ?_
  refine awp_rw rfl ?_
  refine RW.new rfl rfl (eff_boxK (v := .t _) (k := 2) (id := 2) rfl rfl rfl rfl rfl rfl) ?_
  refine RW.new rfl rfl (eff_boxK (v := .t _) (k := 4) (id := 3) rfl rfl rfl rfl rfl rfl) ?_
  refine RW.new rfl rfl (eff_allocK (k := 2) (id := 4) rfl rfl tz64 rfl rfl) ?_
  refine RW.op rfl rfl (eff_assign (v := .t _) rfl rfl rfl) ?_
  refine RW.nil ?_
  refine awp_seq ?_
  refine awp_rw rfl ?_
  refine RW.op rfl rfl (eff_assign (v := .t _) rfl rfl rfl) ?_
  refine RW.nil ?_
  show AWP _ _ _ _
  refine awp_weak (weak_adopt (d := 6) (id := 6) (k := 5) (ty := 45) rfl rfl) ?_
  refine awp_seq ?_
  refine awp_seq ?_
  refine awp_rw rfl ?_
  refine RW.op rfl rfl (eff_fieldAddr rfl rfl tf64_0 (by decide) rfl rfl rfl (Nat.le_of_ble_eq_true rfl)) ?_
  refine RW.op rfl rfl (eff_load (y := .t _) rfl rfl ti62 rfl (.one rfl rfl rfl rfl)) ?_
  refine RW.op rfl rfl (eff_lenM rfl rfl te62 rfl) ?_
  refine RW.op rfl rfl (eff_move (v := .t _) rfl rfl rfl) ?_
  refine RW.nil ?_
  refine awp_block ?_
  refine awp_loopW (fun m s => ∃ (i : Nat) (gn : Nat) (n : Nat) (els : List AV), (i ≤ t.sent.length) ∧ (n = (open_ (t.sent.take i) r).length) ∧ (els = ((open_ (t.sent.take i) r).map encF).map .t) ∧ m = t.sent.length - i ∧ s = ⟨57, [(2, .ptr 2 0 0 0), (3, .ptr 3 0 0 0), (4, .ptr 4 0 0 0), (6, .own 6 gn 0 n), (14, .t (.sl (t.sent.map encF) false)), (15, .t (encI t.sent.length)), (16, .t (encI (i : Nat))), (58, .t deT)], [(2, some ⟨2, 64, 0, [.t (encT t)]⟩), (3, some ⟨4, 23, 0, [.t (encR r)]⟩), (4, some ⟨2, 64, 0, [.t z64]⟩), (6, some ⟨5, 45, gn, els⟩)]⟩) (_) (⟨_, weak_keep (n := 57) (fr' := [(2, .ptr 2 0 0 0), (3, .ptr 3 0 0 0), (4, .ptr 4 0 0 0), (6, .own 6 0 0 0), (14, .t (.sl (t.sent.map encF) false)), (15, .t (encI t.sent.length)), (16, .t (encI (0 : Nat))), (58, .t deT)]) (st' := [(2, some ⟨2, 64, 0, [.t (encT t)]⟩), (3, some ⟨4, 23, 0, [.t (encR r)]⟩), (4, some ⟨2, 64, 0, [.t z64]⟩), (6, some ⟨5, 45, 0, ([])⟩)]) ⟨rfl, rfl, rfl, rfl, rfl, rfl, rfl, rfl, rfl, rfl, rfl, rfl, rfl, rfl, rfl, rfl, trivial⟩ ⟨rfl, okE_one rfl, rfl, okE_one rfl, rfl, okE_one rfl, rfl, (by first | exact okE_nil | (rw [he]; exact okE_t) | (rw [he]; intro x hx; simp only [List.mem_append, List.mem_map, List.mem_singleton] at hx; rcases hx with ⟨y, _, rfl⟩ | rfl <;> rfl)), trivial⟩, 0, 0, 0, [], (by omega), (by rfl), (by rfl), rfl, rfl⟩) ?_
  rintro m s ⟨i, gn, n, els, hi, hnn, he, rfl, rfl⟩
  have hol : (open_ (t.sent.take i) r).length ≤ t.sent.length := open_len _ _ _
  refine awp_seq ?_
  refine awp_rw rfl ?_
  refine RW.op rfl rfl (eff_iop rfl rfl rfl rfl rfl) ?_
  refine RW.nil ?_
  refine awp_seq ?_
  refine awp_cond rfl (fun h1 => ?_) (fun h1 => ?_)
  · try simp only [cl] at h1
    refine awp_skip ?_
    refine awp_seq ?_
    refine awp_block ?_
    refine awp_seq ?_
    refine awp_rw rfl ?_
    refine RW.op rfl rfl (eff_indexM rfl rfl te62 rfl rfl rfl (by first | assumption | exact List.getElem?_eq_getElem (by omega)) rfl (by decide)) ?_
    refine RW.op rfl rfl (eff_loadW rfl rfl ti45 rfl rfl rfl) ?_
    refine RW.new rfl rfl (eff_allocK (k := 5) (id := 8) rfl rfl tz45 rfl rfl) ?_
    refine RW.store rfl rfl (eff_storeW (v := .t _) (els := [_]) (els' := [_]) rfl rfl ti45 rfl rfl rfl rfl rfl rfl rfl rfl rfl) ?_
    refine RW.nil ?_
    refine awp_seq ?_
    refine awp_rw rfl ?_
    refine RW.op rfl rfl (eff_fieldAddr rfl rfl tf45_1 (by decide) rfl rfl rfl (Nat.le_of_ble_eq_true rfl)) ?_
    refine RW.op rfl rfl (eff_load (y := .t _) rfl rfl ti3 rfl (.one rfl rfl rfl rfl)) ?_
    refine RW.op rfl rfl (eff_fieldAddr rfl rfl tf23_2 (by decide) rfl rfl rfl (Nat.le_of_ble_eq_true rfl)) ?_
    refine RW.op rfl rfl (eff_load (y := .t _) rfl rfl ti3 rfl (.one rfl rfl rfl rfl)) ?_
    refine RW.op rfl rfl (eff_iop rfl rfl rfl rfl rfl) ?_
    refine RW.nil ?_
    refine awp_cond rfl (fun h2 => ?_) (fun h2 => ?_)
    · try simp only [cl] at h2
      refine awp_rw rfl ?_
      refine RW.op rfl rfl (eff_move (v := .own _ _ _ _) rfl rfl rfl) ?_
      refine RW.op rfl rfl (eff_load rfl rfl ti45 rfl (.whole rfl rfl rfl rfl rfl rfl)) ?_
      refine RW.new rfl rfl (eff_buildSliceL (id := 27) (els := [.t (.agg [_, _, _, _, _])]) rfl rfl te62 tz45 rfl (by decide) (by decide) rfl rfl rfl rfl) ?_
      refine RW.new rfl rfl (eff_append (id := 6) (ys := [_]) rfl rfl ta62 rfl rfl rfl (by rw [he, hnn]; simp) rfl rfl (srcOwn rfl rfl rfl rfl rfl rfl) (by simp) (by simp; omega) (by simp; omega)) ?_
      refine RW.op rfl rfl (eff_assign (v := .own _ _ _ _) rfl rfl rfl) ?_
      refine RW.nil ?_
      refine awp_rw rfl ?_
      refine RW.op rfl rfl (eff_iop rfl rfl rfl rfl (iadd (by omega))) ?_
      refine RW.op rfl rfl (eff_move (v := .t _) rfl rfl rfl) ?_
      refine RW.nil ?_
      have hil : i < t.sent.length := by omega
      have ho : open_ (t.sent.take (i + 1)) r = (open_ (t.sent.take i) r) ++ [t.sent[i]'hil] := open_take hil (by omega)
      refine ⟨_, ?_, _, weak_keep (n := 57) (fr' := [(2, .ptr 2 0 0 0), (3, .ptr 3 0 0 0), (4, .ptr 4 0 0 0), (6, .own 6 _ 0 _), (14, .t (.sl (t.sent.map encF) false)), (15, .t (encI t.sent.length)), (16, .t (encI ((i + 1) : Nat))), (58, .t deT)]) (st' := [(2, some ⟨2, 64, 0, [.t (encT t)]⟩), (3, some ⟨4, 23, 0, [.t (encR r)]⟩), (4, some ⟨2, 64, 0, [.t z64]⟩), (6, some ⟨5, 45, _, _⟩)]) ⟨rfl, rfl, rfl, rfl, rfl, rfl, rfl, rfl, rfl, rfl, rfl, rfl, rfl, rfl, rfl, rfl, trivial⟩ ⟨rfl, okE_one rfl, rfl, okE_one rfl, rfl, okE_one rfl, rfl, (by first | exact okE_nil | (rw [he]; exact okE_t) | (rw [he]; intro x hx; simp only [List.mem_append, List.mem_map, List.mem_singleton] at hx; rcases hx with ⟨y, _, rfl⟩ | rfl <;> rfl)), trivial⟩, i + 1, _, _, _, (by omega), (by rw [ho]; simp [hnn]), (by rw [ho]; simp [he] <;> rfl), rfl, rfl⟩
      omega
    · try simp only [cl] at h2
      refine awp_skip ?_
      refine awp_rw rfl ?_
      refine RW.op rfl rfl (eff_iop rfl rfl rfl rfl (iadd (by omega))) ?_
      refine RW.op rfl rfl (eff_move (v := .t _) rfl rfl rfl) ?_
      refine RW.nil ?_
      have hil : i < t.sent.length := by omega
      have ho : open_ (t.sent.take (i + 1)) r = (open_ (t.sent.take i) r) := open_skip hil (by omega)
      refine ⟨_, ?_, _, weak_keep (n := 57) (fr' := [(2, .ptr 2 0 0 0), (3, .ptr 3 0 0 0), (4, .ptr 4 0 0 0), (6, .own 6 _ 0 _), (14, .t (.sl (t.sent.map encF) false)), (15, .t (encI t.sent.length)), (16, .t (encI ((i + 1) : Nat))), (58, .t deT)]) (st' := [(2, some ⟨2, 64, 0, [.t (encT t)]⟩), (3, some ⟨4, 23, 0, [.t (encR r)]⟩), (4, some ⟨2, 64, 0, [.t z64]⟩), (6, some ⟨5, 45, _, _⟩)]) ⟨rfl, rfl, rfl, rfl, rfl, rfl, rfl, rfl, rfl, rfl, rfl, rfl, rfl, rfl, rfl, rfl, trivial⟩ ⟨rfl, okE_one rfl, rfl, okE_one rfl, rfl, okE_one rfl, rfl, (by first | exact okE_nil | (rw [he]; exact okE_t) | (rw [he]; intro x hx; simp only [List.mem_append, List.mem_map, List.mem_singleton] at hx; rcases hx with ⟨y, _, rfl⟩ | rfl <;> rfl)), trivial⟩, i + 1, _, _, _, (by omega), (by rw [ho]; simp [hnn]), (by rw [ho]; simp [he] <;> rfl), rfl, rfl⟩
      omega
  · try simp only [cl] at h1
    refine awp_exit ?_
    refine awp_seq ?_
    have hi2 : i = t.sent.length := by omega
    subst hi2
    rw [List.take_length] at hnn he
    refine awp_weak (weak_frz (n := 57) (fr' := [(2, .ptr 2 0 0 0), (3, .ptr 3 0 0 0), (4, .ptr 4 0 0 0), (6, .t (.sl ((open_ t.sent r).map encF) false)), (58, .t deT)]) (st' := [(2, some ⟨2, 64, 0, [.t (encT t)]⟩), (3, some ⟨4, 23, 0, [.t (encR r)]⟩), (4, some ⟨2, 64, 0, [.t z64]⟩)]) [(6, some ⟨5, 45, gn, els⟩)] ⟨rfl, trivial⟩ ⟨rfl, rfl, rfl, trivial⟩ ⟨wa_eq rfl rfl, wa_eq rfl rfl, wa_eq rfl rfl, .res (Res.ownT (xs := (open_ t.sent r).map encF) rfl rfl he (by rw [hnn]; simp)) (.refl _), wa_eq rfl rfl, trivial⟩ ⟨rfl, okE_one rfl, rfl, okE_one rfl, rfl, okE_one rfl, trivial⟩) ?_
    have hol2 : (open_ t.sent r).length ≤ t.sent.length := List.length_filter_le _ _
    refine awp_rw rfl ?_
    refine RW.op rfl rfl (eff_load rfl rfl ti23 rfl (.whole rfl rfl rfl rfl rfl rfl)) ?_
    refine RW.op rfl rfl (eff_move (v := .t _) rfl rfl rfl) ?_
    refine RW.op rfl rfl (eff_callXT (reach_ret r (open_ t.sent r) hr (by omega)) co75 rfl rfl rfl ⟨rfl, trivial⟩ rfl) ?_
    refine RW.op rfl rfl (eff_assign (v := .t _) rfl rfl rfl) ?_
    refine RW.nil ?_
    refine awp_seq ?_
    refine awp_rw rfl ?_
    refine RW.op rfl rfl (eff_assign (v := .t _) rfl rfl rfl) ?_
    refine RW.nil ?_
    show AWP _ _ _ _
    refine awp_weak (weak_adopt (d := 10) (id := 10) (k := 4) (ty := 23) rfl rfl) ?_
    refine awp_seq ?_
    refine awp_seq ?_
    refine awp_rw rfl ?_
    refine RW.op rfl rfl (eff_fieldAddr rfl rfl tf64_1 (by decide) rfl rfl rfl (Nat.le_of_ble_eq_true rfl)) ?_
    refine RW.op rfl rfl (eff_load (y := .t _) rfl rfl ti33 rfl (.one rfl rfl rfl rfl)) ?_
    refine RW.op rfl rfl (eff_lenM rfl rfl te33 rfl) ?_
    refine RW.op rfl rfl (eff_move (v := .t _) rfl rfl rfl) ?_
    refine RW.nil ?_
    refine awp_block ?_
    refine awp_loopW (fun m s => ∃ (k : Nat) (gm : Nat) (n2 : Nat) (els2 : List AV), (k ≤ t.poss.length) ∧ (n2 = ((t.poss.take k).filter (fun x => decide (x ∈ reachF r (open_ t.sent r)))).length) ∧ (els2 = (((t.poss.take k).filter (fun x => decide (x ∈ reachF r (open_ t.sent r)))).map encR).map .t) ∧ m = t.poss.length - k ∧ s = ⟨57, [(2, .ptr 2 0 0 0), (4, .ptr 4 0 0 0), (9, .t (mset (reachF r (open_ t.sent r)))), (10, .own 10 gm 0 n2), (34, .t (.sl (t.poss.map encR) false)), (35, .t (encI t.poss.length)), (36, .t (encI (k : Nat))), (58, .t deT)], [(2, some ⟨2, 64, 0, [.t (encT t)]⟩), (4, some ⟨2, 64, 0, [.t z64]⟩), (10, some ⟨4, 23, gm, els2⟩)]⟩) (_) (⟨_, weak_keep (n := 57) (fr' := [(2, .ptr 2 0 0 0), (4, .ptr 4 0 0 0), (9, .t (mset (reachF r (open_ t.sent r)))), (10, .own 10 0 0 0), (34, .t (.sl (t.poss.map encR) false)), (35, .t (encI t.poss.length)), (36, .t (encI (0 : Nat))), (58, .t deT)]) (st' := [(2, some ⟨2, 64, 0, [.t (encT t)]⟩), (4, some ⟨2, 64, 0, [.t z64]⟩), (10, some ⟨4, 23, 0, ([])⟩)]) ⟨rfl, rfl, rfl, rfl, rfl, rfl, rfl, rfl, rfl, rfl, rfl, rfl, rfl, rfl, rfl, rfl, trivial⟩ ⟨rfl, okE_one rfl, rfl, okE_one rfl, rfl, (by first | exact okE_nil | (rw [he2]; exact okE_t) | (rw [he2]; intro x hx; simp only [List.mem_append, List.mem_map, List.mem_singleton] at hx; rcases hx with ⟨y, _, rfl⟩ | rfl <;> rfl)), trivial⟩, 0, 0, 0, [], (by omega), (by simp), (by simp), rfl, rfl⟩) ?_
    rintro m s ⟨k, gm, n2, els2, hk, hnn2, he2, rfl, rfl⟩
    have hfl0 : n2 ≤ k := by rw [hnn2]; exact Nat.le_trans (List.length_filter_le _ _) (by simp; omega)
    refine awp_seq ?_
    refine awp_rw rfl ?_
    refine RW.op rfl rfl (eff_iop rfl rfl rfl rfl rfl) ?_
    refine RW.nil ?_
    refine awp_seq ?_
    refine awp_cond rfl (fun h3 => ?_) (fun h3 => ?_)
    · try simp only [cl] at h3
      refine awp_skip ?_
      refine awp_seq ?_
      refine awp_block ?_
      refine awp_seq ?_
      refine awp_rw rfl ?_
      refine RW.op rfl rfl (eff_indexM rfl rfl te33 rfl rfl rfl (by first | assumption | exact List.getElem?_eq_getElem (by omega)) rfl (by decide)) ?_
      refine RW.op rfl rfl (eff_loadW rfl rfl ti23 rfl rfl rfl) ?_
      refine RW.new rfl rfl (eff_allocK (k := 4) (id := 12) rfl rfl tz23 rfl rfl) ?_
      refine RW.store rfl rfl (eff_storeW (v := .t _) (els := [_]) (els' := [_]) rfl rfl ti23 rfl rfl rfl rfl rfl rfl rfl rfl rfl) ?_
      refine RW.nil ?_
      refine awp_seq ?_
      refine awp_rw rfl ?_
      refine RW.op rfl rfl (eff_move (v := .t _) rfl rfl rfl) ?_
      refine RW.op rfl rfl (eff_load rfl rfl ti23 rfl (.whole rfl rfl rfl rfl rfl rfl)) ?_
      refine RW.op rfl rfl (eff_hasS (t.poss[k]'(by omega)) (srt_nodup (srt_reach r _)) Tryd.underlying98 tz4 rfl rfl rfl rfl) ?_
      refine RW.nil ?_
      refine awp_cond rfl (fun h4 => ?_) (fun h4 => ?_)
      · try simp only [cl] at h4
        refine awp_rw rfl ?_
        refine RW.op rfl rfl (eff_move (v := .own _ _ _ _) rfl rfl rfl) ?_
        refine RW.op rfl rfl (eff_load rfl rfl ti23 rfl (.whole rfl rfl rfl rfl rfl rfl)) ?_
        refine RW.new rfl rfl (eff_buildSliceL (id := 45) (els := [.t (.agg [_, _, _, _])]) rfl rfl te33 tz23 rfl (by decide) (by decide) rfl rfl rfl rfl) ?_
        refine RW.new rfl rfl (eff_append (id := 10) (ys := [_]) rfl rfl ta33 rfl rfl rfl (by rw [he2, hnn2]; simp) rfl rfl (srcOwn rfl rfl rfl rfl rfl rfl) (by simp) (by simp; omega) (by simp; omega)) ?_
        refine RW.op rfl rfl (eff_assign (v := .own _ _ _ _) rfl rfl rfl) ?_
        refine RW.nil ?_
        refine awp_rw rfl ?_
        refine RW.op rfl rfl (eff_iop rfl rfl rfl rfl (iadd (by omega))) ?_
        refine RW.op rfl rfl (eff_move (v := .t _) rfl rfl rfl) ?_
        refine RW.nil ?_
        have hft : (t.poss.take (k + 1)).filter (fun x => decide (x ∈ reachF r (open_ t.sent r))) = _ := (left_take (by omega)).trans (congrArg _ (by first | exact if_pos (by assumption) | exact if_neg (by assumption)))
        refine ⟨_, ?_, _, weak_keep (n := 57) (fr' := [(2, .ptr 2 0 0 0), (4, .ptr 4 0 0 0), (9, .t (mset (reachF r (open_ t.sent r)))), (10, .own 10 _ 0 _), (34, .t (.sl (t.poss.map encR) false)), (35, .t (encI t.poss.length)), (36, .t (encI ((k + 1) : Nat))), (58, .t deT)]) (st' := [(2, some ⟨2, 64, 0, [.t (encT t)]⟩), (4, some ⟨2, 64, 0, [.t z64]⟩), (10, some ⟨4, 23, _, _⟩)]) ⟨rfl, rfl, rfl, rfl, rfl, rfl, rfl, rfl, rfl, rfl, rfl, rfl, rfl, rfl, rfl, rfl, trivial⟩ ⟨rfl, okE_one rfl, rfl, okE_one rfl, rfl, (by first | exact okE_nil | (rw [he2]; exact okE_t) | (rw [he2]; intro x hx; simp only [List.mem_append, List.mem_map, List.mem_singleton] at hx; rcases hx with ⟨y, _, rfl⟩ | rfl <;> rfl)), trivial⟩, k + 1, _, _, _, (by omega), (by rw [hft, hnn2]; simp), (by rw [hft, he2]; simp <;> rfl), rfl, rfl⟩
        omega
      · try simp only [cl] at h4
        refine awp_skip ?_
        refine awp_rw rfl ?_
        refine RW.op rfl rfl (eff_iop rfl rfl rfl rfl (iadd (by omega))) ?_
        refine RW.op rfl rfl (eff_move (v := .t _) rfl rfl rfl) ?_
        refine RW.nil ?_
        have hft : (t.poss.take (k + 1)).filter (fun x => decide (x ∈ reachF r (open_ t.sent r))) = _ := (left_take (by omega)).trans (congrArg _ (by first | exact if_pos (by assumption) | exact if_neg (by assumption)))
        refine ⟨_, ?_, _, weak_keep (n := 57) (fr' := [(2, .ptr 2 0 0 0), (4, .ptr 4 0 0 0), (9, .t (mset (reachF r (open_ t.sent r)))), (10, .own 10 _ 0 _), (34, .t (.sl (t.poss.map encR) false)), (35, .t (encI t.poss.length)), (36, .t (encI ((k + 1) : Nat))), (58, .t deT)]) (st' := [(2, some ⟨2, 64, 0, [.t (encT t)]⟩), (4, some ⟨2, 64, 0, [.t z64]⟩), (10, some ⟨4, 23, _, _⟩)]) ⟨rfl, rfl, rfl, rfl, rfl, rfl, rfl, rfl, rfl, rfl, rfl, rfl, rfl, rfl, rfl, rfl, trivial⟩ ⟨rfl, okE_one rfl, rfl, okE_one rfl, rfl, (by first | exact okE_nil | (rw [he2]; exact okE_t) | (rw [he2]; intro x hx; simp only [List.mem_append, List.mem_map, List.mem_singleton] at hx; rcases hx with ⟨y, _, rfl⟩ | rfl <;> rfl)), trivial⟩, k + 1, _, _, _, (by omega), (by rw [hft, hnn2]; simp), (by rw [hft, he2]; simp <;> rfl), rfl, rfl⟩
        omega
    · try simp only [cl] at h3
      refine awp_exit ?_
      refine awp_seq ?_
      refine awp_seq ?_
      refine awp_rw rfl ?_
      refine RW.op rfl rfl (eff_move (v := .own _ _ _ _) rfl rfl rfl) ?_
      refine RW.op rfl rfl (eff_len rfl rfl te33 rfl rfl rfl) ?_
      refine RW.op rfl rfl (eff_iop rfl rfl rfl rfl rfl) ?_
      refine RW.nil ?_
      refine awp_cond rfl (fun h5 => ?_) (fun h5 => ?_)
      · try simp only [cl] at h5
        refine awp_seq ?_
        refine awp_rw rfl ?_
        refine RW.op rfl rfl (eff_buildT (ys := [_, _]) rfl rfl tz64 tg64 rfl) ?_
        refine RW.store rfl rfl (eff_storeW (v := .t _) (els := [_]) (els' := [_]) rfl rfl ti64 rfl rfl rfl rfl rfl rfl rfl rfl rfl) ?_
        refine RW.op rfl rfl (eff_assign (v := .t _) rfl rfl rfl) ?_
        refine RW.nil ?_
        refine awp_ret ?_
        have hk2 : k = t.poss.length := by omega
        subst hk2
        have htl : t.poss.take t.poss.length = t.poss := List.take_length
        have hlf : left_ t r = (t.poss.take t.poss.length).filter (fun x => decide (x ∈ reachF r (open_ t.sent r))) := by rw [htl]; rfl
        first
          | (rw [hear_no (by rw [hlf]; omega)]
             exact ⟨Or.inr rfl, [_, _], ⟨.cell rfl ti64 (.whole rfl rfl rfl rfl rfl rfl) (.t _), .tmp (.t _), trivial⟩, (by repeat' first | exact trivial | exact Wk.refl _ | exact Wk.sl _ | refine And.intro ?_ ?_ | refine Wk.tupP ?_ | refine Wk.aggP ?_)⟩)
          | (rw [hear_ok (by rw [hlf]; omega), hlf]
             exact ⟨Or.inr rfl, [_, _], ⟨.cell rfl ti64 (.whole rfl rfl rfl rfl rfl rfl) (Res.aggP (xs := [_, _]) ⟨.t _, Res.ownT (xs := ((t.poss.take t.poss.length).filter (fun x => decide (x ∈ reachF r (open_ t.sent r)))).map encR) rfl rfl he2 (by rw [hnn2]; simp), trivial⟩), .tmp (.t _), trivial⟩, .refl _⟩)
      · try simp only [cl] at h5
        refine awp_skip ?_
        refine awp_seq ?_
        refine awp_rw rfl ?_
        refine RW.op rfl rfl (eff_fieldAddr rfl rfl tf64_0 (by decide) rfl rfl rfl (Nat.le_of_ble_eq_true rfl)) ?_
        refine RW.op rfl rfl (eff_load (y := .t _) rfl rfl ti62 rfl (.one rfl rfl rfl rfl)) ?_
        refine RW.op rfl rfl (eff_callT (own_ret t.sent (by omega) hb) co72 rfl rfl rfl rfl) ?_
        refine RW.op rfl rfl (eff_move (v := .own _ _ _ _) rfl rfl rfl) ?_
        refine RW.op rfl rfl (eff_buildA (ys := [_, _]) rfl rfl tz64 tg64 rfl rfl) ?_
        refine RW.store rfl rfl (eff_storeW (v := .agg _) (els := [_]) (els' := [_]) rfl rfl ti64 rfl rfl rfl rfl rfl rfl rfl rfl rfl) ?_
        refine RW.op rfl rfl (eff_assign (v := .t _) rfl rfl rfl) ?_
        refine RW.nil ?_
        refine awp_ret ?_
        have hk2 : k = t.poss.length := by omega
        subst hk2
        have htl : t.poss.take t.poss.length = t.poss := List.take_length
        have hlf : left_ t r = (t.poss.take t.poss.length).filter (fun x => decide (x ∈ reachF r (open_ t.sent r))) := by rw [htl]; rfl
        first
          | (rw [hear_no (by rw [hlf]; omega)]
             exact ⟨Or.inr rfl, [_, _], ⟨.cell rfl ti64 (.whole rfl rfl rfl rfl rfl rfl) (.t _), .tmp (.t _), trivial⟩, (by repeat' first | exact trivial | exact Wk.refl _ | exact Wk.sl _ | refine And.intro ?_ ?_ | refine Wk.tupP ?_ | refine Wk.aggP ?_)⟩)
          | (rw [hear_ok (by rw [hlf]; omega), hlf]
             exact ⟨Or.inr rfl, [_, _], ⟨.cell rfl ti64 (.whole rfl rfl rfl rfl rfl rfl) (Res.aggP (xs := [_, _]) ⟨.t _, Res.ownT (xs := ((t.poss.take t.poss.length).filter (fun x => decide (x ∈ reachF r (open_ t.sent r)))).map encR) rfl rfl he2 (by rw [hnn2]; simp), trivial⟩), .tmp (.t _), trivial⟩, .refl _⟩)

end Go.Tv.C36

end
section
open Go Go.Tv Go.Proofs
namespace Go.Tv.C36
set_option maxRecDepth 20000
set_option maxHeartbeats 2000000
set_option linter.unusedSimpArgs false
set_option linter.unusedVariables false
theorem frames_ret (l : List Int) (mo : Nat) (hI : ∀ x, x ∈ l → I64 x) (hl : l.length ≤ 9223372036854775807) (hm : mo ≤ 20) : Ret Tryd.prog 36 [.sl (l.map encI) false, encI (mo : Nat)] (.sl ((frames l mo).map encF) false) := by
  refine ret_of_awp Tryd.func36 rfl (Nat.le_of_ble_eq_true rfl) ?_
  refine awp_seq ?_
  refine awp_rw rfl ?_
  refine RW.op rfl rfl (eff_assign (v := .t _) rfl rfl rfl) ?_
  refine RW.nil ?_
  refine awp_seq ?_
  refine awp_rw rfl ?_
  refine RW.op rfl rfl (eff_assign (v := .t _) rfl rfl rfl) ?_
  refine RW.nil ?_
  show AWP _ _ _ _
  refine awp_weak (weak_adopt (d := 5) (id := 5) (k := 5) (ty := 45) rfl rfl) ?_
  refine awp_seq ?_
  refine awp_rw rfl ?_
  refine RW.op rfl rfl (eff_assign (v := .t _) rfl rfl rfl) ?_
  refine RW.nil ?_
  refine awp_seq ?_
  refine awp_seq ?_
  refine awp_rw rfl ?_
  refine RW.op rfl rfl (eff_assign (v := .t _) rfl rfl rfl) ?_
  refine RW.nil ?_
  refine awp_block ?_
  refine awp_loopW (fun m s => ∃ (i : Nat) (gn : Nat) (n : Nat) (key : Int) (els : List AV), (i ≤ l.length) ∧ (i ≤ mo) ∧ (n = i) ∧ (key = keyAt l i) ∧ (els = (((List.range i).map (frameAt l)).map encF).map .t) ∧ m = l.length - i ∧ s = ⟨59, [(0, .t (.sl (l.map encI) false)), (1, .t (encI (mo : Nat))), (5, .own 5 gn 0 n), (6, .t (encI key)), (7, .t (encI (i : Nat)))], [(5, some ⟨5, 45, gn, els⟩)]⟩) (_) (⟨_, weak_keep (n := 59) (fr' := [(0, .t (.sl (l.map encI) false)), (1, .t (encI (mo : Nat))), (5, .own 5 0 0 0), (6, .t (encI 0)), (7, .t (encI (0 : Nat)))]) (st' := [(5, some ⟨5, 45, 0, ([])⟩)]) ⟨rfl, rfl, rfl, rfl, rfl, rfl, rfl, rfl, rfl, rfl, trivial⟩ ⟨rfl, (by first | exact okE_nil | (rw [he]; exact okE_t) | (rw [he]; intro x hx; simp only [List.mem_append, List.mem_map, List.mem_singleton] at hx; rcases hx with ⟨y, _, rfl⟩ | rfl <;> rfl)), trivial⟩, 0, 0, 0, 0, [], (by omega), (by omega), (by rfl), (by rfl), (by rfl), rfl, rfl⟩) ?_
  rintro m s ⟨i, gn, n, key, els, hi, him, hnn, hky, he, rfl, rfl⟩
  have hkr := keyAt_range l i
  rw [← hky] at hkr
  refine awp_seq ?_
  refine awp_seq ?_
  refine awp_rw rfl ?_
  refine RW.op rfl rfl (eff_move (v := .t _) rfl rfl rfl) ?_
  refine RW.op rfl rfl (eff_move (v := .t _) rfl rfl rfl) ?_
  refine RW.op rfl rfl (eff_lenM rfl rfl te26 rfl) ?_
  refine RW.op rfl rfl (eff_iop rfl rfl rfl rfl rfl) ?_
  refine RW.op rfl rfl (eff_move (v := .t _) rfl rfl rfl) ?_
  refine RW.split 14 rfl (fun h1 => ?_) (fun h1 => ?_)
  · try simp only [cl] at h1
    refine RW.gop rfl rfl rfl rfl rfl rfl (eff_move (v := .t _) rfl rfl rfl) ?_
    refine RW.gop rfl rfl rfl rfl rfl rfl (eff_move (v := .t _) rfl rfl rfl) ?_
    refine RW.gop rfl rfl rfl rfl rfl rfl (eff_iop rfl rfl rfl rfl rfl) ?_
    refine RW.op rfl rfl (eff_pick (v := .t _) rfl rfl rfl rfl) ?_
    refine RW.nil ?_
    refine awp_cond rfl (fun h2 => ?_) (fun h2 => ?_)
    · try simp only [cl] at h2
      refine awp_skip ?_
      refine awp_seq ?_
      refine awp_block ?_
      refine awp_seq ?_
      refine awp_rw rfl ?_
      have hil : i < l.length := by omega
      refine RW.op rfl rfl (eff_move (v := .t _) rfl rfl rfl) ?_
      refine RW.op rfl rfl (eff_move (v := .t _) rfl rfl rfl) ?_
      refine RW.op rfl rfl (eff_indexM rfl rfl te26 rfl rfl rfl (by first | assumption | exact List.getElem?_eq_getElem (by omega)) rfl (by decide)) ?_
      refine RW.op rfl rfl (eff_loadW1 rfl rfl ti3 rfl rfl) ?_
      refine RW.op rfl rfl (eff_callT (around_ret _ _ (hI _ (List.getElem_mem _)) (by omega)) co13 rfl rfl rfl rfl) ?_
      refine RW.op rfl rfl (eff_assign (v := .t _) rfl rfl rfl) ?_
      refine RW.nil ?_
      refine awp_seq ?_
      refine awp_rw rfl ?_
      have har := around_range (n := l[i]'hil) (m := 1000000) (by decide)
      have him2 : 0 ≤ imax 0 ((i : Int) - 3) ∧ imax 0 ((i : Int) - 3) ≤ 20 := by unfold imax; split <;> omega
      refine RW.op rfl rfl (eff_move (v := .t _) rfl rfl rfl) ?_
      refine RW.op rfl rfl (eff_move (v := .t _) rfl rfl rfl) ?_
      refine RW.op rfl rfl (eff_iop rfl rfl rfl rfl (isub (by omega))) ?_
      refine RW.op rfl rfl (eff_max rfl rfl rfl rfl) ?_
      refine RW.op rfl rfl (eff_move (v := .t _) rfl rfl rfl) ?_
      refine RW.op rfl rfl (eff_remE (r := (around (l[i]'hil) 1000000) % 7) rfl rfl rfl rfl (by decide) (tmod_pos (by omega))) ?_
      refine RW.op rfl rfl (eff_iop rfl rfl rfl rfl (iadd (by omega))) ?_
      refine RW.op rfl rfl (eff_buildT (ys := [_, _, _, _, _]) rfl rfl tz45 tg45 rfl) ?_
      refine RW.new rfl rfl (eff_allocK (k := 5) (id := 9) rfl rfl tz45 rfl rfl) ?_
      refine RW.store rfl rfl (eff_storeW (v := .t _) (els := [_]) (els' := [_]) rfl rfl ti45 rfl rfl rfl rfl rfl rfl rfl rfl rfl) ?_
      refine RW.nil ?_
      refine awp_seq ?_
      refine awp_seq ?_
      refine awp_rw rfl ?_
      refine RW.op rfl rfl (eff_move (v := .t _) rfl rfl rfl) ?_
      refine RW.op rfl rfl (eff_quoE (r := (around (l[i]'hil) 1000000) / 7) rfl rfl rfl rfl (by decide) (quoN (by omega) (by decide))) ?_
      refine RW.op rfl rfl (eff_remE (r := ((around (l[i]'hil) 1000000) / 7) % 12) rfl rfl rfl rfl (by decide) (tmod_pos (by omega))) ?_
      refine RW.nil ?_
      refine awp_block ?_
      refine awp_seq ?_
      refine awp_rw rfl ?_
      refine RW.op rfl rfl (eff_iop rfl rfl rfl rfl rfl) ?_
      refine RW.op rfl rfl (eff_assign (v := .t _) rfl rfl rfl) ?_
      refine RW.nil ?_
      refine awp_cond rfl (fun h3 => ?_) (fun h3 => ?_)
      · try simp only [cl] at h3
        refine awp_rw rfl ?_
        refine RW.op rfl rfl (eff_fieldAddr rfl rfl tf45_2 (by decide) rfl rfl rfl (Nat.le_of_ble_eq_true rfl)) ?_
        refine RW.store rfl rfl (eff_storeS (v := .t _) (ys := [_, _, _, _, _]) (els := [_]) (els' := [_]) rfl rfl ti4 rfl rfl rfl rfl rfl rfl rfl (Nat.le_of_ble_eq_true rfl) rfl rfl) ?_
        refine RW.nil ?_
        refine awp_seq ?_
        refine awp_rw rfl ?_
        refine RW.op rfl rfl (eff_move (v := .own _ _ _ _) rfl rfl rfl) ?_
        refine RW.op rfl rfl (eff_load rfl rfl ti45 rfl (.whole rfl rfl rfl rfl rfl rfl)) ?_
        first
          | (have hfr : frameAt l i = ⟨imax 0 ((i : Int) - 3) + (around (l[i]'hil) 1000000) % 7, key, true, [], 0⟩ := by unfold frameAt; rw [getD_get hil, ← hky]; exact frm_0 (by omega)
             refine RW.weak (weak_slot 47 (y := encF ⟨imax 0 ((i : Int) - 3) + (around (l[i]'hil) 1000000) % 7, key, true, [], 0⟩) rfl (by repeat' first | exact trivial | exact Wk.refl _ | exact Wk.sl _ | refine And.intro ?_ ?_ | refine Wk.tupP ?_ | refine Wk.aggP ?_)) rfl ?_)
          | (have hfr : frameAt l i = ⟨(around (l[i]'hil) 1000000) / 84 % 300, key, false, [], 0⟩ := by unfold frameAt; rw [getD_get hil, ← hky]; exact frm_1 (by omega) (by omega)
             refine RW.weak (weak_slot 47 (y := encF ⟨(around (l[i]'hil) 1000000) / 84 % 300, key, false, [], 0⟩) rfl (by repeat' first | exact trivial | exact Wk.refl _ | exact Wk.sl _ | refine And.intro ?_ ?_ | refine Wk.tupP ?_ | refine Wk.aggP ?_)) rfl ?_)
          | (have hfr : frameAt l i = ⟨imax 0 ((i : Int) - 3) + (around (l[i]'hil) 1000000) % 7, key, false, [], 0⟩ := by unfold frameAt; rw [getD_get hil, ← hky]; exact frm_2 (by omega) (by omega)
             refine RW.weak (weak_slot 47 (y := encF ⟨imax 0 ((i : Int) - 3) + (around (l[i]'hil) 1000000) % 7, key, false, [], 0⟩) rfl (by repeat' first | exact trivial | exact Wk.refl _ | exact Wk.sl _ | refine And.intro ?_ ?_ | refine Wk.tupP ?_ | refine Wk.aggP ?_)) rfl ?_)
        refine RW.new rfl rfl (eff_buildSliceL (id := 48) (els := [.t (.agg [_, _, _, _, _])]) rfl rfl te62 tz45 rfl (by decide) (by decide) rfl rfl rfl rfl) ?_
        refine RW.new rfl rfl (eff_append (id := 5) (ys := [_]) rfl rfl ta62 rfl rfl rfl (by rw [he, hnn]; simp) rfl rfl (srcOwn rfl rfl rfl rfl rfl rfl) (by simp) (by simp; omega) (by simp; omega)) ?_
        refine RW.op rfl rfl (eff_assign (v := .own _ _ _ _) rfl rfl rfl) ?_
        refine RW.nil ?_
        refine awp_rw rfl ?_
        refine RW.op rfl rfl (eff_move (v := .t _) rfl rfl rfl) ?_
        refine RW.op rfl rfl (eff_iop rfl rfl rfl rfl (iadd (by omega))) ?_
        refine RW.op rfl rfl (eff_move (v := .t _) rfl rfl rfl) ?_
        refine RW.op rfl rfl (eff_quoE (r := (around (l[i]'hil) 1000000) / 84) rfl rfl rfl rfl (by decide) (quoN (by omega) (by decide))) ?_
        refine RW.op rfl rfl (eff_remE (r := ((around (l[i]'hil) 1000000) / 84) % 40) rfl rfl rfl rfl (by decide) (tmod_pos (by omega))) ?_
        refine RW.op rfl rfl (eff_quoE (r := ((around (l[i]'hil) 1000000) / 84 % 40) / 39) rfl rfl rfl rfl (by decide) (quoN (by omega) (by decide))) ?_
        refine RW.op rfl rfl (eff_iop rfl rfl rfl rfl (imul (by omega))) ?_
        refine RW.op rfl rfl (eff_iop rfl rfl rfl rfl (iadd (by omega))) ?_
        refine RW.op rfl rfl (eff_assign (v := .t _) rfl rfl rfl) ?_
        refine RW.nil ?_
        refine awp_rw rfl ?_
        refine RW.op rfl rfl (eff_move (v := .t _) rfl rfl rfl) ?_
        refine RW.op rfl rfl (eff_iop rfl rfl rfl rfl (iadd (by omega))) ?_
        refine RW.op rfl rfl (eff_assign (v := .t _) rfl rfl rfl) ?_
        refine RW.nil ?_
        have hkn : keyAt l (i + 1) = key + 1 + (around (l[i]'hil) 1000000) / 84 % 40 / 39 * 5000 := by show nxt _ _ = _; rw [getD_get hil, ← hky]; rfl
        refine ⟨_, ?_, _, weak_keep (n := 59) (fr' := [(0, .t (.sl (l.map encI) false)), (1, .t (encI (mo : Nat))), (5, .own 5 _ 0 _), (6, .t (encI _)), (7, .t (encI ((i + 1) : Nat)))]) (st' := [(5, some ⟨5, 45, _, _⟩)]) ⟨rfl, rfl, rfl, rfl, rfl, rfl, rfl, rfl, rfl, rfl, trivial⟩ ⟨rfl, (by first | exact okE_nil | (rw [he]; exact okE_t) | (rw [he]; intro x hx; simp only [List.mem_append, List.mem_map, List.mem_singleton] at hx; rcases hx with ⟨y, _, rfl⟩ | rfl <;> rfl)), trivial⟩, i + 1, _, _, _, _, (by omega), (by omega), (by rw [hnn]; simp), (by exact hkn.symm), (by rw [range_succ, he]; simp only [List.map_append, List.map_cons, List.map_nil]; rw [hfr]; rfl), rfl, rfl⟩
        omega
      · try simp only [cl] at h3
        refine awp_seq ?_
        refine awp_rw rfl ?_
        refine RW.op rfl rfl (eff_iop rfl rfl rfl rfl rfl) ?_
        refine RW.op rfl rfl (eff_assign (v := .t _) rfl rfl rfl) ?_
        refine RW.nil ?_
        refine awp_cond rfl (fun h4 => ?_) (fun h4 => ?_)
        · try simp only [cl] at h4
          refine awp_rw rfl ?_
          refine RW.op rfl rfl (eff_move (v := .t _) rfl rfl rfl) ?_
          refine RW.op rfl rfl (eff_quoE (r := (around (l[i]'hil) 1000000) / 84) rfl rfl rfl rfl (by decide) (quoN (by omega) (by decide))) ?_
          refine RW.op rfl rfl (eff_remE (r := ((around (l[i]'hil) 1000000) / 84) % 300) rfl rfl rfl rfl (by decide) (tmod_pos (by omega))) ?_
          refine RW.op rfl rfl (eff_fieldAddr rfl rfl tf45_0 (by decide) rfl rfl rfl (Nat.le_of_ble_eq_true rfl)) ?_
          refine RW.store rfl rfl (eff_storeS (v := .t _) (ys := [_, _, _, _, _]) (els := [_]) (els' := [_]) rfl rfl ti3 rfl rfl rfl rfl rfl rfl rfl (Nat.le_of_ble_eq_true rfl) rfl rfl) ?_
          refine RW.nil ?_
          refine awp_seq ?_
          refine awp_rw rfl ?_
          refine RW.op rfl rfl (eff_move (v := .own _ _ _ _) rfl rfl rfl) ?_
          refine RW.op rfl rfl (eff_load rfl rfl ti45 rfl (.whole rfl rfl rfl rfl rfl rfl)) ?_
          first
            | (have hfr : frameAt l i = ⟨imax 0 ((i : Int) - 3) + (around (l[i]'hil) 1000000) % 7, key, true, [], 0⟩ := by unfold frameAt; rw [getD_get hil, ← hky]; exact frm_0 (by omega)
               refine RW.weak (weak_slot 47 (y := encF ⟨imax 0 ((i : Int) - 3) + (around (l[i]'hil) 1000000) % 7, key, true, [], 0⟩) rfl (by repeat' first | exact trivial | exact Wk.refl _ | exact Wk.sl _ | refine And.intro ?_ ?_ | refine Wk.tupP ?_ | refine Wk.aggP ?_)) rfl ?_)
            | (have hfr : frameAt l i = ⟨(around (l[i]'hil) 1000000) / 84 % 300, key, false, [], 0⟩ := by unfold frameAt; rw [getD_get hil, ← hky]; exact frm_1 (by omega) (by omega)
               refine RW.weak (weak_slot 47 (y := encF ⟨(around (l[i]'hil) 1000000) / 84 % 300, key, false, [], 0⟩) rfl (by repeat' first | exact trivial | exact Wk.refl _ | exact Wk.sl _ | refine And.intro ?_ ?_ | refine Wk.tupP ?_ | refine Wk.aggP ?_)) rfl ?_)
            | (have hfr : frameAt l i = ⟨imax 0 ((i : Int) - 3) + (around (l[i]'hil) 1000000) % 7, key, false, [], 0⟩ := by unfold frameAt; rw [getD_get hil, ← hky]; exact frm_2 (by omega) (by omega)
               refine RW.weak (weak_slot 47 (y := encF ⟨imax 0 ((i : Int) - 3) + (around (l[i]'hil) 1000000) % 7, key, false, [], 0⟩) rfl (by repeat' first | exact trivial | exact Wk.refl _ | exact Wk.sl _ | refine And.intro ?_ ?_ | refine Wk.tupP ?_ | refine Wk.aggP ?_)) rfl ?_)
          refine RW.new rfl rfl (eff_buildSliceL (id := 48) (els := [.t (.agg [_, _, _, _, _])]) rfl rfl te62 tz45 rfl (by decide) (by decide) rfl rfl rfl rfl) ?_
          refine RW.new rfl rfl (eff_append (id := 5) (ys := [_]) rfl rfl ta62 rfl rfl rfl (by rw [he, hnn]; simp) rfl rfl (srcOwn rfl rfl rfl rfl rfl rfl) (by simp) (by simp; omega) (by simp; omega)) ?_
          refine RW.op rfl rfl (eff_assign (v := .own _ _ _ _) rfl rfl rfl) ?_
          refine RW.nil ?_
          refine awp_rw rfl ?_
          refine RW.op rfl rfl (eff_move (v := .t _) rfl rfl rfl) ?_
          refine RW.op rfl rfl (eff_iop rfl rfl rfl rfl (iadd (by omega))) ?_
          refine RW.op rfl rfl (eff_move (v := .t _) rfl rfl rfl) ?_
          refine RW.op rfl rfl (eff_quoE (r := (around (l[i]'hil) 1000000) / 84) rfl rfl rfl rfl (by decide) (quoN (by omega) (by decide))) ?_
          refine RW.op rfl rfl (eff_remE (r := ((around (l[i]'hil) 1000000) / 84) % 40) rfl rfl rfl rfl (by decide) (tmod_pos (by omega))) ?_
          refine RW.op rfl rfl (eff_quoE (r := ((around (l[i]'hil) 1000000) / 84 % 40) / 39) rfl rfl rfl rfl (by decide) (quoN (by omega) (by decide))) ?_
          refine RW.op rfl rfl (eff_iop rfl rfl rfl rfl (imul (by omega))) ?_
          refine RW.op rfl rfl (eff_iop rfl rfl rfl rfl (iadd (by omega))) ?_
          refine RW.op rfl rfl (eff_assign (v := .t _) rfl rfl rfl) ?_
          refine RW.nil ?_
          refine awp_rw rfl ?_
          refine RW.op rfl rfl (eff_move (v := .t _) rfl rfl rfl) ?_
          refine RW.op rfl rfl (eff_iop rfl rfl rfl rfl (iadd (by omega))) ?_
          refine RW.op rfl rfl (eff_assign (v := .t _) rfl rfl rfl) ?_
          refine RW.nil ?_
          have hkn : keyAt l (i + 1) = key + 1 + (around (l[i]'hil) 1000000) / 84 % 40 / 39 * 5000 := by show nxt _ _ = _; rw [getD_get hil, ← hky]; rfl
          refine ⟨_, ?_, _, weak_keep (n := 59) (fr' := [(0, .t (.sl (l.map encI) false)), (1, .t (encI (mo : Nat))), (5, .own 5 _ 0 _), (6, .t (encI _)), (7, .t (encI ((i + 1) : Nat)))]) (st' := [(5, some ⟨5, 45, _, _⟩)]) ⟨rfl, rfl, rfl, rfl, rfl, rfl, rfl, rfl, rfl, rfl, trivial⟩ ⟨rfl, (by first | exact okE_nil | (rw [he]; exact okE_t) | (rw [he]; intro x hx; simp only [List.mem_append, List.mem_map, List.mem_singleton] at hx; rcases hx with ⟨y, _, rfl⟩ | rfl <;> rfl)), trivial⟩, i + 1, _, _, _, _, (by omega), (by omega), (by rw [hnn]; simp), (by exact hkn.symm), (by rw [range_succ, he]; simp only [List.map_append, List.map_cons, List.map_nil]; rw [hfr]; rfl), rfl, rfl⟩
          omega
        · try simp only [cl] at h4
          refine awp_skip ?_
          refine awp_seq ?_
          refine awp_rw rfl ?_
          refine RW.op rfl rfl (eff_move (v := .own _ _ _ _) rfl rfl rfl) ?_
          refine RW.op rfl rfl (eff_load rfl rfl ti45 rfl (.whole rfl rfl rfl rfl rfl rfl)) ?_
          first
            | (have hfr : frameAt l i = ⟨imax 0 ((i : Int) - 3) + (around (l[i]'hil) 1000000) % 7, key, true, [], 0⟩ := by unfold frameAt; rw [getD_get hil, ← hky]; exact frm_0 (by omega)
               refine RW.weak (weak_slot 47 (y := encF ⟨imax 0 ((i : Int) - 3) + (around (l[i]'hil) 1000000) % 7, key, true, [], 0⟩) rfl (by repeat' first | exact trivial | exact Wk.refl _ | exact Wk.sl _ | refine And.intro ?_ ?_ | refine Wk.tupP ?_ | refine Wk.aggP ?_)) rfl ?_)
            | (have hfr : frameAt l i = ⟨(around (l[i]'hil) 1000000) / 84 % 300, key, false, [], 0⟩ := by unfold frameAt; rw [getD_get hil, ← hky]; exact frm_1 (by omega) (by omega)
               refine RW.weak (weak_slot 47 (y := encF ⟨(around (l[i]'hil) 1000000) / 84 % 300, key, false, [], 0⟩) rfl (by repeat' first | exact trivial | exact Wk.refl _ | exact Wk.sl _ | refine And.intro ?_ ?_ | refine Wk.tupP ?_ | refine Wk.aggP ?_)) rfl ?_)
            | (have hfr : frameAt l i = ⟨imax 0 ((i : Int) - 3) + (around (l[i]'hil) 1000000) % 7, key, false, [], 0⟩ := by unfold frameAt; rw [getD_get hil, ← hky]; exact frm_2 (by omega) (by omega)
               refine RW.weak (weak_slot 47 (y := encF ⟨imax 0 ((i : Int) - 3) + (around (l[i]'hil) 1000000) % 7, key, false, [], 0⟩) rfl (by repeat' first | exact trivial | exact Wk.refl _ | exact Wk.sl _ | refine And.intro ?_ ?_ | refine Wk.tupP ?_ | refine Wk.aggP ?_)) rfl ?_)
          refine RW.new rfl rfl (eff_buildSliceL (id := 48) (els := [.t (.agg [_, _, _, _, _])]) rfl rfl te62 tz45 rfl (by decide) (by decide) rfl rfl rfl rfl) ?_
          refine RW.new rfl rfl (eff_append (id := 5) (ys := [_]) rfl rfl ta62 rfl rfl rfl (by rw [he, hnn]; simp) rfl rfl (srcOwn rfl rfl rfl rfl rfl rfl) (by simp) (by simp; omega) (by simp; omega)) ?_
          refine RW.op rfl rfl (eff_assign (v := .own _ _ _ _) rfl rfl rfl) ?_
          refine RW.nil ?_
          refine awp_rw rfl ?_
          refine RW.op rfl rfl (eff_move (v := .t _) rfl rfl rfl) ?_
          refine RW.op rfl rfl (eff_iop rfl rfl rfl rfl (iadd (by omega))) ?_
          refine RW.op rfl rfl (eff_move (v := .t _) rfl rfl rfl) ?_
          refine RW.op rfl rfl (eff_quoE (r := (around (l[i]'hil) 1000000) / 84) rfl rfl rfl rfl (by decide) (quoN (by omega) (by decide))) ?_
          refine RW.op rfl rfl (eff_remE (r := ((around (l[i]'hil) 1000000) / 84) % 40) rfl rfl rfl rfl (by decide) (tmod_pos (by omega))) ?_
          refine RW.op rfl rfl (eff_quoE (r := ((around (l[i]'hil) 1000000) / 84 % 40) / 39) rfl rfl rfl rfl (by decide) (quoN (by omega) (by decide))) ?_
          refine RW.op rfl rfl (eff_iop rfl rfl rfl rfl (imul (by omega))) ?_
          refine RW.op rfl rfl (eff_iop rfl rfl rfl rfl (iadd (by omega))) ?_
          refine RW.op rfl rfl (eff_assign (v := .t _) rfl rfl rfl) ?_
          refine RW.nil ?_
          refine awp_rw rfl ?_
          refine RW.op rfl rfl (eff_move (v := .t _) rfl rfl rfl) ?_
          refine RW.op rfl rfl (eff_iop rfl rfl rfl rfl (iadd (by omega))) ?_
          refine RW.op rfl rfl (eff_assign (v := .t _) rfl rfl rfl) ?_
          refine RW.nil ?_
          have hkn : keyAt l (i + 1) = key + 1 + (around (l[i]'hil) 1000000) / 84 % 40 / 39 * 5000 := by show nxt _ _ = _; rw [getD_get hil, ← hky]; rfl
          refine ⟨_, ?_, _, weak_keep (n := 59) (fr' := [(0, .t (.sl (l.map encI) false)), (1, .t (encI (mo : Nat))), (5, .own 5 _ 0 _), (6, .t (encI _)), (7, .t (encI ((i + 1) : Nat)))]) (st' := [(5, some ⟨5, 45, _, _⟩)]) ⟨rfl, rfl, rfl, rfl, rfl, rfl, rfl, rfl, rfl, rfl, trivial⟩ ⟨rfl, (by first | exact okE_nil | (rw [he]; exact okE_t) | (rw [he]; intro x hx; simp only [List.mem_append, List.mem_map, List.mem_singleton] at hx; rcases hx with ⟨y, _, rfl⟩ | rfl <;> rfl)), trivial⟩, i + 1, _, _, _, _, (by omega), (by omega), (by rw [hnn]; simp), (by exact hkn.symm), (by rw [range_succ, he]; simp only [List.map_append, List.map_cons, List.map_nil]; rw [hfr]; rfl), rfl, rfl⟩
          omega
    · try simp only [cl] at h2
      refine awp_exit ?_
      refine awp_seq ?_
      refine awp_rw rfl ?_
      refine RW.op rfl rfl (eff_move (v := .own _ _ _ _) rfl rfl rfl) ?_
      refine RW.op rfl rfl (eff_assign (v := .own _ _ _ _) rfl rfl rfl) ?_
      refine RW.nil ?_
      refine awp_ret ?_
      have hmi : i = min l.length mo := by omega
      exact ⟨Or.inr rfl, [_], ⟨.tmp (Res.ownT (xs := (frames l mo).map encF) rfl rfl (by unfold frames; rw [← hmi]; exact he) (by rw [hnn]; simp [frames_len]; omega)), trivial⟩, .refl _⟩
  · try simp only [cl] at h1
    refine RW.gskip rfl rfl rfl rfl rfl (by decide) ?_
    refine RW.gskip rfl rfl rfl rfl rfl (by decide) ?_
    refine RW.gskip rfl rfl rfl rfl rfl (by decide) ?_
    refine RW.op rfl rfl (eff_pick (v := .t _) rfl rfl rfl rfl) ?_
    refine RW.nil ?_
    refine awp_cond rfl (fun h => nomatch h) (fun _ => ?_)
    refine awp_exit ?_
    refine awp_seq ?_
    refine awp_rw rfl ?_
    refine RW.op rfl rfl (eff_move (v := .own _ _ _ _) rfl rfl rfl) ?_
    refine RW.op rfl rfl (eff_assign (v := .own _ _ _ _) rfl rfl rfl) ?_
    refine RW.nil ?_
    refine awp_ret ?_
    have hmi : i = min l.length mo := by omega
    exact ⟨Or.inr rfl, [_], ⟨.tmp (Res.ownT (xs := (frames l mo).map encF) rfl rfl (by unfold frames; rw [← hmi]; exact he) (by rw [hnn]; simp [frames_len]; omega)), trivial⟩, .refl _⟩

end Go.Tv.C36

end
section
open Go Go.Tv Go.Proofs
namespace Go.Tv.C36
set_option maxRecDepth 20000
set_option maxHeartbeats 2000000
set_option linter.unusedSimpArgs false
set_option linter.unusedVariables false
theorem rsent_ret (l : List Rcd) (n : Nat) (hn : n ≤ l.length) (hl : l.length ≤ 1000000) (hq : ∀ r, r ∈ l → 0 ≤ r.frame.seq ∧ r.frame.seq ≤ 1000000) : Ret Tryd.prog 24 [.sl (l.map encC) false, encI (n : Nat)] (encI (sentN (l.take n))) := by
  refine ret_of_awp Tryd.func24 rfl (Nat.le_of_ble_eq_true rfl) ?_
  refine awp_seq ?_
  refine awp_rw rfl ?_
  refine RW.op rfl rfl (eff_assign (v := .t _) rfl rfl rfl) ?_
  refine RW.nil ?_
  refine awp_seq ?_
  refine awp_rw rfl ?_
  refine RW.op rfl rfl (eff_assign (v := .t _) rfl rfl rfl) ?_
  refine RW.nil ?_
  refine awp_seq ?_
  refine awp_seq ?_
  refine awp_rw rfl ?_
  refine RW.op rfl rfl (eff_assign (v := .t _) rfl rfl rfl) ?_
  refine RW.nil ?_
  refine awp_block ?_
  refine awp_loopW (fun m s => ∃ (i : Nat) (v : Int), (i ≤ n) ∧ (v = sentN (l.take i)) ∧ m = n - i ∧ s = ⟨37, [(0, .t (.sl (l.map encC) false)), (1, .t (encI (n : Nat))), (5, .t (encI v)), (6, .t (encI (i : Nat)))], []⟩) (_) (⟨_, weak_keep (n := 37) (fr' := [(0, .t (.sl (l.map encC) false)), (1, .t (encI (n : Nat))), (5, .t (encI 0)), (6, .t (encI (0 : Nat)))]) (st' := []) ⟨rfl, rfl, rfl, rfl, rfl, rfl, rfl, rfl, trivial⟩ trivial, 0, 0, (by omega), (by rfl), rfl, rfl⟩) ?_
  rintro m s ⟨i, v, hi, hv, rfl, rfl⟩
  refine awp_seq ?_
  refine awp_seq ?_
  refine awp_rw rfl ?_
  refine RW.op rfl rfl (eff_move (v := .t _) rfl rfl rfl) ?_
  refine RW.op rfl rfl (eff_move (v := .t _) rfl rfl rfl) ?_
  refine RW.op rfl rfl (eff_iop rfl rfl rfl rfl rfl) ?_
  refine RW.nil ?_
  refine awp_cond rfl (fun h1 => ?_) (fun h1 => ?_)
  · try simp only [cl] at h1
    refine awp_skip ?_
    refine awp_seq ?_
    refine awp_block ?_
    refine awp_seq ?_
    refine awp_rw rfl ?_
    have hil : i < l.length := by omega
    have hvr := sentN_range hq i (by omega)
    rw [← hv] at hvr
    have hqi := hq _ (List.getElem_mem hil)
    refine RW.op rfl rfl (eff_move (v := .t _) rfl rfl rfl) ?_
    refine RW.op rfl rfl (eff_move (v := .t _) rfl rfl rfl) ?_
    refine RW.op rfl rfl (eff_indexM rfl rfl te32 rfl rfl rfl (by first | assumption | exact List.getElem?_eq_getElem (by omega)) rfl (by decide)) ?_
    refine RW.op rfl rfl (eff_fieldAddrT rfl rfl tf47_1 (by decide) rfl) ?_
    refine RW.op rfl rfl (eff_loadT1 rfl rfl ti3 rfl rfl) ?_
    refine RW.op rfl rfl (eff_iop rfl rfl rfl rfl rfl) ?_
    refine RW.op rfl rfl (eff_move (v := .t _) rfl rfl rfl) ?_
    refine RW.split 18 rfl (fun h2 => ?_) (fun h2 => ?_)
    · try simp only [cl] at h2
      refine RW.gop rfl rfl rfl rfl rfl rfl (eff_move (v := .t _) rfl rfl rfl) ?_
      refine RW.gop rfl rfl rfl rfl rfl rfl (eff_move (v := .t _) rfl rfl rfl) ?_
      refine RW.gop rfl rfl rfl rfl rfl rfl (eff_indexM rfl rfl te32 rfl rfl rfl (by first | assumption | exact List.getElem?_eq_getElem (by omega)) rfl (by decide)) ?_
      refine RW.gop rfl rfl rfl rfl rfl rfl (eff_fieldAddrT rfl rfl tf47_2 (by decide) rfl) ?_
      refine RW.gop rfl rfl rfl rfl rfl rfl (eff_fieldAddrT rfl rfl tf45_2 (by decide) rfl) ?_
      refine RW.gop rfl rfl rfl rfl rfl rfl (eff_loadT1 rfl rfl ti4 rfl rfl) ?_
      refine RW.gop rfl rfl rfl rfl rfl rfl (eff_unop rfl rfl rfl rfl) ?_
      refine RW.op rfl rfl (eff_pick (v := .t _) rfl rfl rfl rfl) ?_
      refine RW.nil ?_
      refine awp_cond rfl (fun h3 => ?_) (fun h3 => ?_)
      · try simp only [cl] at h3
        refine awp_rw rfl ?_
        refine RW.op rfl rfl (eff_move (v := .t _) rfl rfl rfl) ?_
        refine RW.op rfl rfl (eff_move (v := .t _) rfl rfl rfl) ?_
        refine RW.op rfl rfl (eff_move (v := .t _) rfl rfl rfl) ?_
        refine RW.op rfl rfl (eff_indexM rfl rfl te32 rfl rfl rfl (by first | assumption | exact List.getElem?_eq_getElem (by omega)) rfl (by decide)) ?_
        refine RW.op rfl rfl (eff_fieldAddrT rfl rfl tf47_2 (by decide) rfl) ?_
        refine RW.op rfl rfl (eff_fieldAddrT rfl rfl tf45_0 (by decide) rfl) ?_
        refine RW.op rfl rfl (eff_loadT1 rfl rfl ti3 rfl rfl) ?_
        refine RW.op rfl rfl (eff_iop rfl rfl rfl rfl (iadd (by omega))) ?_
        refine RW.op rfl rfl (eff_max rfl rfl rfl rfl) ?_
        refine RW.op rfl rfl (eff_assign (v := .t _) rfl rfl rfl) ?_
        refine RW.nil ?_
        refine awp_rw rfl ?_
        refine RW.op rfl rfl (eff_move (v := .t _) rfl rfl rfl) ?_
        refine RW.op rfl rfl (eff_iop rfl rfl rfl rfl (iadd (by omega))) ?_
        refine RW.op rfl rfl (eff_assign (v := .t _) rfl rfl rfl) ?_
        refine RW.nil ?_
        have hst : sentN (l.take (i + 1)) = sentS v l[i] := by rw [sentN_take (by omega), hv]
        refine ⟨_, ?_, _, weak_keep (n := 37) (fr' := [(0, .t (.sl (l.map encC) false)), (1, .t (encI (n : Nat))), (5, .t (encI _)), (6, .t (encI ((i + 1) : Nat)))]) (st' := []) ⟨rfl, rfl, rfl, rfl, rfl, rfl, rfl, rfl, trivial⟩ trivial, i + 1, _, (by omega), (by first | exact (hst.trans (by unfold sentS; rw [if_pos ⟨by assumption, by assumption⟩])).symm | exact (hst.trans (by unfold sentS; rw [if_neg (fun hh => by simp_all)])).symm), rfl, rfl⟩
        omega
      · try simp only [cl] at h3
        refine awp_skip ?_
        refine awp_rw rfl ?_
        refine RW.op rfl rfl (eff_move (v := .t _) rfl rfl rfl) ?_
        refine RW.op rfl rfl (eff_iop rfl rfl rfl rfl (iadd (by omega))) ?_
        refine RW.op rfl rfl (eff_assign (v := .t _) rfl rfl rfl) ?_
        refine RW.nil ?_
        have hst : sentN (l.take (i + 1)) = sentS v l[i] := by rw [sentN_take (by omega), hv]
        refine ⟨_, ?_, _, weak_keep (n := 37) (fr' := [(0, .t (.sl (l.map encC) false)), (1, .t (encI (n : Nat))), (5, .t (encI _)), (6, .t (encI ((i + 1) : Nat)))]) (st' := []) ⟨rfl, rfl, rfl, rfl, rfl, rfl, rfl, rfl, trivial⟩ trivial, i + 1, _, (by omega), (by first | exact (hst.trans (by unfold sentS; rw [if_pos ⟨by assumption, by assumption⟩])).symm | exact (hst.trans (by unfold sentS; rw [if_neg (fun hh => by simp_all)])).symm), rfl, rfl⟩
        omega
    · try simp only [cl] at h2
      refine RW.gskip rfl rfl rfl rfl rfl (by decide) ?_
      refine RW.gskip rfl rfl rfl rfl rfl (by decide) ?_
      refine RW.gskip rfl rfl rfl rfl rfl (by decide) ?_
      refine RW.gskip rfl rfl rfl rfl rfl (by decide) ?_
      refine RW.gskip rfl rfl rfl rfl rfl (by decide) ?_
      refine RW.gskip rfl rfl rfl rfl rfl (by decide) ?_
      refine RW.gskip rfl rfl rfl rfl rfl (by decide) ?_
      refine RW.op rfl rfl (eff_pick (v := .t _) rfl rfl rfl rfl) ?_
      refine RW.nil ?_
      refine awp_cond rfl (fun h => nomatch h) (fun _ => ?_)
      refine awp_skip ?_
      refine awp_rw rfl ?_
      refine RW.op rfl rfl (eff_move (v := .t _) rfl rfl rfl) ?_
      refine RW.op rfl rfl (eff_iop rfl rfl rfl rfl (iadd (by omega))) ?_
      refine RW.op rfl rfl (eff_assign (v := .t _) rfl rfl rfl) ?_
      refine RW.nil ?_
      have hst : sentN (l.take (i + 1)) = sentS v l[i] := by rw [sentN_take (by omega), hv]
      refine ⟨_, ?_, _, weak_keep (n := 37) (fr' := [(0, .t (.sl (l.map encC) false)), (1, .t (encI (n : Nat))), (5, .t (encI _)), (6, .t (encI ((i + 1) : Nat)))]) (st' := []) ⟨rfl, rfl, rfl, rfl, rfl, rfl, rfl, rfl, trivial⟩ trivial, i + 1, _, (by omega), (by first | exact (hst.trans (by unfold sentS; rw [if_pos ⟨by assumption, by assumption⟩])).symm | exact (hst.trans (by unfold sentS; rw [if_neg (fun hh => by simp_all)])).symm), rfl, rfl⟩
      omega
  · try simp only [cl] at h1
    refine awp_exit ?_
    refine awp_seq ?_
    refine awp_rw rfl ?_
    refine RW.op rfl rfl (eff_move (v := .t _) rfl rfl rfl) ?_
    refine RW.op rfl rfl (eff_assign (v := .t _) rfl rfl rfl) ?_
    refine RW.nil ?_
    refine awp_ret ?_
    obtain rfl : i = n := by omega
    rw [← hv]
    exact ⟨Or.inr rfl, [_], ⟨.tmp (.t _), trivial⟩, .refl _⟩

theorem sent_ret (l : List Rcd) (hl : l.length ≤ 1000000) (hq : ∀ r, r ∈ l → 0 ≤ r.frame.seq ∧ r.frame.seq ≤ 1000000) : Ret Tryd.prog 41 [.sl (l.map encC) false] (encI (sentN l)) := by
  refine ret_of_awp Tryd.func41 rfl (Nat.le_of_ble_eq_true rfl) ?_
  refine awp_seq ?_
  refine awp_rw rfl ?_
  refine RW.op rfl rfl (eff_assign (v := .t _) rfl rfl rfl) ?_
  refine RW.nil ?_
  refine awp_seq ?_
  refine awp_rw rfl ?_
  refine RW.op rfl rfl (eff_assign (v := .t _) rfl rfl rfl) ?_
  refine RW.nil ?_
  refine awp_seq ?_
  refine awp_seq ?_
  refine awp_rw rfl ?_
  refine RW.op rfl rfl (eff_move (v := .t _) rfl rfl rfl) ?_
  refine RW.op rfl rfl (eff_lenM rfl rfl te32 rfl) ?_
  refine RW.op rfl rfl (eff_move (v := .t _) rfl rfl rfl) ?_
  refine RW.nil ?_
  refine awp_block ?_
  refine awp_loopW (fun m s => ∃ (i : Nat) (v : Int), (i ≤ l.length) ∧ (v = sentN (l.take i)) ∧ m = l.length - i ∧ s = ⟨29, [(3, .t (encI v)), (6, .t (.sl (l.map encC) false)), (7, .t (encI (l.length : Nat))), (8, .t (encI (i : Nat)))], []⟩) (_) (⟨_, weak_keep (n := 29) (fr' := [(3, .t (encI 0)), (6, .t (.sl (l.map encC) false)), (7, .t (encI (l.length : Nat))), (8, .t (encI (0 : Nat)))]) (st' := []) ⟨rfl, rfl, rfl, rfl, rfl, rfl, rfl, rfl, trivial⟩ trivial, 0, 0, (by omega), (by rfl), rfl, rfl⟩) ?_
  rintro m s ⟨i, v, hi, hv, rfl, rfl⟩
  refine awp_seq ?_
  refine awp_rw rfl ?_
  refine RW.op rfl rfl (eff_iop rfl rfl rfl rfl rfl) ?_
  refine RW.nil ?_
  refine awp_seq ?_
  refine awp_cond rfl (fun h1 => ?_) (fun h1 => ?_)
  · try simp only [cl] at h1
    refine awp_skip ?_
    refine awp_seq ?_
    refine awp_block ?_
    refine awp_seq ?_
    refine awp_rw rfl ?_
    have hil : i < l.length := by omega
    have hvr := sentN_range hq i (by omega)
    rw [← hv] at hvr
    have hqi := hq _ (List.getElem_mem hil)
    refine RW.op rfl rfl (eff_indexM rfl rfl te32 rfl rfl rfl (by first | assumption | exact List.getElem?_eq_getElem (by omega)) rfl (by decide)) ?_
    refine RW.op rfl rfl (eff_loadW rfl rfl ti47 rfl rfl rfl) ?_
    refine RW.new rfl rfl (eff_allocK (k := 15) (id := 5) rfl rfl tz47 rfl rfl) ?_
    refine RW.store rfl rfl (eff_storeW (v := .t _) (els := [_]) (els' := [_]) rfl rfl ti47 rfl rfl rfl rfl rfl rfl rfl rfl rfl) ?_
    refine RW.nil ?_
    refine awp_seq ?_
    refine awp_rw rfl ?_
    refine RW.op rfl rfl (eff_fieldAddr rfl rfl tf47_1 (by decide) rfl rfl rfl (Nat.le_of_ble_eq_true rfl)) ?_
    refine RW.op rfl rfl (eff_load (y := .t _) rfl rfl ti3 rfl (.one rfl rfl rfl rfl)) ?_
    refine RW.op rfl rfl (eff_iop rfl rfl rfl rfl rfl) ?_
    refine RW.op rfl rfl (eff_move (v := .t _) rfl rfl rfl) ?_
    refine RW.split 15 rfl (fun h2 => ?_) (fun h2 => ?_)
    · try simp only [cl] at h2
      refine RW.gop rfl rfl rfl rfl rfl rfl (eff_fieldAddr rfl rfl tf47_2 (by decide) rfl rfl rfl (Nat.le_of_ble_eq_true rfl)) ?_
      refine RW.gop rfl rfl rfl rfl rfl rfl (eff_fieldAddr rfl rfl tf45_2 (by decide) rfl rfl rfl (Nat.le_of_ble_eq_true rfl)) ?_
      refine RW.gop rfl rfl rfl rfl rfl rfl (eff_load (y := .t _) rfl rfl ti4 rfl (.one rfl rfl rfl rfl)) ?_
      refine RW.gop rfl rfl rfl rfl rfl rfl (eff_unop rfl rfl rfl rfl) ?_
      refine RW.op rfl rfl (eff_pick (v := .t _) rfl rfl rfl rfl) ?_
      refine RW.nil ?_
      refine awp_cond rfl (fun h3 => ?_) (fun h3 => ?_)
      · try simp only [cl] at h3
        refine awp_rw rfl ?_
        refine RW.op rfl rfl (eff_move (v := .t _) rfl rfl rfl) ?_
        refine RW.op rfl rfl (eff_fieldAddr rfl rfl tf47_2 (by decide) rfl rfl rfl (Nat.le_of_ble_eq_true rfl)) ?_
        refine RW.op rfl rfl (eff_fieldAddr rfl rfl tf45_0 (by decide) rfl rfl rfl (Nat.le_of_ble_eq_true rfl)) ?_
        refine RW.op rfl rfl (eff_load (y := .t _) rfl rfl ti3 rfl (.one rfl rfl rfl rfl)) ?_
        refine RW.op rfl rfl (eff_iop rfl rfl rfl rfl (iadd (by omega))) ?_
        refine RW.op rfl rfl (eff_max rfl rfl rfl rfl) ?_
        refine RW.op rfl rfl (eff_assign (v := .t _) rfl rfl rfl) ?_
        refine RW.nil ?_
        refine awp_rw rfl ?_
        refine RW.op rfl rfl (eff_iop rfl rfl rfl rfl (iadd (by omega))) ?_
        refine RW.op rfl rfl (eff_move (v := .t _) rfl rfl rfl) ?_
        refine RW.nil ?_
        have hst : sentN (l.take (i + 1)) = sentS v l[i] := by rw [sentN_take (by omega), hv]
        refine ⟨_, ?_, _, weak_keep (n := 29) (fr' := [(3, .t (encI _)), (6, .t (.sl (l.map encC) false)), (7, .t (encI (l.length : Nat))), (8, .t (encI ((i + 1) : Nat)))]) (st' := []) ⟨rfl, rfl, rfl, rfl, rfl, rfl, rfl, rfl, trivial⟩ trivial, i + 1, _, (by omega), (by first | exact (hst.trans (by unfold sentS; rw [if_pos ⟨by assumption, by assumption⟩])).symm | exact (hst.trans (by unfold sentS; rw [if_neg (fun hh => by simp_all)])).symm), rfl, rfl⟩
        omega
      · try simp only [cl] at h3
        refine awp_skip ?_
        refine awp_rw rfl ?_
        refine RW.op rfl rfl (eff_iop rfl rfl rfl rfl (iadd (by omega))) ?_
        refine RW.op rfl rfl (eff_move (v := .t _) rfl rfl rfl) ?_
        refine RW.nil ?_
        have hst : sentN (l.take (i + 1)) = sentS v l[i] := by rw [sentN_take (by omega), hv]
        refine ⟨_, ?_, _, weak_keep (n := 29) (fr' := [(3, .t (encI _)), (6, .t (.sl (l.map encC) false)), (7, .t (encI (l.length : Nat))), (8, .t (encI ((i + 1) : Nat)))]) (st' := []) ⟨rfl, rfl, rfl, rfl, rfl, rfl, rfl, rfl, trivial⟩ trivial, i + 1, _, (by omega), (by first | exact (hst.trans (by unfold sentS; rw [if_pos ⟨by assumption, by assumption⟩])).symm | exact (hst.trans (by unfold sentS; rw [if_neg (fun hh => by simp_all)])).symm), rfl, rfl⟩
        omega
    · try simp only [cl] at h2
      refine RW.gskip rfl rfl rfl rfl rfl (by decide) ?_
      refine RW.gskip rfl rfl rfl rfl rfl (by decide) ?_
      refine RW.gskip rfl rfl rfl rfl rfl (by decide) ?_
      refine RW.gskip rfl rfl rfl rfl rfl (by decide) ?_
      refine RW.op rfl rfl (eff_pick (v := .t _) rfl rfl rfl rfl) ?_
      refine RW.nil ?_
      refine awp_cond rfl (fun h => nomatch h) (fun _ => ?_)
      refine awp_skip ?_
      refine awp_rw rfl ?_
      refine RW.op rfl rfl (eff_iop rfl rfl rfl rfl (iadd (by omega))) ?_
      refine RW.op rfl rfl (eff_move (v := .t _) rfl rfl rfl) ?_
      refine RW.nil ?_
      have hst : sentN (l.take (i + 1)) = sentS v l[i] := by rw [sentN_take (by omega), hv]
      refine ⟨_, ?_, _, weak_keep (n := 29) (fr' := [(3, .t (encI _)), (6, .t (.sl (l.map encC) false)), (7, .t (encI (l.length : Nat))), (8, .t (encI ((i + 1) : Nat)))]) (st' := []) ⟨rfl, rfl, rfl, rfl, rfl, rfl, rfl, rfl, trivial⟩ trivial, i + 1, _, (by omega), (by first | exact (hst.trans (by unfold sentS; rw [if_pos ⟨by assumption, by assumption⟩])).symm | exact (hst.trans (by unfold sentS; rw [if_neg (fun hh => by simp_all)])).symm), rfl, rfl⟩
      omega
  · try simp only [cl] at h1
    refine awp_exit ?_
    refine awp_seq ?_
    refine awp_rw rfl ?_
    refine RW.op rfl rfl (eff_move (v := .t _) rfl rfl rfl) ?_
    refine RW.op rfl rfl (eff_assign (v := .t _) rfl rfl rfl) ?_
    refine RW.nil ?_
    refine awp_ret ?_
    have hi2 : i = l.length := by omega
    subst hi2
    rw [List.take_length] at hv
    rw [← hv]
    exact ⟨Or.inr rfl, [_], ⟨.tmp (.t _), trivial⟩, .refl _⟩

theorem rights_ret (T : Twn) (d : Dec) (n : Int) (hp : ∀ y, y ∈ T.poss → HP y) (hx : ∀ y, y ∈ T.poss → NX 1000000 y) (hd : -2000000 ≤ d.seq ∧ d.seq ≤ 2000000) (hl : T.poss.length ≤ 1000) : Ret Tryd.prog 40 [encT T, encD d, encI n] (.sl ((rights T d n).map encR) false) := by
  refine ret_of_awp Tryd.func40 rfl (Nat.le_of_ble_eq_true rfl) ?_
  refine awp_seq ?_
  refine awp_rw rfl ?_
  refine RW.new rfl rfl (eff_boxK (v := .t _) (k := 2) (id := 3) rfl rfl rfl rfl rfl rfl) ?_
  refine RW.new rfl rfl (eff_boxK (v := .t _) (k := 4) (id := 4) rfl rfl rfl rfl rfl rfl) ?_
  refine RW.op rfl rfl (eff_assign (v := .t _) rfl rfl rfl) ?_
  refine RW.nil ?_
  refine awp_seq ?_
  refine awp_rw rfl ?_
  refine RW.op rfl rfl (eff_assign (v := .t _) rfl rfl rfl) ?_
  refine RW.nil ?_
  show AWP _ _ _ _
  refine awp_weak (weak_adopt (d := 7) (id := 7) (k := 4) (ty := 23) rfl rfl) ?_
  refine awp_seq ?_
  refine awp_seq ?_
  refine awp_rw rfl ?_
  refine RW.op rfl rfl (eff_fieldAddr rfl rfl tf64_1 (by decide) rfl rfl rfl (Nat.le_of_ble_eq_true rfl)) ?_
  refine RW.op rfl rfl (eff_load (y := .t _) rfl rfl ti33 rfl (.one rfl rfl rfl rfl)) ?_
  refine RW.op rfl rfl (eff_lenM rfl rfl te33 rfl) ?_
  refine RW.op rfl rfl (eff_move (v := .t _) rfl rfl rfl) ?_
  refine RW.nil ?_
  refine awp_block ?_
  refine awp_loopW (fun m s => ∃ (i : Nat) (gn : Nat) (m2 : Nat) (els : List AV), (i ≤ T.poss.length) ∧ (m2 = ((T.poss.take i).filter (fun s => rightD d s n)).length) ∧ (els = (((T.poss.take i).filter (fun s => rightD d s n)).map encR).map .t) ∧ m = T.poss.length - i ∧ s = ⟨27, [(2, .t (encI n)), (4, .ptr 4 0 0 0), (7, .own 7 gn 0 m2), (11, .t (.sl (T.poss.map encR) false)), (12, .t (encI (T.poss.length : Nat))), (13, .t (encI (i : Nat)))], [(4, some ⟨4, 28, 0, [.t (encD d)]⟩), (7, some ⟨4, 23, gn, els⟩)]⟩) (_) (⟨_, weak_keep (n := 27) (fr' := [(2, .t (encI n)), (4, .ptr 4 0 0 0), (7, .own 7 0 0 0), (11, .t (.sl (T.poss.map encR) false)), (12, .t (encI (T.poss.length : Nat))), (13, .t (encI (0 : Nat)))]) (st' := [(4, some ⟨4, 28, 0, [.t (encD d)]⟩), (7, some ⟨4, 23, 0, ([])⟩)]) ⟨rfl, rfl, rfl, rfl, rfl, rfl, rfl, rfl, rfl, rfl, rfl, rfl, trivial⟩ ⟨rfl, okE_one rfl, rfl, (by first | exact okE_nil | (rw [he]; exact okE_t) | (rw [he]; intro x hx; simp only [List.mem_append, List.mem_map, List.mem_singleton] at hx; rcases hx with ⟨y, _, rfl⟩ | rfl <;> rfl)), trivial⟩, 0, 0, 0, [], (by omega), (by simp), (by simp), rfl, rfl⟩) ?_
  rintro m s ⟨i, gn, m2, els, hi, hnn, he, rfl, rfl⟩
  have hfl : m2 ≤ i := by rw [hnn]; exact Nat.le_trans (List.length_filter_le _ _) (by simp; omega)
  refine awp_seq ?_
  refine awp_rw rfl ?_
  refine RW.op rfl rfl (eff_iop rfl rfl rfl rfl rfl) ?_
  refine RW.nil ?_
  refine awp_seq ?_
  refine awp_cond rfl (fun h1 => ?_) (fun h1 => ?_)
  · try simp only [cl] at h1
    refine awp_skip ?_
    refine awp_seq ?_
    refine awp_block ?_
    refine awp_seq ?_
    refine awp_rw rfl ?_
    have hil : i < T.poss.length := by omega
    refine RW.op rfl rfl (eff_indexM rfl rfl te33 rfl rfl rfl (by first | assumption | exact List.getElem?_eq_getElem (by omega)) rfl (by decide)) ?_
    refine RW.op rfl rfl (eff_loadW rfl rfl ti23 rfl rfl rfl) ?_
    refine RW.new rfl rfl (eff_allocK (k := 4) (id := 9) rfl rfl tz23 rfl rfl) ?_
    refine RW.store rfl rfl (eff_storeW (v := .t _) (els := [_]) (els' := [_]) rfl rfl ti23 rfl rfl rfl rfl rfl rfl rfl rfl rfl) ?_
    refine RW.nil ?_
    refine awp_seq ?_
    refine awp_rw rfl ?_
    refine RW.op rfl rfl (eff_load rfl rfl ti28 rfl (.whole rfl rfl rfl rfl rfl rfl)) ?_
    refine RW.op rfl rfl (eff_load rfl rfl ti23 rfl (.whole rfl rfl rfl rfl rfl rfl)) ?_
    refine RW.op rfl rfl (eff_move (v := .t _) rfl rfl rfl) ?_
    refine RW.op rfl rfl (eff_callT (right_ret d _ n (hp _ (List.getElem_mem _)) (hx _ (List.getElem_mem _)) hd) co14 rfl rfl rfl rfl) ?_
    refine RW.nil ?_
    refine awp_cond rfl (fun h2 => ?_) (fun h2 => ?_)
    · try simp only [cl] at h2
      refine awp_rw rfl ?_
      refine RW.op rfl rfl (eff_move (v := .own _ _ _ _) rfl rfl rfl) ?_
      refine RW.op rfl rfl (eff_load rfl rfl ti23 rfl (.whole rfl rfl rfl rfl rfl rfl)) ?_
      refine RW.new rfl rfl (eff_buildSliceL (id := 23) (els := [.t (.agg [_, _, _, _])]) rfl rfl te33 tz23 rfl (by decide) (by decide) rfl rfl rfl rfl) ?_
      refine RW.new rfl rfl (eff_append (id := 7) (ys := [_]) rfl rfl ta33 rfl rfl rfl (by rw [he, hnn]; simp) rfl rfl (srcOwn rfl rfl rfl rfl rfl rfl) (by simp) (by simp; omega) (by simp; omega)) ?_
      refine RW.op rfl rfl (eff_assign (v := .own _ _ _ _) rfl rfl rfl) ?_
      refine RW.nil ?_
      refine awp_rw rfl ?_
      refine RW.op rfl rfl (eff_iop rfl rfl rfl rfl (iadd (by omega))) ?_
      refine RW.op rfl rfl (eff_move (v := .t _) rfl rfl rfl) ?_
      refine RW.nil ?_
      have hft : (T.poss.take (i + 1)).filter (fun s => rightD d s n) = _ := (filter_take_succ (by omega)).trans (congrArg _ (by first | exact if_pos (by assumption) | exact if_neg (by simp only [Bool.not_eq_true]; assumption)))
      refine ⟨_, ?_, _, weak_keep (n := 27) (fr' := [(2, .t (encI n)), (4, .ptr 4 0 0 0), (7, .own 7 _ 0 _), (11, .t (.sl (T.poss.map encR) false)), (12, .t (encI (T.poss.length : Nat))), (13, .t (encI ((i + 1) : Nat)))]) (st' := [(4, some ⟨4, 28, 0, [.t (encD d)]⟩), (7, some ⟨4, 23, _, _⟩)]) ⟨rfl, rfl, rfl, rfl, rfl, rfl, rfl, rfl, rfl, rfl, rfl, rfl, trivial⟩ ⟨rfl, okE_one rfl, rfl, (by first | exact okE_nil | (rw [he]; exact okE_t) | (rw [he]; intro x hx; simp only [List.mem_append, List.mem_map, List.mem_singleton] at hx; rcases hx with ⟨y, _, rfl⟩ | rfl <;> rfl)), trivial⟩, i + 1, _, _, _, (by omega), (by rw [hft, hnn]; simp), (by rw [hft, he]; simp <;> rfl), rfl, rfl⟩
      omega
    · try simp only [cl] at h2
      refine awp_skip ?_
      refine awp_rw rfl ?_
      refine RW.op rfl rfl (eff_iop rfl rfl rfl rfl (iadd (by omega))) ?_
      refine RW.op rfl rfl (eff_move (v := .t _) rfl rfl rfl) ?_
      refine RW.nil ?_
      have hft : (T.poss.take (i + 1)).filter (fun s => rightD d s n) = _ := (filter_take_succ (by omega)).trans (congrArg _ (by first | exact if_pos (by assumption) | exact if_neg (by simp only [Bool.not_eq_true]; assumption)))
      refine ⟨_, ?_, _, weak_keep (n := 27) (fr' := [(2, .t (encI n)), (4, .ptr 4 0 0 0), (7, .own 7 _ 0 _), (11, .t (.sl (T.poss.map encR) false)), (12, .t (encI (T.poss.length : Nat))), (13, .t (encI ((i + 1) : Nat)))]) (st' := [(4, some ⟨4, 28, 0, [.t (encD d)]⟩), (7, some ⟨4, 23, _, _⟩)]) ⟨rfl, rfl, rfl, rfl, rfl, rfl, rfl, rfl, rfl, rfl, rfl, rfl, trivial⟩ ⟨rfl, okE_one rfl, rfl, (by first | exact okE_nil | (rw [he]; exact okE_t) | (rw [he]; intro x hx; simp only [List.mem_append, List.mem_map, List.mem_singleton] at hx; rcases hx with ⟨y, _, rfl⟩ | rfl <;> rfl)), trivial⟩, i + 1, _, _, _, (by omega), (by rw [hft, hnn]; simp), (by rw [hft, he]; simp <;> rfl), rfl, rfl⟩
      omega
  · try simp only [cl] at h1
    refine awp_exit ?_
    refine awp_seq ?_
    refine awp_rw rfl ?_
    refine RW.op rfl rfl (eff_move (v := .own _ _ _ _) rfl rfl rfl) ?_
    refine RW.op rfl rfl (eff_assign (v := .own _ _ _ _) rfl rfl rfl) ?_
    refine RW.nil ?_
    refine awp_ret ?_
    have hi2 : i = T.poss.length := by omega
    subst hi2
    rw [List.take_length] at hnn he
    exact ⟨Or.inr rfl, [_], ⟨.tmp (Res.ownT (xs := (rights T d n).map encR) rfl rfl he (by rw [hnn]; simp [rights])), trivial⟩, .refl _⟩

theorem judged_ret (T : Twn) (d : Dec) (n : Int) (hp : ∀ y, y ∈ T.poss → HP y) (hx : ∀ y, y ∈ T.poss → NX 1000000 y) (hd : -2000000 ≤ d.seq ∧ d.seq ≤ 2000000) (hl : T.poss.length ≤ 1000) : Ret Tryd.prog 42 [encT T, encD d, encI n] (encV (vOf (rights T d n))) := by
  refine ret_of_awp Tryd.func42 rfl (Nat.le_of_ble_eq_true rfl) ?_
  refine awp_seq ?_
  refine awp_rw rfl ?_
  refine RW.new rfl rfl (eff_boxK (v := .t _) (k := 2) (id := 3) rfl rfl rfl rfl rfl rfl) ?_
  refine RW.new rfl rfl (eff_boxK (v := .t _) (k := 4) (id := 4) rfl rfl rfl rfl rfl rfl) ?_
  refine RW.new rfl rfl (eff_allocK (k := 5) (id := 6) rfl rfl tz49 rfl rfl) ?_
  refine RW.nil ?_
  refine awp_seq ?_
  refine awp_seq ?_
  refine awp_rw rfl ?_
  refine RW.op rfl rfl (eff_assign (v := .t _) rfl rfl rfl) ?_
  refine RW.nil ?_
  refine awp_block ?_
  refine awp_loopW (fun m s => ∃ (i : Nat), (i ≤ T.poss.length) ∧ (∀ s, s ∈ T.poss.take i → rightD d s n = false) ∧ m = T.poss.length - i ∧ s = ⟨30, [(2, .t (encI n)), (3, .ptr 3 0 0 0), (4, .ptr 4 0 0 0), (6, .ptr 6 0 0 0), (7, .t (encI (i : Nat)))], [(3, some ⟨2, 64, 0, [.t (encT T)]⟩), (4, some ⟨4, 28, 0, [.t (encD d)]⟩), (6, some ⟨5, 49, 0, [.t z49]⟩)]⟩) (_) (⟨_, weak_keep (n := 30) (fr' := [(2, .t (encI n)), (3, .ptr 3 0 0 0), (4, .ptr 4 0 0 0), (6, .ptr 6 0 0 0), (7, .t (encI (0 : Nat)))]) (st' := [(3, some ⟨2, 64, 0, [.t (encT T)]⟩), (4, some ⟨4, 28, 0, [.t (encD d)]⟩), (6, some ⟨5, 49, 0, [.t z49]⟩)]) ⟨rfl, rfl, rfl, rfl, rfl, rfl, rfl, rfl, rfl, rfl, trivial⟩ ⟨rfl, okE_one rfl, rfl, okE_one rfl, rfl, okE_one rfl, trivial⟩, 0, (by omega), (by simp), rfl, rfl⟩) ?_
  rintro m s ⟨i, hi, ha, rfl, rfl⟩
  refine awp_seq ?_
  refine awp_seq ?_
  refine awp_rw rfl ?_
  refine RW.op rfl rfl (eff_move (v := .t _) rfl rfl rfl) ?_
  refine RW.op rfl rfl (eff_fieldAddr rfl rfl tf64_1 (by decide) rfl rfl rfl (Nat.le_of_ble_eq_true rfl)) ?_
  refine RW.op rfl rfl (eff_load (y := .t _) rfl rfl ti33 rfl (.one rfl rfl rfl rfl)) ?_
  refine RW.op rfl rfl (eff_lenM rfl rfl te33 rfl) ?_
  refine RW.op rfl rfl (eff_iop rfl rfl rfl rfl rfl) ?_
  refine RW.nil ?_
  refine awp_cond rfl (fun h1 => ?_) (fun h1 => ?_)
  · try simp only [cl] at h1
    refine awp_skip ?_
    refine awp_seq ?_
    refine awp_block ?_
    refine awp_seq ?_
    refine awp_rd [(some 15, []), (some 16, []), (some 17, []), (some 18, []), (some 19, []), (some 20, []), (some 21, []), (some 22, [])] [[], [], [1], [], [1, 2, 3], [1, 2, 3, 4], [], [0, 1, 2, 3, 4, 5, 6]] tm rfl rfl rfl rfl ?_
    have hil : i < T.poss.length := by omega
    refine RD.op rfl rfl rfl (eff_load rfl rfl ti28 rfl (.whole rfl rfl rfl rfl rfl rfl)) ?_
    refine RD.op rfl rfl rfl (eff_fieldAddr rfl rfl tf64_1 (by decide) rfl rfl rfl (Nat.le_of_ble_eq_true rfl)) ?_
    refine RD.op rfl rfl rfl (eff_load (y := .t _) rfl rfl ti33 rfl (.one rfl rfl rfl rfl)) ?_
    refine RD.op rfl rfl rfl (eff_move (v := .t _) rfl rfl rfl) ?_
    refine RD.op rfl rfl rfl (eff_indexM rfl rfl te33 rfl rfl rfl (by first | assumption | exact List.getElem?_eq_getElem (by omega)) rfl (by decide)) ?_
    refine RD.op rfl rfl rfl (eff_loadW rfl rfl ti23 rfl rfl rfl) ?_
    refine RD.op rfl rfl rfl (eff_move (v := .t _) rfl rfl rfl) ?_
    refine RD.op rfl rfl rfl (eff_callT (rright_ret d _ n (hp _ (List.getElem_mem _)) (hx _ (List.getElem_mem _)) hd) co15 rfl rfl rfl rfl) ?_
    refine RD.nil ?_
    refine awp_cond rfl (fun h2 => ?_) (fun h2 => ?_)
    · try simp only [cl] at h2
      refine awp_seq ?_
      refine awp_rw rfl ?_
      refine RW.op rfl rfl (eff_fieldAddr rfl rfl tf64_1 (by decide) rfl rfl rfl (Nat.le_of_ble_eq_true rfl)) ?_
      refine RW.op rfl rfl (eff_load (y := .t _) rfl rfl ti33 rfl (.one rfl rfl rfl rfl)) ?_
      refine RW.op rfl rfl (eff_move (v := .t _) rfl rfl rfl) ?_
      refine RW.op rfl rfl (eff_indexM rfl rfl te33 rfl rfl rfl (by first | assumption | exact List.getElem?_eq_getElem (by omega)) rfl (by decide)) ?_
      refine RW.op rfl rfl (eff_loadW rfl rfl ti23 rfl rfl rfl) ?_
      refine RW.op rfl rfl (eff_buildT (ys := [_, _, _, _, _]) rfl rfl tz49 tg49 rfl) ?_
      refine RW.store rfl rfl (eff_storeW (v := .t _) (els := [_]) (els' := [_]) rfl rfl ti49 rfl rfl rfl rfl rfl rfl rfl rfl rfl) ?_
      refine RW.nil ?_
      refine awp_ret ?_
      rw [vOf_hit (by omega) ha (by assumption)]
      exact ⟨Or.inr rfl, [_], ⟨.cell rfl ti49 (.whole rfl rfl rfl rfl rfl rfl) (.t _), trivial⟩, .refl _⟩
    · try simp only [cl] at h2
      refine awp_skip ?_
      refine awp_rw rfl ?_
      refine RW.op rfl rfl (eff_move (v := .t _) rfl rfl rfl) ?_
      refine RW.op rfl rfl (eff_iop rfl rfl rfl rfl (iadd (by omega))) ?_
      refine RW.op rfl rfl (eff_assign (v := .t _) rfl rfl rfl) ?_
      refine RW.nil ?_
      refine ⟨_, ?_, _, weak_keep (n := 30) (fr' := [(2, .t (encI n)), (3, .ptr 3 0 0 0), (4, .ptr 4 0 0 0), (6, .ptr 6 0 0 0), (7, .t (encI ((i + 1) : Nat)))]) (st' := [(3, some ⟨2, 64, 0, [.t (encT T)]⟩), (4, some ⟨4, 28, 0, [.t (encD d)]⟩), (6, some ⟨5, 49, 0, [.t z49]⟩)]) ⟨rfl, rfl, rfl, rfl, rfl, rfl, rfl, rfl, rfl, rfl, trivial⟩ ⟨rfl, okE_one rfl, rfl, okE_one rfl, rfl, okE_one rfl, trivial⟩, i + 1, (by omega), (by intro s hs; rcases (mem_take_succ (by omega)).1 hs with h | h; exact ha s h; rw [h]; assumption), rfl, rfl⟩
      omega
  · try simp only [cl] at h1
    refine awp_exit ?_
    refine awp_seq ?_
    refine awp_rw rfl ?_
    refine RW.op rfl rfl (eff_buildT (ys := [_, _, _, _, _]) rfl rfl tz49 tg49 rfl) ?_
    refine RW.store rfl rfl (eff_storeW (v := .t _) (els := [_]) (els' := [_]) rfl rfl ti49 rfl rfl rfl rfl rfl rfl rfl rfl rfl) ?_
    refine RW.nil ?_
    refine awp_ret ?_
    have hi2 : i = T.poss.length := by omega
    subst hi2
    rw [List.take_length] at ha
    rw [vOf_none ha]
    exact ⟨Or.inr rfl, [_], ⟨.cell rfl ti49 (.whole rfl rfl rfl rfl rfl rfl) (.t _), trivial⟩, .refl _⟩

theorem next_ret (T : Twn) (r : Rcd) (hF : Fit 12 T) (hr : HP r.rep) (hb : r.frame.body.length ≤ 1000000) : Ret Tryd.prog 46 [encT T, encC r] (.tup [encT (nextT T r).1, encI (nextT T r).2]) := by
  refine ret_of_awp Tryd.func46 rfl (Nat.le_of_ble_eq_true rfl) ?_
  refine awp_seq ?_
  refine awp_rw rfl ?_
  refine RW.new rfl rfl (eff_boxK (v := .t _) (k := 2) (id := 2) rfl rfl rfl rfl rfl rfl) ?_
  refine RW.new rfl rfl (eff_boxK (v := .t _) (k := 15) (id := 3) rfl rfl rfl rfl rfl rfl) ?_
  refine RW.new rfl rfl (eff_allocK (k := 2) (id := 4) rfl rfl tz64 rfl rfl) ?_
  refine RW.op rfl rfl (eff_assign (v := .t _) rfl rfl rfl) ?_
  refine RW.nil ?_
  refine awp_seq ?_
  refine awp_seq ?_
  refine awp_rw rfl ?_
  refine RW.op rfl rfl (eff_fieldAddr rfl rfl tf47_1 (by decide) rfl rfl rfl (Nat.le_of_ble_eq_true rfl)) ?_
  refine RW.op rfl rfl (eff_load (y := .t _) rfl rfl ti3 rfl (.one rfl rfl rfl rfl)) ?_
  refine RW.nil ?_
  refine awp_block ?_
  refine awp_seq ?_
  refine awp_rw rfl ?_
  refine RW.op rfl rfl (eff_iop rfl rfl rfl rfl rfl) ?_
  refine RW.op rfl rfl (eff_assign (v := .t _) rfl rfl rfl) ?_
  refine RW.nil ?_
  refine awp_cond rfl (fun h1 => ?_) (fun h1 => ?_)
  · try simp only [cl] at h1
    refine awp_seq ?_
    refine awp_rw rfl ?_
    refine RW.op rfl rfl (eff_load rfl rfl ti64 rfl (.whole rfl rfl rfl rfl rfl rfl)) ?_
    refine RW.op rfl rfl (eff_fieldAddr rfl rfl tf47_2 (by decide) rfl rfl rfl (Nat.le_of_ble_eq_true rfl)) ?_
    refine RW.op rfl rfl (eff_loadS (ys := [_, _, _, _, _]) rfl rfl ti45 rfl rfl rfl rfl rfl rfl) ?_
    refine RW.op rfl rfl (eff_callT (rsend_ret T r.frame hF.hp (by have := hF.len; omega) (by have := hF.sl; omega)) co66 rfl rfl rfl rfl) ?_
    refine RW.op rfl rfl (eff_extract rfl rfl rfl rfl) ?_
    refine RW.op rfl rfl (eff_extract rfl rfl rfl rfl) ?_
    refine RW.store rfl rfl (eff_storeW (v := .t _) (els := [_]) (els' := [_]) rfl rfl ti64 rfl rfl rfl rfl rfl rfl rfl rfl rfl) ?_
    refine RW.op rfl rfl (eff_assign (v := .t _) rfl rfl rfl) ?_
    refine RW.nil ?_
    refine awp_ret ?_
    unfold nextT
    first
      | (rw [if_pos (by assumption)]; first
      | exact ⟨Or.inr rfl, [_, _], ⟨.cell rfl ti64 (.whole rfl rfl rfl rfl rfl rfl) (.t _), .tmp (.t _), trivial⟩, .refl _⟩
      | exact ⟨Or.inr rfl, [_, _], ⟨.cell rfl ti64 (.whole rfl rfl rfl rfl rfl rfl) (.t _), .tmp (.t _), trivial⟩, (by repeat' first | exact trivial | exact Wk.refl _ | exact Wk.sl _ | refine And.intro ?_ ?_ | refine Wk.tupP ?_ | refine Wk.aggP ?_)⟩
      | exact ⟨Or.inr rfl, [_, _], ⟨.cell rfl ti64 (.whole rfl rfl rfl rfl rfl rfl) (.t _), .tmp (Res.ownT rfl rfl rfl rfl), trivial⟩, .refl _⟩
      | exact ⟨Or.inr rfl, [_, _], ⟨.cell rfl ti64 (.whole rfl rfl rfl rfl rfl rfl) (.t _), .tmp (Res.ownT rfl rfl rfl rfl), trivial⟩, (by repeat' first | exact trivial | exact Wk.refl _ | exact Wk.sl _ | refine And.intro ?_ ?_ | refine Wk.tupP ?_ | refine Wk.aggP ?_)⟩)
      | (rw [if_neg (by assumption), if_pos (by assumption)]; first
      | exact ⟨Or.inr rfl, [_, _], ⟨.cell rfl ti64 (.whole rfl rfl rfl rfl rfl rfl) (.t _), .tmp (.t _), trivial⟩, .refl _⟩
      | exact ⟨Or.inr rfl, [_, _], ⟨.cell rfl ti64 (.whole rfl rfl rfl rfl rfl rfl) (.t _), .tmp (.t _), trivial⟩, (by repeat' first | exact trivial | exact Wk.refl _ | exact Wk.sl _ | refine And.intro ?_ ?_ | refine Wk.tupP ?_ | refine Wk.aggP ?_)⟩
      | exact ⟨Or.inr rfl, [_, _], ⟨.cell rfl ti64 (.whole rfl rfl rfl rfl rfl rfl) (.t _), .tmp (Res.ownT rfl rfl rfl rfl), trivial⟩, .refl _⟩
      | exact ⟨Or.inr rfl, [_, _], ⟨.cell rfl ti64 (.whole rfl rfl rfl rfl rfl rfl) (.t _), .tmp (Res.ownT rfl rfl rfl rfl), trivial⟩, (by repeat' first | exact trivial | exact Wk.refl _ | exact Wk.sl _ | refine And.intro ?_ ?_ | refine Wk.tupP ?_ | refine Wk.aggP ?_)⟩)
      | (rw [if_neg (by assumption), if_neg (by assumption)]; first
      | exact ⟨Or.inr rfl, [_, _], ⟨.cell rfl ti64 (.whole rfl rfl rfl rfl rfl rfl) (.t _), .tmp (.t _), trivial⟩, .refl _⟩
      | exact ⟨Or.inr rfl, [_, _], ⟨.cell rfl ti64 (.whole rfl rfl rfl rfl rfl rfl) (.t _), .tmp (.t _), trivial⟩, (by repeat' first | exact trivial | exact Wk.refl _ | exact Wk.sl _ | refine And.intro ?_ ?_ | refine Wk.tupP ?_ | refine Wk.aggP ?_)⟩
      | exact ⟨Or.inr rfl, [_, _], ⟨.cell rfl ti64 (.whole rfl rfl rfl rfl rfl rfl) (.t _), .tmp (Res.ownT rfl rfl rfl rfl), trivial⟩, .refl _⟩
      | exact ⟨Or.inr rfl, [_, _], ⟨.cell rfl ti64 (.whole rfl rfl rfl rfl rfl rfl) (.t _), .tmp (Res.ownT rfl rfl rfl rfl), trivial⟩, (by repeat' first | exact trivial | exact Wk.refl _ | exact Wk.sl _ | refine And.intro ?_ ?_ | refine Wk.tupP ?_ | refine Wk.aggP ?_)⟩)
  · try simp only [cl] at h1
    refine awp_seq ?_
    refine awp_rw rfl ?_
    refine RW.op rfl rfl (eff_iop rfl rfl rfl rfl rfl) ?_
    refine RW.op rfl rfl (eff_assign (v := .t _) rfl rfl rfl) ?_
    refine RW.nil ?_
    refine awp_cond rfl (fun h2 => ?_) (fun h2 => ?_)
    · try simp only [cl] at h2
      refine awp_seq ?_
      refine awp_rw rfl ?_
      refine RW.op rfl rfl (eff_load rfl rfl ti64 rfl (.whole rfl rfl rfl rfl rfl rfl)) ?_
      refine RW.op rfl rfl (eff_fieldAddr rfl rfl tf47_3 (by decide) rfl rfl rfl (Nat.le_of_ble_eq_true rfl)) ?_
      refine RW.op rfl rfl (eff_loadS (ys := [_, _, _, _]) rfl rfl ti23 rfl rfl rfl rfl rfl rfl) ?_
      refine RW.op rfl rfl (eff_callT (rhear_ret T r.rep hr (by have := hF.len; omega) hF.sl) co67 rfl rfl rfl rfl) ?_
      refine RW.op rfl rfl (eff_extract rfl rfl rfl rfl) ?_
      refine RW.op rfl rfl (eff_extract rfl rfl rfl rfl) ?_
      refine RW.store rfl rfl (eff_storeW (v := .t _) (els := [_]) (els' := [_]) rfl rfl ti64 rfl rfl rfl rfl rfl rfl rfl rfl rfl) ?_
      refine RW.op rfl rfl (eff_assign (v := .t _) rfl rfl rfl) ?_
      refine RW.nil ?_
      refine awp_ret ?_
      unfold nextT
      first
        | (rw [if_pos (by assumption)]; first
        | exact ⟨Or.inr rfl, [_, _], ⟨.cell rfl ti64 (.whole rfl rfl rfl rfl rfl rfl) (.t _), .tmp (.t _), trivial⟩, .refl _⟩
        | exact ⟨Or.inr rfl, [_, _], ⟨.cell rfl ti64 (.whole rfl rfl rfl rfl rfl rfl) (.t _), .tmp (.t _), trivial⟩, (by repeat' first | exact trivial | exact Wk.refl _ | exact Wk.sl _ | refine And.intro ?_ ?_ | refine Wk.tupP ?_ | refine Wk.aggP ?_)⟩
        | exact ⟨Or.inr rfl, [_, _], ⟨.cell rfl ti64 (.whole rfl rfl rfl rfl rfl rfl) (.t _), .tmp (Res.ownT rfl rfl rfl rfl), trivial⟩, .refl _⟩
        | exact ⟨Or.inr rfl, [_, _], ⟨.cell rfl ti64 (.whole rfl rfl rfl rfl rfl rfl) (.t _), .tmp (Res.ownT rfl rfl rfl rfl), trivial⟩, (by repeat' first | exact trivial | exact Wk.refl _ | exact Wk.sl _ | refine And.intro ?_ ?_ | refine Wk.tupP ?_ | refine Wk.aggP ?_)⟩)
        | (rw [if_neg (by assumption), if_pos (by assumption)]; first
        | exact ⟨Or.inr rfl, [_, _], ⟨.cell rfl ti64 (.whole rfl rfl rfl rfl rfl rfl) (.t _), .tmp (.t _), trivial⟩, .refl _⟩
        | exact ⟨Or.inr rfl, [_, _], ⟨.cell rfl ti64 (.whole rfl rfl rfl rfl rfl rfl) (.t _), .tmp (.t _), trivial⟩, (by repeat' first | exact trivial | exact Wk.refl _ | exact Wk.sl _ | refine And.intro ?_ ?_ | refine Wk.tupP ?_ | refine Wk.aggP ?_)⟩
        | exact ⟨Or.inr rfl, [_, _], ⟨.cell rfl ti64 (.whole rfl rfl rfl rfl rfl rfl) (.t _), .tmp (Res.ownT rfl rfl rfl rfl), trivial⟩, .refl _⟩
        | exact ⟨Or.inr rfl, [_, _], ⟨.cell rfl ti64 (.whole rfl rfl rfl rfl rfl rfl) (.t _), .tmp (Res.ownT rfl rfl rfl rfl), trivial⟩, (by repeat' first | exact trivial | exact Wk.refl _ | exact Wk.sl _ | refine And.intro ?_ ?_ | refine Wk.tupP ?_ | refine Wk.aggP ?_)⟩)
        | (rw [if_neg (by assumption), if_neg (by assumption)]; first
        | exact ⟨Or.inr rfl, [_, _], ⟨.cell rfl ti64 (.whole rfl rfl rfl rfl rfl rfl) (.t _), .tmp (.t _), trivial⟩, .refl _⟩
        | exact ⟨Or.inr rfl, [_, _], ⟨.cell rfl ti64 (.whole rfl rfl rfl rfl rfl rfl) (.t _), .tmp (.t _), trivial⟩, (by repeat' first | exact trivial | exact Wk.refl _ | exact Wk.sl _ | refine And.intro ?_ ?_ | refine Wk.tupP ?_ | refine Wk.aggP ?_)⟩
        | exact ⟨Or.inr rfl, [_, _], ⟨.cell rfl ti64 (.whole rfl rfl rfl rfl rfl rfl) (.t _), .tmp (Res.ownT rfl rfl rfl rfl), trivial⟩, .refl _⟩
        | exact ⟨Or.inr rfl, [_, _], ⟨.cell rfl ti64 (.whole rfl rfl rfl rfl rfl rfl) (.t _), .tmp (Res.ownT rfl rfl rfl rfl), trivial⟩, (by repeat' first | exact trivial | exact Wk.refl _ | exact Wk.sl _ | refine And.intro ?_ ?_ | refine Wk.tupP ?_ | refine Wk.aggP ?_)⟩)
    · try simp only [cl] at h2
      refine awp_skip ?_
      refine awp_seq ?_
      refine awp_rw rfl ?_
      refine RW.op rfl rfl (eff_load rfl rfl ti64 rfl (.whole rfl rfl rfl rfl rfl rfl)) ?_
      refine RW.store rfl rfl (eff_storeW (v := .t _) (els := [_]) (els' := [_]) rfl rfl ti64 rfl rfl rfl rfl rfl rfl rfl rfl rfl) ?_
      refine RW.op rfl rfl (eff_assign (v := .t _) rfl rfl rfl) ?_
      refine RW.nil ?_
      refine awp_ret ?_
      unfold nextT
      first
        | (rw [if_pos (by assumption)]; first
        | exact ⟨Or.inr rfl, [_, _], ⟨.cell rfl ti64 (.whole rfl rfl rfl rfl rfl rfl) (.t _), .tmp (.t _), trivial⟩, .refl _⟩
        | exact ⟨Or.inr rfl, [_, _], ⟨.cell rfl ti64 (.whole rfl rfl rfl rfl rfl rfl) (.t _), .tmp (.t _), trivial⟩, (by repeat' first | exact trivial | exact Wk.refl _ | exact Wk.sl _ | refine And.intro ?_ ?_ | refine Wk.tupP ?_ | refine Wk.aggP ?_)⟩
        | exact ⟨Or.inr rfl, [_, _], ⟨.cell rfl ti64 (.whole rfl rfl rfl rfl rfl rfl) (.t _), .tmp (Res.ownT rfl rfl rfl rfl), trivial⟩, .refl _⟩
        | exact ⟨Or.inr rfl, [_, _], ⟨.cell rfl ti64 (.whole rfl rfl rfl rfl rfl rfl) (.t _), .tmp (Res.ownT rfl rfl rfl rfl), trivial⟩, (by repeat' first | exact trivial | exact Wk.refl _ | exact Wk.sl _ | refine And.intro ?_ ?_ | refine Wk.tupP ?_ | refine Wk.aggP ?_)⟩)
        | (rw [if_neg (by assumption), if_pos (by assumption)]; first
        | exact ⟨Or.inr rfl, [_, _], ⟨.cell rfl ti64 (.whole rfl rfl rfl rfl rfl rfl) (.t _), .tmp (.t _), trivial⟩, .refl _⟩
        | exact ⟨Or.inr rfl, [_, _], ⟨.cell rfl ti64 (.whole rfl rfl rfl rfl rfl rfl) (.t _), .tmp (.t _), trivial⟩, (by repeat' first | exact trivial | exact Wk.refl _ | exact Wk.sl _ | refine And.intro ?_ ?_ | refine Wk.tupP ?_ | refine Wk.aggP ?_)⟩
        | exact ⟨Or.inr rfl, [_, _], ⟨.cell rfl ti64 (.whole rfl rfl rfl rfl rfl rfl) (.t _), .tmp (Res.ownT rfl rfl rfl rfl), trivial⟩, .refl _⟩
        | exact ⟨Or.inr rfl, [_, _], ⟨.cell rfl ti64 (.whole rfl rfl rfl rfl rfl rfl) (.t _), .tmp (Res.ownT rfl rfl rfl rfl), trivial⟩, (by repeat' first | exact trivial | exact Wk.refl _ | exact Wk.sl _ | refine And.intro ?_ ?_ | refine Wk.tupP ?_ | refine Wk.aggP ?_)⟩)
        | (rw [if_neg (by assumption), if_neg (by assumption)]; first
        | exact ⟨Or.inr rfl, [_, _], ⟨.cell rfl ti64 (.whole rfl rfl rfl rfl rfl rfl) (.t _), .tmp (.t _), trivial⟩, .refl _⟩
        | exact ⟨Or.inr rfl, [_, _], ⟨.cell rfl ti64 (.whole rfl rfl rfl rfl rfl rfl) (.t _), .tmp (.t _), trivial⟩, (by repeat' first | exact trivial | exact Wk.refl _ | exact Wk.sl _ | refine And.intro ?_ ?_ | refine Wk.tupP ?_ | refine Wk.aggP ?_)⟩
        | exact ⟨Or.inr rfl, [_, _], ⟨.cell rfl ti64 (.whole rfl rfl rfl rfl rfl rfl) (.t _), .tmp (Res.ownT rfl rfl rfl rfl), trivial⟩, .refl _⟩
        | exact ⟨Or.inr rfl, [_, _], ⟨.cell rfl ti64 (.whole rfl rfl rfl rfl rfl rfl) (.t _), .tmp (Res.ownT rfl rfl rfl rfl), trivial⟩, (by repeat' first | exact trivial | exact Wk.refl _ | exact Wk.sl _ | refine And.intro ?_ ?_ | refine Wk.tupP ?_ | refine Wk.aggP ?_)⟩)

end Go.Tv.C36

end
section
open Go Go.Tv Go.Proofs
namespace Go.Tv.C36
set_option maxRecDepth 20000
set_option maxHeartbeats 2000000
set_option linter.unusedSimpArgs false
set_option linter.unusedVariables false
theorem at_ret (l : List Rcd) (hO : OKL l) : Ret Tryd.prog 26 [.sl (l.map encC) false] (.tup [.sl ((atOf l).1.map encT) false, encI (atOf l).2]) := by
  refine ret_of_awp Tryd.func26 rfl (Nat.le_of_ble_eq_true rfl) ?_
  refine awp_seq ?_
  refine awp_rw rfl ?_
  refine RW.op rfl rfl (eff_assign (v := .t _) rfl rfl rfl) ?_
  refine RW.op rfl rfl (eff_assign (v := .t _) rfl rfl rfl) ?_
  refine RW.nil ?_
  refine awp_seq ?_
  refine awp_seq ?_
  refine awp_rw rfl ?_
  refine RW.op rfl rfl (eff_move (v := .t _) rfl rfl rfl) ?_
  refine RW.op rfl rfl (eff_lenM rfl rfl te32 rfl) ?_
  refine RW.op rfl rfl (eff_iop rfl rfl rfl rfl rfl) ?_
  refine RW.nil ?_
  refine awp_cond rfl (fun h1 => ?_) (fun h1 => ?_)
  · try simp only [cl] at h1
    refine awp_seq ?_
    refine awp_rw rfl ?_
    refine RW.op rfl rfl (eff_assign (v := .t _) rfl rfl rfl) ?_
    refine RW.op rfl rfl (eff_assign (v := .t _) rfl rfl rfl) ?_
    refine RW.nil ?_
    refine awp_ret ?_
    rw [atOf_bad (all_lim h1) (by decide)]
    exact ⟨Or.inr rfl, [_, _], ⟨.tmp (.t _), .tmp (.t _), trivial⟩, (by repeat' first | exact trivial | exact Wk.refl _ | exact Wk.sl _ | refine And.intro ?_ ?_ | refine Wk.tupP ?_ | refine Wk.aggP ?_)⟩
  · try simp only [cl] at h1
    refine awp_skip ?_
    refine awp_seq ?_
    refine awp_rw rfl ?_
    refine RW.op rfl rfl (eff_callT (new18_ret) co44 rfl rfl rfl rfl) ?_
    refine RW.new rfl rfl (eff_allocK (k := 2) (id := 4) rfl rfl tz64 rfl rfl) ?_
    refine RW.store rfl rfl (eff_storeW (v := .t _) (els := [_]) (els' := [_]) rfl rfl ti64 rfl rfl rfl rfl rfl rfl rfl rfl rfl) ?_
    refine RW.nil ?_
    refine awp_seq ?_
    refine awp_rw rfl ?_
    refine RW.op rfl rfl (eff_load rfl rfl ti64 rfl (.whole rfl rfl rfl rfl rfl rfl)) ?_
    refine RW.new rfl rfl (eff_buildSliceL (id := 15) (els := [.t (.agg [_, _])]) rfl rfl te56 tz64 rfl (by decide) (by decide) rfl rfl rfl rfl) ?_
    refine RW.op rfl rfl (eff_assign (v := .own _ _ _ _) rfl rfl rfl) ?_
    refine RW.nil ?_
    refine awp_seq ?_
    refine awp_seq ?_
    refine awp_rw rfl ?_
    refine RW.op rfl rfl (eff_assign (v := .t _) rfl rfl rfl) ?_
    refine RW.nil ?_
    refine awp_block ?_
    refine awp_loopW (fun m s => ∃ (i : Nat) (T : Twn) (gn : Nat) (mm : Nat) (els : List AV), (i ≤ l.length) ∧ (T = (runTo l i).1) ∧ ((runTo l i).2 = 0) ∧ (mm = i + 1) ∧ (els = ((atL l (i + 1)).map encT).map .t) ∧ m = l.length - i ∧ s = ⟨46, [(0, .t (.sl (l.map encC) false)), (4, .ptr 4 0 0 0), (5, .own 15 gn 0 mm), (6, .t (encI (i : Nat)))], [(4, some ⟨2, 64, 0, [.t (encT T)]⟩), (15, some ⟨2, 64, gn, els⟩)]⟩) (_) (⟨_, weak_keep (n := 46) (fr' := [(0, .t (.sl (l.map encC) false)), (4, .ptr 4 0 0 0), (5, .own 15 0 0 1), (6, .t (encI (0 : Nat)))]) (st' := [(4, some ⟨2, 64, 0, [.t (encT newT)]⟩), (15, some ⟨2, 64, 0, _⟩)]) ⟨rfl, rfl, rfl, rfl, rfl, rfl, rfl, rfl, trivial⟩ ⟨rfl, okE_one rfl, rfl, (by first | exact okE_one rfl | exact okE_nil | (rw [he]; exact okE_t) | (rw [he]; intro x hx; simp only [List.mem_append, List.mem_map, List.mem_singleton] at hx; rcases hx with ⟨y, _, rfl⟩ | rfl <;> rfl)), trivial⟩, 0, newT, 0, 1, _, (by omega), (by rfl), (by rfl), (by rfl), (by rfl), rfl, rfl⟩) ?_
    rintro m s ⟨i, T, gn, mm, els, hi, hT, hok, hm, he, rfl, rfl⟩
    refine awp_seq ?_
    refine awp_seq ?_
    refine awp_rw rfl ?_
    refine RW.op rfl rfl (eff_move (v := .t _) rfl rfl rfl) ?_
    refine RW.op rfl rfl (eff_move (v := .t _) rfl rfl rfl) ?_
    refine RW.op rfl rfl (eff_lenM rfl rfl te32 rfl) ?_
    refine RW.op rfl rfl (eff_iop rfl rfl rfl rfl rfl) ?_
    refine RW.nil ?_
    refine awp_cond rfl (fun h2 => ?_) (fun h2 => ?_)
    · try simp only [cl] at h2
      refine awp_skip ?_
      refine awp_seq ?_
      refine awp_block ?_
      refine awp_seq ?_
      refine awp_rw rfl ?_
      have hil : i < l.length := by omega
      have hFit := runTo_fit12 hO (by omega) hok
      rw [← hT] at hFit
      refine RW.op rfl rfl (eff_move (v := .t _) rfl rfl rfl) ?_
      refine RW.op rfl rfl (eff_move (v := .t _) rfl rfl rfl) ?_
      refine RW.op rfl rfl (eff_callT (rform_ret l i hil (by have := hO.len; omega)) co45 rfl rfl rfl rfl) ?_
      refine RW.op rfl rfl (eff_assign (v := .t _) rfl rfl rfl) ?_
      refine RW.nil ?_
      refine awp_seq ?_
      refine awp_seq ?_
      refine awp_rw rfl ?_
      refine RW.op rfl rfl (eff_move (v := .t _) rfl rfl rfl) ?_
      refine RW.op rfl rfl (eff_iop rfl rfl rfl rfl rfl) ?_
      refine RW.nil ?_
      refine awp_cond rfl (fun h3 => ?_) (fun h3 => ?_)
      · try simp only [cl] at h3
        refine awp_seq ?_
        refine awp_rw rfl ?_
        refine RW.op rfl rfl (eff_move (v := .t _) rfl rfl rfl) ?_
        refine RW.op rfl rfl (eff_assign (v := .t _) rfl rfl rfl) ?_
        refine RW.op rfl rfl (eff_assign (v := .t _) rfl rfl rfl) ?_
        refine RW.nil ?_
        refine awp_ret ?_
        rw [atOf_bad (all_bad h1 hil (run_form hok (by omega)) (by omega)) (by omega)]
        exact ⟨Or.inr rfl, [_, _], ⟨.tmp (.t _), .tmp (.t _), trivial⟩, (by repeat' first | exact trivial | exact Wk.refl _ | exact Wk.sl _ | refine And.intro ?_ ?_ | refine Wk.tupP ?_ | refine Wk.aggP ?_)⟩
      · try simp only [cl] at h3
        refine awp_skip ?_
        refine awp_seq ?_
        refine awp_rd [(some 29, []), (some 30, []), (some 31, []), (some 32, []), (some 33, []), (some 34, []), (some 28, []), (some 35, []), (some 36, []), (some 8, [8]), (none, [8]), (some 9, [])] [[], [], [], [1, 2], [1, 2, 3], [0, 1, 2, 3, 4], [0, 1, 2, 3, 4, 5], [0, 1, 2, 3, 4, 5, 6], [0, 1, 2, 3, 4, 5, 6], [], [0, 1, 2, 3, 4, 5, 6, 7, 9], [0, 1, 2, 3, 4, 5, 6, 7, 8, 9, 10]] tm rfl rfl rfl rfl ?_
        have hfo : form l i = 0 := by omega
        refine RD.op rfl rfl rfl (eff_load rfl rfl ti64 rfl (.whole rfl rfl rfl rfl rfl rfl)) ?_
        refine RD.op rfl rfl rfl (eff_move (v := .t _) rfl rfl rfl) ?_
        refine RD.op rfl rfl rfl (eff_move (v := .t _) rfl rfl rfl) ?_
        refine RD.op rfl rfl rfl (eff_indexM rfl rfl te32 rfl rfl rfl (by first | assumption | exact List.getElem?_eq_getElem (by omega)) rfl (by decide)) ?_
        refine RD.op rfl rfl rfl (eff_loadW rfl rfl ti47 rfl rfl rfl) ?_
        refine RD.op rfl rfl rfl (eff_callT (next_ret T _ hFit (hO.hp _ (List.getElem_mem _)) (hO.bod _ (List.getElem_mem _))) co46 rfl rfl rfl rfl) ?_
        refine RD.op rfl rfl rfl (eff_move (v := .t _) rfl rfl rfl) ?_
        refine RD.op rfl rfl rfl (eff_extract rfl rfl rfl rfl) ?_
        refine RD.op rfl rfl rfl (eff_extract rfl rfl rfl rfl) ?_
        refine RD.new rfl rfl rfl (eff_allocK (k := 2) (id := 8) rfl rfl tz64 rfl rfl) ?_
        refine RD.store rfl rfl rfl (eff_storeW (v := .t _) (els := [_]) (els' := [_]) rfl rfl ti64 rfl rfl rfl rfl rfl rfl rfl rfl rfl) ?_
        refine RD.op rfl rfl rfl (eff_assign (v := .t _) rfl rfl rfl) ?_
        refine RD.nil ?_
        refine awp_seq ?_
        refine awp_seq ?_
        refine awp_rw rfl ?_
        refine RW.op rfl rfl (eff_move (v := .t _) rfl rfl rfl) ?_
        refine RW.op rfl rfl (eff_iop rfl rfl rfl rfl rfl) ?_
        refine RW.nil ?_
        refine awp_cond rfl (fun h4 => ?_) (fun h4 => ?_)
        · try simp only [cl] at h4
          refine awp_seq ?_
          refine awp_rw rfl ?_
          refine RW.op rfl rfl (eff_move (v := .t _) rfl rfl rfl) ?_
          refine RW.op rfl rfl (eff_assign (v := .t _) rfl rfl rfl) ?_
          refine RW.op rfl rfl (eff_assign (v := .t _) rfl rfl rfl) ?_
          refine RW.nil ?_
          refine awp_ret ?_
          rw [atOf_bad (all_bad h1 hil (bad_next hil hT hok hfo (by omega)) (by omega)) (by omega)]
          exact ⟨Or.inr rfl, [_, _], ⟨.tmp (.t _), .tmp (.t _), trivial⟩, (by repeat' first | exact trivial | exact Wk.refl _ | exact Wk.sl _ | refine And.intro ?_ ?_ | refine Wk.tupP ?_ | refine Wk.aggP ?_)⟩
        · try simp only [cl] at h4
          refine awp_skip ?_
          refine awp_seq ?_
          refine awp_rw rfl ?_
          refine RW.op rfl rfl (eff_load rfl rfl ti64 rfl (.whole rfl rfl rfl rfl rfl rfl)) ?_
          refine RW.store rfl rfl (eff_storeW (v := .t _) (els := [_]) (els' := [_]) rfl rfl ti64 rfl rfl rfl rfl rfl rfl rfl rfl rfl) ?_
          refine RW.nil ?_
          refine awp_rw rfl ?_
          refine RW.op rfl rfl (eff_move (v := .own _ _ _ _) rfl rfl rfl) ?_
          refine RW.op rfl rfl (eff_load rfl rfl ti64 rfl (.whole rfl rfl rfl rfl rfl rfl)) ?_
          refine RW.new rfl rfl (eff_buildSliceL (id := 43) (els := [.t (.agg [_, _])]) rfl rfl te56 tz64 rfl (by decide) (by decide) rfl rfl rfl rfl) ?_
          refine RW.new rfl rfl (eff_append (id := 15) (ys := [_]) rfl rfl ta56 rfl rfl rfl (by rw [he, hm]; simp [atL_len]) rfl rfl (srcOwn rfl rfl rfl rfl rfl rfl) (by simp) (by have := hO.len; simp; omega) (by have := hO.len; simp; omega)) ?_
          refine RW.op rfl rfl (eff_assign (v := .own _ _ _ _) rfl rfl rfl) ?_
          refine RW.nil ?_
          refine awp_rw rfl ?_
          refine RW.op rfl rfl (eff_move (v := .t _) rfl rfl rfl) ?_
          refine RW.op rfl rfl (eff_iop rfl rfl rfl rfl (iadd (by omega))) ?_
          refine RW.op rfl rfl (eff_assign (v := .t _) rfl rfl rfl) ?_
          refine RW.nil ?_
          have hrn := run_next hil hT hok hfo (by omega)
          refine ⟨_, ?_, _, weak_keep (n := 46) (fr' := [(0, .t (.sl (l.map encC) false)), (4, .ptr 4 0 0 0), (5, .own 15 _ 0 _), (6, .t (encI ((i + 1) : Nat)))]) (st' := [(4, some ⟨2, 64, 0, [.t (encT _)]⟩), (15, some ⟨2, 64, _, _⟩)]) ⟨rfl, rfl, rfl, rfl, rfl, rfl, rfl, rfl, trivial⟩ ⟨rfl, okE_one rfl, rfl, (by first | exact okE_one rfl | exact okE_nil | (rw [he]; exact okE_t) | (rw [he]; intro x hx; simp only [List.mem_append, List.mem_map, List.mem_singleton] at hx; rcases hx with ⟨y, _, rfl⟩ | rfl <;> rfl)), trivial⟩, i + 1, _, _, _, _, (by omega), (by rw [hrn]), (by rw [hrn]), (by rw [hm]; rfl), (by rw [atL_succ, he, hrn]; simp <;> rfl), rfl, rfl⟩
          omega
    · try simp only [cl] at h2
      refine awp_exit ?_
      refine awp_seq ?_
      refine awp_rw rfl ?_
      refine RW.op rfl rfl (eff_move (v := .own _ _ _ _) rfl rfl rfl) ?_
      refine RW.op rfl rfl (eff_assign (v := .own _ _ _ _) rfl rfl rfl) ?_
      refine RW.op rfl rfl (eff_assign (v := .t _) rfl rfl rfl) ?_
      refine RW.nil ?_
      refine awp_ret ?_
      have hi2 : i = l.length := by omega
      subst hi2
      rw [atOf_ok (by rw [all_ok h1 hok])]
      exact ⟨Or.inr rfl, [_, _], ⟨.tmp (Res.ownT (xs := (atL l (l.length + 1)).map encT) rfl rfl he (by rw [hm]; simp [atL_len])), .tmp (.t _), trivial⟩, .refl _⟩

end Go.Tv.C36

end
section
open Go Go.Tv Go.Proofs
namespace Go.Tv.C36
set_option maxRecDepth 20000
set_option maxHeartbeats 2000000
set_option linter.unusedSimpArgs false
set_option linter.unusedVariables false
end Go.Tv.C36

end
section
open Go Go.Tv Go.Proofs
namespace Go.Tv.C36
set_option maxRecDepth 20000
set_option maxHeartbeats 2000000
set_option linter.unusedSimpArgs false
set_option linter.unusedVariables false
theorem dvis_t (l : List Rcd) (d : Dec) (i : Nat) (T : Twn) (ys : List Tr) (fl : Bool) (hi : i < l.length) (hl : l.length ≤ 1000000) : RetK Tryd.prog 65 [(1007, some ⟨1, 4, 0, [.t (.bool true)]⟩), (1002, some ⟨1, 32, 0, [.t (.sl (l.map encC) false)]⟩), (1003, some ⟨4, 28, 0, [.t (encD d)]⟩), (1006, some ⟨1, 33, 0, [.t (.sl ys fl)]⟩)] [.t (encI (i : Nat)), .t (encT T), .ptr 1007 0 0 0, .ptr 1002 0 0 0, .ptr 1003 0 0 0, .ptr 1006 0 0 0] [(1007, some ⟨1, 4, 0, [.t (.bool true)]⟩), (1002, some ⟨1, 32, 0, [.t (.sl (l.map encC) false)]⟩), (1003, some ⟨4, 28, 0, [.t (encD d)]⟩), (1006, some ⟨1, 33, 0, [.t (.sl ys fl)]⟩)] (.tup []) [(2, .ptr 1007 0 0 0), (3, .ptr 1002 0 0 0), (4, .ptr 1003 0 0 0), (5, .ptr 1006 0 0 0)] := by
  refine retK_of_awj (kp := fun i => Nat.beq i 2 || Nat.beq i 3 || Nat.beq i 4 || Nat.beq i 5) Tryd.func65 rfl (Nat.le_of_ble_eq_true rfl) (by simp) ?_
  intro F0 w0
  refine awj_seq ?_
  refine awj_rj rfl ?_
  refine RJ.new rfl rfl (eff_boxK (v := .t _) (k := 2) (id := 7) rfl rfl rfl rfl rfl rfl) ?_
  refine RJ.nil ?_
  refine awj_seq ?_
  refine awj_rd [(some 8, []), (some 9, []), (some 10, []), (some 11, []), (some 12, []), (some 13, []), (some 14, []), (some 15, []), (some 16, []), (some 17, []), (some 18, []), (some 19, []), (some 20, []), (some 21, []), (some 22, []), (some 23, []), (some 24, []), (some 25, []), (some 26, [])] [[], [0], [0, 1], [0, 1, 2], [0, 1, 2], [0, 1, 2, 3, 4], [0, 1, 2, 3, 4, 5], [0, 1, 2, 3, 4, 5, 6], [0, 1, 2, 3, 4, 5, 6, 7], [0, 1, 2, 3, 4, 5, 6, 7, 8], [0, 1, 2, 3, 4, 5, 6, 7, 8, 9], [0, 1, 2, 3, 4, 5, 6, 7, 8, 9, 10], [0, 1, 2, 3, 4, 5, 6, 7, 8, 9, 10], [0, 1, 2, 3, 4, 5, 6, 7, 8, 9, 10, 11, 12], [0, 1, 2, 3, 4, 5, 6, 7, 8, 9, 10, 11, 12, 13], [0, 1, 2, 3, 4, 5, 6, 7, 8, 9, 10, 11, 12, 13, 14], [0, 1, 2, 3, 4, 5, 6, 7, 8, 9, 10], [0, 1, 2, 3, 4, 5, 6, 7, 8, 9, 10, 11, 12, 13, 14, 15, 16], [0, 1, 2, 3, 4, 5, 6, 7, 8, 9, 10, 11, 12, 13, 14, 15, 16, 17]] tm rfl rfl rfl rfl ?_
  refine RD.op rfl rfl rfl (eff_load (y := .t _) rfl rfl ti4 rfl (.one rfl rfl rfl rfl)) ?_
  refine RD.op rfl rfl rfl (eff_unop rfl rfl rfl rfl) ?_
  refine RD.op rfl rfl rfl (eff_move (v := .t _) rfl rfl rfl) ?_
  refine RD.gskip rfl rfl rfl rfl rfl rfl (by decide) ?_
  refine RD.gskip rfl rfl rfl rfl rfl rfl (by decide) ?_
  refine RD.gskip rfl rfl rfl rfl rfl rfl (by decide) ?_
  refine RD.gskip rfl rfl rfl rfl rfl rfl (by decide) ?_
  refine RD.gskip rfl rfl rfl rfl rfl rfl (by decide) ?_
  refine RD.gskip rfl rfl rfl rfl rfl rfl (by decide) ?_
  refine RD.op rfl rfl rfl (eff_pick (v := .t _) rfl rfl rfl rfl) ?_
  refine RD.op rfl rfl rfl (eff_move (v := .t _) rfl rfl rfl) ?_
  refine RD.gskip rfl rfl rfl rfl rfl rfl (by decide) ?_
  refine RD.gskip rfl rfl rfl rfl rfl rfl (by decide) ?_
  refine RD.gskip rfl rfl rfl rfl rfl rfl (by decide) ?_
  refine RD.gskip rfl rfl rfl rfl rfl rfl (by decide) ?_
  refine RD.gskip rfl rfl rfl rfl rfl rfl (by decide) ?_
  refine RD.gskip rfl rfl rfl rfl rfl rfl (by decide) ?_
  refine RD.gskip rfl rfl rfl rfl rfl rfl (by decide) ?_
  refine RD.op rfl rfl rfl (eff_pick (v := .t _) rfl rfl rfl rfl) ?_
  refine RD.nil ?_
  refine awj_cond rfl (fun h => nomatch h) (fun _ => ?_)
  refine awj_skip ?_
  exact ⟨Or.inl rfl, [], [], trivial, rfl, weak_keep ⟨rfl, rfl, rfl, rfl, rfl, rfl, rfl, rfl, trivial⟩ ⟨rfl, okE_one rfl, rfl, okE_one rfl, rfl, okE_one rfl, rfl, okE_one rfl, trivial⟩, rfl⟩

theorem dvis_n (l : List Rcd) (d : Dec) (i : Nat) (T : Twn) (ys : List Tr) (fl : Bool) (hi : i < l.length) (hl : l.length ≤ 1000000) (hn : isD l d i = false) : RetK Tryd.prog 65 [(1007, some ⟨1, 4, 0, [.t (.bool false)]⟩), (1002, some ⟨1, 32, 0, [.t (.sl (l.map encC) false)]⟩), (1003, some ⟨4, 28, 0, [.t (encD d)]⟩), (1006, some ⟨1, 33, 0, [.t (.sl ys fl)]⟩)] [.t (encI (i : Nat)), .t (encT T), .ptr 1007 0 0 0, .ptr 1002 0 0 0, .ptr 1003 0 0 0, .ptr 1006 0 0 0] [(1007, some ⟨1, 4, 0, [.t (.bool false)]⟩), (1002, some ⟨1, 32, 0, [.t (.sl (l.map encC) false)]⟩), (1003, some ⟨4, 28, 0, [.t (encD d)]⟩), (1006, some ⟨1, 33, 0, [.t (.sl ys fl)]⟩)] (.tup []) [(2, .ptr 1007 0 0 0), (3, .ptr 1002 0 0 0), (4, .ptr 1003 0 0 0), (5, .ptr 1006 0 0 0)] := by
  refine retK_of_awj (kp := fun i => Nat.beq i 2 || Nat.beq i 3 || Nat.beq i 4 || Nat.beq i 5) Tryd.func65 rfl (Nat.le_of_ble_eq_true rfl) (by simp) ?_
  intro F0 w0
  refine awj_seq ?_
  refine awj_rj rfl ?_
  refine RJ.new rfl rfl (eff_boxK (v := .t _) (k := 2) (id := 7) rfl rfl rfl rfl rfl rfl) ?_
  refine RJ.nil ?_
  refine awj_seq ?_
  by_cases hc1 : (l[i]'hi).kind = 3
  · refine awj_rd [(some 8, []), (some 9, []), (some 10, []), (some 11, []), (some 12, []), (some 13, []), (some 14, []), (some 15, []), (some 16, []), (some 17, []), (some 18, []), (some 19, []), (some 20, []), (some 21, []), (some 22, []), (some 23, []), (some 24, []), (some 25, []), (some 26, [])] [[], [0], [0, 1], [0, 1, 2], [0, 1, 2], [0, 1, 2, 3, 4], [0, 1, 2, 3, 4, 5], [0, 1, 2, 3, 4, 5, 6], [0, 1, 2, 3, 4, 5, 6, 7], [0, 1, 2, 3, 4, 5, 6, 7, 8], [0, 1, 2, 3, 4, 5, 6, 7, 8, 9], [0, 1, 2, 3, 4, 5, 6, 7, 8, 9, 10], [0, 1, 2, 3, 4, 5, 6, 7, 8, 9, 10], [0, 1, 2, 3, 4, 5, 6, 7, 8, 9, 10, 11, 12], [0, 1, 2, 3, 4, 5, 6, 7, 8, 9, 10, 11, 12, 13], [0, 1, 2, 3, 4, 5, 6, 7, 8, 9, 10, 11, 12, 13, 14], [0, 1, 2, 3, 4, 5, 6, 7, 8, 9, 10], [0, 1, 2, 3, 4, 5, 6, 7, 8, 9, 10, 11, 12, 13, 14, 15, 16], [0, 1, 2, 3, 4, 5, 6, 7, 8, 9, 10, 11, 12, 13, 14, 15, 16, 17]] tm rfl rfl rfl rfl ?_
    refine RD.op rfl rfl rfl (eff_load (y := .t _) rfl rfl ti4 rfl (.one rfl rfl rfl rfl)) ?_
    refine RD.op rfl rfl rfl (eff_unop rfl rfl rfl rfl) ?_
    refine RD.op rfl rfl rfl (eff_move (v := .t _) rfl rfl rfl) ?_
    refine RD.gop rfl rfl rfl rfl rfl rfl rfl (eff_load (y := .t _) rfl rfl ti32 rfl (.one rfl rfl rfl rfl)) ?_
    refine RD.gop rfl rfl rfl rfl rfl rfl rfl (eff_move (v := .t _) rfl rfl rfl) ?_
    refine RD.gop rfl rfl rfl rfl rfl rfl rfl (eff_indexM rfl rfl te32 rfl rfl rfl (by first | assumption | exact List.getElem?_eq_getElem (by omega)) rfl (by decide)) ?_
    refine RD.gop rfl rfl rfl rfl rfl rfl rfl (eff_fieldAddrT rfl rfl tf47_1 (by decide) rfl) ?_
    refine RD.gop rfl rfl rfl rfl rfl rfl rfl (eff_loadT1 rfl rfl ti3 rfl rfl) ?_
    refine RD.gop rfl rfl rfl rfl rfl rfl rfl (eff_iop (r := .bool true) rfl rfl rfl rfl (by simp [iop, hc1])) ?_
    refine RD.op rfl rfl rfl (eff_pick (v := .t _) rfl rfl rfl rfl) ?_
    refine RD.op rfl rfl rfl (eff_move (v := .t _) rfl rfl rfl) ?_
    refine RD.gop rfl rfl rfl rfl rfl rfl rfl (eff_load (y := .t _) rfl rfl ti32 rfl (.one rfl rfl rfl rfl)) ?_
    refine RD.gop rfl rfl rfl rfl rfl rfl rfl (eff_move (v := .t _) rfl rfl rfl) ?_
    refine RD.gop rfl rfl rfl rfl rfl rfl rfl (eff_indexM (i := i) rfl rfl te32 rfl rfl (by first | rfl | omega) (by first | assumption | exact List.getElem?_eq_getElem (by omega)) rfl (by decide)) ?_
    refine RD.gop rfl rfl rfl rfl rfl rfl rfl (eff_fieldAddrT rfl rfl tf47_4 (by decide) rfl) ?_
    refine RD.gop rfl rfl rfl rfl rfl rfl rfl (eff_loadT (ys := [_, _, _, _]) rfl rfl ti28 rfl rfl rfl) ?_
    refine RD.gop rfl rfl rfl rfl rfl rfl rfl (eff_load rfl rfl ti28 rfl (.whole rfl rfl rfl rfl rfl rfl)) ?_
    refine RD.gop rfl rfl rfl rfl rfl rfl rfl (eff_structEqlAB (cells := cellsD) (a := (l[i]'hi).dec) (b := d) (r := false) rfl rfl ts28s ti28 th28 cellsD_inj cellsD_kind rfl rfl (decide_eq_false (fun hd => by rw [isD_at hi, decide_eq_true ⟨hc1, hd⟩] at hn; cases hn))) ?_
    refine RD.op rfl rfl rfl (eff_pick (v := .t _) rfl rfl rfl rfl) ?_
    refine RD.nil ?_
    refine awj_cond rfl (fun h => nomatch h) (fun _ => ?_)
    refine awj_skip ?_
    exact ⟨Or.inl rfl, [], [], trivial, rfl, weak_keep ⟨rfl, rfl, rfl, rfl, rfl, rfl, rfl, rfl, trivial⟩ ⟨rfl, okE_one rfl, rfl, okE_one rfl, rfl, okE_one rfl, rfl, okE_one rfl, trivial⟩, rfl⟩
  · refine awj_rd [(some 8, []), (some 9, []), (some 10, []), (some 11, []), (some 12, []), (some 13, []), (some 14, []), (some 15, []), (some 16, []), (some 17, []), (some 18, []), (some 19, []), (some 20, []), (some 21, []), (some 22, []), (some 23, []), (some 24, []), (some 25, []), (some 26, [])] [[], [0], [0, 1], [0, 1, 2], [0, 1, 2], [0, 1, 2, 3, 4], [0, 1, 2, 3, 4, 5], [0, 1, 2, 3, 4, 5, 6], [0, 1, 2, 3, 4, 5, 6, 7], [0, 1, 2, 3, 4, 5, 6, 7, 8], [0, 1, 2, 3, 4, 5, 6, 7, 8, 9], [0, 1, 2, 3, 4, 5, 6, 7, 8, 9, 10], [0, 1, 2, 3, 4, 5, 6, 7, 8, 9, 10], [0, 1, 2, 3, 4, 5, 6, 7, 8, 9, 10, 11, 12], [0, 1, 2, 3, 4, 5, 6, 7, 8, 9, 10, 11, 12, 13], [0, 1, 2, 3, 4, 5, 6, 7, 8, 9, 10, 11, 12, 13, 14], [0, 1, 2, 3, 4, 5, 6, 7, 8, 9, 10], [0, 1, 2, 3, 4, 5, 6, 7, 8, 9, 10, 11, 12, 13, 14, 15, 16], [0, 1, 2, 3, 4, 5, 6, 7, 8, 9, 10, 11, 12, 13, 14, 15, 16, 17]] tm rfl rfl rfl rfl ?_
    refine RD.op rfl rfl rfl (eff_load (y := .t _) rfl rfl ti4 rfl (.one rfl rfl rfl rfl)) ?_
    refine RD.op rfl rfl rfl (eff_unop rfl rfl rfl rfl) ?_
    refine RD.op rfl rfl rfl (eff_move (v := .t _) rfl rfl rfl) ?_
    refine RD.gop rfl rfl rfl rfl rfl rfl rfl (eff_load (y := .t _) rfl rfl ti32 rfl (.one rfl rfl rfl rfl)) ?_
    refine RD.gop rfl rfl rfl rfl rfl rfl rfl (eff_move (v := .t _) rfl rfl rfl) ?_
    refine RD.gop rfl rfl rfl rfl rfl rfl rfl (eff_indexM rfl rfl te32 rfl rfl rfl (by first | assumption | exact List.getElem?_eq_getElem (by omega)) rfl (by decide)) ?_
    refine RD.gop rfl rfl rfl rfl rfl rfl rfl (eff_fieldAddrT rfl rfl tf47_1 (by decide) rfl) ?_
    refine RD.gop rfl rfl rfl rfl rfl rfl rfl (eff_loadT1 rfl rfl ti3 rfl rfl) ?_
    refine RD.gop rfl rfl rfl rfl rfl rfl rfl (eff_iop (r := .bool false) rfl rfl rfl rfl (by simp [iop, hc1])) ?_
    refine RD.op rfl rfl rfl (eff_pick (v := .t _) rfl rfl rfl rfl) ?_
    refine RD.op rfl rfl rfl (eff_move (v := .t _) rfl rfl rfl) ?_
    refine RD.gskip rfl rfl rfl rfl rfl rfl (by decide) ?_
    refine RD.gskip rfl rfl rfl rfl rfl rfl (by decide) ?_
    refine RD.gskip rfl rfl rfl rfl rfl rfl (by decide) ?_
    refine RD.gskip rfl rfl rfl rfl rfl rfl (by decide) ?_
    refine RD.gskip rfl rfl rfl rfl rfl rfl (by decide) ?_
    refine RD.gskip rfl rfl rfl rfl rfl rfl (by decide) ?_
    refine RD.gskip rfl rfl rfl rfl rfl rfl (by decide) ?_
    refine RD.op rfl rfl rfl (eff_pick (v := .t _) rfl rfl rfl rfl) ?_
    refine RD.nil ?_
    refine awj_cond rfl (fun h => nomatch h) (fun _ => ?_)
    refine awj_skip ?_
    exact ⟨Or.inl rfl, [], [], trivial, rfl, weak_keep ⟨rfl, rfl, rfl, rfl, rfl, rfl, rfl, rfl, trivial⟩ ⟨rfl, okE_one rfl, rfl, okE_one rfl, rfl, okE_one rfl, rfl, okE_one rfl, trivial⟩, rfl⟩

theorem dvis_y (l : List Rcd) (d : Dec) (i : Nat) (T : Twn) (ys : List Tr) (fl : Bool) (hi : i < l.length) (hl : l.length ≤ 1000000) (hn : isD l d i = true) (hT : T = (runTo l i).1) (hF : Fit 12 T) (hq : ∀ r, r ∈ l → 0 ≤ r.frame.seq ∧ r.frame.seq ≤ 1000000) (hd : -2000000 ≤ d.seq ∧ d.seq ≤ 2000000) : RetK Tryd.prog 65 [(1007, some ⟨1, 4, 0, [.t (.bool false)]⟩), (1002, some ⟨1, 32, 0, [.t (.sl (l.map encC) false)]⟩), (1003, some ⟨4, 28, 0, [.t (encD d)]⟩), (1006, some ⟨1, 33, 0, [.t (.sl ys fl)]⟩)] [.t (encI (i : Nat)), .t (encT T), .ptr 1007 0 0 0, .ptr 1002 0 0 0, .ptr 1003 0 0 0, .ptr 1006 0 0 0] [(1007, some ⟨1, 4, 0, [.t (.bool true)]⟩), (1002, some ⟨1, 32, 0, [.t (.sl (l.map encC) false)]⟩), (1003, some ⟨4, 28, 0, [.t (encD d)]⟩), (1006, some ⟨1, 33, 0, [.t (.sl ((rightsAt l d i).map encR) false)]⟩)] (.tup []) [(2, .ptr 1007 0 0 0), (3, .ptr 1002 0 0 0), (4, .ptr 1003 0 0 0), (5, .ptr 1006 0 0 0)] := by
  have hk3 : (l[i]'hi).kind = 3 ∧ (l[i]'hi).dec = d := by
    rw [isD_at hi] at hn; exact of_decide_eq_true hn
  refine retK_of_awj (kp := fun i => Nat.beq i 2 || Nat.beq i 3 || Nat.beq i 4 || Nat.beq i 5) Tryd.func65 rfl (Nat.le_of_ble_eq_true rfl) (by simp) ?_
  intro F0 w0
  refine awj_seq ?_
  refine awj_rj rfl ?_
  refine RJ.new rfl rfl (eff_boxK (v := .t _) (k := 2) (id := 7) rfl rfl rfl rfl rfl rfl) ?_
  refine RJ.nil ?_
  refine awj_seq ?_
  refine awj_rd [(some 8, []), (some 9, []), (some 10, []), (some 11, []), (some 12, []), (some 13, []), (some 14, []), (some 15, []), (some 16, []), (some 17, []), (some 18, []), (some 19, []), (some 20, []), (some 21, []), (some 22, []), (some 23, []), (some 24, []), (some 25, []), (some 26, [])] [[], [0], [0, 1], [0, 1, 2], [0, 1, 2], [0, 1, 2, 3, 4], [0, 1, 2, 3, 4, 5], [0, 1, 2, 3, 4, 5, 6], [0, 1, 2, 3, 4, 5, 6, 7], [0, 1, 2, 3, 4, 5, 6, 7, 8], [0, 1, 2, 3, 4, 5, 6, 7, 8, 9], [0, 1, 2, 3, 4, 5, 6, 7, 8, 9, 10], [0, 1, 2, 3, 4, 5, 6, 7, 8, 9, 10], [0, 1, 2, 3, 4, 5, 6, 7, 8, 9, 10, 11, 12], [0, 1, 2, 3, 4, 5, 6, 7, 8, 9, 10, 11, 12, 13], [0, 1, 2, 3, 4, 5, 6, 7, 8, 9, 10, 11, 12, 13, 14], [0, 1, 2, 3, 4, 5, 6, 7, 8, 9, 10], [0, 1, 2, 3, 4, 5, 6, 7, 8, 9, 10, 11, 12, 13, 14, 15, 16], [0, 1, 2, 3, 4, 5, 6, 7, 8, 9, 10, 11, 12, 13, 14, 15, 16, 17]] tm rfl rfl rfl rfl ?_
  refine RD.op rfl rfl rfl (eff_load (y := .t _) rfl rfl ti4 rfl (.one rfl rfl rfl rfl)) ?_
  refine RD.op rfl rfl rfl (eff_unop rfl rfl rfl rfl) ?_
  refine RD.op rfl rfl rfl (eff_move (v := .t _) rfl rfl rfl) ?_
  refine RD.gop rfl rfl rfl rfl rfl rfl rfl (eff_load (y := .t _) rfl rfl ti32 rfl (.one rfl rfl rfl rfl)) ?_
  refine RD.gop rfl rfl rfl rfl rfl rfl rfl (eff_move (v := .t _) rfl rfl rfl) ?_
  refine RD.gop rfl rfl rfl rfl rfl rfl rfl (eff_indexM rfl rfl te32 rfl rfl rfl (by first | assumption | exact List.getElem?_eq_getElem (by omega)) rfl (by decide)) ?_
  refine RD.gop rfl rfl rfl rfl rfl rfl rfl (eff_fieldAddrT rfl rfl tf47_1 (by decide) rfl) ?_
  refine RD.gop rfl rfl rfl rfl rfl rfl rfl (eff_loadT1 rfl rfl ti3 rfl rfl) ?_
  refine RD.gop rfl rfl rfl rfl rfl rfl rfl (eff_iop (r := .bool true) rfl rfl rfl rfl (by simp [iop, hk3.1])) ?_
  refine RD.op rfl rfl rfl (eff_pick (v := .t _) rfl rfl rfl rfl) ?_
  refine RD.op rfl rfl rfl (eff_move (v := .t _) rfl rfl rfl) ?_
  refine RD.gop rfl rfl rfl rfl rfl rfl rfl (eff_load (y := .t _) rfl rfl ti32 rfl (.one rfl rfl rfl rfl)) ?_
  refine RD.gop rfl rfl rfl rfl rfl rfl rfl (eff_move (v := .t _) rfl rfl rfl) ?_
  refine RD.gop rfl rfl rfl rfl rfl rfl rfl (eff_indexM (i := i) rfl rfl te32 rfl rfl (by first | rfl | omega) (by first | assumption | exact List.getElem?_eq_getElem (by omega)) rfl (by decide)) ?_
  refine RD.gop rfl rfl rfl rfl rfl rfl rfl (eff_fieldAddrT rfl rfl tf47_4 (by decide) rfl) ?_
  refine RD.gop rfl rfl rfl rfl rfl rfl rfl (eff_loadT (ys := [_, _, _, _]) rfl rfl ti28 rfl rfl rfl) ?_
  refine RD.gop rfl rfl rfl rfl rfl rfl rfl (eff_load rfl rfl ti28 rfl (.whole rfl rfl rfl rfl rfl rfl)) ?_
  refine RD.gop rfl rfl rfl rfl rfl rfl rfl (eff_structEqlAB (cells := cellsD) (a := (l[i]'hi).dec) (b := d) (r := true) rfl rfl ts28s ti28 th28 cellsD_inj cellsD_kind rfl rfl (decide_eq_true hk3.2)) ?_
  refine RD.op rfl rfl rfl (eff_pick (v := .t _) rfl rfl rfl rfl) ?_
  refine RD.nil ?_
  refine awj_cond rfl (fun _ => ?_) (fun h => nomatch h)
  refine awj_rd [(some 27, []), (some 28, []), (some 29, []), (some 30, []), (some 31, []), (some 32, []), (some 33, []), (none, [1007]), (none, [1006])] [[], [], [], [], [2, 3], [2, 3, 4], [0, 1, 2, 3, 4, 5], [0, 1, 2, 3, 4, 5, 6], [0, 1, 2, 3, 4, 5, 6, 7]] tm rfl rfl rfl rfl ?_
  refine RD.op rfl rfl rfl (eff_load rfl rfl ti64 rfl (.whole rfl rfl rfl rfl rfl rfl)) ?_
  refine RD.op rfl rfl rfl (eff_load rfl rfl ti28 rfl (.whole rfl rfl rfl rfl rfl rfl)) ?_
  refine RD.op rfl rfl rfl (eff_load (y := .t _) rfl rfl ti32 rfl (.one rfl rfl rfl rfl)) ?_
  refine RD.op rfl rfl rfl (eff_move (v := .t _) rfl rfl rfl) ?_
  refine RD.op rfl rfl rfl (eff_sliceM (g := encC) (l := none) (h := some i) (r := l.take i) rfl rfl te32 rfl (fun _ => rfl) .no (.yes rfl rfl) (Nat.zero_le _) (by simp; omega) (by simp)) ?_
  refine RD.op rfl rfl rfl (eff_callT (sent_ret (l.take i) (by rw [List.length_take]; omega) (fun r hr => hq r (List.mem_of_mem_take hr))) co41 rfl rfl rfl rfl) ?_
  refine RD.op rfl rfl rfl (eff_callT (rights_ret T d _ hF.hp (fun y hy => (hF.nx y hy).mono (by decide)) hd (by have := hF.len; omega)) co40 rfl rfl rfl rfl) ?_
  refine RD.store rfl rfl rfl (eff_storeW (v := .t _) (els := [_]) (els' := [_]) rfl rfl ti4 rfl rfl rfl rfl rfl rfl rfl rfl rfl) ?_
  refine RD.store rfl rfl rfl (eff_storeW (v := .t _) (els := [_]) (els' := [_]) rfl rfl ti33 rfl rfl rfl rfl rfl rfl rfl rfl rfl) ?_
  refine RD.nil ?_
  rw [show rightsAt l d i = rights T d (sentN (l.take i)) from by rw [hT]; rfl]
  exact ⟨Or.inl rfl, [], [], trivial, rfl, weak_keep ⟨rfl, rfl, rfl, rfl, rfl, rfl, rfl, rfl, trivial⟩ ⟨rfl, okE_one rfl, rfl, okE_one rfl, rfl, okE_one rfl, rfl, okE_one rfl, trivial⟩, rfl⟩

theorem dvis_ret (l : List Rcd) (d : Dec) (i : Nat) (T : Twn) (hi : i < l.length) (hl : l.length ≤ 1000000) (hT : T = (runTo l i).1) (hF : Fit 12 T) (hq : ∀ r, r ∈ l → 0 ≤ r.frame.seq ∧ r.frame.seq ≤ 1000000) (hf : form l i = 0) :
    RetK Tryd.prog 65 [(1007, some ⟨1, 4, 0, [.t (.bool (fdN l d i))]⟩), (1002, some ⟨1, 32, 0, [.t (.sl (l.map encC) false)]⟩), (1003, some ⟨4, 28, 0, [.t (encD d)]⟩), (1006, some ⟨1, 33, 0, [.t (.sl ((outN l d i).map encR) (!fdN l d i))]⟩)] [.t (encI (i : Nat)), .t (encT T), .ptr 1007 0 0 0, .ptr 1002 0 0 0, .ptr 1003 0 0 0, .ptr 1006 0 0 0] [(1007, some ⟨1, 4, 0, [.t (.bool (fdN l d (i + 1)))]⟩), (1002, some ⟨1, 32, 0, [.t (.sl (l.map encC) false)]⟩), (1003, some ⟨4, 28, 0, [.t (encD d)]⟩), (1006, some ⟨1, 33, 0, [.t (.sl ((outN l d (i + 1)).map encR) (!fdN l d (i + 1)))]⟩)] (.tup []) [(2, .ptr 1007 0 0 0), (3, .ptr 1002 0 0 0), (4, .ptr 1003 0 0 0), (5, .ptr 1006 0 0 0)] := by
  cases h : fdN l d i with
  | true =>
    obtain ⟨e1, e2⟩ := fd_old h
    rw [e1, e2]
    exact dvis_t l d i T _ _ hi hl
  | false =>
    cases hn : isD l d i with
    | false =>
      obtain ⟨e1, e2⟩ := fd_no h hn
      rw [e1, e2]
      exact dvis_n l d i T _ _ hi hl hn
    | true =>
      obtain ⟨e1, e2⟩ := fd_yes h hn
      rw [e1, e2]
      have hk3 : (l[i]'hi).kind = 3 ∧ (l[i]'hi).dec = d := by
        rw [isD_at hi] at hn; exact of_decide_eq_true hn
      have := form_dec hi hf hk3.1
      rw [hk3.2] at this
      exact dvis_y l d i T _ _ hi hl hn hT hF hq (by omega)

end Go.Tv.C36

end
section
open Go Go.Tv Go.Proofs
namespace Go.Tv.C36
set_option maxRecDepth 20000
set_option maxHeartbeats 2000000
set_option linter.unusedSimpArgs false
set_option linter.unusedVariables false
theorem replay65_ret (l : List Rcd) (d : Dec) (hO : OKL l) : RetKT Tryd.prog 38 [(1, deT)] [(1007, some ⟨1, 4, 0, [.t (.bool (fdN l d 0))]⟩), (1002, some ⟨1, 32, 0, [.t (.sl (l.map encC) false)]⟩), (1003, some ⟨4, 28, 0, [.t (encD d)]⟩), (1006, some ⟨1, 33, 0, [.t (.sl ((outN l d 0).map encR) (!fdN l d 0))]⟩)] [.t (.sl (l.map encC) false), .fn 65 [.ptr 1007 0 0 0, .ptr 1002 0 0 0, .ptr 1003 0 0 0, .ptr 1006 0 0 0]] [(1007, some ⟨1, 4, 0, [.t (.bool (fdN l d (nvis l)))]⟩), (1002, some ⟨1, 32, 0, [.t (.sl (l.map encC) false)]⟩), (1003, some ⟨4, 28, 0, [.t (encD d)]⟩), (1006, some ⟨1, 33, 0, [.t (.sl ((outN l d (nvis l)).map encR) (!fdN l d (nvis l)))]⟩)] (.tup [.t (encT (allOf l).1), .t (encI (allOf l).2)]) [(1, .fn 65 [.ptr 1007 0 0 0, .ptr 1002 0 0 0, .ptr 1003 0 0 0, .ptr 1006 0 0 0])] := by
  refine retKT_of_awj (kp := fun i => Nat.beq i 1) Tryd.func38 rfl (Nat.le_of_ble_eq_true rfl) (by simp) ?_
  intro F0 w0
  refine awj_seq ?_
  refine awj_rj rfl ?_
  refine RJ.new rfl rfl (eff_allocK (k := 2) (id := 4) rfl rfl tz64 rfl rfl) ?_
  refine RJ.op rfl rfl (eff_assign (v := .t _) rfl rfl rfl) ?_
  refine RJ.nil ?_
  refine awj_seq ?_
  refine awj_seq ?_
  refine awj_rj rfl ?_
  refine RJ.op rfl rfl (eff_move (v := .t _) rfl rfl rfl) ?_
  refine RJ.op rfl rfl (eff_lenM rfl rfl te32 rfl) ?_
  refine RJ.op rfl rfl (eff_iop rfl rfl rfl rfl rfl) ?_
  refine RJ.nil ?_
  refine awj_cond rfl (fun h1 => ?_) (fun h1 => ?_)
  · try simp only [cl] at h1
    refine awj_seq ?_
    refine awj_rj rfl ?_
    refine RJ.op rfl rfl (eff_buildT (ys := [_, _]) rfl rfl tz64 tg64 rfl) ?_
    refine RJ.store rfl rfl (eff_storeW (v := .t _) (els := [_]) (els' := [_]) rfl rfl ti64 rfl rfl rfl rfl rfl rfl rfl rfl rfl) ?_
    refine RJ.op rfl rfl (eff_assign (v := .t _) rfl rfl rfl) ?_
    refine RJ.nil ?_
    refine awj_ret ?_
    first
      | (rw [all_lim h1, nvis_lim h1]; exact ⟨Or.inr rfl, [_, _], [.t (encT zt), .t _], ⟨.cell rfl ti64 (.whole rfl rfl rfl rfl rfl rfl), .tmp rfl, trivial⟩, rfl, Weak.trans (weak_slot 0 (y := encT zt) rfl (by repeat' first | exact trivial | exact Wk.refl _ | exact Wk.sl _ | refine And.intro ?_ ?_ | refine Wk.tupP ?_ | refine Wk.aggP ?_)) (weak_keep ⟨rfl, rfl, rfl, rfl, rfl, rfl, trivial⟩ ⟨rfl, okE_one rfl, rfl, okE_one rfl, rfl, okE_one rfl, rfl, okE_one rfl, trivial⟩), rfl⟩)
      | (have hfx : form l i ≠ 0 := by omega
         rw [all_bad h1 hil (run_form hok hfx) hfx, nvis_form h1 hil hok hfx]; exact ⟨Or.inr rfl, [_, _], [.t (encT zt), .t _], ⟨.cell rfl ti64 (.whole rfl rfl rfl rfl rfl rfl), .tmp rfl, trivial⟩, rfl, Weak.trans (weak_slot 0 (y := encT zt) rfl (by repeat' first | exact trivial | exact Wk.refl _ | exact Wk.sl _ | refine And.intro ?_ ?_ | refine Wk.tupP ?_ | refine Wk.aggP ?_)) (weak_keep ⟨rfl, rfl, rfl, rfl, rfl, rfl, trivial⟩ ⟨rfl, okE_one rfl, rfl, okE_one rfl, rfl, okE_one rfl, rfl, okE_one rfl, trivial⟩), rfl⟩)
      | (have hrb := bad_send hil hT hok hfo (by omega) (by omega)
         rw [all_bad h1 hil hrb (by omega), nvis_bad h1 hil hok hfo hrb (by omega)]; exact ⟨Or.inr rfl, [_, _], [.t (encT zt), .t _], ⟨.cell rfl ti64 (.whole rfl rfl rfl rfl rfl rfl), .tmp rfl, trivial⟩, rfl, Weak.trans (weak_slot 0 (y := encT zt) rfl (by repeat' first | exact trivial | exact Wk.refl _ | exact Wk.sl _ | refine And.intro ?_ ?_ | refine Wk.tupP ?_ | refine Wk.aggP ?_)) (weak_keep ⟨rfl, rfl, rfl, rfl, rfl, rfl, trivial⟩ ⟨rfl, okE_one rfl, rfl, okE_one rfl, rfl, okE_one rfl, rfl, okE_one rfl, trivial⟩), rfl⟩)
      | (have hrb := bad_hear hil hT hok hfo (by omega) (by omega)
         rw [all_bad h1 hil hrb (by omega), nvis_bad h1 hil hok hfo hrb (by omega)]; exact ⟨Or.inr rfl, [_, _], [.t (encT zt), .t _], ⟨.cell rfl ti64 (.whole rfl rfl rfl rfl rfl rfl), .tmp rfl, trivial⟩, rfl, Weak.trans (weak_slot 0 (y := encT zt) rfl (by repeat' first | exact trivial | exact Wk.refl _ | exact Wk.sl _ | refine And.intro ?_ ?_ | refine Wk.tupP ?_ | refine Wk.aggP ?_)) (weak_keep ⟨rfl, rfl, rfl, rfl, rfl, rfl, trivial⟩ ⟨rfl, okE_one rfl, rfl, okE_one rfl, rfl, okE_one rfl, rfl, okE_one rfl, trivial⟩), rfl⟩)
      | exact absurd trivial ‹¬ True›
      | (exfalso; omega)
      | (have hi2 : i = l.length := by omega
         subst hi2
         rw [all_ok h1 hok, nvis_ok h1 hok, ← hT]; exact ⟨Or.inr rfl, [_, _], [.t (encT T), .t _], ⟨.cell rfl ti64 (.whole rfl rfl rfl rfl rfl rfl), .tmp rfl, trivial⟩, rfl, Weak.trans (weak_slot 0 (y := encT T) rfl (by repeat' first | exact trivial | exact Wk.refl _ | exact Wk.sl _ | refine And.intro ?_ ?_ | refine Wk.tupP ?_ | refine Wk.aggP ?_)) (weak_keep ⟨rfl, rfl, rfl, rfl, rfl, rfl, trivial⟩ ⟨rfl, okE_one rfl, rfl, okE_one rfl, rfl, okE_one rfl, rfl, okE_one rfl, trivial⟩), rfl⟩)
  · try simp only [cl] at h1
    refine awj_skip ?_
    refine awj_seq ?_
    refine awj_rj rfl ?_
    refine RJ.op rfl rfl (eff_callT (new17_ret) co61 rfl rfl rfl rfl) ?_
    refine RJ.new rfl rfl (eff_allocK (k := 2) (id := 6) rfl rfl tz64 rfl rfl) ?_
    refine RJ.store rfl rfl (eff_storeW (v := .t _) (els := [_]) (els' := [_]) rfl rfl ti64 rfl rfl rfl rfl rfl rfl rfl rfl rfl) ?_
    refine RJ.nil ?_
    refine awj_seq ?_
    refine awj_seq ?_
    refine awj_rj rfl ?_
    refine RJ.op rfl rfl (eff_move (v := .t _) rfl rfl rfl) ?_
    refine RJ.op rfl rfl (eff_lenM rfl rfl te32 rfl) ?_
    refine RJ.op rfl rfl (eff_move (v := .t _) rfl rfl rfl) ?_
    refine RJ.nil ?_
    refine awj_block ?_
    refine awj_loopW (fun m s g => ∃ (i : Nat) (T : Twn), (i ≤ l.length) ∧ (T = (runTo l i).1) ∧ ((runTo l i).2 = 0) ∧ m = l.length - i ∧ s = ⟨63, [(0, .t (.sl (l.map encC) false)), (1, .fn 65 [.ptr 1007 0 0 0, .ptr 1002 0 0 0, .ptr 1003 0 0 0, .ptr 1006 0 0 0]), (4, .ptr 4 0 0 0), (6, .ptr 6 0 0 0), (17, .t (.sl (l.map encC) false)), (18, .t (encI (l.length : Nat))), (19, .t (encI (i : Nat))), (64, .t deT)], [(4, some ⟨2, 64, 0, [.t z64]⟩), (6, some ⟨2, 64, 0, [.t (encT T)]⟩), (1007, some ⟨1, 4, 0, [.t (.bool (fdN l d i))]⟩), (1002, some ⟨1, 32, 0, [.t (.sl (l.map encC) false)]⟩), (1003, some ⟨4, 28, 0, [.t (encD d)]⟩), (1006, some ⟨1, 33, 0, [.t (.sl ((outN l d i).map encR) (!fdN l d i))]⟩)]⟩) (_) (⟨_, weak_keep (n := 63) (fr' := [(0, .t (.sl (l.map encC) false)), (1, .fn 65 [.ptr 1007 0 0 0, .ptr 1002 0 0 0, .ptr 1003 0 0 0, .ptr 1006 0 0 0]), (4, .ptr 4 0 0 0), (6, .ptr 6 0 0 0), (17, .t (.sl (l.map encC) false)), (18, .t (encI (l.length : Nat))), (19, .t (encI (0 : Nat))), (64, .t deT)]) (st' := [(4, some ⟨2, 64, 0, [.t z64]⟩), (6, some ⟨2, 64, 0, [.t (encT newT)]⟩), (1007, some ⟨1, 4, 0, [.t (.bool (fdN l d 0))]⟩), (1002, some ⟨1, 32, 0, [.t (.sl (l.map encC) false)]⟩), (1003, some ⟨4, 28, 0, [.t (encD d)]⟩), (1006, some ⟨1, 33, 0, [.t (.sl ((outN l d 0).map encR) (!fdN l d 0))]⟩)]) ⟨rfl, rfl, rfl, rfl, rfl, rfl, rfl, rfl, rfl, rfl, rfl, rfl, rfl, rfl, rfl, rfl, trivial⟩ ⟨rfl, okE_one rfl, rfl, okE_one rfl, rfl, okE_one rfl, rfl, okE_one rfl, rfl, okE_one rfl, rfl, okE_one rfl, trivial⟩, 0, newT, (by omega), (by rfl), (by rfl), rfl, rfl⟩) ?_
    rintro m s g ⟨i, T, hi, hT, hok, rfl, rfl⟩
    refine awj_seq ?_
    refine awj_rj rfl ?_
    refine RJ.op rfl rfl (eff_iop rfl rfl rfl rfl rfl) ?_
    refine RJ.nil ?_
    refine awj_seq ?_
    refine awj_cond rfl (fun h2 => ?_) (fun h2 => ?_)
    · try simp only [cl] at h2
      refine awj_skip ?_
      refine awj_seq ?_
      refine awj_block ?_
      refine awj_seq ?_
      refine awj_rj rfl ?_
      have hil : i < l.length := by omega
      have hFit := runTo_fit12 hO (by omega) hok
      rw [← hT] at hFit
      refine RJ.op rfl rfl (eff_move (v := .t _) rfl rfl rfl) ?_
      refine RJ.op rfl rfl (eff_indexM rfl rfl te32 rfl rfl rfl (by first | assumption | exact List.getElem?_eq_getElem (by omega)) rfl (by decide)) ?_
      refine RJ.op rfl rfl (eff_loadW rfl rfl ti47 rfl rfl rfl) ?_
      refine RJ.new rfl rfl (eff_allocK (k := 15) (id := 8) rfl rfl tz47 rfl rfl) ?_
      refine RJ.op rfl rfl (eff_assign (v := .t _) rfl rfl rfl) ?_
      refine RJ.store rfl rfl (eff_storeW (v := .t _) (els := [_]) (els' := [_]) rfl rfl ti47 rfl rfl rfl rfl rfl rfl rfl rfl rfl) ?_
      refine RJ.nil ?_
      refine awj_seq ?_
      refine awj_seq ?_
      refine awj_rj rfl ?_
      refine RJ.op rfl rfl (eff_move (v := .t _) rfl rfl rfl) ?_
      refine RJ.op rfl rfl (eff_move (v := .t _) rfl rfl rfl) ?_
      refine RJ.op rfl rfl (eff_callT (form_ret l i hil (by have := hO.len; omega)) co62 rfl rfl rfl rfl) ?_
      refine RJ.op rfl rfl (eff_assign (v := .t _) rfl rfl rfl) ?_
      refine RJ.nil ?_
      refine awj_seq ?_
      refine awj_rj rfl ?_
      refine RJ.op rfl rfl (eff_move (v := .t _) rfl rfl rfl) ?_
      refine RJ.op rfl rfl (eff_iop rfl rfl rfl rfl rfl) ?_
      refine RJ.nil ?_
      refine awj_cond rfl (fun h3 => ?_) (fun h3 => ?_)
      · try simp only [cl] at h3
        refine awj_seq ?_
        refine awj_rj rfl ?_
        refine RJ.op rfl rfl (eff_buildT (ys := [_, _]) rfl rfl tz64 tg64 rfl) ?_
        refine RJ.op rfl rfl (eff_move (v := .t _) rfl rfl rfl) ?_
        refine RJ.store rfl rfl (eff_storeW (v := .t _) (els := [_]) (els' := [_]) rfl rfl ti64 rfl rfl rfl rfl rfl rfl rfl rfl rfl) ?_
        refine RJ.op rfl rfl (eff_assign (v := .t _) rfl rfl rfl) ?_
        refine RJ.nil ?_
        refine awj_ret ?_
        first
          | (rw [all_lim h1, nvis_lim h1]; exact ⟨Or.inr rfl, [_, _], [.t (encT zt), .t _], ⟨.cell rfl ti64 (.whole rfl rfl rfl rfl rfl rfl), .tmp rfl, trivial⟩, rfl, Weak.trans (weak_slot 0 (y := encT zt) rfl (by repeat' first | exact trivial | exact Wk.refl _ | exact Wk.sl _ | refine And.intro ?_ ?_ | refine Wk.tupP ?_ | refine Wk.aggP ?_)) (weak_keep ⟨rfl, rfl, rfl, rfl, rfl, rfl, trivial⟩ ⟨rfl, okE_one rfl, rfl, okE_one rfl, rfl, okE_one rfl, rfl, okE_one rfl, trivial⟩), rfl⟩)
          | (have hfx : form l i ≠ 0 := by omega
             rw [all_bad h1 hil (run_form hok hfx) hfx, nvis_form h1 hil hok hfx]; exact ⟨Or.inr rfl, [_, _], [.t (encT zt), .t _], ⟨.cell rfl ti64 (.whole rfl rfl rfl rfl rfl rfl), .tmp rfl, trivial⟩, rfl, Weak.trans (weak_slot 0 (y := encT zt) rfl (by repeat' first | exact trivial | exact Wk.refl _ | exact Wk.sl _ | refine And.intro ?_ ?_ | refine Wk.tupP ?_ | refine Wk.aggP ?_)) (weak_keep ⟨rfl, rfl, rfl, rfl, rfl, rfl, trivial⟩ ⟨rfl, okE_one rfl, rfl, okE_one rfl, rfl, okE_one rfl, rfl, okE_one rfl, trivial⟩), rfl⟩)
          | (have hrb := bad_send hil hT hok hfo (by omega) (by omega)
             rw [all_bad h1 hil hrb (by omega), nvis_bad h1 hil hok hfo hrb (by omega)]; exact ⟨Or.inr rfl, [_, _], [.t (encT zt), .t _], ⟨.cell rfl ti64 (.whole rfl rfl rfl rfl rfl rfl), .tmp rfl, trivial⟩, rfl, Weak.trans (weak_slot 0 (y := encT zt) rfl (by repeat' first | exact trivial | exact Wk.refl _ | exact Wk.sl _ | refine And.intro ?_ ?_ | refine Wk.tupP ?_ | refine Wk.aggP ?_)) (weak_keep ⟨rfl, rfl, rfl, rfl, rfl, rfl, trivial⟩ ⟨rfl, okE_one rfl, rfl, okE_one rfl, rfl, okE_one rfl, rfl, okE_one rfl, trivial⟩), rfl⟩)
          | (have hrb := bad_hear hil hT hok hfo (by omega) (by omega)
             rw [all_bad h1 hil hrb (by omega), nvis_bad h1 hil hok hfo hrb (by omega)]; exact ⟨Or.inr rfl, [_, _], [.t (encT zt), .t _], ⟨.cell rfl ti64 (.whole rfl rfl rfl rfl rfl rfl), .tmp rfl, trivial⟩, rfl, Weak.trans (weak_slot 0 (y := encT zt) rfl (by repeat' first | exact trivial | exact Wk.refl _ | exact Wk.sl _ | refine And.intro ?_ ?_ | refine Wk.tupP ?_ | refine Wk.aggP ?_)) (weak_keep ⟨rfl, rfl, rfl, rfl, rfl, rfl, trivial⟩ ⟨rfl, okE_one rfl, rfl, okE_one rfl, rfl, okE_one rfl, rfl, okE_one rfl, trivial⟩), rfl⟩)
          | exact absurd trivial ‹¬ True›
          | (exfalso; omega)
          | (have hi2 : i = l.length := by omega
             subst hi2
             rw [all_ok h1 hok, nvis_ok h1 hok, ← hT]; exact ⟨Or.inr rfl, [_, _], [.t (encT T), .t _], ⟨.cell rfl ti64 (.whole rfl rfl rfl rfl rfl rfl), .tmp rfl, trivial⟩, rfl, Weak.trans (weak_slot 0 (y := encT T) rfl (by repeat' first | exact trivial | exact Wk.refl _ | exact Wk.sl _ | refine And.intro ?_ ?_ | refine Wk.tupP ?_ | refine Wk.aggP ?_)) (weak_keep ⟨rfl, rfl, rfl, rfl, rfl, rfl, trivial⟩ ⟨rfl, okE_one rfl, rfl, okE_one rfl, rfl, okE_one rfl, rfl, okE_one rfl, trivial⟩), rfl⟩)
      · try simp only [cl] at h3
        refine awj_skip ?_
        refine awj_seq ?_
        refine awj_rj rfl ?_
        have hfo : form l i = 0 := by omega
        refine RJ.op rfl rfl (eff_move (v := .fn _ _) rfl rfl rfl) ?_
        refine RJ.op rfl rfl (eff_move (v := .t _) rfl rfl rfl) ?_
        refine RJ.op rfl rfl (eff_load rfl rfl ti64 rfl (.whole rfl rfl rfl rfl rfl rfl)) ?_
        refine RJ.new4 rfl rfl (eff_callKF (dvis_ret l d i T hil (by have := hO.len; omega) hT hFit hO.seq hfo) co65 (fun id => id) rfl rfl rfl ⟨.t _, .t _, .ptr _ _ _ _ rfl rfl, .ptr _ _ _ _ rfl rfl, .ptr _ _ _ _ rfl rfl, .ptr _ _ _ _ rfl rfl, trivial⟩ (.tup _ _ rfl (fun i c d h _ => by simp at h)) rfl ⟨⟨rfl, self_one, ⟨_, rfl, .inr ⟨rfl, rfl, rfl, rfl, 2, rfl, (by simp)⟩⟩⟩, ⟨rfl, self_one, ⟨_, rfl, .inr ⟨rfl, rfl, rfl, rfl, 3, rfl, (by simp)⟩⟩⟩, ⟨rfl, self_one, ⟨_, rfl, .inr ⟨rfl, rfl, rfl, rfl, 4, rfl, (by simp)⟩⟩⟩, ⟨rfl, self_one, ⟨_, rfl, .inr ⟨rfl, rfl, rfl, rfl, 5, rfl, (by simp)⟩⟩⟩, trivial⟩ ⟨⟨self_one, .inl rfl⟩, ⟨self_one, .inl rfl⟩, ⟨self_one, .inl rfl⟩, ⟨self_one, .inl rfl⟩, trivial⟩) ?_
        refine RJ.nil ?_
        refine awj_seq ?_
        refine awj_rj rfl ?_
        refine RJ.op rfl rfl (eff_assign (v := .t _) rfl rfl rfl) ?_
        refine RJ.nil ?_
        refine awj_seq ?_
        refine awj_rj rfl ?_
        refine RJ.op rfl rfl (eff_load rfl rfl ti64 rfl (.whole rfl rfl rfl rfl rfl rfl)) ?_
        refine RJ.new rfl rfl (eff_allocK (k := 2) (id := 11) rfl rfl tz64 rfl rfl) ?_
        refine RJ.store rfl rfl (eff_storeW (v := .t _) (els := [_]) (els' := [_]) rfl rfl ti64 rfl rfl rfl rfl rfl rfl rfl rfl rfl) ?_
        refine RJ.nil ?_
        refine awj_seq ?_
        refine awj_seq ?_
        refine awj_rj rfl ?_
        refine RJ.op rfl rfl (eff_fieldAddr rfl rfl tf47_1 (by decide) rfl rfl rfl (Nat.le_of_ble_eq_true rfl)) ?_
        refine RJ.op rfl rfl (eff_load (y := .t _) rfl rfl ti3 rfl (.one rfl rfl rfl rfl)) ?_
        refine RJ.nil ?_
        refine awj_block ?_
        refine awj_seq ?_
        refine awj_rj rfl ?_
        refine RJ.op rfl rfl (eff_iop rfl rfl rfl rfl rfl) ?_
        refine RJ.op rfl rfl (eff_assign (v := .t _) rfl rfl rfl) ?_
        refine RJ.nil ?_
        refine awj_cond rfl (fun h4 => ?_) (fun h4 => ?_)
        · try simp only [cl] at h4
          refine awj_rj rfl ?_
          refine RJ.op rfl rfl (eff_load rfl rfl ti64 rfl (.whole rfl rfl rfl rfl rfl rfl)) ?_
          refine RJ.op rfl rfl (eff_fieldAddr rfl rfl tf47_2 (by decide) rfl rfl rfl (Nat.le_of_ble_eq_true rfl)) ?_
          refine RJ.op rfl rfl (eff_loadS (ys := [_, _, _, _, _]) rfl rfl ti45 rfl rfl rfl rfl rfl rfl) ?_
          refine RJ.op rfl rfl (eff_callXT (tsend_ret T _ hFit.srt hFit.hp (by have := hFit.len; omega) (by have := hFit.sl; omega) hFit.bod (hO.bod _ (List.getElem_mem hil))) co63 rfl rfl rfl ⟨rfl, trivial⟩ rfl) ?_
          refine RJ.op rfl rfl (eff_move (v := .t _) rfl rfl rfl) ?_
          refine RJ.op rfl rfl (eff_extract rfl rfl rfl rfl) ?_
          refine RJ.op rfl rfl (eff_extract rfl rfl rfl rfl) ?_
          refine RJ.store rfl rfl (eff_storeW (v := .t _) (els := [_]) (els' := [_]) rfl rfl ti64 rfl rfl rfl rfl rfl rfl rfl rfl rfl) ?_
          refine RJ.op rfl rfl (eff_assign (v := .t _) rfl rfl rfl) ?_
          refine RJ.nil ?_
          refine awj_seq ?_
          refine awj_seq ?_
          refine awj_rj rfl ?_
          refine RJ.op rfl rfl (eff_move (v := .t _) rfl rfl rfl) ?_
          refine RJ.op rfl rfl (eff_iop rfl rfl rfl rfl rfl) ?_
          refine RJ.nil ?_
          refine awj_cond rfl (fun h5 => ?_) (fun h5 => ?_)
          · try simp only [cl] at h5
            refine awj_seq ?_
            refine awj_rj rfl ?_
            refine RJ.op rfl rfl (eff_buildT (ys := [_, _]) rfl rfl tz64 tg64 rfl) ?_
            refine RJ.op rfl rfl (eff_move (v := .t _) rfl rfl rfl) ?_
            refine RJ.store rfl rfl (eff_storeW (v := .t _) (els := [_]) (els' := [_]) rfl rfl ti64 rfl rfl rfl rfl rfl rfl rfl rfl rfl) ?_
            refine RJ.op rfl rfl (eff_assign (v := .t _) rfl rfl rfl) ?_
            refine RJ.nil ?_
            refine awj_ret ?_
            first
              | (rw [all_lim h1, nvis_lim h1]; exact ⟨Or.inr rfl, [_, _], [.t (encT zt), .t _], ⟨.cell rfl ti64 (.whole rfl rfl rfl rfl rfl rfl), .tmp rfl, trivial⟩, rfl, Weak.trans (weak_slot 0 (y := encT zt) rfl (by repeat' first | exact trivial | exact Wk.refl _ | exact Wk.sl _ | refine And.intro ?_ ?_ | refine Wk.tupP ?_ | refine Wk.aggP ?_)) (weak_keep ⟨rfl, rfl, rfl, rfl, rfl, rfl, trivial⟩ ⟨rfl, okE_one rfl, rfl, okE_one rfl, rfl, okE_one rfl, rfl, okE_one rfl, trivial⟩), rfl⟩)
              | (have hfx : form l i ≠ 0 := by omega
                 rw [all_bad h1 hil (run_form hok hfx) hfx, nvis_form h1 hil hok hfx]; exact ⟨Or.inr rfl, [_, _], [.t (encT zt), .t _], ⟨.cell rfl ti64 (.whole rfl rfl rfl rfl rfl rfl), .tmp rfl, trivial⟩, rfl, Weak.trans (weak_slot 0 (y := encT zt) rfl (by repeat' first | exact trivial | exact Wk.refl _ | exact Wk.sl _ | refine And.intro ?_ ?_ | refine Wk.tupP ?_ | refine Wk.aggP ?_)) (weak_keep ⟨rfl, rfl, rfl, rfl, rfl, rfl, trivial⟩ ⟨rfl, okE_one rfl, rfl, okE_one rfl, rfl, okE_one rfl, rfl, okE_one rfl, trivial⟩), rfl⟩)
              | (have hrb := bad_send hil hT hok hfo (by omega) (by omega)
                 rw [all_bad h1 hil hrb (by omega), nvis_bad h1 hil hok hfo hrb (by omega)]; exact ⟨Or.inr rfl, [_, _], [.t (encT zt), .t _], ⟨.cell rfl ti64 (.whole rfl rfl rfl rfl rfl rfl), .tmp rfl, trivial⟩, rfl, Weak.trans (weak_slot 0 (y := encT zt) rfl (by repeat' first | exact trivial | exact Wk.refl _ | exact Wk.sl _ | refine And.intro ?_ ?_ | refine Wk.tupP ?_ | refine Wk.aggP ?_)) (weak_keep ⟨rfl, rfl, rfl, rfl, rfl, rfl, trivial⟩ ⟨rfl, okE_one rfl, rfl, okE_one rfl, rfl, okE_one rfl, rfl, okE_one rfl, trivial⟩), rfl⟩)
              | (have hrb := bad_hear hil hT hok hfo (by omega) (by omega)
                 rw [all_bad h1 hil hrb (by omega), nvis_bad h1 hil hok hfo hrb (by omega)]; exact ⟨Or.inr rfl, [_, _], [.t (encT zt), .t _], ⟨.cell rfl ti64 (.whole rfl rfl rfl rfl rfl rfl), .tmp rfl, trivial⟩, rfl, Weak.trans (weak_slot 0 (y := encT zt) rfl (by repeat' first | exact trivial | exact Wk.refl _ | exact Wk.sl _ | refine And.intro ?_ ?_ | refine Wk.tupP ?_ | refine Wk.aggP ?_)) (weak_keep ⟨rfl, rfl, rfl, rfl, rfl, rfl, trivial⟩ ⟨rfl, okE_one rfl, rfl, okE_one rfl, rfl, okE_one rfl, rfl, okE_one rfl, trivial⟩), rfl⟩)
              | exact absurd trivial ‹¬ True›
              | (exfalso; omega)
              | (have hi2 : i = l.length := by omega
                 subst hi2
                 rw [all_ok h1 hok, nvis_ok h1 hok, ← hT]; exact ⟨Or.inr rfl, [_, _], [.t (encT T), .t _], ⟨.cell rfl ti64 (.whole rfl rfl rfl rfl rfl rfl), .tmp rfl, trivial⟩, rfl, Weak.trans (weak_slot 0 (y := encT T) rfl (by repeat' first | exact trivial | exact Wk.refl _ | exact Wk.sl _ | refine And.intro ?_ ?_ | refine Wk.tupP ?_ | refine Wk.aggP ?_)) (weak_keep ⟨rfl, rfl, rfl, rfl, rfl, rfl, trivial⟩ ⟨rfl, okE_one rfl, rfl, okE_one rfl, rfl, okE_one rfl, rfl, okE_one rfl, trivial⟩), rfl⟩)
          · try simp only [cl] at h5
            refine awj_skip ?_
            refine awj_rj rfl ?_
            refine RJ.op rfl rfl (eff_load rfl rfl ti64 rfl (.whole rfl rfl rfl rfl rfl rfl)) ?_
            refine RJ.store rfl rfl (eff_storeW (v := .t _) (els := [_]) (els' := [_]) rfl rfl ti64 rfl rfl rfl rfl rfl rfl rfl rfl rfl) ?_
            refine RJ.nil ?_
            refine awj_rj rfl ?_
            refine RJ.op rfl rfl (eff_iop rfl rfl rfl rfl (iadd (by omega))) ?_
            refine RJ.op rfl rfl (eff_move (v := .t _) rfl rfl rfl) ?_
            refine RJ.nil ?_
            refine ⟨_, ?_, _, weak_keep (n := 63) (fr' := [(0, .t (.sl (l.map encC) false)), (1, .fn 65 [.ptr 1007 0 0 0, .ptr 1002 0 0 0, .ptr 1003 0 0 0, .ptr 1006 0 0 0]), (4, .ptr 4 0 0 0), (6, .ptr 6 0 0 0), (17, .t (.sl (l.map encC) false)), (18, .t (encI (l.length : Nat))), (19, .t (encI ((i + 1) : Nat))), (64, .t deT)]) (st' := [(4, some ⟨2, 64, 0, [.t z64]⟩), (6, some ⟨2, 64, 0, [.t (encT _)]⟩), (1007, some ⟨1, 4, 0, [.t (.bool (fdN l d (i + 1)))]⟩), (1002, some ⟨1, 32, 0, [.t (.sl (l.map encC) false)]⟩), (1003, some ⟨4, 28, 0, [.t (encD d)]⟩), (1006, some ⟨1, 33, 0, [.t (.sl ((outN l d (i + 1)).map encR) (!fdN l d (i + 1)))]⟩)]) ⟨rfl, rfl, rfl, rfl, rfl, rfl, rfl, rfl, rfl, rfl, rfl, rfl, rfl, rfl, rfl, rfl, trivial⟩ ⟨rfl, okE_one rfl, rfl, okE_one rfl, rfl, okE_one rfl, rfl, okE_one rfl, rfl, okE_one rfl, rfl, okE_one rfl, trivial⟩, i + 1, _, (by omega), (by first | rw [run_send hil hT hok hfo (by omega) (by omega)] | rw [run_hear hil hT hok hfo (by omega) (by omega)] | rw [run_dec hil hT hok hfo (by omega) (by omega)]), (by first | rw [run_send hil hT hok hfo (by omega) (by omega)] | rw [run_hear hil hT hok hfo (by omega) (by omega)] | rw [run_dec hil hT hok hfo (by omega) (by omega)]), rfl, rfl⟩
            omega
        · try simp only [cl] at h4
          refine awj_seq ?_
          refine awj_rj rfl ?_
          refine RJ.op rfl rfl (eff_iop rfl rfl rfl rfl rfl) ?_
          refine RJ.op rfl rfl (eff_assign (v := .t _) rfl rfl rfl) ?_
          refine RJ.nil ?_
          refine awj_cond rfl (fun h6 => ?_) (fun h6 => ?_)
          · try simp only [cl] at h6
            refine awj_rj rfl ?_
            refine RJ.op rfl rfl (eff_load rfl rfl ti64 rfl (.whole rfl rfl rfl rfl rfl rfl)) ?_
            refine RJ.op rfl rfl (eff_fieldAddr rfl rfl tf47_3 (by decide) rfl rfl rfl (Nat.le_of_ble_eq_true rfl)) ?_
            refine RJ.op rfl rfl (eff_loadS (ys := [_, _, _, _]) rfl rfl ti23 rfl rfl rfl rfl rfl rfl) ?_
            refine RJ.op rfl rfl (eff_callXT (thear_ret T _ (hO.hp _ (List.getElem_mem hil)) (by have := hFit.len; omega) (by have := hFit.sl; omega) hFit.bod) co64 rfl rfl rfl ⟨rfl, trivial⟩ rfl) ?_
            refine RJ.op rfl rfl (eff_move (v := .t _) rfl rfl rfl) ?_
            refine RJ.op rfl rfl (eff_extract rfl rfl rfl rfl) ?_
            refine RJ.op rfl rfl (eff_extract rfl rfl rfl rfl) ?_
            refine RJ.store rfl rfl (eff_storeW (v := .t _) (els := [_]) (els' := [_]) rfl rfl ti64 rfl rfl rfl rfl rfl rfl rfl rfl rfl) ?_
            refine RJ.op rfl rfl (eff_assign (v := .t _) rfl rfl rfl) ?_
            refine RJ.nil ?_
            refine awj_seq ?_
            refine awj_seq ?_
            refine awj_rj rfl ?_
            refine RJ.op rfl rfl (eff_move (v := .t _) rfl rfl rfl) ?_
            refine RJ.op rfl rfl (eff_iop rfl rfl rfl rfl rfl) ?_
            refine RJ.nil ?_
            refine awj_cond rfl (fun h7 => ?_) (fun h7 => ?_)
            · try simp only [cl] at h7
              refine awj_seq ?_
              refine awj_rj rfl ?_
              refine RJ.op rfl rfl (eff_buildT (ys := [_, _]) rfl rfl tz64 tg64 rfl) ?_
              refine RJ.op rfl rfl (eff_move (v := .t _) rfl rfl rfl) ?_
              refine RJ.store rfl rfl (eff_storeW (v := .t _) (els := [_]) (els' := [_]) rfl rfl ti64 rfl rfl rfl rfl rfl rfl rfl rfl rfl) ?_
              refine RJ.op rfl rfl (eff_assign (v := .t _) rfl rfl rfl) ?_
              refine RJ.nil ?_
              refine awj_ret ?_
              first
                | (rw [all_lim h1, nvis_lim h1]; exact ⟨Or.inr rfl, [_, _], [.t (encT zt), .t _], ⟨.cell rfl ti64 (.whole rfl rfl rfl rfl rfl rfl), .tmp rfl, trivial⟩, rfl, Weak.trans (weak_slot 0 (y := encT zt) rfl (by repeat' first | exact trivial | exact Wk.refl _ | exact Wk.sl _ | refine And.intro ?_ ?_ | refine Wk.tupP ?_ | refine Wk.aggP ?_)) (weak_keep ⟨rfl, rfl, rfl, rfl, rfl, rfl, trivial⟩ ⟨rfl, okE_one rfl, rfl, okE_one rfl, rfl, okE_one rfl, rfl, okE_one rfl, trivial⟩), rfl⟩)
                | (have hfx : form l i ≠ 0 := by omega
                   rw [all_bad h1 hil (run_form hok hfx) hfx, nvis_form h1 hil hok hfx]; exact ⟨Or.inr rfl, [_, _], [.t (encT zt), .t _], ⟨.cell rfl ti64 (.whole rfl rfl rfl rfl rfl rfl), .tmp rfl, trivial⟩, rfl, Weak.trans (weak_slot 0 (y := encT zt) rfl (by repeat' first | exact trivial | exact Wk.refl _ | exact Wk.sl _ | refine And.intro ?_ ?_ | refine Wk.tupP ?_ | refine Wk.aggP ?_)) (weak_keep ⟨rfl, rfl, rfl, rfl, rfl, rfl, trivial⟩ ⟨rfl, okE_one rfl, rfl, okE_one rfl, rfl, okE_one rfl, rfl, okE_one rfl, trivial⟩), rfl⟩)
                | (have hrb := bad_send hil hT hok hfo (by omega) (by omega)
                   rw [all_bad h1 hil hrb (by omega), nvis_bad h1 hil hok hfo hrb (by omega)]; exact ⟨Or.inr rfl, [_, _], [.t (encT zt), .t _], ⟨.cell rfl ti64 (.whole rfl rfl rfl rfl rfl rfl), .tmp rfl, trivial⟩, rfl, Weak.trans (weak_slot 0 (y := encT zt) rfl (by repeat' first | exact trivial | exact Wk.refl _ | exact Wk.sl _ | refine And.intro ?_ ?_ | refine Wk.tupP ?_ | refine Wk.aggP ?_)) (weak_keep ⟨rfl, rfl, rfl, rfl, rfl, rfl, trivial⟩ ⟨rfl, okE_one rfl, rfl, okE_one rfl, rfl, okE_one rfl, rfl, okE_one rfl, trivial⟩), rfl⟩)
                | (have hrb := bad_hear hil hT hok hfo (by omega) (by omega)
                   rw [all_bad h1 hil hrb (by omega), nvis_bad h1 hil hok hfo hrb (by omega)]; exact ⟨Or.inr rfl, [_, _], [.t (encT zt), .t _], ⟨.cell rfl ti64 (.whole rfl rfl rfl rfl rfl rfl), .tmp rfl, trivial⟩, rfl, Weak.trans (weak_slot 0 (y := encT zt) rfl (by repeat' first | exact trivial | exact Wk.refl _ | exact Wk.sl _ | refine And.intro ?_ ?_ | refine Wk.tupP ?_ | refine Wk.aggP ?_)) (weak_keep ⟨rfl, rfl, rfl, rfl, rfl, rfl, trivial⟩ ⟨rfl, okE_one rfl, rfl, okE_one rfl, rfl, okE_one rfl, rfl, okE_one rfl, trivial⟩), rfl⟩)
                | exact absurd trivial ‹¬ True›
                | (exfalso; omega)
                | (have hi2 : i = l.length := by omega
                   subst hi2
                   rw [all_ok h1 hok, nvis_ok h1 hok, ← hT]; exact ⟨Or.inr rfl, [_, _], [.t (encT T), .t _], ⟨.cell rfl ti64 (.whole rfl rfl rfl rfl rfl rfl), .tmp rfl, trivial⟩, rfl, Weak.trans (weak_slot 0 (y := encT T) rfl (by repeat' first | exact trivial | exact Wk.refl _ | exact Wk.sl _ | refine And.intro ?_ ?_ | refine Wk.tupP ?_ | refine Wk.aggP ?_)) (weak_keep ⟨rfl, rfl, rfl, rfl, rfl, rfl, trivial⟩ ⟨rfl, okE_one rfl, rfl, okE_one rfl, rfl, okE_one rfl, rfl, okE_one rfl, trivial⟩), rfl⟩)
            · try simp only [cl] at h7
              refine awj_skip ?_
              refine awj_rj rfl ?_
              refine RJ.op rfl rfl (eff_load rfl rfl ti64 rfl (.whole rfl rfl rfl rfl rfl rfl)) ?_
              refine RJ.store rfl rfl (eff_storeW (v := .t _) (els := [_]) (els' := [_]) rfl rfl ti64 rfl rfl rfl rfl rfl rfl rfl rfl rfl) ?_
              refine RJ.nil ?_
              refine awj_rj rfl ?_
              refine RJ.op rfl rfl (eff_iop rfl rfl rfl rfl (iadd (by omega))) ?_
              refine RJ.op rfl rfl (eff_move (v := .t _) rfl rfl rfl) ?_
              refine RJ.nil ?_
              refine ⟨_, ?_, _, weak_keep (n := 63) (fr' := [(0, .t (.sl (l.map encC) false)), (1, .fn 65 [.ptr 1007 0 0 0, .ptr 1002 0 0 0, .ptr 1003 0 0 0, .ptr 1006 0 0 0]), (4, .ptr 4 0 0 0), (6, .ptr 6 0 0 0), (17, .t (.sl (l.map encC) false)), (18, .t (encI (l.length : Nat))), (19, .t (encI ((i + 1) : Nat))), (64, .t deT)]) (st' := [(4, some ⟨2, 64, 0, [.t z64]⟩), (6, some ⟨2, 64, 0, [.t (encT _)]⟩), (1007, some ⟨1, 4, 0, [.t (.bool (fdN l d (i + 1)))]⟩), (1002, some ⟨1, 32, 0, [.t (.sl (l.map encC) false)]⟩), (1003, some ⟨4, 28, 0, [.t (encD d)]⟩), (1006, some ⟨1, 33, 0, [.t (.sl ((outN l d (i + 1)).map encR) (!fdN l d (i + 1)))]⟩)]) ⟨rfl, rfl, rfl, rfl, rfl, rfl, rfl, rfl, rfl, rfl, rfl, rfl, rfl, rfl, rfl, rfl, trivial⟩ ⟨rfl, okE_one rfl, rfl, okE_one rfl, rfl, okE_one rfl, rfl, okE_one rfl, rfl, okE_one rfl, rfl, okE_one rfl, trivial⟩, i + 1, _, (by omega), (by first | rw [run_send hil hT hok hfo (by omega) (by omega)] | rw [run_hear hil hT hok hfo (by omega) (by omega)] | rw [run_dec hil hT hok hfo (by omega) (by omega)]), (by first | rw [run_send hil hT hok hfo (by omega) (by omega)] | rw [run_hear hil hT hok hfo (by omega) (by omega)] | rw [run_dec hil hT hok hfo (by omega) (by omega)]), rfl, rfl⟩
              omega
          · try simp only [cl] at h6
            refine awj_skip ?_
            refine awj_seq ?_
            refine awj_seq ?_
            refine awj_rj rfl ?_
            refine RJ.op rfl rfl (eff_move (v := .t _) rfl rfl rfl) ?_
            refine RJ.op rfl rfl (eff_iop rfl rfl rfl rfl rfl) ?_
            refine RJ.nil ?_
            refine awj_cond rfl (fun h8 => ?_) (fun h8 => ?_)
            · try simp only [cl] at h8
              refine awj_seq ?_
              refine awj_rj rfl ?_
              refine RJ.op rfl rfl (eff_buildT (ys := [_, _]) rfl rfl tz64 tg64 rfl) ?_
              refine RJ.op rfl rfl (eff_move (v := .t _) rfl rfl rfl) ?_
              refine RJ.store rfl rfl (eff_storeW (v := .t _) (els := [_]) (els' := [_]) rfl rfl ti64 rfl rfl rfl rfl rfl rfl rfl rfl rfl) ?_
              refine RJ.op rfl rfl (eff_assign (v := .t _) rfl rfl rfl) ?_
              refine RJ.nil ?_
              refine awj_ret ?_
              first
                | (rw [all_lim h1, nvis_lim h1]; exact ⟨Or.inr rfl, [_, _], [.t (encT zt), .t _], ⟨.cell rfl ti64 (.whole rfl rfl rfl rfl rfl rfl), .tmp rfl, trivial⟩, rfl, Weak.trans (weak_slot 0 (y := encT zt) rfl (by repeat' first | exact trivial | exact Wk.refl _ | exact Wk.sl _ | refine And.intro ?_ ?_ | refine Wk.tupP ?_ | refine Wk.aggP ?_)) (weak_keep ⟨rfl, rfl, rfl, rfl, rfl, rfl, trivial⟩ ⟨rfl, okE_one rfl, rfl, okE_one rfl, rfl, okE_one rfl, rfl, okE_one rfl, trivial⟩), rfl⟩)
                | (have hfx : form l i ≠ 0 := by omega
                   rw [all_bad h1 hil (run_form hok hfx) hfx, nvis_form h1 hil hok hfx]; exact ⟨Or.inr rfl, [_, _], [.t (encT zt), .t _], ⟨.cell rfl ti64 (.whole rfl rfl rfl rfl rfl rfl), .tmp rfl, trivial⟩, rfl, Weak.trans (weak_slot 0 (y := encT zt) rfl (by repeat' first | exact trivial | exact Wk.refl _ | exact Wk.sl _ | refine And.intro ?_ ?_ | refine Wk.tupP ?_ | refine Wk.aggP ?_)) (weak_keep ⟨rfl, rfl, rfl, rfl, rfl, rfl, trivial⟩ ⟨rfl, okE_one rfl, rfl, okE_one rfl, rfl, okE_one rfl, rfl, okE_one rfl, trivial⟩), rfl⟩)
                | (have hrb := bad_send hil hT hok hfo (by omega) (by omega)
                   rw [all_bad h1 hil hrb (by omega), nvis_bad h1 hil hok hfo hrb (by omega)]; exact ⟨Or.inr rfl, [_, _], [.t (encT zt), .t _], ⟨.cell rfl ti64 (.whole rfl rfl rfl rfl rfl rfl), .tmp rfl, trivial⟩, rfl, Weak.trans (weak_slot 0 (y := encT zt) rfl (by repeat' first | exact trivial | exact Wk.refl _ | exact Wk.sl _ | refine And.intro ?_ ?_ | refine Wk.tupP ?_ | refine Wk.aggP ?_)) (weak_keep ⟨rfl, rfl, rfl, rfl, rfl, rfl, trivial⟩ ⟨rfl, okE_one rfl, rfl, okE_one rfl, rfl, okE_one rfl, rfl, okE_one rfl, trivial⟩), rfl⟩)
                | (have hrb := bad_hear hil hT hok hfo (by omega) (by omega)
                   rw [all_bad h1 hil hrb (by omega), nvis_bad h1 hil hok hfo hrb (by omega)]; exact ⟨Or.inr rfl, [_, _], [.t (encT zt), .t _], ⟨.cell rfl ti64 (.whole rfl rfl rfl rfl rfl rfl), .tmp rfl, trivial⟩, rfl, Weak.trans (weak_slot 0 (y := encT zt) rfl (by repeat' first | exact trivial | exact Wk.refl _ | exact Wk.sl _ | refine And.intro ?_ ?_ | refine Wk.tupP ?_ | refine Wk.aggP ?_)) (weak_keep ⟨rfl, rfl, rfl, rfl, rfl, rfl, trivial⟩ ⟨rfl, okE_one rfl, rfl, okE_one rfl, rfl, okE_one rfl, rfl, okE_one rfl, trivial⟩), rfl⟩)
                | exact absurd trivial ‹¬ True›
                | (exfalso; omega)
                | (have hi2 : i = l.length := by omega
                   subst hi2
                   rw [all_ok h1 hok, nvis_ok h1 hok, ← hT]; exact ⟨Or.inr rfl, [_, _], [.t (encT T), .t _], ⟨.cell rfl ti64 (.whole rfl rfl rfl rfl rfl rfl), .tmp rfl, trivial⟩, rfl, Weak.trans (weak_slot 0 (y := encT T) rfl (by repeat' first | exact trivial | exact Wk.refl _ | exact Wk.sl _ | refine And.intro ?_ ?_ | refine Wk.tupP ?_ | refine Wk.aggP ?_)) (weak_keep ⟨rfl, rfl, rfl, rfl, rfl, rfl, trivial⟩ ⟨rfl, okE_one rfl, rfl, okE_one rfl, rfl, okE_one rfl, rfl, okE_one rfl, trivial⟩), rfl⟩)
            · try simp only [cl] at h8
              refine awj_skip ?_
              refine awj_rj rfl ?_
              refine RJ.op rfl rfl (eff_load rfl rfl ti64 rfl (.whole rfl rfl rfl rfl rfl rfl)) ?_
              refine RJ.store rfl rfl (eff_storeW (v := .t _) (els := [_]) (els' := [_]) rfl rfl ti64 rfl rfl rfl rfl rfl rfl rfl rfl rfl) ?_
              refine RJ.nil ?_
              refine awj_rj rfl ?_
              refine RJ.op rfl rfl (eff_iop rfl rfl rfl rfl (iadd (by omega))) ?_
              refine RJ.op rfl rfl (eff_move (v := .t _) rfl rfl rfl) ?_
              refine RJ.nil ?_
              refine ⟨_, ?_, _, weak_keep (n := 63) (fr' := [(0, .t (.sl (l.map encC) false)), (1, .fn 65 [.ptr 1007 0 0 0, .ptr 1002 0 0 0, .ptr 1003 0 0 0, .ptr 1006 0 0 0]), (4, .ptr 4 0 0 0), (6, .ptr 6 0 0 0), (17, .t (.sl (l.map encC) false)), (18, .t (encI (l.length : Nat))), (19, .t (encI ((i + 1) : Nat))), (64, .t deT)]) (st' := [(4, some ⟨2, 64, 0, [.t z64]⟩), (6, some ⟨2, 64, 0, [.t (encT _)]⟩), (1007, some ⟨1, 4, 0, [.t (.bool (fdN l d (i + 1)))]⟩), (1002, some ⟨1, 32, 0, [.t (.sl (l.map encC) false)]⟩), (1003, some ⟨4, 28, 0, [.t (encD d)]⟩), (1006, some ⟨1, 33, 0, [.t (.sl ((outN l d (i + 1)).map encR) (!fdN l d (i + 1)))]⟩)]) ⟨rfl, rfl, rfl, rfl, rfl, rfl, rfl, rfl, rfl, rfl, rfl, rfl, rfl, rfl, rfl, rfl, trivial⟩ ⟨rfl, okE_one rfl, rfl, okE_one rfl, rfl, okE_one rfl, rfl, okE_one rfl, rfl, okE_one rfl, rfl, okE_one rfl, trivial⟩, i + 1, _, (by omega), (by first | rw [run_send hil hT hok hfo (by omega) (by omega)] | rw [run_hear hil hT hok hfo (by omega) (by omega)] | rw [run_dec hil hT hok hfo (by omega) (by omega)]), (by first | rw [run_send hil hT hok hfo (by omega) (by omega)] | rw [run_hear hil hT hok hfo (by omega) (by omega)] | rw [run_dec hil hT hok hfo (by omega) (by omega)]), rfl, rfl⟩
              omega
    · try simp only [cl] at h2
      refine awj_exit ?_
      refine awj_seq ?_
      refine awj_rj rfl ?_
      refine RJ.op rfl rfl (eff_load rfl rfl ti64 rfl (.whole rfl rfl rfl rfl rfl rfl)) ?_
      refine RJ.store rfl rfl (eff_storeW (v := .t _) (els := [_]) (els' := [_]) rfl rfl ti64 rfl rfl rfl rfl rfl rfl rfl rfl rfl) ?_
      refine RJ.op rfl rfl (eff_assign (v := .t _) rfl rfl rfl) ?_
      refine RJ.nil ?_
      refine awj_ret ?_
      first
        | (rw [all_lim h1, nvis_lim h1]; exact ⟨Or.inr rfl, [_, _], [.t (encT zt), .t _], ⟨.cell rfl ti64 (.whole rfl rfl rfl rfl rfl rfl), .tmp rfl, trivial⟩, rfl, Weak.trans (weak_slot 0 (y := encT zt) rfl (by repeat' first | exact trivial | exact Wk.refl _ | exact Wk.sl _ | refine And.intro ?_ ?_ | refine Wk.tupP ?_ | refine Wk.aggP ?_)) (weak_keep ⟨rfl, rfl, rfl, rfl, rfl, rfl, trivial⟩ ⟨rfl, okE_one rfl, rfl, okE_one rfl, rfl, okE_one rfl, rfl, okE_one rfl, trivial⟩), rfl⟩)
        | (have hfx : form l i ≠ 0 := by omega
           rw [all_bad h1 hil (run_form hok hfx) hfx, nvis_form h1 hil hok hfx]; exact ⟨Or.inr rfl, [_, _], [.t (encT zt), .t _], ⟨.cell rfl ti64 (.whole rfl rfl rfl rfl rfl rfl), .tmp rfl, trivial⟩, rfl, Weak.trans (weak_slot 0 (y := encT zt) rfl (by repeat' first | exact trivial | exact Wk.refl _ | exact Wk.sl _ | refine And.intro ?_ ?_ | refine Wk.tupP ?_ | refine Wk.aggP ?_)) (weak_keep ⟨rfl, rfl, rfl, rfl, rfl, rfl, trivial⟩ ⟨rfl, okE_one rfl, rfl, okE_one rfl, rfl, okE_one rfl, rfl, okE_one rfl, trivial⟩), rfl⟩)
        | (have hrb := bad_send hil hT hok hfo (by omega) (by omega)
           rw [all_bad h1 hil hrb (by omega), nvis_bad h1 hil hok hfo hrb (by omega)]; exact ⟨Or.inr rfl, [_, _], [.t (encT zt), .t _], ⟨.cell rfl ti64 (.whole rfl rfl rfl rfl rfl rfl), .tmp rfl, trivial⟩, rfl, Weak.trans (weak_slot 0 (y := encT zt) rfl (by repeat' first | exact trivial | exact Wk.refl _ | exact Wk.sl _ | refine And.intro ?_ ?_ | refine Wk.tupP ?_ | refine Wk.aggP ?_)) (weak_keep ⟨rfl, rfl, rfl, rfl, rfl, rfl, trivial⟩ ⟨rfl, okE_one rfl, rfl, okE_one rfl, rfl, okE_one rfl, rfl, okE_one rfl, trivial⟩), rfl⟩)
        | (have hrb := bad_hear hil hT hok hfo (by omega) (by omega)
           rw [all_bad h1 hil hrb (by omega), nvis_bad h1 hil hok hfo hrb (by omega)]; exact ⟨Or.inr rfl, [_, _], [.t (encT zt), .t _], ⟨.cell rfl ti64 (.whole rfl rfl rfl rfl rfl rfl), .tmp rfl, trivial⟩, rfl, Weak.trans (weak_slot 0 (y := encT zt) rfl (by repeat' first | exact trivial | exact Wk.refl _ | exact Wk.sl _ | refine And.intro ?_ ?_ | refine Wk.tupP ?_ | refine Wk.aggP ?_)) (weak_keep ⟨rfl, rfl, rfl, rfl, rfl, rfl, trivial⟩ ⟨rfl, okE_one rfl, rfl, okE_one rfl, rfl, okE_one rfl, rfl, okE_one rfl, trivial⟩), rfl⟩)
        | exact absurd trivial ‹¬ True›
        | (exfalso; omega)
        | (have hi2 : i = l.length := by omega
           subst hi2
           rw [all_ok h1 hok, nvis_ok h1 hok, ← hT]; exact ⟨Or.inr rfl, [_, _], [.t (encT T), .t _], ⟨.cell rfl ti64 (.whole rfl rfl rfl rfl rfl rfl), .tmp rfl, trivial⟩, rfl, Weak.trans (weak_slot 0 (y := encT T) rfl (by repeat' first | exact trivial | exact Wk.refl _ | exact Wk.sl _ | refine And.intro ?_ ?_ | refine Wk.tupP ?_ | refine Wk.aggP ?_)) (weak_keep ⟨rfl, rfl, rfl, rfl, rfl, rfl, trivial⟩ ⟨rfl, okE_one rfl, rfl, okE_one rfl, rfl, okE_one rfl, rfl, okE_one rfl, trivial⟩), rfl⟩)

end Go.Tv.C36

end
section
open Go Go.Tv Go.Proofs
namespace Go.Tv.C36
set_option maxRecDepth 20000
set_option maxHeartbeats 2000000
set_option linter.unusedSimpArgs false
set_option linter.unusedVariables false
theorem defence_ret (l : List Rcd) (d : Dec) (hO : OKL l) : RetT Tryd.prog 43 [(1, deT)] [.sl (l.map encC) false, encD d] (.tup [.sl ((defence l d).1.map encR) false, encI (defence l d).2]) := by
  refine retT_of_awp Tryd.func43 rfl (Nat.le_of_ble_eq_true rfl) ?_
  refine awp_seq ?_
  refine awp_rw rfl ?_
  refine RW.new rfl rfl (eff_boxK (v := .t _) (k := 1) (id := 2) rfl rfl rfl rfl rfl rfl) ?_
  refine RW.new rfl rfl (eff_boxK (v := .t _) (k := 4) (id := 3) rfl rfl rfl rfl rfl rfl) ?_
  refine RW.op rfl rfl (eff_assign (v := .t _) rfl rfl rfl) ?_
  refine RW.op rfl rfl (eff_assign (v := .t _) rfl rfl rfl) ?_
  refine RW.nil ?_
  refine awp_seq ?_
  refine awp_rw rfl ?_
  refine RW.new rfl rfl (eff_allocK (k := 1) (id := 6) rfl rfl tz33 rfl rfl) ?_
  refine RW.nil ?_
  refine awp_seq ?_
  refine awp_rw rfl ?_
  refine RW.new rfl rfl (eff_allocK (k := 1) (id := 7) rfl rfl tz4 rfl rfl) ?_
  refine RW.store rfl rfl (eff_storeW (v := .t _) (els := [_]) (els' := [_]) rfl rfl ti4 rfl rfl rfl rfl rfl rfl rfl rfl rfl) ?_
  refine RW.nil ?_
  refine awp_seq ?_
  refine awp_rw rfl ?_
  refine RW.op rfl rfl (eff_load (y := .t _) rfl rfl ti32 rfl (.one rfl rfl rfl rfl)) ?_
  refine RW.op rfl rfl (eff_makeFunc rfl rfl rfl rfl) ?_
  refine RW.new4 rfl rfl (eff_callKT (r' := .tup [.t _, .t _]) (replay65_ret l d hO) co38 (fun id => id - 1000) rfl rfl rfl ⟨rfl, trivial⟩ ⟨.t _, .fnL ⟨.ptr _ _ _ _ rfl rfl, .ptr _ _ _ _ rfl rfl, .ptr _ _ _ _ rfl rfl, .ptr _ _ _ _ rfl rfl, trivial⟩, trivial⟩ (.tupL ⟨.t _, .t _, trivial⟩) rfl ⟨⟨rfl, self_one, ⟨_, rfl, .inr ⟨rfl, rfl, rfl, rfl, 1, _, rfl, List.mem_singleton.2 rfl, .inr ⟨_, _, 0, rfl, rfl⟩⟩⟩⟩, ⟨rfl, self_one, ⟨_, rfl, .inr ⟨rfl, rfl, rfl, rfl, 1, _, rfl, List.mem_singleton.2 rfl, .inr ⟨_, _, 1, rfl, rfl⟩⟩⟩⟩, ⟨rfl, self_one, ⟨_, rfl, .inr ⟨rfl, rfl, rfl, rfl, 1, _, rfl, List.mem_singleton.2 rfl, .inr ⟨_, _, 2, rfl, rfl⟩⟩⟩⟩, ⟨rfl, self_one, ⟨_, rfl, .inr ⟨rfl, rfl, rfl, rfl, 1, _, rfl, List.mem_singleton.2 rfl, .inr ⟨_, _, 3, rfl, rfl⟩⟩⟩⟩, trivial⟩ ⟨⟨self_one, .inl rfl⟩, ⟨self_one, .inl rfl⟩, ⟨self_one, .inl rfl⟩, ⟨self_one, .inl rfl⟩, trivial⟩) ?_
  refine RW.op rfl rfl (eff_move (v := .tup _) rfl rfl rfl) ?_
  refine RW.op rfl rfl (eff_extractA rfl rfl rfl rfl) ?_
  refine RW.op rfl rfl (eff_extractA rfl rfl rfl rfl) ?_
  refine RW.new rfl rfl (eff_allocK (k := 2) (id := 8) rfl rfl tz64 rfl rfl) ?_
  refine RW.store rfl rfl (eff_storeW (v := .t _) (els := [_]) (els' := [_]) rfl rfl ti64 rfl rfl rfl rfl rfl rfl rfl rfl rfl) ?_
  refine RW.op rfl rfl (eff_assign (v := .t _) rfl rfl rfl) ?_
  refine RW.nil ?_
  refine awp_seq ?_
  refine awp_block ?_
  refine awp_seq ?_
  refine awp_rw rfl ?_
  refine RW.op rfl rfl (eff_move (v := .t _) rfl rfl rfl) ?_
  refine RW.op rfl rfl (eff_iop rfl rfl rfl rfl rfl) ?_
  refine RW.op rfl rfl (eff_assign (v := .t _) rfl rfl rfl) ?_
  refine RW.nil ?_
  refine awp_cond rfl (fun h1 => ?_) (fun h1 => ?_)
  · try simp only [cl] at h1
    refine awp_seq ?_
    refine awp_rw rfl ?_
    refine RW.op rfl rfl (eff_move (v := .t _) rfl rfl rfl) ?_
    refine RW.op rfl rfl (eff_assign (v := .t _) rfl rfl rfl) ?_
    refine RW.op rfl rfl (eff_assign (v := .t _) rfl rfl rfl) ?_
    refine RW.nil ?_
    refine awp_ret ?_
    rw [defence_bad (all_zt h1) h1]
    exact ⟨Or.inr rfl, [_, _], ⟨.tmp (.t _), .tmp (.t _), trivial⟩, (by repeat' first | exact trivial | exact Wk.refl _ | exact Wk.sl _ | refine And.intro ?_ ?_ | refine Wk.tupP ?_ | refine Wk.aggP ?_)⟩
  · try simp only [cl] at h1
    refine awp_seq ?_
    refine awp_rw rfl ?_
    refine RW.op rfl rfl (eff_load (y := .t _) rfl rfl ti4 rfl (.one rfl rfl rfl rfl)) ?_
    refine RW.op rfl rfl (eff_unop rfl rfl rfl rfl) ?_
    refine RW.op rfl rfl (eff_assign (v := .t _) rfl rfl rfl) ?_
    refine RW.nil ?_
    refine awp_cond rfl (fun h2 => ?_) (fun h2 => ?_)
    · try simp only [cl] at h2
      refine awp_seq ?_
      refine awp_rw rfl ?_
      refine RW.op rfl rfl (eff_assign (v := .t _) rfl rfl rfl) ?_
      refine RW.op rfl rfl (eff_assign (v := .t _) rfl rfl rfl) ?_
      refine RW.nil ?_
      refine awp_ret ?_
      rw [defence_none (by omega) (by first | assumption | simpa using h2)]
      exact ⟨Or.inr rfl, [_, _], ⟨.tmp (.t _), .tmp (.t _), trivial⟩, (by repeat' first | exact trivial | exact Wk.refl _ | exact Wk.sl _ | refine And.intro ?_ ?_ | refine Wk.tupP ?_ | refine Wk.aggP ?_)⟩
    · try simp only [cl] at h2
      refine awp_skip ?_
      refine awp_seq ?_
      refine awp_rw rfl ?_
      refine RW.op rfl rfl (eff_load (y := .t _) rfl rfl ti33 rfl (.one rfl rfl rfl rfl)) ?_
      refine RW.op rfl rfl (eff_assign (v := .t _) rfl rfl rfl) ?_
      refine RW.op rfl rfl (eff_assign (v := .t _) rfl rfl rfl) ?_
      refine RW.nil ?_
      refine awp_ret ?_
      rw [defence_some (by omega) (by first | assumption | simpa using h2)]
      exact ⟨Or.inr rfl, [_, _], ⟨.tmp (.t _), .tmp (.t _), trivial⟩, (by repeat' first | exact trivial | exact Wk.refl _ | exact Wk.sl _ | (rw [h2]; exact Wk.refl _) | refine And.intro ?_ ?_ | refine Wk.tupP ?_ | refine Wk.aggP ?_)⟩

theorem judge_ret (l : List Rcd) (d : Dec) (hO : OKL l) : RetT Tryd.prog 22 [(1, deT)] [.sl (l.map encC) false, encD d] (.tup [encV (judge l d).1, encI (judge l d).2]) := by
  refine retT_of_awp Tryd.func22 rfl (Nat.le_of_ble_eq_true rfl) ?_
  refine awp_seq ?_
  refine awp_rw rfl ?_
  refine RW.new rfl rfl (eff_boxK (v := .t _) (k := 4) (id := 3) rfl rfl rfl rfl rfl rfl) ?_
  refine RW.new rfl rfl (eff_allocK (k := 5) (id := 4) rfl rfl tz49 rfl rfl) ?_
  refine RW.op rfl rfl (eff_assign (v := .t _) rfl rfl rfl) ?_
  refine RW.nil ?_
  refine awp_seq ?_
  refine awp_rw rfl ?_
  refine RW.op rfl rfl (eff_move (v := .t _) rfl rfl rfl) ?_
  refine RW.op rfl rfl (eff_load rfl rfl ti28 rfl (.whole rfl rfl rfl rfl rfl rfl)) ?_
  refine RW.op rfl rfl (eff_callXT (defence_ret l d hO) co43 rfl rfl rfl ⟨rfl, trivial⟩ rfl) ?_
  refine RW.op rfl rfl (eff_move (v := .t _) rfl rfl rfl) ?_
  refine RW.op rfl rfl (eff_extract rfl rfl rfl rfl) ?_
  refine RW.op rfl rfl (eff_extract rfl rfl rfl rfl) ?_
  refine RW.op rfl rfl (eff_assign (v := .t _) rfl rfl rfl) ?_
  refine RW.op rfl rfl (eff_assign (v := .t _) rfl rfl rfl) ?_
  refine RW.nil ?_
  refine awp_seq ?_
  refine awp_seq ?_
  refine awp_rw rfl ?_
  refine RW.op rfl rfl (eff_move (v := .t _) rfl rfl rfl) ?_
  refine RW.op rfl rfl (eff_iop rfl rfl rfl rfl rfl) ?_
  refine RW.nil ?_
  refine awp_cond rfl (fun h1 => ?_) (fun h1 => ?_)
  · try simp only [cl] at h1
    refine awp_seq ?_
    refine awp_rw rfl ?_
    refine RW.op rfl rfl (eff_buildT (ys := [_, _, _, _, _]) rfl rfl tz49 tg49 rfl) ?_
    refine RW.op rfl rfl (eff_move (v := .t _) rfl rfl rfl) ?_
    refine RW.store rfl rfl (eff_storeW (v := .t _) (els := [_]) (els' := [_]) rfl rfl ti49 rfl rfl rfl rfl rfl rfl rfl rfl rfl) ?_
    refine RW.op rfl rfl (eff_assign (v := .t _) rfl rfl rfl) ?_
    refine RW.nil ?_
    refine awp_ret ?_
    rw [judge_err h1]
    exact ⟨Or.inr rfl, [_, _], ⟨.cell rfl ti49 (.whole rfl rfl rfl rfl rfl rfl) (.t _), .tmp (.t _), trivial⟩, .refl _⟩
  · try simp only [cl] at h1
    refine awp_skip ?_
    refine awp_seq ?_
    refine awp_seq ?_
    refine awp_rw rfl ?_
    have hdl := defence_len hO d
    refine RW.op rfl rfl (eff_move (v := .t _) rfl rfl rfl) ?_
    refine RW.op rfl rfl (eff_lenM rfl rfl te33 rfl) ?_
    refine RW.op rfl rfl (eff_iop rfl rfl rfl rfl rfl) ?_
    refine RW.nil ?_
    refine awp_cond rfl (fun h2 => ?_) (fun h2 => ?_)
    · try simp only [cl] at h2
      refine awp_seq ?_
      refine awp_rw rfl ?_
      refine RW.op rfl rfl (eff_buildT (ys := [_, _, _, _, _]) rfl rfl tz49 tg49 rfl) ?_
      refine RW.store rfl rfl (eff_storeW (v := .t _) (els := [_]) (els' := [_]) rfl rfl ti49 rfl rfl rfl rfl rfl rfl rfl rfl rfl) ?_
      refine RW.op rfl rfl (eff_assign (v := .t _) rfl rfl rfl) ?_
      refine RW.nil ?_
      refine awp_ret ?_
      rw [judge_nil (by omega) h2]
      exact ⟨Or.inr rfl, [_, _], ⟨.cell rfl ti49 (.whole rfl rfl rfl rfl rfl rfl) (.t _), .tmp (.t _), trivial⟩, .refl _⟩
    · try simp only [cl] at h2
      refine awp_skip ?_
      refine awp_seq ?_
      refine awp_rw rfl ?_
      have hd0 : 0 < (defence l d).1.length := by omega
      refine RW.op rfl rfl (eff_move (v := .t _) rfl rfl rfl) ?_
      refine RW.op rfl rfl (eff_indexM (i := 0) rfl rfl te33 rfl rfl (by first | rfl | omega) (by exact List.getElem?_eq_getElem (by omega)) rfl (by decide)) ?_
      refine RW.op rfl rfl (eff_loadW rfl rfl ti23 rfl rfl rfl) ?_
      refine RW.op rfl rfl (eff_buildT (ys := [_, _, _, _, _]) rfl rfl tz49 tg49 rfl) ?_
      refine RW.store rfl rfl (eff_storeW (v := .t _) (els := [_]) (els' := [_]) rfl rfl ti49 rfl rfl rfl rfl rfl rfl rfl rfl rfl) ?_
      refine RW.op rfl rfl (eff_assign (v := .t _) rfl rfl rfl) ?_
      refine RW.nil ?_
      refine awp_ret ?_
      rw [judge_cons (by omega) hd0]
      exact ⟨Or.inr rfl, [_, _], ⟨.cell rfl ti49 (.whole rfl rfl rfl rfl rfl rfl) (.t _), .tmp (.t _), trivial⟩, .refl _⟩

end Go.Tv.C36

end
section
open Go Go.Tv Go.Proofs
namespace Go.Tv.C36
set_option maxRecDepth 20000
set_option maxHeartbeats 2000000
set_option linter.unusedSimpArgs false
set_option linter.unusedVariables false
theorem hRn {R : List Rep} {k : Int} (h : (decide (k = 3) && R.isEmpty) = false) (hk : k = 3) : (R.length : Int) ≠ 0 := by
  intro hl
  rw [decide_eq_true hk, List.length_eq_zero_iff.1 (show R.length = 0 by omega)] at h
  cases h

theorem hvis_n (l : List Rcd) (i : Nat) (T : Twn) (hi : i < l.length) (hl : l.length ≤ 1000000) (hT : T = (runTo l i).1) (hF : Fit 12 T) (hq : ∀ r, r ∈ l → 0 ≤ r.frame.seq ∧ r.frame.seq ≤ 1000000) (hf : form l i = 0) (hn : heldAt l i = false) : RetK Tryd.prog 39 [(1001, some ⟨1, 32, 0, [.t (.sl (l.map encC) false)]⟩), (1004, some ⟨1, 26, 0, [.own 1100 i 0 (heldTo l i).length]⟩), (1100, some ⟨1, 3, i, ((heldTo l i).map encN).map .t⟩)] [.t (encI (i : Nat)), .t (encT T), .ptr 1001 0 0 0, .ptr 1004 0 0 0] [(1001, some ⟨1, 32, 0, [.t (.sl (l.map encC) false)]⟩), (1004, some ⟨1, 26, 0, [.own 1100 (i + 1) 0 (heldTo l i).length]⟩), (1100, some ⟨1, 3, (i + 1), ((heldTo l i).map encN).map .t⟩)] (.tup []) [(2, .ptr 1001 0 0 0), (3, .ptr 1004 0 0 0)] := by
  have hRE : rightsAt l (l[i]'hi).dec i = (rights T (l[i]'hi).dec (sentN (l.take i))) := by rw [hT]; rfl
  have hhl := heldTo_len l i
  rw [heldAt_at hi, hRE] at hn
  refine retK_of_awj (kp := fun i => Nat.beq i 2 || Nat.beq i 3) Tryd.func39 rfl (Nat.le_of_ble_eq_true rfl) (by simp) ?_
  intro F0 w0
  refine awj_seq ?_
  refine awj_rj rfl ?_
  refine RJ.new rfl rfl (eff_boxK (v := .t _) (k := 2) (id := 5) rfl rfl rfl rfl rfl rfl) ?_
  refine RJ.nil ?_
  refine awj_seq ?_
  by_cases hc1 : (l[i]'hi).kind = 3
  · refine awj_rd [(some 6, []), (some 7, []), (some 8, []), (some 9, []), (some 10, []), (some 11, []), (some 12, []), (some 13, []), (some 14, []), (some 15, []), (some 16, []), (some 17, []), (some 18, []), (some 19, []), (some 20, []), (some 21, []), (some 22, []), (some 23, []), (some 24, []), (some 25, []), (some 26, [])] [[], [], [0, 1], [0, 1, 2], [0, 1, 2, 3], [0, 1, 2, 3, 4], [0, 1, 2, 3, 4, 5], [0, 1, 2, 3, 4, 5, 6], [0, 1, 2, 3, 4, 5, 6], [0, 1, 2, 3, 4, 5, 6], [0, 1, 2, 3, 4, 5, 6, 8, 9], [0, 1, 2, 3, 4, 5, 6, 8, 9, 10], [0, 1, 2, 3, 4, 5, 6, 8, 9, 10, 11], [0, 1, 2, 3, 4, 5, 6], [0, 1, 2, 3, 4, 5, 6], [0, 1, 2, 3, 4, 5, 6, 13, 14], [0, 1, 2, 3, 4, 5, 6, 13, 14, 15], [0, 1, 2, 3, 4, 5, 6, 7, 8, 9, 10, 11, 12, 13, 14, 15, 16], [0, 1, 2, 3, 4, 5, 6, 7, 8, 9, 10, 11, 12, 13, 14, 15, 16, 17], [0, 1, 2, 3, 4, 5, 6, 7, 8, 9, 10, 11, 12, 13, 14, 15, 16, 17, 18], [0, 1, 2, 3, 4, 5, 6, 7, 8, 9, 10, 11, 12, 13, 14, 15, 16, 17, 18, 19]] tm rfl rfl rfl rfl ?_
    refine RD.op rfl rfl rfl (eff_load (y := .t _) rfl rfl ti32 rfl (.one rfl rfl rfl rfl)) ?_
    refine RD.op rfl rfl rfl (eff_move (v := .t _) rfl rfl rfl) ?_
    refine RD.op rfl rfl rfl (eff_indexM (i := i) rfl rfl te32 rfl rfl (by first | rfl | omega) (by first | assumption | exact List.getElem?_eq_getElem (by omega)) rfl (by decide)) ?_
    refine RD.op rfl rfl rfl (eff_fieldAddrT rfl rfl tf47_1 (by decide) rfl) ?_
    refine RD.op rfl rfl rfl (eff_loadT1 rfl rfl ti3 rfl rfl) ?_
    refine RD.op rfl rfl rfl (eff_iop (r := .bool true) rfl rfl rfl rfl (by simp [iop, hc1])) ?_
    refine RD.op rfl rfl rfl (eff_move (v := .t _) rfl rfl rfl) ?_
    refine RD.gop rfl rfl rfl rfl rfl rfl rfl (eff_load rfl rfl ti64 rfl (.whole rfl rfl rfl rfl rfl rfl)) ?_
    refine RD.gop rfl rfl rfl rfl rfl rfl rfl (eff_load (y := .t _) rfl rfl ti32 rfl (.one rfl rfl rfl rfl)) ?_
    refine RD.gop rfl rfl rfl rfl rfl rfl rfl (eff_move (v := .t _) rfl rfl rfl) ?_
    refine RD.gop rfl rfl rfl rfl rfl rfl rfl (eff_indexM (i := i) rfl rfl te32 rfl rfl (by first | rfl | omega) (by first | assumption | exact List.getElem?_eq_getElem (by omega)) rfl (by decide)) ?_
    refine RD.gop rfl rfl rfl rfl rfl rfl rfl (eff_fieldAddrT rfl rfl tf47_4 (by decide) rfl) ?_
    refine RD.gop rfl rfl rfl rfl rfl rfl rfl (eff_loadT (ys := [_, _, _, _]) rfl rfl ti28 rfl rfl rfl) ?_
    refine RD.gop rfl rfl rfl rfl rfl rfl rfl (eff_load (y := .t _) rfl rfl ti32 rfl (.one rfl rfl rfl rfl)) ?_
    refine RD.gop rfl rfl rfl rfl rfl rfl rfl (eff_move (v := .t _) rfl rfl rfl) ?_
    refine RD.gop rfl rfl rfl rfl rfl rfl rfl (eff_sliceM (g := encC) (l := none) (h := some i) (r := l.take i) rfl rfl te32 rfl (fun _ => rfl) .no (.yes rfl rfl) (Nat.zero_le _) (by simp; omega) (by simp)) ?_
    refine RD.gop rfl rfl rfl rfl rfl rfl rfl (eff_callT (sent_ret (l.take i) (by rw [List.length_take]; omega) (fun r hr => hq r (List.mem_of_mem_take hr))) co41 rfl rfl rfl rfl) ?_
    refine RD.gop rfl rfl rfl rfl rfl rfl rfl (eff_callT (rights_ret T _ _ hF.hp (fun y hy => (hF.nx y hy).mono (by decide)) (by have := form_dec hi hf hc1; omega) (by have := hF.len; omega)) co40 rfl rfl rfl rfl) ?_
    refine RD.gop rfl rfl rfl rfl rfl rfl rfl (eff_lenM rfl rfl te33 rfl) ?_
    refine RD.gop rfl rfl rfl rfl rfl rfl rfl (eff_iop (r := .bool false) rfl rfl rfl rfl (by exact congrArg (fun b => some (Tr.bool b)) (beq_eq_false_iff_ne.2 (hRn hn hc1)))) ?_
    refine RD.op rfl rfl rfl (eff_pick (v := .t _) rfl rfl rfl rfl) ?_
    refine RD.nil ?_
    refine awj_cond rfl (fun h => nomatch h) (fun _ => ?_)
    refine awj_skip ?_
    exact ⟨Or.inl rfl, [], [], trivial, rfl, weak_gen ⟨.ptr 1001 0 0 0 0 rfl rfl rfl rfl rfl rfl, .ptr 1004 0 0 0 0 rfl rfl rfl rfl rfl rfl, trivial⟩ ⟨⟨_, rfl, rfl, rfl, rfl, gen_t1⟩, ⟨_, rfl, rfl, rfl, rfl, gen_own1 (.own 1100 _ _ 0 _ rfl rfl rfl rfl rfl rfl rfl)⟩, ⟨_, rfl, rfl, rfl, rfl, gen_trees⟩, trivial⟩, rfl⟩
  · refine awj_rd [(some 6, []), (some 7, []), (some 8, []), (some 9, []), (some 10, []), (some 11, []), (some 12, []), (some 13, []), (some 14, []), (some 15, []), (some 16, []), (some 17, []), (some 18, []), (some 19, []), (some 20, []), (some 21, []), (some 22, []), (some 23, []), (some 24, []), (some 25, []), (some 26, [])] [[], [], [0, 1], [0, 1, 2], [0, 1, 2, 3], [0, 1, 2, 3, 4], [0, 1, 2, 3, 4, 5], [0, 1, 2, 3, 4, 5, 6], [0, 1, 2, 3, 4, 5, 6], [0, 1, 2, 3, 4, 5, 6], [0, 1, 2, 3, 4, 5, 6, 8, 9], [0, 1, 2, 3, 4, 5, 6, 8, 9, 10], [0, 1, 2, 3, 4, 5, 6, 8, 9, 10, 11], [0, 1, 2, 3, 4, 5, 6], [0, 1, 2, 3, 4, 5, 6], [0, 1, 2, 3, 4, 5, 6, 13, 14], [0, 1, 2, 3, 4, 5, 6, 13, 14, 15], [0, 1, 2, 3, 4, 5, 6, 7, 8, 9, 10, 11, 12, 13, 14, 15, 16], [0, 1, 2, 3, 4, 5, 6, 7, 8, 9, 10, 11, 12, 13, 14, 15, 16, 17], [0, 1, 2, 3, 4, 5, 6, 7, 8, 9, 10, 11, 12, 13, 14, 15, 16, 17, 18], [0, 1, 2, 3, 4, 5, 6, 7, 8, 9, 10, 11, 12, 13, 14, 15, 16, 17, 18, 19]] tm rfl rfl rfl rfl ?_
    refine RD.op rfl rfl rfl (eff_load (y := .t _) rfl rfl ti32 rfl (.one rfl rfl rfl rfl)) ?_
    refine RD.op rfl rfl rfl (eff_move (v := .t _) rfl rfl rfl) ?_
    refine RD.op rfl rfl rfl (eff_indexM (i := i) rfl rfl te32 rfl rfl (by first | rfl | omega) (by first | assumption | exact List.getElem?_eq_getElem (by omega)) rfl (by decide)) ?_
    refine RD.op rfl rfl rfl (eff_fieldAddrT rfl rfl tf47_1 (by decide) rfl) ?_
    refine RD.op rfl rfl rfl (eff_loadT1 rfl rfl ti3 rfl rfl) ?_
    refine RD.op rfl rfl rfl (eff_iop (r := .bool false) rfl rfl rfl rfl (by simp [iop, hc1])) ?_
    refine RD.op rfl rfl rfl (eff_move (v := .t _) rfl rfl rfl) ?_
    refine RD.gskip rfl rfl rfl rfl rfl rfl (by decide) ?_
    refine RD.gskip rfl rfl rfl rfl rfl rfl (by decide) ?_
    refine RD.gskip rfl rfl rfl rfl rfl rfl (by decide) ?_
    refine RD.gskip rfl rfl rfl rfl rfl rfl (by decide) ?_
    refine RD.gskip rfl rfl rfl rfl rfl rfl (by decide) ?_
    refine RD.gskip rfl rfl rfl rfl rfl rfl (by decide) ?_
    refine RD.gskip rfl rfl rfl rfl rfl rfl (by decide) ?_
    refine RD.gskip rfl rfl rfl rfl rfl rfl (by decide) ?_
    refine RD.gskip rfl rfl rfl rfl rfl rfl (by decide) ?_
    refine RD.gskip rfl rfl rfl rfl rfl rfl (by decide) ?_
    refine RD.gskip rfl rfl rfl rfl rfl rfl (by decide) ?_
    refine RD.gskip rfl rfl rfl rfl rfl rfl (by decide) ?_
    refine RD.gskip rfl rfl rfl rfl rfl rfl (by decide) ?_
    refine RD.op rfl rfl rfl (eff_pick (v := .t _) rfl rfl rfl rfl) ?_
    refine RD.nil ?_
    refine awj_cond rfl (fun h => nomatch h) (fun _ => ?_)
    refine awj_skip ?_
    exact ⟨Or.inl rfl, [], [], trivial, rfl, weak_gen ⟨.ptr 1001 0 0 0 0 rfl rfl rfl rfl rfl rfl, .ptr 1004 0 0 0 0 rfl rfl rfl rfl rfl rfl, trivial⟩ ⟨⟨_, rfl, rfl, rfl, rfl, gen_t1⟩, ⟨_, rfl, rfl, rfl, rfl, gen_own1 (.own 1100 _ _ 0 _ rfl rfl rfl rfl rfl rfl rfl)⟩, ⟨_, rfl, rfl, rfl, rfl, gen_trees⟩, trivial⟩, rfl⟩

theorem hvis_y (l : List Rcd) (i : Nat) (T : Twn) (hi : i < l.length) (hl : l.length ≤ 1000000) (hT : T = (runTo l i).1) (hF : Fit 12 T) (hq : ∀ r, r ∈ l → 0 ≤ r.frame.seq ∧ r.frame.seq ≤ 1000000) (hf : form l i = 0) (hn : heldAt l i = true) : RetK Tryd.prog 39 [(1001, some ⟨1, 32, 0, [.t (.sl (l.map encC) false)]⟩), (1004, some ⟨1, 26, 0, [.own 1100 i 0 (heldTo l i).length]⟩), (1100, some ⟨1, 3, i, ((heldTo l i).map encN).map .t⟩)] [.t (encI (i : Nat)), .t (encT T), .ptr 1001 0 0 0, .ptr 1004 0 0 0] [(1001, some ⟨1, 32, 0, [.t (.sl (l.map encC) false)]⟩), (1004, some ⟨1, 26, 0, [.own 1100 (i + 1) 0 (heldTo l (i + 1)).length]⟩), (1100, some ⟨1, 3, (i + 1), ((heldTo l (i + 1)).map encN).map .t⟩)] (.tup []) [(2, .ptr 1001 0 0 0), (3, .ptr 1004 0 0 0)] := by
  have hn0 := hn
  have hRE : rightsAt l (l[i]'hi).dec i = (rights T (l[i]'hi).dec (sentN (l.take i))) := by rw [hT]; rfl
  have hhl := heldTo_len l i
  rw [heldAt_at hi, hRE] at hn
  simp only [Bool.and_eq_true, decide_eq_true_eq, List.isEmpty_iff] at hn
  obtain ⟨hk3, hR0⟩ := hn
  refine retK_of_awj (kp := fun i => Nat.beq i 2 || Nat.beq i 3) Tryd.func39 rfl (Nat.le_of_ble_eq_true rfl) (by simp) ?_
  intro F0 w0
  refine awj_seq ?_
  refine awj_rj rfl ?_
  refine RJ.new rfl rfl (eff_boxK (v := .t _) (k := 2) (id := 5) rfl rfl rfl rfl rfl rfl) ?_
  refine RJ.nil ?_
  refine awj_seq ?_
  refine awj_rd [(some 6, []), (some 7, []), (some 8, []), (some 9, []), (some 10, []), (some 11, []), (some 12, []), (some 13, []), (some 14, []), (some 15, []), (some 16, []), (some 17, []), (some 18, []), (some 19, []), (some 20, []), (some 21, []), (some 22, []), (some 23, []), (some 24, []), (some 25, []), (some 26, [])] [[], [], [0, 1], [0, 1, 2], [0, 1, 2, 3], [0, 1, 2, 3, 4], [0, 1, 2, 3, 4, 5], [0, 1, 2, 3, 4, 5, 6], [0, 1, 2, 3, 4, 5, 6], [0, 1, 2, 3, 4, 5, 6], [0, 1, 2, 3, 4, 5, 6, 8, 9], [0, 1, 2, 3, 4, 5, 6, 8, 9, 10], [0, 1, 2, 3, 4, 5, 6, 8, 9, 10, 11], [0, 1, 2, 3, 4, 5, 6], [0, 1, 2, 3, 4, 5, 6], [0, 1, 2, 3, 4, 5, 6, 13, 14], [0, 1, 2, 3, 4, 5, 6, 13, 14, 15], [0, 1, 2, 3, 4, 5, 6, 7, 8, 9, 10, 11, 12, 13, 14, 15, 16], [0, 1, 2, 3, 4, 5, 6, 7, 8, 9, 10, 11, 12, 13, 14, 15, 16, 17], [0, 1, 2, 3, 4, 5, 6, 7, 8, 9, 10, 11, 12, 13, 14, 15, 16, 17, 18], [0, 1, 2, 3, 4, 5, 6, 7, 8, 9, 10, 11, 12, 13, 14, 15, 16, 17, 18, 19]] tm rfl rfl rfl rfl ?_
  refine RD.op rfl rfl rfl (eff_load (y := .t _) rfl rfl ti32 rfl (.one rfl rfl rfl rfl)) ?_
  refine RD.op rfl rfl rfl (eff_move (v := .t _) rfl rfl rfl) ?_
  refine RD.op rfl rfl rfl (eff_indexM (i := i) rfl rfl te32 rfl rfl (by first | rfl | omega) (by first | assumption | exact List.getElem?_eq_getElem (by omega)) rfl (by decide)) ?_
  refine RD.op rfl rfl rfl (eff_fieldAddrT rfl rfl tf47_1 (by decide) rfl) ?_
  refine RD.op rfl rfl rfl (eff_loadT1 rfl rfl ti3 rfl rfl) ?_
  refine RD.op rfl rfl rfl (eff_iop (r := .bool true) rfl rfl rfl rfl (by simp [iop, hk3])) ?_
  refine RD.op rfl rfl rfl (eff_move (v := .t _) rfl rfl rfl) ?_
  refine RD.gop rfl rfl rfl rfl rfl rfl rfl (eff_load rfl rfl ti64 rfl (.whole rfl rfl rfl rfl rfl rfl)) ?_
  refine RD.gop rfl rfl rfl rfl rfl rfl rfl (eff_load (y := .t _) rfl rfl ti32 rfl (.one rfl rfl rfl rfl)) ?_
  refine RD.gop rfl rfl rfl rfl rfl rfl rfl (eff_move (v := .t _) rfl rfl rfl) ?_
  refine RD.gop rfl rfl rfl rfl rfl rfl rfl (eff_indexM (i := i) rfl rfl te32 rfl rfl (by first | rfl | omega) (by first | assumption | exact List.getElem?_eq_getElem (by omega)) rfl (by decide)) ?_
  refine RD.gop rfl rfl rfl rfl rfl rfl rfl (eff_fieldAddrT rfl rfl tf47_4 (by decide) rfl) ?_
  refine RD.gop rfl rfl rfl rfl rfl rfl rfl (eff_loadT (ys := [_, _, _, _]) rfl rfl ti28 rfl rfl rfl) ?_
  refine RD.gop rfl rfl rfl rfl rfl rfl rfl (eff_load (y := .t _) rfl rfl ti32 rfl (.one rfl rfl rfl rfl)) ?_
  refine RD.gop rfl rfl rfl rfl rfl rfl rfl (eff_move (v := .t _) rfl rfl rfl) ?_
  refine RD.gop rfl rfl rfl rfl rfl rfl rfl (eff_sliceM (g := encC) (l := none) (h := some i) (r := l.take i) rfl rfl te32 rfl (fun _ => rfl) .no (.yes rfl rfl) (Nat.zero_le _) (by simp; omega) (by simp)) ?_
  refine RD.gop rfl rfl rfl rfl rfl rfl rfl (eff_callT (sent_ret (l.take i) (by rw [List.length_take]; omega) (fun r hr => hq r (List.mem_of_mem_take hr))) co41 rfl rfl rfl rfl) ?_
  refine RD.gop rfl rfl rfl rfl rfl rfl rfl (eff_callT (rights_ret T _ _ hF.hp (fun y hy => (hF.nx y hy).mono (by decide)) (by have := form_dec hi hf hk3; omega) (by have := hF.len; omega)) co40 rfl rfl rfl rfl) ?_
  refine RD.gop rfl rfl rfl rfl rfl rfl rfl (eff_lenM rfl rfl te33 rfl) ?_
  refine RD.gop rfl rfl rfl rfl rfl rfl rfl (eff_iop (r := .bool true) rfl rfl rfl rfl (by simp [iop, hR0])) ?_
  refine RD.op rfl rfl rfl (eff_pick (v := .t _) rfl rfl rfl rfl) ?_
  refine RD.nil ?_
  refine awj_cond rfl (fun _ => ?_) (fun h => nomatch h)
  refine awj_rj rfl ?_
  refine RJ.op rfl rfl (eff_load (y := .own _ _ _ _) rfl rfl ti26 rfl (.one rfl rfl rfl rfl)) ?_
  refine RJ.op rfl rfl (eff_move (v := .t _) rfl rfl rfl) ?_
  refine RJ.new rfl rfl (eff_buildSlice1 (id := 29) (els := [_]) rfl rfl te26 tz3 rfl (by decide) rfl rfl rfl rfl) ?_
  refine RJ.new rfl rfl (eff_append (id := 1100) (ys := [_]) rfl rfl ta26 rfl rfl rfl (by simp) rfl rfl (srcOwn rfl rfl rfl rfl rfl rfl) (by simp) (by simp; omega) (by simp; omega)) ?_
  refine RJ.store rfl rfl (eff_storeW (v := .own _ _ _ _) (els := [_]) (els' := [_]) rfl rfl ti26 rfl rfl rfl rfl rfl rfl rfl rfl rfl) ?_
  refine RJ.nil ?_
  have hle : ((heldTo l (i + 1)).map encN).map AV.t = ((heldTo l i).map encN).map AV.t ++ [.t (encI (i : Nat))] := by rw [heldTo_yes hn0]; simp <;> rfl
  have hll : (heldTo l (i + 1)).length = (heldTo l i).length + 1 := by rw [heldTo_yes hn0]; simp
  rw [hle, hll]
  exact ⟨Or.inl rfl, [], [], trivial, rfl, weak_keep ⟨rfl, rfl, rfl, rfl, trivial⟩ ⟨rfl, okE_one rfl, rfl, okE_one rfl, rfl, (by rw [← hle]; exact okE_t), trivial⟩, rfl⟩

theorem hvis_ret (l : List Rcd) (i : Nat) (T : Twn) (hi : i < l.length) (hl : l.length ≤ 1000000) (hT : T = (runTo l i).1) (hF : Fit 12 T) (hq : ∀ r, r ∈ l → 0 ≤ r.frame.seq ∧ r.frame.seq ≤ 1000000) (hf : form l i = 0) :
    RetK Tryd.prog 39 [(1001, some ⟨1, 32, 0, [.t (.sl (l.map encC) false)]⟩), (1004, some ⟨1, 26, 0, [.own 1100 i 0 (heldTo l i).length]⟩), (1100, some ⟨1, 3, i, ((heldTo l i).map encN).map .t⟩)] [.t (encI (i : Nat)), .t (encT T), .ptr 1001 0 0 0, .ptr 1004 0 0 0] [(1001, some ⟨1, 32, 0, [.t (.sl (l.map encC) false)]⟩), (1004, some ⟨1, 26, 0, [.own 1100 (i + 1) 0 (heldTo l (i + 1)).length]⟩), (1100, some ⟨1, 3, (i + 1), ((heldTo l (i + 1)).map encN).map .t⟩)] (.tup []) [(2, .ptr 1001 0 0 0), (3, .ptr 1004 0 0 0)] := by
  cases hn : heldAt l i with
  | true => exact hvis_y l i T hi hl hT hF hq hf hn
  | false =>
    have h := hvis_n l i T hi hl hT hF hq hf hn
    rw [heldTo_no hn]
    exact h

theorem replay39_ret (l : List Rcd) (hO : OKL l) : RetKT Tryd.prog 38 [(1, deT)] [(1001, some ⟨1, 32, 0, [.t (.sl (l.map encC) false)]⟩), (1004, some ⟨1, 26, 0, [.own 1100 0 0 (heldTo l 0).length]⟩), (1100, some ⟨1, 3, 0, ((heldTo l 0).map encN).map .t⟩)] [.t (.sl (l.map encC) false), .fn 39 [.ptr 1001 0 0 0, .ptr 1004 0 0 0]] [(1001, some ⟨1, 32, 0, [.t (.sl (l.map encC) false)]⟩), (1004, some ⟨1, 26, 0, [.own 1100 (nvis l + 1) 0 (heldTo l (nvis l)).length]⟩), (1100, some ⟨1, 3, (nvis l + 1), ((heldTo l (nvis l)).map encN).map .t⟩)] (.tup [.t (encT (allOf l).1), .t (encI (allOf l).2)]) [(1, .fn 39 [.ptr 1001 0 0 0, .ptr 1004 0 0 0])] := by
  refine retKT_of_awj (kp := fun i => Nat.beq i 1) Tryd.func38 rfl (Nat.le_of_ble_eq_true rfl) (by simp) ?_
  intro F0 w0
  refine awj_seq ?_
  refine awj_rj rfl ?_
  refine RJ.new rfl rfl (eff_allocK (k := 2) (id := 4) rfl rfl tz64 rfl rfl) ?_
  refine RJ.op rfl rfl (eff_assign (v := .t _) rfl rfl rfl) ?_
  refine RJ.nil ?_
  refine awj_seq ?_
  refine awj_seq ?_
  refine awj_rj rfl ?_
  refine RJ.op rfl rfl (eff_move (v := .t _) rfl rfl rfl) ?_
  refine RJ.op rfl rfl (eff_lenM rfl rfl te32 rfl) ?_
  refine RJ.op rfl rfl (eff_iop rfl rfl rfl rfl rfl) ?_
  refine RJ.nil ?_
  refine awj_cond rfl (fun h1 => ?_) (fun h1 => ?_)
  · try simp only [cl] at h1
    refine awj_seq ?_
    refine awj_rj rfl ?_
    refine RJ.op rfl rfl (eff_buildT (ys := [_, _]) rfl rfl tz64 tg64 rfl) ?_
    refine RJ.store rfl rfl (eff_storeW (v := .t _) (els := [_]) (els' := [_]) rfl rfl ti64 rfl rfl rfl rfl rfl rfl rfl rfl rfl) ?_
    refine RJ.op rfl rfl (eff_assign (v := .t _) rfl rfl rfl) ?_
    refine RJ.nil ?_
    refine awj_ret ?_
    first
      | (rw [all_lim h1, nvis_lim h1]; exact ⟨Or.inr rfl, [_, _], [.t (encT zt), .t _], ⟨.cell rfl ti64 (.whole rfl rfl rfl rfl rfl rfl), .tmp rfl, trivial⟩, rfl, Weak.trans (weak_slot 0 (y := encT zt) rfl (by repeat' first | exact trivial | exact Wk.refl _ | exact Wk.sl _ | refine And.intro ?_ ?_ | refine Wk.tupP ?_ | refine Wk.aggP ?_)) (weak_genX ⟨.a (.t _), .a (.t _), .fn _ _ ⟨.ptr 1001 0 0 0 0 rfl rfl rfl rfl rfl rfl, .ptr 1004 0 0 0 0 rfl rfl rfl rfl rfl rfl, trivial⟩, trivial⟩ ⟨⟨_, rfl, rfl, rfl, rfl, gen_t1⟩, ⟨_, rfl, rfl, rfl, rfl, gen_own1 (.own 1100 _ _ 0 _ rfl rfl rfl rfl rfl rfl rfl)⟩, ⟨_, rfl, rfl, rfl, rfl, gen_trees⟩, trivial⟩), rfl⟩)
      | (have hfx : form l i ≠ 0 := by omega
         rw [all_bad h1 hil (run_form hok hfx) hfx, nvis_form h1 hil hok hfx]; exact ⟨Or.inr rfl, [_, _], [.t (encT zt), .t _], ⟨.cell rfl ti64 (.whole rfl rfl rfl rfl rfl rfl), .tmp rfl, trivial⟩, rfl, Weak.trans (weak_slot 0 (y := encT zt) rfl (by repeat' first | exact trivial | exact Wk.refl _ | exact Wk.sl _ | refine And.intro ?_ ?_ | refine Wk.tupP ?_ | refine Wk.aggP ?_)) (weak_genX ⟨.a (.t _), .a (.t _), .fn _ _ ⟨.ptr 1001 0 0 0 0 rfl rfl rfl rfl rfl rfl, .ptr 1004 0 0 0 0 rfl rfl rfl rfl rfl rfl, trivial⟩, trivial⟩ ⟨⟨_, rfl, rfl, rfl, rfl, gen_t1⟩, ⟨_, rfl, rfl, rfl, rfl, gen_own1 (.own 1100 _ _ 0 _ rfl rfl rfl rfl rfl rfl rfl)⟩, ⟨_, rfl, rfl, rfl, rfl, gen_trees⟩, trivial⟩), rfl⟩)
      | (have hrb := bad_send hil hT hok hfo (by omega) (by omega)
         rw [all_bad h1 hil hrb (by omega), nvis_bad h1 hil hok hfo hrb (by omega)]; exact ⟨Or.inr rfl, [_, _], [.t (encT zt), .t _], ⟨.cell rfl ti64 (.whole rfl rfl rfl rfl rfl rfl), .tmp rfl, trivial⟩, rfl, Weak.trans (weak_slot 0 (y := encT zt) rfl (by repeat' first | exact trivial | exact Wk.refl _ | exact Wk.sl _ | refine And.intro ?_ ?_ | refine Wk.tupP ?_ | refine Wk.aggP ?_)) (weak_genX ⟨.a (.t _), .a (.t _), .fn _ _ ⟨.ptr 1001 0 0 0 0 rfl rfl rfl rfl rfl rfl, .ptr 1004 0 0 0 0 rfl rfl rfl rfl rfl rfl, trivial⟩, trivial⟩ ⟨⟨_, rfl, rfl, rfl, rfl, gen_t1⟩, ⟨_, rfl, rfl, rfl, rfl, gen_own1 (.own 1100 _ _ 0 _ rfl rfl rfl rfl rfl rfl rfl)⟩, ⟨_, rfl, rfl, rfl, rfl, gen_trees⟩, trivial⟩), rfl⟩)
      | (have hrb := bad_hear hil hT hok hfo (by omega) (by omega)
         rw [all_bad h1 hil hrb (by omega), nvis_bad h1 hil hok hfo hrb (by omega)]; exact ⟨Or.inr rfl, [_, _], [.t (encT zt), .t _], ⟨.cell rfl ti64 (.whole rfl rfl rfl rfl rfl rfl), .tmp rfl, trivial⟩, rfl, Weak.trans (weak_slot 0 (y := encT zt) rfl (by repeat' first | exact trivial | exact Wk.refl _ | exact Wk.sl _ | refine And.intro ?_ ?_ | refine Wk.tupP ?_ | refine Wk.aggP ?_)) (weak_genX ⟨.a (.t _), .a (.t _), .fn _ _ ⟨.ptr 1001 0 0 0 0 rfl rfl rfl rfl rfl rfl, .ptr 1004 0 0 0 0 rfl rfl rfl rfl rfl rfl, trivial⟩, trivial⟩ ⟨⟨_, rfl, rfl, rfl, rfl, gen_t1⟩, ⟨_, rfl, rfl, rfl, rfl, gen_own1 (.own 1100 _ _ 0 _ rfl rfl rfl rfl rfl rfl rfl)⟩, ⟨_, rfl, rfl, rfl, rfl, gen_trees⟩, trivial⟩), rfl⟩)
      | exact absurd trivial ‹¬ True›
      | (exfalso; omega)
      | (have hi2 : i = l.length := by omega
         subst hi2
         rw [all_ok h1 hok, nvis_ok h1 hok, ← hT]; exact ⟨Or.inr rfl, [_, _], [.t (encT T), .t _], ⟨.cell rfl ti64 (.whole rfl rfl rfl rfl rfl rfl), .tmp rfl, trivial⟩, rfl, Weak.trans (weak_slot 0 (y := encT T) rfl (by repeat' first | exact trivial | exact Wk.refl _ | exact Wk.sl _ | refine And.intro ?_ ?_ | refine Wk.tupP ?_ | refine Wk.aggP ?_)) (weak_genX ⟨.a (.t _), .a (.t _), .fn _ _ ⟨.ptr 1001 0 0 0 0 rfl rfl rfl rfl rfl rfl, .ptr 1004 0 0 0 0 rfl rfl rfl rfl rfl rfl, trivial⟩, trivial⟩ ⟨⟨_, rfl, rfl, rfl, rfl, gen_t1⟩, ⟨_, rfl, rfl, rfl, rfl, gen_own1 (.own 1100 _ _ 0 _ rfl rfl rfl rfl rfl rfl rfl)⟩, ⟨_, rfl, rfl, rfl, rfl, gen_trees⟩, trivial⟩), rfl⟩)
  · try simp only [cl] at h1
    refine awj_skip ?_
    refine awj_seq ?_
    refine awj_rj rfl ?_
    refine RJ.op rfl rfl (eff_callT (new17_ret) co61 rfl rfl rfl rfl) ?_
    refine RJ.new rfl rfl (eff_allocK (k := 2) (id := 6) rfl rfl tz64 rfl rfl) ?_
    refine RJ.store rfl rfl (eff_storeW (v := .t _) (els := [_]) (els' := [_]) rfl rfl ti64 rfl rfl rfl rfl rfl rfl rfl rfl rfl) ?_
    refine RJ.nil ?_
    refine awj_seq ?_
    refine awj_seq ?_
    refine awj_rj rfl ?_
    refine RJ.op rfl rfl (eff_move (v := .t _) rfl rfl rfl) ?_
    refine RJ.op rfl rfl (eff_lenM rfl rfl te32 rfl) ?_
    refine RJ.op rfl rfl (eff_move (v := .t _) rfl rfl rfl) ?_
    refine RJ.nil ?_
    refine awj_block ?_
    refine awj_loopW (fun m s g => ∃ (i : Nat) (T : Twn), (i ≤ l.length) ∧ (T = (runTo l i).1) ∧ ((runTo l i).2 = 0) ∧ m = l.length - i ∧ s = ⟨63, [(0, .t (.sl (l.map encC) false)), (1, .fn 39 [.ptr 1001 0 0 0, .ptr 1004 0 0 0]), (4, .ptr 4 0 0 0), (6, .ptr 6 0 0 0), (17, .t (.sl (l.map encC) false)), (18, .t (encI (l.length : Nat))), (19, .t (encI (i : Nat))), (64, .t deT)], [(4, some ⟨2, 64, 0, [.t z64]⟩), (6, some ⟨2, 64, 0, [.t (encT T)]⟩), (1001, some ⟨1, 32, 0, [.t (.sl (l.map encC) false)]⟩), (1004, some ⟨1, 26, 0, [.own 1100 i 0 (heldTo l i).length]⟩), (1100, some ⟨1, 3, i, ((heldTo l i).map encN).map .t⟩)]⟩) (_) (⟨_, weak_keep (n := 63) (fr' := [(0, .t (.sl (l.map encC) false)), (1, .fn 39 [.ptr 1001 0 0 0, .ptr 1004 0 0 0]), (4, .ptr 4 0 0 0), (6, .ptr 6 0 0 0), (17, .t (.sl (l.map encC) false)), (18, .t (encI (l.length : Nat))), (19, .t (encI (0 : Nat))), (64, .t deT)]) (st' := [(4, some ⟨2, 64, 0, [.t z64]⟩), (6, some ⟨2, 64, 0, [.t (encT newT)]⟩), (1001, some ⟨1, 32, 0, [.t (.sl (l.map encC) false)]⟩), (1004, some ⟨1, 26, 0, [.own 1100 0 0 (heldTo l 0).length]⟩), (1100, some ⟨1, 3, 0, ((heldTo l 0).map encN).map .t⟩)]) ⟨rfl, rfl, rfl, rfl, rfl, rfl, rfl, rfl, rfl, rfl, rfl, rfl, rfl, rfl, rfl, rfl, trivial⟩ ⟨rfl, okE_one rfl, rfl, okE_one rfl, rfl, okE_one rfl, rfl, okE_one rfl, rfl, okE_t, trivial⟩, 0, newT, (by omega), (by rfl), (by rfl), rfl, rfl⟩) ?_
    rintro m s g ⟨i, T, hi, hT, hok, rfl, rfl⟩
    refine awj_seq ?_
    refine awj_rj rfl ?_
    refine RJ.op rfl rfl (eff_iop rfl rfl rfl rfl rfl) ?_
    refine RJ.nil ?_
    refine awj_seq ?_
    refine awj_cond rfl (fun h2 => ?_) (fun h2 => ?_)
    · try simp only [cl] at h2
      refine awj_skip ?_
      refine awj_seq ?_
      refine awj_block ?_
      refine awj_seq ?_
      refine awj_rj rfl ?_
      have hil : i < l.length := by omega
      have hFit := runTo_fit12 hO (by omega) hok
      rw [← hT] at hFit
      refine RJ.op rfl rfl (eff_move (v := .t _) rfl rfl rfl) ?_
      refine RJ.op rfl rfl (eff_indexM rfl rfl te32 rfl rfl rfl (by first | assumption | exact List.getElem?_eq_getElem (by omega)) rfl (by decide)) ?_
      refine RJ.op rfl rfl (eff_loadW rfl rfl ti47 rfl rfl rfl) ?_
      refine RJ.new rfl rfl (eff_allocK (k := 15) (id := 8) rfl rfl tz47 rfl rfl) ?_
      refine RJ.op rfl rfl (eff_assign (v := .t _) rfl rfl rfl) ?_
      refine RJ.store rfl rfl (eff_storeW (v := .t _) (els := [_]) (els' := [_]) rfl rfl ti47 rfl rfl rfl rfl rfl rfl rfl rfl rfl) ?_
      refine RJ.nil ?_
      refine awj_seq ?_
      refine awj_seq ?_
      refine awj_rj rfl ?_
      refine RJ.op rfl rfl (eff_move (v := .t _) rfl rfl rfl) ?_
      refine RJ.op rfl rfl (eff_move (v := .t _) rfl rfl rfl) ?_
      refine RJ.op rfl rfl (eff_callT (form_ret l i hil (by have := hO.len; omega)) co62 rfl rfl rfl rfl) ?_
      refine RJ.op rfl rfl (eff_assign (v := .t _) rfl rfl rfl) ?_
      refine RJ.nil ?_
      refine awj_seq ?_
      refine awj_rj rfl ?_
      refine RJ.op rfl rfl (eff_move (v := .t _) rfl rfl rfl) ?_
      refine RJ.op rfl rfl (eff_iop rfl rfl rfl rfl rfl) ?_
      refine RJ.nil ?_
      refine awj_cond rfl (fun h3 => ?_) (fun h3 => ?_)
      · try simp only [cl] at h3
        refine awj_seq ?_
        refine awj_rj rfl ?_
        refine RJ.op rfl rfl (eff_buildT (ys := [_, _]) rfl rfl tz64 tg64 rfl) ?_
        refine RJ.op rfl rfl (eff_move (v := .t _) rfl rfl rfl) ?_
        refine RJ.store rfl rfl (eff_storeW (v := .t _) (els := [_]) (els' := [_]) rfl rfl ti64 rfl rfl rfl rfl rfl rfl rfl rfl rfl) ?_
        refine RJ.op rfl rfl (eff_assign (v := .t _) rfl rfl rfl) ?_
        refine RJ.nil ?_
        refine awj_ret ?_
        first
          | (rw [all_lim h1, nvis_lim h1]; exact ⟨Or.inr rfl, [_, _], [.t (encT zt), .t _], ⟨.cell rfl ti64 (.whole rfl rfl rfl rfl rfl rfl), .tmp rfl, trivial⟩, rfl, Weak.trans (weak_slot 0 (y := encT zt) rfl (by repeat' first | exact trivial | exact Wk.refl _ | exact Wk.sl _ | refine And.intro ?_ ?_ | refine Wk.tupP ?_ | refine Wk.aggP ?_)) (weak_genX ⟨.a (.t _), .a (.t _), .fn _ _ ⟨.ptr 1001 0 0 0 0 rfl rfl rfl rfl rfl rfl, .ptr 1004 0 0 0 0 rfl rfl rfl rfl rfl rfl, trivial⟩, trivial⟩ ⟨⟨_, rfl, rfl, rfl, rfl, gen_t1⟩, ⟨_, rfl, rfl, rfl, rfl, gen_own1 (.own 1100 _ _ 0 _ rfl rfl rfl rfl rfl rfl rfl)⟩, ⟨_, rfl, rfl, rfl, rfl, gen_trees⟩, trivial⟩), rfl⟩)
          | (have hfx : form l i ≠ 0 := by omega
             rw [all_bad h1 hil (run_form hok hfx) hfx, nvis_form h1 hil hok hfx]; exact ⟨Or.inr rfl, [_, _], [.t (encT zt), .t _], ⟨.cell rfl ti64 (.whole rfl rfl rfl rfl rfl rfl), .tmp rfl, trivial⟩, rfl, Weak.trans (weak_slot 0 (y := encT zt) rfl (by repeat' first | exact trivial | exact Wk.refl _ | exact Wk.sl _ | refine And.intro ?_ ?_ | refine Wk.tupP ?_ | refine Wk.aggP ?_)) (weak_genX ⟨.a (.t _), .a (.t _), .fn _ _ ⟨.ptr 1001 0 0 0 0 rfl rfl rfl rfl rfl rfl, .ptr 1004 0 0 0 0 rfl rfl rfl rfl rfl rfl, trivial⟩, trivial⟩ ⟨⟨_, rfl, rfl, rfl, rfl, gen_t1⟩, ⟨_, rfl, rfl, rfl, rfl, gen_own1 (.own 1100 _ _ 0 _ rfl rfl rfl rfl rfl rfl rfl)⟩, ⟨_, rfl, rfl, rfl, rfl, gen_trees⟩, trivial⟩), rfl⟩)
          | (have hrb := bad_send hil hT hok hfo (by omega) (by omega)
             rw [all_bad h1 hil hrb (by omega), nvis_bad h1 hil hok hfo hrb (by omega)]; exact ⟨Or.inr rfl, [_, _], [.t (encT zt), .t _], ⟨.cell rfl ti64 (.whole rfl rfl rfl rfl rfl rfl), .tmp rfl, trivial⟩, rfl, Weak.trans (weak_slot 0 (y := encT zt) rfl (by repeat' first | exact trivial | exact Wk.refl _ | exact Wk.sl _ | refine And.intro ?_ ?_ | refine Wk.tupP ?_ | refine Wk.aggP ?_)) (weak_genX ⟨.a (.t _), .a (.t _), .fn _ _ ⟨.ptr 1001 0 0 0 0 rfl rfl rfl rfl rfl rfl, .ptr 1004 0 0 0 0 rfl rfl rfl rfl rfl rfl, trivial⟩, trivial⟩ ⟨⟨_, rfl, rfl, rfl, rfl, gen_t1⟩, ⟨_, rfl, rfl, rfl, rfl, gen_own1 (.own 1100 _ _ 0 _ rfl rfl rfl rfl rfl rfl rfl)⟩, ⟨_, rfl, rfl, rfl, rfl, gen_trees⟩, trivial⟩), rfl⟩)
          | (have hrb := bad_hear hil hT hok hfo (by omega) (by omega)
             rw [all_bad h1 hil hrb (by omega), nvis_bad h1 hil hok hfo hrb (by omega)]; exact ⟨Or.inr rfl, [_, _], [.t (encT zt), .t _], ⟨.cell rfl ti64 (.whole rfl rfl rfl rfl rfl rfl), .tmp rfl, trivial⟩, rfl, Weak.trans (weak_slot 0 (y := encT zt) rfl (by repeat' first | exact trivial | exact Wk.refl _ | exact Wk.sl _ | refine And.intro ?_ ?_ | refine Wk.tupP ?_ | refine Wk.aggP ?_)) (weak_genX ⟨.a (.t _), .a (.t _), .fn _ _ ⟨.ptr 1001 0 0 0 0 rfl rfl rfl rfl rfl rfl, .ptr 1004 0 0 0 0 rfl rfl rfl rfl rfl rfl, trivial⟩, trivial⟩ ⟨⟨_, rfl, rfl, rfl, rfl, gen_t1⟩, ⟨_, rfl, rfl, rfl, rfl, gen_own1 (.own 1100 _ _ 0 _ rfl rfl rfl rfl rfl rfl rfl)⟩, ⟨_, rfl, rfl, rfl, rfl, gen_trees⟩, trivial⟩), rfl⟩)
          | exact absurd trivial ‹¬ True›
          | (exfalso; omega)
          | (have hi2 : i = l.length := by omega
             subst hi2
             rw [all_ok h1 hok, nvis_ok h1 hok, ← hT]; exact ⟨Or.inr rfl, [_, _], [.t (encT T), .t _], ⟨.cell rfl ti64 (.whole rfl rfl rfl rfl rfl rfl), .tmp rfl, trivial⟩, rfl, Weak.trans (weak_slot 0 (y := encT T) rfl (by repeat' first | exact trivial | exact Wk.refl _ | exact Wk.sl _ | refine And.intro ?_ ?_ | refine Wk.tupP ?_ | refine Wk.aggP ?_)) (weak_genX ⟨.a (.t _), .a (.t _), .fn _ _ ⟨.ptr 1001 0 0 0 0 rfl rfl rfl rfl rfl rfl, .ptr 1004 0 0 0 0 rfl rfl rfl rfl rfl rfl, trivial⟩, trivial⟩ ⟨⟨_, rfl, rfl, rfl, rfl, gen_t1⟩, ⟨_, rfl, rfl, rfl, rfl, gen_own1 (.own 1100 _ _ 0 _ rfl rfl rfl rfl rfl rfl rfl)⟩, ⟨_, rfl, rfl, rfl, rfl, gen_trees⟩, trivial⟩), rfl⟩)
      · try simp only [cl] at h3
        refine awj_skip ?_
        refine awj_seq ?_
        refine awj_rj rfl ?_
        have hfo : form l i = 0 := by omega
        refine RJ.op rfl rfl (eff_move (v := .fn _ _) rfl rfl rfl) ?_
        refine RJ.op rfl rfl (eff_move (v := .t _) rfl rfl rfl) ?_
        refine RJ.op rfl rfl (eff_load rfl rfl ti64 rfl (.whole rfl rfl rfl rfl rfl rfl)) ?_
        refine RJ.new3 rfl rfl (eff_callKF (hvis_ret l i T hil (by have := hO.len; omega) hT hFit hO.seq hfo) co39 (fun id => id) rfl rfl rfl ⟨.t _, .t _, .ptr _ _ _ _ rfl rfl, .ptr _ _ _ _ rfl rfl, trivial⟩ (.tup _ _ rfl (fun i c d h _ => by simp at h)) rfl ⟨⟨rfl, self_one, ⟨_, rfl, .inr ⟨rfl, rfl, rfl, rfl, 2, rfl, (by simp)⟩⟩⟩, ⟨rfl, self_own rfl rfl, ⟨_, rfl, .inr ⟨rfl, rfl, rfl, rfl, 3, rfl, (by simp)⟩⟩⟩, ⟨rfl, self_tree, ⟨_, rfl, .inl (Nat.lt_succ_self _)⟩⟩, trivial⟩ ⟨⟨self_one, .inl rfl⟩, ⟨self_own rfl rfl, .inl rfl⟩, ⟨self_tree, .inl rfl⟩, trivial⟩) ?_
        refine RJ.nil ?_
        refine awj_seq ?_
        refine awj_rj rfl ?_
        refine RJ.op rfl rfl (eff_assign (v := .t _) rfl rfl rfl) ?_
        refine RJ.nil ?_
        refine awj_seq ?_
        refine awj_rj rfl ?_
        refine RJ.op rfl rfl (eff_load rfl rfl ti64 rfl (.whole rfl rfl rfl rfl rfl rfl)) ?_
        refine RJ.new rfl rfl (eff_allocK (k := 2) (id := 11) rfl rfl tz64 rfl rfl) ?_
        refine RJ.store rfl rfl (eff_storeW (v := .t _) (els := [_]) (els' := [_]) rfl rfl ti64 rfl rfl rfl rfl rfl rfl rfl rfl rfl) ?_
        refine RJ.nil ?_
        refine awj_seq ?_
        refine awj_seq ?_
        refine awj_rj rfl ?_
        refine RJ.op rfl rfl (eff_fieldAddr rfl rfl tf47_1 (by decide) rfl rfl rfl (Nat.le_of_ble_eq_true rfl)) ?_
        refine RJ.op rfl rfl (eff_load (y := .t _) rfl rfl ti3 rfl (.one rfl rfl rfl rfl)) ?_
        refine RJ.nil ?_
        refine awj_block ?_
        refine awj_seq ?_
        refine awj_rj rfl ?_
        refine RJ.op rfl rfl (eff_iop rfl rfl rfl rfl rfl) ?_
        refine RJ.op rfl rfl (eff_assign (v := .t _) rfl rfl rfl) ?_
        refine RJ.nil ?_
        refine awj_cond rfl (fun h4 => ?_) (fun h4 => ?_)
        · try simp only [cl] at h4
          refine awj_rj rfl ?_
          refine RJ.op rfl rfl (eff_load rfl rfl ti64 rfl (.whole rfl rfl rfl rfl rfl rfl)) ?_
          refine RJ.op rfl rfl (eff_fieldAddr rfl rfl tf47_2 (by decide) rfl rfl rfl (Nat.le_of_ble_eq_true rfl)) ?_
          refine RJ.op rfl rfl (eff_loadS (ys := [_, _, _, _, _]) rfl rfl ti45 rfl rfl rfl rfl rfl rfl) ?_
          refine RJ.op rfl rfl (eff_callXT (tsend_ret T _ hFit.srt hFit.hp (by have := hFit.len; omega) (by have := hFit.sl; omega) hFit.bod (hO.bod _ (List.getElem_mem hil))) co63 rfl rfl rfl ⟨rfl, trivial⟩ rfl) ?_
          refine RJ.op rfl rfl (eff_move (v := .t _) rfl rfl rfl) ?_
          refine RJ.op rfl rfl (eff_extract rfl rfl rfl rfl) ?_
          refine RJ.op rfl rfl (eff_extract rfl rfl rfl rfl) ?_
          refine RJ.store rfl rfl (eff_storeW (v := .t _) (els := [_]) (els' := [_]) rfl rfl ti64 rfl rfl rfl rfl rfl rfl rfl rfl rfl) ?_
          refine RJ.op rfl rfl (eff_assign (v := .t _) rfl rfl rfl) ?_
          refine RJ.nil ?_
          refine awj_seq ?_
          refine awj_seq ?_
          refine awj_rj rfl ?_
          refine RJ.op rfl rfl (eff_move (v := .t _) rfl rfl rfl) ?_
          refine RJ.op rfl rfl (eff_iop rfl rfl rfl rfl rfl) ?_
          refine RJ.nil ?_
          refine awj_cond rfl (fun h5 => ?_) (fun h5 => ?_)
          · try simp only [cl] at h5
            refine awj_seq ?_
            refine awj_rj rfl ?_
            refine RJ.op rfl rfl (eff_buildT (ys := [_, _]) rfl rfl tz64 tg64 rfl) ?_
            refine RJ.op rfl rfl (eff_move (v := .t _) rfl rfl rfl) ?_
            refine RJ.store rfl rfl (eff_storeW (v := .t _) (els := [_]) (els' := [_]) rfl rfl ti64 rfl rfl rfl rfl rfl rfl rfl rfl rfl) ?_
            refine RJ.op rfl rfl (eff_assign (v := .t _) rfl rfl rfl) ?_
            refine RJ.nil ?_
            refine awj_ret ?_
            first
              | (rw [all_lim h1, nvis_lim h1]; exact ⟨Or.inr rfl, [_, _], [.t (encT zt), .t _], ⟨.cell rfl ti64 (.whole rfl rfl rfl rfl rfl rfl), .tmp rfl, trivial⟩, rfl, Weak.trans (weak_slot 0 (y := encT zt) rfl (by repeat' first | exact trivial | exact Wk.refl _ | exact Wk.sl _ | refine And.intro ?_ ?_ | refine Wk.tupP ?_ | refine Wk.aggP ?_)) (weak_genX ⟨.a (.t _), .a (.t _), .fn _ _ ⟨.ptr 1001 0 0 0 0 rfl rfl rfl rfl rfl rfl, .ptr 1004 0 0 0 0 rfl rfl rfl rfl rfl rfl, trivial⟩, trivial⟩ ⟨⟨_, rfl, rfl, rfl, rfl, gen_t1⟩, ⟨_, rfl, rfl, rfl, rfl, gen_own1 (.own 1100 _ _ 0 _ rfl rfl rfl rfl rfl rfl rfl)⟩, ⟨_, rfl, rfl, rfl, rfl, gen_trees⟩, trivial⟩), rfl⟩)
              | (have hfx : form l i ≠ 0 := by omega
                 rw [all_bad h1 hil (run_form hok hfx) hfx, nvis_form h1 hil hok hfx]; exact ⟨Or.inr rfl, [_, _], [.t (encT zt), .t _], ⟨.cell rfl ti64 (.whole rfl rfl rfl rfl rfl rfl), .tmp rfl, trivial⟩, rfl, Weak.trans (weak_slot 0 (y := encT zt) rfl (by repeat' first | exact trivial | exact Wk.refl _ | exact Wk.sl _ | refine And.intro ?_ ?_ | refine Wk.tupP ?_ | refine Wk.aggP ?_)) (weak_genX ⟨.a (.t _), .a (.t _), .fn _ _ ⟨.ptr 1001 0 0 0 0 rfl rfl rfl rfl rfl rfl, .ptr 1004 0 0 0 0 rfl rfl rfl rfl rfl rfl, trivial⟩, trivial⟩ ⟨⟨_, rfl, rfl, rfl, rfl, gen_t1⟩, ⟨_, rfl, rfl, rfl, rfl, gen_own1 (.own 1100 _ _ 0 _ rfl rfl rfl rfl rfl rfl rfl)⟩, ⟨_, rfl, rfl, rfl, rfl, gen_trees⟩, trivial⟩), rfl⟩)
              | (have hrb := bad_send hil hT hok hfo (by omega) (by omega)
                 rw [all_bad h1 hil hrb (by omega), nvis_bad h1 hil hok hfo hrb (by omega)]; exact ⟨Or.inr rfl, [_, _], [.t (encT zt), .t _], ⟨.cell rfl ti64 (.whole rfl rfl rfl rfl rfl rfl), .tmp rfl, trivial⟩, rfl, Weak.trans (weak_slot 0 (y := encT zt) rfl (by repeat' first | exact trivial | exact Wk.refl _ | exact Wk.sl _ | refine And.intro ?_ ?_ | refine Wk.tupP ?_ | refine Wk.aggP ?_)) (weak_genX ⟨.a (.t _), .a (.t _), .fn _ _ ⟨.ptr 1001 0 0 0 0 rfl rfl rfl rfl rfl rfl, .ptr 1004 0 0 0 0 rfl rfl rfl rfl rfl rfl, trivial⟩, trivial⟩ ⟨⟨_, rfl, rfl, rfl, rfl, gen_t1⟩, ⟨_, rfl, rfl, rfl, rfl, gen_own1 (.own 1100 _ _ 0 _ rfl rfl rfl rfl rfl rfl rfl)⟩, ⟨_, rfl, rfl, rfl, rfl, gen_trees⟩, trivial⟩), rfl⟩)
              | (have hrb := bad_hear hil hT hok hfo (by omega) (by omega)
                 rw [all_bad h1 hil hrb (by omega), nvis_bad h1 hil hok hfo hrb (by omega)]; exact ⟨Or.inr rfl, [_, _], [.t (encT zt), .t _], ⟨.cell rfl ti64 (.whole rfl rfl rfl rfl rfl rfl), .tmp rfl, trivial⟩, rfl, Weak.trans (weak_slot 0 (y := encT zt) rfl (by repeat' first | exact trivial | exact Wk.refl _ | exact Wk.sl _ | refine And.intro ?_ ?_ | refine Wk.tupP ?_ | refine Wk.aggP ?_)) (weak_genX ⟨.a (.t _), .a (.t _), .fn _ _ ⟨.ptr 1001 0 0 0 0 rfl rfl rfl rfl rfl rfl, .ptr 1004 0 0 0 0 rfl rfl rfl rfl rfl rfl, trivial⟩, trivial⟩ ⟨⟨_, rfl, rfl, rfl, rfl, gen_t1⟩, ⟨_, rfl, rfl, rfl, rfl, gen_own1 (.own 1100 _ _ 0 _ rfl rfl rfl rfl rfl rfl rfl)⟩, ⟨_, rfl, rfl, rfl, rfl, gen_trees⟩, trivial⟩), rfl⟩)
              | exact absurd trivial ‹¬ True›
              | (exfalso; omega)
              | (have hi2 : i = l.length := by omega
                 subst hi2
                 rw [all_ok h1 hok, nvis_ok h1 hok, ← hT]; exact ⟨Or.inr rfl, [_, _], [.t (encT T), .t _], ⟨.cell rfl ti64 (.whole rfl rfl rfl rfl rfl rfl), .tmp rfl, trivial⟩, rfl, Weak.trans (weak_slot 0 (y := encT T) rfl (by repeat' first | exact trivial | exact Wk.refl _ | exact Wk.sl _ | refine And.intro ?_ ?_ | refine Wk.tupP ?_ | refine Wk.aggP ?_)) (weak_genX ⟨.a (.t _), .a (.t _), .fn _ _ ⟨.ptr 1001 0 0 0 0 rfl rfl rfl rfl rfl rfl, .ptr 1004 0 0 0 0 rfl rfl rfl rfl rfl rfl, trivial⟩, trivial⟩ ⟨⟨_, rfl, rfl, rfl, rfl, gen_t1⟩, ⟨_, rfl, rfl, rfl, rfl, gen_own1 (.own 1100 _ _ 0 _ rfl rfl rfl rfl rfl rfl rfl)⟩, ⟨_, rfl, rfl, rfl, rfl, gen_trees⟩, trivial⟩), rfl⟩)
          · try simp only [cl] at h5
            refine awj_skip ?_
            refine awj_rj rfl ?_
            refine RJ.op rfl rfl (eff_load rfl rfl ti64 rfl (.whole rfl rfl rfl rfl rfl rfl)) ?_
            refine RJ.store rfl rfl (eff_storeW (v := .t _) (els := [_]) (els' := [_]) rfl rfl ti64 rfl rfl rfl rfl rfl rfl rfl rfl rfl) ?_
            refine RJ.nil ?_
            refine awj_rj rfl ?_
            refine RJ.op rfl rfl (eff_iop rfl rfl rfl rfl (iadd (by omega))) ?_
            refine RJ.op rfl rfl (eff_move (v := .t _) rfl rfl rfl) ?_
            refine RJ.nil ?_
            refine ⟨_, ?_, _, weak_keep (n := 63) (fr' := [(0, .t (.sl (l.map encC) false)), (1, .fn 39 [.ptr 1001 0 0 0, .ptr 1004 0 0 0]), (4, .ptr 4 0 0 0), (6, .ptr 6 0 0 0), (17, .t (.sl (l.map encC) false)), (18, .t (encI (l.length : Nat))), (19, .t (encI ((i + 1) : Nat))), (64, .t deT)]) (st' := [(4, some ⟨2, 64, 0, [.t z64]⟩), (6, some ⟨2, 64, 0, [.t (encT _)]⟩), (1001, some ⟨1, 32, 0, [.t (.sl (l.map encC) false)]⟩), (1004, some ⟨1, 26, 0, [.own 1100 (i + 1) 0 (heldTo l (i + 1)).length]⟩), (1100, some ⟨1, 3, (i + 1), ((heldTo l (i + 1)).map encN).map .t⟩)]) ⟨rfl, rfl, rfl, rfl, rfl, rfl, rfl, rfl, rfl, rfl, rfl, rfl, rfl, rfl, rfl, rfl, trivial⟩ ⟨rfl, okE_one rfl, rfl, okE_one rfl, rfl, okE_one rfl, rfl, okE_one rfl, rfl, okE_t, trivial⟩, i + 1, _, (by omega), (by first | rw [run_send hil hT hok hfo (by omega) (by omega)] | rw [run_hear hil hT hok hfo (by omega) (by omega)] | rw [run_dec hil hT hok hfo (by omega) (by omega)]), (by first | rw [run_send hil hT hok hfo (by omega) (by omega)] | rw [run_hear hil hT hok hfo (by omega) (by omega)] | rw [run_dec hil hT hok hfo (by omega) (by omega)]), rfl, rfl⟩
            omega
        · try simp only [cl] at h4
          refine awj_seq ?_
          refine awj_rj rfl ?_
          refine RJ.op rfl rfl (eff_iop rfl rfl rfl rfl rfl) ?_
          refine RJ.op rfl rfl (eff_assign (v := .t _) rfl rfl rfl) ?_
          refine RJ.nil ?_
          refine awj_cond rfl (fun h6 => ?_) (fun h6 => ?_)
          · try simp only [cl] at h6
            refine awj_rj rfl ?_
            refine RJ.op rfl rfl (eff_load rfl rfl ti64 rfl (.whole rfl rfl rfl rfl rfl rfl)) ?_
            refine RJ.op rfl rfl (eff_fieldAddr rfl rfl tf47_3 (by decide) rfl rfl rfl (Nat.le_of_ble_eq_true rfl)) ?_
            refine RJ.op rfl rfl (eff_loadS (ys := [_, _, _, _]) rfl rfl ti23 rfl rfl rfl rfl rfl rfl) ?_
            refine RJ.op rfl rfl (eff_callXT (thear_ret T _ (hO.hp _ (List.getElem_mem hil)) (by have := hFit.len; omega) (by have := hFit.sl; omega) hFit.bod) co64 rfl rfl rfl ⟨rfl, trivial⟩ rfl) ?_
            refine RJ.op rfl rfl (eff_move (v := .t _) rfl rfl rfl) ?_
            refine RJ.op rfl rfl (eff_extract rfl rfl rfl rfl) ?_
            refine RJ.op rfl rfl (eff_extract rfl rfl rfl rfl) ?_
            refine RJ.store rfl rfl (eff_storeW (v := .t _) (els := [_]) (els' := [_]) rfl rfl ti64 rfl rfl rfl rfl rfl rfl rfl rfl rfl) ?_
            refine RJ.op rfl rfl (eff_assign (v := .t _) rfl rfl rfl) ?_
            refine RJ.nil ?_
            refine awj_seq ?_
            refine awj_seq ?_
            refine awj_rj rfl ?_
            refine RJ.op rfl rfl (eff_move (v := .t _) rfl rfl rfl) ?_
            refine RJ.op rfl rfl (eff_iop rfl rfl rfl rfl rfl) ?_
            refine RJ.nil ?_
            refine awj_cond rfl (fun h7 => ?_) (fun h7 => ?_)
            · try simp only [cl] at h7
              refine awj_seq ?_
              refine awj_rj rfl ?_
              refine RJ.op rfl rfl (eff_buildT (ys := [_, _]) rfl rfl tz64 tg64 rfl) ?_
              refine RJ.op rfl rfl (eff_move (v := .t _) rfl rfl rfl) ?_
              refine RJ.store rfl rfl (eff_storeW (v := .t _) (els := [_]) (els' := [_]) rfl rfl ti64 rfl rfl rfl rfl rfl rfl rfl rfl rfl) ?_
              refine RJ.op rfl rfl (eff_assign (v := .t _) rfl rfl rfl) ?_
              refine RJ.nil ?_
              refine awj_ret ?_
              first
                | (rw [all_lim h1, nvis_lim h1]; exact ⟨Or.inr rfl, [_, _], [.t (encT zt), .t _], ⟨.cell rfl ti64 (.whole rfl rfl rfl rfl rfl rfl), .tmp rfl, trivial⟩, rfl, Weak.trans (weak_slot 0 (y := encT zt) rfl (by repeat' first | exact trivial | exact Wk.refl _ | exact Wk.sl _ | refine And.intro ?_ ?_ | refine Wk.tupP ?_ | refine Wk.aggP ?_)) (weak_genX ⟨.a (.t _), .a (.t _), .fn _ _ ⟨.ptr 1001 0 0 0 0 rfl rfl rfl rfl rfl rfl, .ptr 1004 0 0 0 0 rfl rfl rfl rfl rfl rfl, trivial⟩, trivial⟩ ⟨⟨_, rfl, rfl, rfl, rfl, gen_t1⟩, ⟨_, rfl, rfl, rfl, rfl, gen_own1 (.own 1100 _ _ 0 _ rfl rfl rfl rfl rfl rfl rfl)⟩, ⟨_, rfl, rfl, rfl, rfl, gen_trees⟩, trivial⟩), rfl⟩)
                | (have hfx : form l i ≠ 0 := by omega
                   rw [all_bad h1 hil (run_form hok hfx) hfx, nvis_form h1 hil hok hfx]; exact ⟨Or.inr rfl, [_, _], [.t (encT zt), .t _], ⟨.cell rfl ti64 (.whole rfl rfl rfl rfl rfl rfl), .tmp rfl, trivial⟩, rfl, Weak.trans (weak_slot 0 (y := encT zt) rfl (by repeat' first | exact trivial | exact Wk.refl _ | exact Wk.sl _ | refine And.intro ?_ ?_ | refine Wk.tupP ?_ | refine Wk.aggP ?_)) (weak_genX ⟨.a (.t _), .a (.t _), .fn _ _ ⟨.ptr 1001 0 0 0 0 rfl rfl rfl rfl rfl rfl, .ptr 1004 0 0 0 0 rfl rfl rfl rfl rfl rfl, trivial⟩, trivial⟩ ⟨⟨_, rfl, rfl, rfl, rfl, gen_t1⟩, ⟨_, rfl, rfl, rfl, rfl, gen_own1 (.own 1100 _ _ 0 _ rfl rfl rfl rfl rfl rfl rfl)⟩, ⟨_, rfl, rfl, rfl, rfl, gen_trees⟩, trivial⟩), rfl⟩)
                | (have hrb := bad_send hil hT hok hfo (by omega) (by omega)
                   rw [all_bad h1 hil hrb (by omega), nvis_bad h1 hil hok hfo hrb (by omega)]; exact ⟨Or.inr rfl, [_, _], [.t (encT zt), .t _], ⟨.cell rfl ti64 (.whole rfl rfl rfl rfl rfl rfl), .tmp rfl, trivial⟩, rfl, Weak.trans (weak_slot 0 (y := encT zt) rfl (by repeat' first | exact trivial | exact Wk.refl _ | exact Wk.sl _ | refine And.intro ?_ ?_ | refine Wk.tupP ?_ | refine Wk.aggP ?_)) (weak_genX ⟨.a (.t _), .a (.t _), .fn _ _ ⟨.ptr 1001 0 0 0 0 rfl rfl rfl rfl rfl rfl, .ptr 1004 0 0 0 0 rfl rfl rfl rfl rfl rfl, trivial⟩, trivial⟩ ⟨⟨_, rfl, rfl, rfl, rfl, gen_t1⟩, ⟨_, rfl, rfl, rfl, rfl, gen_own1 (.own 1100 _ _ 0 _ rfl rfl rfl rfl rfl rfl rfl)⟩, ⟨_, rfl, rfl, rfl, rfl, gen_trees⟩, trivial⟩), rfl⟩)
                | (have hrb := bad_hear hil hT hok hfo (by omega) (by omega)
                   rw [all_bad h1 hil hrb (by omega), nvis_bad h1 hil hok hfo hrb (by omega)]; exact ⟨Or.inr rfl, [_, _], [.t (encT zt), .t _], ⟨.cell rfl ti64 (.whole rfl rfl rfl rfl rfl rfl), .tmp rfl, trivial⟩, rfl, Weak.trans (weak_slot 0 (y := encT zt) rfl (by repeat' first | exact trivial | exact Wk.refl _ | exact Wk.sl _ | refine And.intro ?_ ?_ | refine Wk.tupP ?_ | refine Wk.aggP ?_)) (weak_genX ⟨.a (.t _), .a (.t _), .fn _ _ ⟨.ptr 1001 0 0 0 0 rfl rfl rfl rfl rfl rfl, .ptr 1004 0 0 0 0 rfl rfl rfl rfl rfl rfl, trivial⟩, trivial⟩ ⟨⟨_, rfl, rfl, rfl, rfl, gen_t1⟩, ⟨_, rfl, rfl, rfl, rfl, gen_own1 (.own 1100 _ _ 0 _ rfl rfl rfl rfl rfl rfl rfl)⟩, ⟨_, rfl, rfl, rfl, rfl, gen_trees⟩, trivial⟩), rfl⟩)
                | exact absurd trivial ‹¬ True›
                | (exfalso; omega)
                | (have hi2 : i = l.length := by omega
                   subst hi2
                   rw [all_ok h1 hok, nvis_ok h1 hok, ← hT]; exact ⟨Or.inr rfl, [_, _], [.t (encT T), .t _], ⟨.cell rfl ti64 (.whole rfl rfl rfl rfl rfl rfl), .tmp rfl, trivial⟩, rfl, Weak.trans (weak_slot 0 (y := encT T) rfl (by repeat' first | exact trivial | exact Wk.refl _ | exact Wk.sl _ | refine And.intro ?_ ?_ | refine Wk.tupP ?_ | refine Wk.aggP ?_)) (weak_genX ⟨.a (.t _), .a (.t _), .fn _ _ ⟨.ptr 1001 0 0 0 0 rfl rfl rfl rfl rfl rfl, .ptr 1004 0 0 0 0 rfl rfl rfl rfl rfl rfl, trivial⟩, trivial⟩ ⟨⟨_, rfl, rfl, rfl, rfl, gen_t1⟩, ⟨_, rfl, rfl, rfl, rfl, gen_own1 (.own 1100 _ _ 0 _ rfl rfl rfl rfl rfl rfl rfl)⟩, ⟨_, rfl, rfl, rfl, rfl, gen_trees⟩, trivial⟩), rfl⟩)
            · try simp only [cl] at h7
              refine awj_skip ?_
              refine awj_rj rfl ?_
              refine RJ.op rfl rfl (eff_load rfl rfl ti64 rfl (.whole rfl rfl rfl rfl rfl rfl)) ?_
              refine RJ.store rfl rfl (eff_storeW (v := .t _) (els := [_]) (els' := [_]) rfl rfl ti64 rfl rfl rfl rfl rfl rfl rfl rfl rfl) ?_
              refine RJ.nil ?_
              refine awj_rj rfl ?_
              refine RJ.op rfl rfl (eff_iop rfl rfl rfl rfl (iadd (by omega))) ?_
              refine RJ.op rfl rfl (eff_move (v := .t _) rfl rfl rfl) ?_
              refine RJ.nil ?_
              refine ⟨_, ?_, _, weak_keep (n := 63) (fr' := [(0, .t (.sl (l.map encC) false)), (1, .fn 39 [.ptr 1001 0 0 0, .ptr 1004 0 0 0]), (4, .ptr 4 0 0 0), (6, .ptr 6 0 0 0), (17, .t (.sl (l.map encC) false)), (18, .t (encI (l.length : Nat))), (19, .t (encI ((i + 1) : Nat))), (64, .t deT)]) (st' := [(4, some ⟨2, 64, 0, [.t z64]⟩), (6, some ⟨2, 64, 0, [.t (encT _)]⟩), (1001, some ⟨1, 32, 0, [.t (.sl (l.map encC) false)]⟩), (1004, some ⟨1, 26, 0, [.own 1100 (i + 1) 0 (heldTo l (i + 1)).length]⟩), (1100, some ⟨1, 3, (i + 1), ((heldTo l (i + 1)).map encN).map .t⟩)]) ⟨rfl, rfl, rfl, rfl, rfl, rfl, rfl, rfl, rfl, rfl, rfl, rfl, rfl, rfl, rfl, rfl, trivial⟩ ⟨rfl, okE_one rfl, rfl, okE_one rfl, rfl, okE_one rfl, rfl, okE_one rfl, rfl, okE_t, trivial⟩, i + 1, _, (by omega), (by first | rw [run_send hil hT hok hfo (by omega) (by omega)] | rw [run_hear hil hT hok hfo (by omega) (by omega)] | rw [run_dec hil hT hok hfo (by omega) (by omega)]), (by first | rw [run_send hil hT hok hfo (by omega) (by omega)] | rw [run_hear hil hT hok hfo (by omega) (by omega)] | rw [run_dec hil hT hok hfo (by omega) (by omega)]), rfl, rfl⟩
              omega
          · try simp only [cl] at h6
            refine awj_skip ?_
            refine awj_seq ?_
            refine awj_seq ?_
            refine awj_rj rfl ?_
            refine RJ.op rfl rfl (eff_move (v := .t _) rfl rfl rfl) ?_
            refine RJ.op rfl rfl (eff_iop rfl rfl rfl rfl rfl) ?_
            refine RJ.nil ?_
            refine awj_cond rfl (fun h8 => ?_) (fun h8 => ?_)
            · try simp only [cl] at h8
              refine awj_seq ?_
              refine awj_rj rfl ?_
              refine RJ.op rfl rfl (eff_buildT (ys := [_, _]) rfl rfl tz64 tg64 rfl) ?_
              refine RJ.op rfl rfl (eff_move (v := .t _) rfl rfl rfl) ?_
              refine RJ.store rfl rfl (eff_storeW (v := .t _) (els := [_]) (els' := [_]) rfl rfl ti64 rfl rfl rfl rfl rfl rfl rfl rfl rfl) ?_
              refine RJ.op rfl rfl (eff_assign (v := .t _) rfl rfl rfl) ?_
              refine RJ.nil ?_
              refine awj_ret ?_
              first
                | (rw [all_lim h1, nvis_lim h1]; exact ⟨Or.inr rfl, [_, _], [.t (encT zt), .t _], ⟨.cell rfl ti64 (.whole rfl rfl rfl rfl rfl rfl), .tmp rfl, trivial⟩, rfl, Weak.trans (weak_slot 0 (y := encT zt) rfl (by repeat' first | exact trivial | exact Wk.refl _ | exact Wk.sl _ | refine And.intro ?_ ?_ | refine Wk.tupP ?_ | refine Wk.aggP ?_)) (weak_genX ⟨.a (.t _), .a (.t _), .fn _ _ ⟨.ptr 1001 0 0 0 0 rfl rfl rfl rfl rfl rfl, .ptr 1004 0 0 0 0 rfl rfl rfl rfl rfl rfl, trivial⟩, trivial⟩ ⟨⟨_, rfl, rfl, rfl, rfl, gen_t1⟩, ⟨_, rfl, rfl, rfl, rfl, gen_own1 (.own 1100 _ _ 0 _ rfl rfl rfl rfl rfl rfl rfl)⟩, ⟨_, rfl, rfl, rfl, rfl, gen_trees⟩, trivial⟩), rfl⟩)
                | (have hfx : form l i ≠ 0 := by omega
                   rw [all_bad h1 hil (run_form hok hfx) hfx, nvis_form h1 hil hok hfx]; exact ⟨Or.inr rfl, [_, _], [.t (encT zt), .t _], ⟨.cell rfl ti64 (.whole rfl rfl rfl rfl rfl rfl), .tmp rfl, trivial⟩, rfl, Weak.trans (weak_slot 0 (y := encT zt) rfl (by repeat' first | exact trivial | exact Wk.refl _ | exact Wk.sl _ | refine And.intro ?_ ?_ | refine Wk.tupP ?_ | refine Wk.aggP ?_)) (weak_genX ⟨.a (.t _), .a (.t _), .fn _ _ ⟨.ptr 1001 0 0 0 0 rfl rfl rfl rfl rfl rfl, .ptr 1004 0 0 0 0 rfl rfl rfl rfl rfl rfl, trivial⟩, trivial⟩ ⟨⟨_, rfl, rfl, rfl, rfl, gen_t1⟩, ⟨_, rfl, rfl, rfl, rfl, gen_own1 (.own 1100 _ _ 0 _ rfl rfl rfl rfl rfl rfl rfl)⟩, ⟨_, rfl, rfl, rfl, rfl, gen_trees⟩, trivial⟩), rfl⟩)
                | (have hrb := bad_send hil hT hok hfo (by omega) (by omega)
                   rw [all_bad h1 hil hrb (by omega), nvis_bad h1 hil hok hfo hrb (by omega)]; exact ⟨Or.inr rfl, [_, _], [.t (encT zt), .t _], ⟨.cell rfl ti64 (.whole rfl rfl rfl rfl rfl rfl), .tmp rfl, trivial⟩, rfl, Weak.trans (weak_slot 0 (y := encT zt) rfl (by repeat' first | exact trivial | exact Wk.refl _ | exact Wk.sl _ | refine And.intro ?_ ?_ | refine Wk.tupP ?_ | refine Wk.aggP ?_)) (weak_genX ⟨.a (.t _), .a (.t _), .fn _ _ ⟨.ptr 1001 0 0 0 0 rfl rfl rfl rfl rfl rfl, .ptr 1004 0 0 0 0 rfl rfl rfl rfl rfl rfl, trivial⟩, trivial⟩ ⟨⟨_, rfl, rfl, rfl, rfl, gen_t1⟩, ⟨_, rfl, rfl, rfl, rfl, gen_own1 (.own 1100 _ _ 0 _ rfl rfl rfl rfl rfl rfl rfl)⟩, ⟨_, rfl, rfl, rfl, rfl, gen_trees⟩, trivial⟩), rfl⟩)
                | (have hrb := bad_hear hil hT hok hfo (by omega) (by omega)
                   rw [all_bad h1 hil hrb (by omega), nvis_bad h1 hil hok hfo hrb (by omega)]; exact ⟨Or.inr rfl, [_, _], [.t (encT zt), .t _], ⟨.cell rfl ti64 (.whole rfl rfl rfl rfl rfl rfl), .tmp rfl, trivial⟩, rfl, Weak.trans (weak_slot 0 (y := encT zt) rfl (by repeat' first | exact trivial | exact Wk.refl _ | exact Wk.sl _ | refine And.intro ?_ ?_ | refine Wk.tupP ?_ | refine Wk.aggP ?_)) (weak_genX ⟨.a (.t _), .a (.t _), .fn _ _ ⟨.ptr 1001 0 0 0 0 rfl rfl rfl rfl rfl rfl, .ptr 1004 0 0 0 0 rfl rfl rfl rfl rfl rfl, trivial⟩, trivial⟩ ⟨⟨_, rfl, rfl, rfl, rfl, gen_t1⟩, ⟨_, rfl, rfl, rfl, rfl, gen_own1 (.own 1100 _ _ 0 _ rfl rfl rfl rfl rfl rfl rfl)⟩, ⟨_, rfl, rfl, rfl, rfl, gen_trees⟩, trivial⟩), rfl⟩)
                | exact absurd trivial ‹¬ True›
                | (exfalso; omega)
                | (have hi2 : i = l.length := by omega
                   subst hi2
                   rw [all_ok h1 hok, nvis_ok h1 hok, ← hT]; exact ⟨Or.inr rfl, [_, _], [.t (encT T), .t _], ⟨.cell rfl ti64 (.whole rfl rfl rfl rfl rfl rfl), .tmp rfl, trivial⟩, rfl, Weak.trans (weak_slot 0 (y := encT T) rfl (by repeat' first | exact trivial | exact Wk.refl _ | exact Wk.sl _ | refine And.intro ?_ ?_ | refine Wk.tupP ?_ | refine Wk.aggP ?_)) (weak_genX ⟨.a (.t _), .a (.t _), .fn _ _ ⟨.ptr 1001 0 0 0 0 rfl rfl rfl rfl rfl rfl, .ptr 1004 0 0 0 0 rfl rfl rfl rfl rfl rfl, trivial⟩, trivial⟩ ⟨⟨_, rfl, rfl, rfl, rfl, gen_t1⟩, ⟨_, rfl, rfl, rfl, rfl, gen_own1 (.own 1100 _ _ 0 _ rfl rfl rfl rfl rfl rfl rfl)⟩, ⟨_, rfl, rfl, rfl, rfl, gen_trees⟩, trivial⟩), rfl⟩)
            · try simp only [cl] at h8
              refine awj_skip ?_
              refine awj_rj rfl ?_
              refine RJ.op rfl rfl (eff_load rfl rfl ti64 rfl (.whole rfl rfl rfl rfl rfl rfl)) ?_
              refine RJ.store rfl rfl (eff_storeW (v := .t _) (els := [_]) (els' := [_]) rfl rfl ti64 rfl rfl rfl rfl rfl rfl rfl rfl rfl) ?_
              refine RJ.nil ?_
              refine awj_rj rfl ?_
              refine RJ.op rfl rfl (eff_iop rfl rfl rfl rfl (iadd (by omega))) ?_
              refine RJ.op rfl rfl (eff_move (v := .t _) rfl rfl rfl) ?_
              refine RJ.nil ?_
              refine ⟨_, ?_, _, weak_keep (n := 63) (fr' := [(0, .t (.sl (l.map encC) false)), (1, .fn 39 [.ptr 1001 0 0 0, .ptr 1004 0 0 0]), (4, .ptr 4 0 0 0), (6, .ptr 6 0 0 0), (17, .t (.sl (l.map encC) false)), (18, .t (encI (l.length : Nat))), (19, .t (encI ((i + 1) : Nat))), (64, .t deT)]) (st' := [(4, some ⟨2, 64, 0, [.t z64]⟩), (6, some ⟨2, 64, 0, [.t (encT _)]⟩), (1001, some ⟨1, 32, 0, [.t (.sl (l.map encC) false)]⟩), (1004, some ⟨1, 26, 0, [.own 1100 (i + 1) 0 (heldTo l (i + 1)).length]⟩), (1100, some ⟨1, 3, (i + 1), ((heldTo l (i + 1)).map encN).map .t⟩)]) ⟨rfl, rfl, rfl, rfl, rfl, rfl, rfl, rfl, rfl, rfl, rfl, rfl, rfl, rfl, rfl, rfl, trivial⟩ ⟨rfl, okE_one rfl, rfl, okE_one rfl, rfl, okE_one rfl, rfl, okE_one rfl, rfl, okE_t, trivial⟩, i + 1, _, (by omega), (by first | rw [run_send hil hT hok hfo (by omega) (by omega)] | rw [run_hear hil hT hok hfo (by omega) (by omega)] | rw [run_dec hil hT hok hfo (by omega) (by omega)]), (by first | rw [run_send hil hT hok hfo (by omega) (by omega)] | rw [run_hear hil hT hok hfo (by omega) (by omega)] | rw [run_dec hil hT hok hfo (by omega) (by omega)]), rfl, rfl⟩
              omega
    · try simp only [cl] at h2
      refine awj_exit ?_
      refine awj_seq ?_
      refine awj_rj rfl ?_
      refine RJ.op rfl rfl (eff_load rfl rfl ti64 rfl (.whole rfl rfl rfl rfl rfl rfl)) ?_
      refine RJ.store rfl rfl (eff_storeW (v := .t _) (els := [_]) (els' := [_]) rfl rfl ti64 rfl rfl rfl rfl rfl rfl rfl rfl rfl) ?_
      refine RJ.op rfl rfl (eff_assign (v := .t _) rfl rfl rfl) ?_
      refine RJ.nil ?_
      refine awj_ret ?_
      first
        | (rw [all_lim h1, nvis_lim h1]; exact ⟨Or.inr rfl, [_, _], [.t (encT zt), .t _], ⟨.cell rfl ti64 (.whole rfl rfl rfl rfl rfl rfl), .tmp rfl, trivial⟩, rfl, Weak.trans (weak_slot 0 (y := encT zt) rfl (by repeat' first | exact trivial | exact Wk.refl _ | exact Wk.sl _ | refine And.intro ?_ ?_ | refine Wk.tupP ?_ | refine Wk.aggP ?_)) (weak_genX ⟨.a (.t _), .a (.t _), .fn _ _ ⟨.ptr 1001 0 0 0 0 rfl rfl rfl rfl rfl rfl, .ptr 1004 0 0 0 0 rfl rfl rfl rfl rfl rfl, trivial⟩, trivial⟩ ⟨⟨_, rfl, rfl, rfl, rfl, gen_t1⟩, ⟨_, rfl, rfl, rfl, rfl, gen_own1 (.own 1100 _ _ 0 _ rfl rfl rfl rfl rfl rfl rfl)⟩, ⟨_, rfl, rfl, rfl, rfl, gen_trees⟩, trivial⟩), rfl⟩)
        | (have hfx : form l i ≠ 0 := by omega
           rw [all_bad h1 hil (run_form hok hfx) hfx, nvis_form h1 hil hok hfx]; exact ⟨Or.inr rfl, [_, _], [.t (encT zt), .t _], ⟨.cell rfl ti64 (.whole rfl rfl rfl rfl rfl rfl), .tmp rfl, trivial⟩, rfl, Weak.trans (weak_slot 0 (y := encT zt) rfl (by repeat' first | exact trivial | exact Wk.refl _ | exact Wk.sl _ | refine And.intro ?_ ?_ | refine Wk.tupP ?_ | refine Wk.aggP ?_)) (weak_genX ⟨.a (.t _), .a (.t _), .fn _ _ ⟨.ptr 1001 0 0 0 0 rfl rfl rfl rfl rfl rfl, .ptr 1004 0 0 0 0 rfl rfl rfl rfl rfl rfl, trivial⟩, trivial⟩ ⟨⟨_, rfl, rfl, rfl, rfl, gen_t1⟩, ⟨_, rfl, rfl, rfl, rfl, gen_own1 (.own 1100 _ _ 0 _ rfl rfl rfl rfl rfl rfl rfl)⟩, ⟨_, rfl, rfl, rfl, rfl, gen_trees⟩, trivial⟩), rfl⟩)
        | (have hrb := bad_send hil hT hok hfo (by omega) (by omega)
           rw [all_bad h1 hil hrb (by omega), nvis_bad h1 hil hok hfo hrb (by omega)]; exact ⟨Or.inr rfl, [_, _], [.t (encT zt), .t _], ⟨.cell rfl ti64 (.whole rfl rfl rfl rfl rfl rfl), .tmp rfl, trivial⟩, rfl, Weak.trans (weak_slot 0 (y := encT zt) rfl (by repeat' first | exact trivial | exact Wk.refl _ | exact Wk.sl _ | refine And.intro ?_ ?_ | refine Wk.tupP ?_ | refine Wk.aggP ?_)) (weak_genX ⟨.a (.t _), .a (.t _), .fn _ _ ⟨.ptr 1001 0 0 0 0 rfl rfl rfl rfl rfl rfl, .ptr 1004 0 0 0 0 rfl rfl rfl rfl rfl rfl, trivial⟩, trivial⟩ ⟨⟨_, rfl, rfl, rfl, rfl, gen_t1⟩, ⟨_, rfl, rfl, rfl, rfl, gen_own1 (.own 1100 _ _ 0 _ rfl rfl rfl rfl rfl rfl rfl)⟩, ⟨_, rfl, rfl, rfl, rfl, gen_trees⟩, trivial⟩), rfl⟩)
        | (have hrb := bad_hear hil hT hok hfo (by omega) (by omega)
           rw [all_bad h1 hil hrb (by omega), nvis_bad h1 hil hok hfo hrb (by omega)]; exact ⟨Or.inr rfl, [_, _], [.t (encT zt), .t _], ⟨.cell rfl ti64 (.whole rfl rfl rfl rfl rfl rfl), .tmp rfl, trivial⟩, rfl, Weak.trans (weak_slot 0 (y := encT zt) rfl (by repeat' first | exact trivial | exact Wk.refl _ | exact Wk.sl _ | refine And.intro ?_ ?_ | refine Wk.tupP ?_ | refine Wk.aggP ?_)) (weak_genX ⟨.a (.t _), .a (.t _), .fn _ _ ⟨.ptr 1001 0 0 0 0 rfl rfl rfl rfl rfl rfl, .ptr 1004 0 0 0 0 rfl rfl rfl rfl rfl rfl, trivial⟩, trivial⟩ ⟨⟨_, rfl, rfl, rfl, rfl, gen_t1⟩, ⟨_, rfl, rfl, rfl, rfl, gen_own1 (.own 1100 _ _ 0 _ rfl rfl rfl rfl rfl rfl rfl)⟩, ⟨_, rfl, rfl, rfl, rfl, gen_trees⟩, trivial⟩), rfl⟩)
        | exact absurd trivial ‹¬ True›
        | (exfalso; omega)
        | (have hi2 : i = l.length := by omega
           subst hi2
           rw [all_ok h1 hok, nvis_ok h1 hok, ← hT]; exact ⟨Or.inr rfl, [_, _], [.t (encT T), .t _], ⟨.cell rfl ti64 (.whole rfl rfl rfl rfl rfl rfl), .tmp rfl, trivial⟩, rfl, Weak.trans (weak_slot 0 (y := encT T) rfl (by repeat' first | exact trivial | exact Wk.refl _ | exact Wk.sl _ | refine And.intro ?_ ?_ | refine Wk.tupP ?_ | refine Wk.aggP ?_)) (weak_genX ⟨.a (.t _), .a (.t _), .fn _ _ ⟨.ptr 1001 0 0 0 0 rfl rfl rfl rfl rfl rfl, .ptr 1004 0 0 0 0 rfl rfl rfl rfl rfl rfl, trivial⟩, trivial⟩ ⟨⟨_, rfl, rfl, rfl, rfl, gen_t1⟩, ⟨_, rfl, rfl, rfl, rfl, gen_own1 (.own 1100 _ _ 0 _ rfl rfl rfl rfl rfl rfl rfl)⟩, ⟨_, rfl, rfl, rfl, rfl, gen_trees⟩, trivial⟩), rfl⟩)

end Go.Tv.C36

end
section
open Go Go.Tv Go.Proofs
namespace Go.Tv.C36
set_option maxRecDepth 20000
set_option maxHeartbeats 2000000
set_option linter.unusedSimpArgs false
set_option linter.unusedVariables false
theorem held_ret (l : List Rcd) (hO : OKL l) : RetT Tryd.prog 19 [(1, deT)] [.sl (l.map encC) false] (.tup [.sl ((held l).1.map encN) false, encI (held l).2]) := by
  refine retT_of_awp Tryd.func19 rfl (Nat.le_of_ble_eq_true rfl) ?_
  refine awp_seq ?_
  refine awp_rw rfl ?_
  refine RW.new rfl rfl (eff_boxK (v := .t _) (k := 1) (id := 1) rfl rfl rfl rfl rfl rfl) ?_
  refine RW.op rfl rfl (eff_assign (v := .t _) rfl rfl rfl) ?_
  refine RW.op rfl rfl (eff_assign (v := .t _) rfl rfl rfl) ?_
  refine RW.nil ?_
  refine awp_seq ?_
  refine awp_rw rfl ?_
  refine RW.new rfl rfl (eff_allocK (k := 1) (id := 4) rfl rfl tz26 rfl rfl) ?_
  refine RW.nil ?_
  show AWP _ _ _ _
  refine awp_weak (weak_adopt1 (id0 := 4) 1100 1 3 rfl rfl) ?_
  refine awp_seq ?_
  refine awp_rw rfl ?_
  refine RW.op rfl rfl (eff_load (y := .t _) rfl rfl ti32 rfl (.one rfl rfl rfl rfl)) ?_
  refine RW.op rfl rfl (eff_makeFunc rfl rfl rfl rfl) ?_
  refine RW.new3 rfl rfl (eff_callKT (r' := .tup [.t _, .t _]) (replay39_ret l hO) co38 (fun id => bif Nat.beq id 1100 then 1100 else id - 1000) rfl rfl rfl ⟨rfl, trivial⟩ ⟨.t _, .fnL ⟨.ptr _ _ _ _ rfl rfl, .ptr _ _ _ _ rfl rfl, trivial⟩, trivial⟩ (.tupL ⟨.t _, .t _, trivial⟩) rfl ⟨⟨rfl, self_one, ⟨_, rfl, .inr ⟨rfl, rfl, rfl, rfl, 1, _, rfl, List.mem_singleton.2 rfl, .inr ⟨_, _, 0, rfl, rfl⟩⟩⟩⟩, ⟨rfl, self_own rfl rfl, ⟨_, rfl, .inr ⟨rfl, rfl, rfl, rfl, 1, _, rfl, List.mem_singleton.2 rfl, .inr ⟨_, _, 1, rfl, rfl⟩⟩⟩⟩, ⟨rfl, self_tree, ⟨_, rfl, .inl (Nat.succ_pos _)⟩⟩, trivial⟩ ⟨⟨self_one, .inl rfl⟩, ⟨self_own rfl rfl, .inl rfl⟩, ⟨self_tree, .inl rfl⟩, trivial⟩) ?_
  refine RW.op rfl rfl (eff_move (v := .tup _) rfl rfl rfl) ?_
  refine RW.op rfl rfl (eff_extractA rfl rfl rfl rfl) ?_
  refine RW.op rfl rfl (eff_extractA rfl rfl rfl rfl) ?_
  refine RW.new rfl rfl (eff_allocK (k := 2) (id := 5) rfl rfl tz64 rfl rfl) ?_
  refine RW.store rfl rfl (eff_storeW (v := .t _) (els := [_]) (els' := [_]) rfl rfl ti64 rfl rfl rfl rfl rfl rfl rfl rfl rfl) ?_
  refine RW.op rfl rfl (eff_assign (v := .t _) rfl rfl rfl) ?_
  refine RW.nil ?_
  refine awp_seq ?_
  refine awp_seq ?_
  refine awp_rw rfl ?_
  refine RW.op rfl rfl (eff_move (v := .t _) rfl rfl rfl) ?_
  refine RW.op rfl rfl (eff_iop rfl rfl rfl rfl rfl) ?_
  refine RW.nil ?_
  refine awp_cond rfl (fun h1 => ?_) (fun h1 => ?_)
  · try simp only [cl] at h1
    refine awp_seq ?_
    refine awp_rw rfl ?_
    refine RW.op rfl rfl (eff_move (v := .t _) rfl rfl rfl) ?_
    refine RW.op rfl rfl (eff_assign (v := .t _) rfl rfl rfl) ?_
    refine RW.op rfl rfl (eff_assign (v := .t _) rfl rfl rfl) ?_
    refine RW.nil ?_
    refine awp_ret ?_
    rw [held_bad (all_zt h1) h1]
    exact ⟨Or.inr rfl, [_, _], ⟨.tmp (.t _), .tmp (.t _), trivial⟩, (by repeat' first | exact trivial | exact Wk.refl _ | exact Wk.sl _ | refine And.intro ?_ ?_ | refine Wk.tupP ?_ | refine Wk.aggP ?_)⟩
  · try simp only [cl] at h1
    refine awp_skip ?_
    refine awp_seq ?_
    refine awp_rw rfl ?_
    refine RW.op rfl rfl (eff_load (y := .own _ _ _ _) rfl rfl ti26 rfl (.one rfl rfl rfl rfl)) ?_
    refine RW.op rfl rfl (eff_assign (v := .own _ _ _ _) rfl rfl rfl) ?_
    refine RW.op rfl rfl (eff_assign (v := .t _) rfl rfl rfl) ?_
    refine RW.nil ?_
    refine awp_ret ?_
    rw [held_ok (by omega), ← nvis_all (by omega)]
    exact ⟨Or.inr rfl, [_, _], ⟨.tmp (Res.ownT (xs := (heldTo l (nvis l)).map encN) rfl rfl rfl (by simp)), .tmp (.t _), trivial⟩, .refl _⟩

end Go.Tv.C36

end
section
open Go Go.Tv Go.Proofs
namespace Go.Tv.C36
set_option maxRecDepth 20000
set_option maxHeartbeats 2000000
set_option linter.unusedSimpArgs false
set_option linter.unusedVariables false
theorem rjudge_ret (l : List Rcd) (d : Dec) (hO : OKL l) : Ret Tryd.prog 23 [.sl (l.map encC) false, encD d] (.tup [encV (judge l d).1, encI (judge l d).2]) := by
  refine ret_of_awp Tryd.func23 rfl (Nat.le_of_ble_eq_true rfl) ?_
  refine awp_seq ?_
  refine awp_rw rfl ?_
  refine RW.new rfl rfl (eff_boxK (v := .t _) (k := 4) (id := 3) rfl rfl rfl rfl rfl rfl) ?_
  refine RW.new rfl rfl (eff_allocK (k := 5) (id := 4) rfl rfl tz49 rfl rfl) ?_
  refine RW.op rfl rfl (eff_assign (v := .t _) rfl rfl rfl) ?_
  refine RW.nil ?_
  refine awp_seq ?_
  refine awp_rw rfl ?_
  refine RW.op rfl rfl (eff_move (v := .t _) rfl rfl rfl) ?_
  refine RW.op rfl rfl (eff_callT (at_ret l hO) co26 rfl rfl rfl rfl) ?_
  refine RW.op rfl rfl (eff_move (v := .t _) rfl rfl rfl) ?_
  refine RW.op rfl rfl (eff_extract rfl rfl rfl rfl) ?_
  refine RW.op rfl rfl (eff_extract rfl rfl rfl rfl) ?_
  refine RW.op rfl rfl (eff_assign (v := .t _) rfl rfl rfl) ?_
  refine RW.op rfl rfl (eff_assign (v := .t _) rfl rfl rfl) ?_
  refine RW.nil ?_
  refine awp_seq ?_
  refine awp_seq ?_
  refine awp_rw rfl ?_
  refine RW.op rfl rfl (eff_move (v := .t _) rfl rfl rfl) ?_
  refine RW.op rfl rfl (eff_iop rfl rfl rfl rfl rfl) ?_
  refine RW.nil ?_
  refine awp_cond rfl (fun h1 => ?_) (fun h1 => ?_)
  · try simp only [cl] at h1
    refine awp_seq ?_
    refine awp_rw rfl ?_
    refine RW.op rfl rfl (eff_buildT (ys := [_, _, _, _, _]) rfl rfl tz49 tg49 rfl) ?_
    refine RW.op rfl rfl (eff_move (v := .t _) rfl rfl rfl) ?_
    refine RW.store rfl rfl (eff_storeW (v := .t _) (els := [_]) (els' := [_]) rfl rfl ti49 rfl rfl rfl rfl rfl rfl rfl rfl rfl) ?_
    refine RW.op rfl rfl (eff_assign (v := .t _) rfl rfl rfl) ?_
    refine RW.nil ?_
    refine awp_ret ?_
    have hal : (allOf l).2 ≠ 0 := by
      intro h9; rw [atOf_ok h9] at h1; exact h1 rfl
    rw [judge_bad (all_zt hal) hal, show (atOf l).2 = (allOf l).2 from by rw [atOf_bad (all_zt hal) hal]]
    exact ⟨Or.inr rfl, [_, _], ⟨.cell rfl ti49 (.whole rfl rfl rfl rfl rfl rfl) (.t _), .tmp (.t _), trivial⟩, .refl _⟩
  · try simp only [cl] at h1
    refine awp_skip ?_
    refine awp_seq ?_
    refine awp_seq ?_
    refine awp_rw rfl ?_
    have hal : (allOf l).2 = 0 := by
      have h9 : (atOf l).2 = 0 := by first | assumption | omega
      unfold atOf at h9
      by_cases h10 : (allOf l).2 = 0
      · exact h10
      · rw [if_pos h10] at h9; exact absurd h9 h10
    have hat : (atOf l).1 = atL l (l.length + 1) := by rw [atOf_ok hal]
    have hlen := hO.len
    refine RW.op rfl rfl (eff_assign (v := .t _) rfl rfl rfl) ?_
    refine RW.nil ?_
    refine awp_block ?_
    refine awp_loopW (fun m s => ∃ (i : Nat), (i ≤ l.length) ∧ (∀ j, j < i → isD l d j = false) ∧ m = l.length - i ∧ s = ⟨49, [(0, .t (.sl (l.map encC) false)), (3, .ptr 3 0 0 0), (4, .ptr 4 0 0 0), (6, .t (.sl ((atOf l).1.map encT) false)), (8, .t (encI (i : Nat)))], [(3, some ⟨4, 28, 0, [.t (encD d)]⟩), (4, some ⟨5, 49, 0, [.t z49]⟩)]⟩) (_) (⟨_, weak_keep (n := 49) (fr' := [(0, .t (.sl (l.map encC) false)), (3, .ptr 3 0 0 0), (4, .ptr 4 0 0 0), (6, .t (.sl ((atOf l).1.map encT) false)), (8, .t (encI (0 : Nat)))]) (st' := [(3, some ⟨4, 28, 0, [.t (encD d)]⟩), (4, some ⟨5, 49, 0, [.t z49]⟩)]) ⟨rfl, rfl, rfl, rfl, rfl, rfl, rfl, rfl, rfl, rfl, trivial⟩ ⟨rfl, okE_one rfl, rfl, okE_one rfl, trivial⟩, 0, (by omega), (by intro j hj; omega), rfl, rfl⟩) ?_
    rintro m s ⟨i, hi, ha, rfl, rfl⟩
    refine awp_seq ?_
    refine awp_seq ?_
    refine awp_rw rfl ?_
    refine RW.op rfl rfl (eff_move (v := .t _) rfl rfl rfl) ?_
    refine RW.op rfl rfl (eff_move (v := .t _) rfl rfl rfl) ?_
    refine RW.op rfl rfl (eff_lenM rfl rfl te32 rfl) ?_
    refine RW.op rfl rfl (eff_iop rfl rfl rfl rfl rfl) ?_
    refine RW.nil ?_
    refine awp_cond rfl (fun h2 => ?_) (fun h2 => ?_)
    · try simp only [cl] at h2
      refine awp_skip ?_
      refine awp_seq ?_
      refine awp_block ?_
      refine awp_seq ?_
      have hil : i < l.length := by omega
      by_cases hc3 : (l[i]'hil).kind = 3
      · refine awp_rd [(some 24, []), (some 25, []), (some 26, []), (some 27, []), (some 28, []), (some 29, []), (some 30, []), (some 31, []), (some 32, []), (some 33, []), (some 34, []), (some 35, []), (some 36, []), (some 37, []), (some 38, [])] [[], [], [0, 1], [0, 1, 2], [0, 1, 2, 3], [0, 1, 2, 3, 4], [0, 1, 2, 3, 4, 5], [0, 1, 2, 3, 4, 5, 6], [0, 1, 2, 3, 4, 5, 6], [0, 1, 2, 3, 4, 5, 6, 7, 8], [0, 1, 2, 3, 4, 5, 6, 7, 8, 9], [0, 1, 2, 3, 4, 5, 6, 7, 8, 9, 10], [0, 1, 2, 3, 4, 5, 6], [0, 1, 2, 3, 4, 5, 6, 7, 8, 9, 10, 11, 12], [0, 1, 2, 3, 4, 5, 6, 7, 8, 9, 10, 11, 12, 13]] tm rfl rfl rfl rfl ?_
        refine RD.op rfl rfl rfl (eff_move (v := .t _) rfl rfl rfl) ?_
        refine RD.op rfl rfl rfl (eff_move (v := .t _) rfl rfl rfl) ?_
        refine RD.op rfl rfl rfl (eff_indexM (i := i) rfl rfl te32 rfl rfl (by first | rfl | omega) (by first | assumption | exact List.getElem?_eq_getElem (by omega)) rfl (by decide)) ?_
        refine RD.op rfl rfl rfl (eff_fieldAddrT rfl rfl tf47_1 (by decide) rfl) ?_
        refine RD.op rfl rfl rfl (eff_loadT1 rfl rfl ti3 rfl rfl) ?_
        refine RD.op rfl rfl rfl (eff_iop (r := .bool true) rfl rfl rfl rfl (by simp [iop, hc3])) ?_
        refine RD.op rfl rfl rfl (eff_move (v := .t _) rfl rfl rfl) ?_
        refine RD.gop rfl rfl rfl rfl rfl rfl rfl (eff_move (v := .t _) rfl rfl rfl) ?_
        refine RD.gop rfl rfl rfl rfl rfl rfl rfl (eff_move (v := .t _) rfl rfl rfl) ?_
        refine RD.gop rfl rfl rfl rfl rfl rfl rfl (eff_indexM (i := i) rfl rfl te32 rfl rfl (by first | rfl | omega) (by first | assumption | exact List.getElem?_eq_getElem (by omega)) rfl (by decide)) ?_
        refine RD.gop rfl rfl rfl rfl rfl rfl rfl (eff_fieldAddrT rfl rfl tf47_4 (by decide) rfl) ?_
        refine RD.gop rfl rfl rfl rfl rfl rfl rfl (eff_loadT (ys := [_, _, _, _]) rfl rfl ti28 rfl rfl rfl) ?_
        refine RD.gop rfl rfl rfl rfl rfl rfl rfl (eff_load rfl rfl ti28 rfl (.whole rfl rfl rfl rfl rfl rfl)) ?_
        refine RD.gop rfl rfl rfl rfl rfl rfl rfl (eff_structEqlA (cells := cellsD) (a := (l[i]'hil).dec) (b := d) rfl rfl ts28s ti28 th28 cellsD_inj cellsD_kind rfl rfl) ?_
        refine RD.op rfl rfl rfl (eff_pick (v := .t _) rfl rfl rfl rfl) ?_
        refine RD.nil ?_
        refine awp_cond rfl (fun h4 => ?_) (fun h4 => ?_)
        · try simp only [cl] at h4
          refine awp_seq ?_
          have hFit := runTo_fit12 hO (show i ≤ l.length by omega) (run_ok hal (by omega))
          have hfd := form_dec hil (run_form0 (run_ok hal (show i + 1 ≤ l.length by omega))) (by assumption)
          have hde : (l[i]'hil).dec = d := by assumption
          have hD : isD l d i = true := by rw [isD_at hil]; exact decide_eq_true ⟨by assumption, hde⟩
          rw [hde] at hfd
          refine awp_rd [(some 39, []), (some 40, []), (some 41, []), (some 42, []), (some 43, []), (some 44, []), (some 45, []), (some 46, []), (some 47, []), (none, [4]), (some 5, [])] [[], [], [0, 1], [0, 1, 2], [], [], [], [5, 6], [0, 1, 2, 3, 4, 5, 6, 7], [0, 1, 2, 3, 4, 5, 6, 7, 8], [0, 1, 2, 3, 4, 5, 6, 7, 8, 9]] tm rfl rfl rfl rfl ?_
          refine RD.op rfl rfl rfl (eff_move (v := .t _) rfl rfl rfl) ?_
          refine RD.op rfl rfl rfl (eff_move (v := .t _) rfl rfl rfl) ?_
          refine RD.op rfl rfl rfl (eff_indexAddrT (i := i) rfl rfl te56 rfl rfl (by first | rfl | omega) (by rw [hat]; exact atL_get (by omega)) rfl (by decide)) ?_
          refine RD.op rfl rfl rfl (eff_loadW rfl rfl ti64 rfl rfl rfl) ?_
          refine RD.op rfl rfl rfl (eff_load rfl rfl ti28 rfl (.whole rfl rfl rfl rfl rfl rfl)) ?_
          refine RD.op rfl rfl rfl (eff_move (v := .t _) rfl rfl rfl) ?_
          refine RD.op rfl rfl rfl (eff_move (v := .t _) rfl rfl rfl) ?_
          refine RD.op rfl rfl rfl (eff_callT (rsent_ret l i (by omega) (by omega) hO.seq) co24 rfl rfl rfl rfl) ?_
          refine RD.op rfl rfl rfl (eff_callT (judged_ret _ d _ hFit.hp (fun y hy => (hFit.nx y hy).mono (by decide)) (by omega) (by have := hFit.len; omega)) co42 rfl rfl rfl rfl) ?_
          refine RD.store rfl rfl rfl (eff_storeW (v := .t _) (els := [_]) (els' := [_]) rfl rfl ti49 rfl rfl rfl rfl rfl rfl rfl rfl rfl) ?_
          refine RD.op rfl rfl rfl (eff_assign (v := .t _) rfl rfl rfl) ?_
          refine RD.nil ?_
          refine awp_ret ?_
          rw [judge_hit hal (findD_hit (by omega) ha hD)]
          exact ⟨Or.inr rfl, [_, _], ⟨.cell rfl ti49 (.whole rfl rfl rfl rfl rfl rfl) (.t _), .tmp (.t _), trivial⟩, .refl _⟩
        · try simp only [cl] at h4
          refine awp_skip ?_
          refine awp_rw rfl ?_
          refine RW.op rfl rfl (eff_move (v := .t _) rfl rfl rfl) ?_
          refine RW.op rfl rfl (eff_iop rfl rfl rfl rfl (iadd (by omega))) ?_
          refine RW.op rfl rfl (eff_assign (v := .t _) rfl rfl rfl) ?_
          refine RW.nil ?_
          refine ⟨_, ?_, _, weak_keep (n := 49) (fr' := [(0, .t (.sl (l.map encC) false)), (3, .ptr 3 0 0 0), (4, .ptr 4 0 0 0), (6, .t (.sl ((atOf l).1.map encT) false)), (8, .t (encI ((i + 1) : Nat)))]) (st' := [(3, some ⟨4, 28, 0, [.t (encD d)]⟩), (4, some ⟨5, 49, 0, [.t z49]⟩)]) ⟨rfl, rfl, rfl, rfl, rfl, rfl, rfl, rfl, rfl, rfl, trivial⟩ ⟨rfl, okE_one rfl, rfl, okE_one rfl, trivial⟩, i + 1, (by omega), (by intro j hj; rcases Nat.lt_or_ge j i with h | h; exact ha j h; rw [show j = i from by omega, isD_at hil]; exact decide_eq_false (fun hh => by first | exact absurd hh.1 (by assumption) | exact absurd hh.2 (by assumption))), rfl, rfl⟩
          omega
      · refine awp_rd [(some 24, []), (some 25, []), (some 26, []), (some 27, []), (some 28, []), (some 29, []), (some 30, []), (some 31, []), (some 32, []), (some 33, []), (some 34, []), (some 35, []), (some 36, []), (some 37, []), (some 38, [])] [[], [], [0, 1], [0, 1, 2], [0, 1, 2, 3], [0, 1, 2, 3, 4], [0, 1, 2, 3, 4, 5], [0, 1, 2, 3, 4, 5, 6], [0, 1, 2, 3, 4, 5, 6], [0, 1, 2, 3, 4, 5, 6, 7, 8], [0, 1, 2, 3, 4, 5, 6, 7, 8, 9], [0, 1, 2, 3, 4, 5, 6, 7, 8, 9, 10], [0, 1, 2, 3, 4, 5, 6], [0, 1, 2, 3, 4, 5, 6, 7, 8, 9, 10, 11, 12], [0, 1, 2, 3, 4, 5, 6, 7, 8, 9, 10, 11, 12, 13]] tm rfl rfl rfl rfl ?_
        refine RD.op rfl rfl rfl (eff_move (v := .t _) rfl rfl rfl) ?_
        refine RD.op rfl rfl rfl (eff_move (v := .t _) rfl rfl rfl) ?_
        refine RD.op rfl rfl rfl (eff_indexM (i := i) rfl rfl te32 rfl rfl (by first | rfl | omega) (by first | assumption | exact List.getElem?_eq_getElem (by omega)) rfl (by decide)) ?_
        refine RD.op rfl rfl rfl (eff_fieldAddrT rfl rfl tf47_1 (by decide) rfl) ?_
        refine RD.op rfl rfl rfl (eff_loadT1 rfl rfl ti3 rfl rfl) ?_
        refine RD.op rfl rfl rfl (eff_iop (r := .bool false) rfl rfl rfl rfl (by simp [iop, hc3])) ?_
        refine RD.op rfl rfl rfl (eff_move (v := .t _) rfl rfl rfl) ?_
        refine RD.gskip rfl rfl rfl rfl rfl rfl (by decide) ?_
        refine RD.gskip rfl rfl rfl rfl rfl rfl (by decide) ?_
        refine RD.gskip rfl rfl rfl rfl rfl rfl (by decide) ?_
        refine RD.gskip rfl rfl rfl rfl rfl rfl (by decide) ?_
        refine RD.gskip rfl rfl rfl rfl rfl rfl (by decide) ?_
        refine RD.gskip rfl rfl rfl rfl rfl rfl (by decide) ?_
        refine RD.gskip rfl rfl rfl rfl rfl rfl (by decide) ?_
        refine RD.op rfl rfl rfl (eff_pick (v := .t _) rfl rfl rfl rfl) ?_
        refine RD.nil ?_
        refine awp_cond rfl (fun h => nomatch h) (fun _ => ?_)
        refine awp_skip ?_
        refine awp_rw rfl ?_
        refine RW.op rfl rfl (eff_move (v := .t _) rfl rfl rfl) ?_
        refine RW.op rfl rfl (eff_iop rfl rfl rfl rfl (iadd (by omega))) ?_
        refine RW.op rfl rfl (eff_assign (v := .t _) rfl rfl rfl) ?_
        refine RW.nil ?_
        refine ⟨_, ?_, _, weak_keep (n := 49) (fr' := [(0, .t (.sl (l.map encC) false)), (3, .ptr 3 0 0 0), (4, .ptr 4 0 0 0), (6, .t (.sl ((atOf l).1.map encT) false)), (8, .t (encI ((i + 1) : Nat)))]) (st' := [(3, some ⟨4, 28, 0, [.t (encD d)]⟩), (4, some ⟨5, 49, 0, [.t z49]⟩)]) ⟨rfl, rfl, rfl, rfl, rfl, rfl, rfl, rfl, rfl, rfl, trivial⟩ ⟨rfl, okE_one rfl, rfl, okE_one rfl, trivial⟩, i + 1, (by omega), (by intro j hj; rcases Nat.lt_or_ge j i with h | h; exact ha j h; rw [show j = i from by omega, isD_at hil]; exact decide_eq_false (fun hh => by first | exact absurd hh.1 (by assumption) | exact absurd hh.2 (by assumption))), rfl, rfl⟩
        omega
    · try simp only [cl] at h2
      refine awp_exit ?_
      refine awp_seq ?_
      refine awp_rw rfl ?_
      refine RW.op rfl rfl (eff_buildT (ys := [_, _, _, _, _]) rfl rfl tz49 tg49 rfl) ?_
      refine RW.store rfl rfl (eff_storeW (v := .t _) (els := [_]) (els' := [_]) rfl rfl ti49 rfl rfl rfl rfl rfl rfl rfl rfl rfl) ?_
      refine RW.op rfl rfl (eff_assign (v := .t _) rfl rfl rfl) ?_
      refine RW.nil ?_
      refine awp_ret ?_
      have hi2 : i = l.length := by omega
      subst hi2
      rw [judge_none hal (findD_none ha)]
      exact ⟨Or.inr rfl, [_, _], ⟨.cell rfl ti49 (.whole rfl rfl rfl rfl rfl rfl) (.t _), .tmp (.t _), trivial⟩, .refl _⟩

theorem rheld_ret (l : List Rcd) (hO : OKL l) : Ret Tryd.prog 20 [.sl (l.map encC) false] (.tup [.sl ((held l).1.map encN) false, encI (held l).2]) := by
  refine ret_of_awp Tryd.func20 rfl (Nat.le_of_ble_eq_true rfl) ?_
  refine awp_seq ?_
  refine awp_rw rfl ?_
  refine RW.op rfl rfl (eff_assign (v := .t _) rfl rfl rfl) ?_
  refine RW.op rfl rfl (eff_assign (v := .t _) rfl rfl rfl) ?_
  refine RW.nil ?_
  refine awp_seq ?_
  refine awp_rw rfl ?_
  refine RW.op rfl rfl (eff_move (v := .t _) rfl rfl rfl) ?_
  refine RW.op rfl rfl (eff_callT (at_ret l hO) co26 rfl rfl rfl rfl) ?_
  refine RW.op rfl rfl (eff_move (v := .t _) rfl rfl rfl) ?_
  refine RW.op rfl rfl (eff_extract rfl rfl rfl rfl) ?_
  refine RW.op rfl rfl (eff_extract rfl rfl rfl rfl) ?_
  refine RW.op rfl rfl (eff_assign (v := .t _) rfl rfl rfl) ?_
  refine RW.op rfl rfl (eff_assign (v := .t _) rfl rfl rfl) ?_
  refine RW.nil ?_
  refine awp_seq ?_
  refine awp_seq ?_
  refine awp_rw rfl ?_
  refine RW.op rfl rfl (eff_move (v := .t _) rfl rfl rfl) ?_
  refine RW.op rfl rfl (eff_iop rfl rfl rfl rfl rfl) ?_
  refine RW.nil ?_
  refine awp_cond rfl (fun h1 => ?_) (fun h1 => ?_)
  · try simp only [cl] at h1
    refine awp_seq ?_
    refine awp_rw rfl ?_
    refine RW.op rfl rfl (eff_move (v := .t _) rfl rfl rfl) ?_
    refine RW.op rfl rfl (eff_assign (v := .t _) rfl rfl rfl) ?_
    refine RW.op rfl rfl (eff_assign (v := .t _) rfl rfl rfl) ?_
    refine RW.nil ?_
    refine awp_ret ?_
    have hal : (allOf l).2 ≠ 0 := by
      intro h9; rw [atOf_ok h9] at h1; exact h1 rfl
    rw [held_bad (all_zt hal) hal, show (atOf l).2 = (allOf l).2 from by rw [atOf_bad (all_zt hal) hal]]
    exact ⟨Or.inr rfl, [_, _], ⟨.tmp (.t _), .tmp (.t _), trivial⟩, (by repeat' first | exact trivial | exact Wk.refl _ | exact Wk.sl _ | refine And.intro ?_ ?_ | refine Wk.tupP ?_ | refine Wk.aggP ?_)⟩
  · try simp only [cl] at h1
    refine awp_skip ?_
    refine awp_seq ?_
    refine awp_rw rfl ?_
    refine RW.op rfl rfl (eff_assign (v := .t _) rfl rfl rfl) ?_
    refine RW.nil ?_
    have hlen := hO.len
    have h9 : (atOf l).2 = 0 := h1
    have hal : (allOf l).2 = 0 := by
      unfold atOf at h9
      by_cases h10 : (allOf l).2 = 0
      · exact h10
      · rw [if_pos h10] at h9; exact absurd h9 h10
    have hat : (atOf l).1 = atL l (l.length + 1) := by rw [atOf_ok hal]
    show AWP _ _ _ _
    refine awp_weak (weak_adopt (d := 6) (id := 6) (k := 1) (ty := 3) rfl rfl) ?_
    refine awp_seq ?_
    refine awp_seq ?_
    refine awp_rw rfl ?_
    refine RW.op rfl rfl (eff_assign (v := .t _) rfl rfl rfl) ?_
    refine RW.nil ?_
    refine awp_block ?_
    refine awp_loopW (fun m s => ∃ (i : Nat) (gn : Nat) (mm : Nat) (els : List AV), (i ≤ l.length) ∧ (mm = (heldTo l i).length) ∧ (els = ((heldTo l i).map encN).map .t) ∧ m = l.length - i ∧ s = ⟨49, [(0, .t (.sl (l.map encC) false)), (4, .t (.sl ((atOf l).1.map encT) false)), (6, .own 6 gn 0 mm), (7, .t (encI (i : Nat)))], [(6, some ⟨1, 3, gn, els⟩)]⟩) (_) (⟨_, weak_keep (n := 49) (fr' := [(0, .t (.sl (l.map encC) false)), (4, .t (.sl ((atOf l).1.map encT) false)), (6, .own 6 0 0 0), (7, .t (encI (0 : Nat)))]) (st' := [(6, some ⟨1, 3, 0, ([])⟩)]) ⟨rfl, rfl, rfl, rfl, rfl, rfl, rfl, rfl, trivial⟩ ⟨rfl, (by first | exact okE_nil | (rw [he]; exact okE_t) | (rw [he]; intro x hx; simp only [List.mem_append, List.mem_map, List.mem_singleton] at hx; rcases hx with ⟨y, _, rfl⟩ | rfl <;> rfl)), trivial⟩, 0, 0, 0, [], (by omega), (by rfl), (by rfl), rfl, rfl⟩) ?_
    rintro m s ⟨i, gn, mm, els, hi, hm, he, rfl, rfl⟩
    refine awp_seq ?_
    refine awp_seq ?_
    refine awp_rw rfl ?_
    refine RW.op rfl rfl (eff_move (v := .t _) rfl rfl rfl) ?_
    refine RW.op rfl rfl (eff_move (v := .t _) rfl rfl rfl) ?_
    refine RW.op rfl rfl (eff_lenM rfl rfl te32 rfl) ?_
    refine RW.op rfl rfl (eff_iop rfl rfl rfl rfl rfl) ?_
    refine RW.nil ?_
    refine awp_cond rfl (fun h2 => ?_) (fun h2 => ?_)
    · try simp only [cl] at h2
      refine awp_skip ?_
      refine awp_seq ?_
      refine awp_block ?_
      refine awp_seq ?_
      have hil : i < l.length := by omega
      have hFit := runTo_fit12 hO (show i ≤ l.length by omega) (run_ok hal (by omega))
      have hfo := run_form0 (run_ok hal (show i + 1 ≤ l.length by omega))
      have hhl := heldTo_len l i
      by_cases hc3 : (l[i]'hil).kind = 3
      · refine awp_rd [(some 22, []), (some 23, []), (some 24, []), (some 25, []), (some 26, []), (some 27, []), (some 28, []), (some 29, []), (some 30, []), (some 31, []), (some 32, []), (some 33, []), (some 34, []), (some 35, []), (some 36, []), (some 37, []), (some 38, []), (some 39, []), (some 40, []), (some 41, []), (some 42, []), (some 43, [])] [[], [], [0, 1], [0, 1, 2], [0, 1, 2, 3], [0, 1, 2, 3, 4], [0, 1, 2, 3, 4, 5], [0, 1, 2, 3, 4, 5, 6], [0, 1, 2, 3, 4, 5, 6], [0, 1, 2, 3, 4, 5, 6, 7, 8], [0, 1, 2, 3, 4, 5, 6, 7, 8, 9], [0, 1, 2, 3, 4, 5, 6], [0, 1, 2, 3, 4, 5, 6], [0, 1, 2, 3, 4, 5, 6, 11, 12], [0, 1, 2, 3, 4, 5, 6, 11, 12, 13], [0, 1, 2, 3, 4, 5, 6, 11, 12, 13, 14], [0, 1, 2, 3, 4, 5, 6], [0, 1, 2, 3, 4, 5, 6], [0, 1, 2, 3, 4, 5, 6, 16, 17], [0, 1, 2, 3, 4, 5, 6, 7, 8, 9, 10, 11, 12, 13, 14, 15, 16, 17, 18], [0, 1, 2, 3, 4, 5, 6, 7, 8, 9, 10, 11, 12, 13, 14, 15, 16, 17, 18, 19], [0, 1, 2, 3, 4, 5, 6, 7, 8, 9, 10, 11, 12, 13, 14, 15, 16, 17, 18, 19, 20]] tm rfl rfl rfl rfl ?_
        refine RD.op rfl rfl rfl (eff_move (v := .t _) rfl rfl rfl) ?_
        refine RD.op rfl rfl rfl (eff_move (v := .t _) rfl rfl rfl) ?_
        refine RD.op rfl rfl rfl (eff_indexM (i := i) rfl rfl te32 rfl rfl (by first | rfl | omega) (by first | assumption | exact List.getElem?_eq_getElem (by omega)) rfl (by decide)) ?_
        refine RD.op rfl rfl rfl (eff_fieldAddrT rfl rfl tf47_1 (by decide) rfl) ?_
        refine RD.op rfl rfl rfl (eff_loadT1 rfl rfl ti3 rfl rfl) ?_
        refine RD.op rfl rfl rfl (eff_iop (r := .bool true) rfl rfl rfl rfl (by simp [iop, hc3])) ?_
        refine RD.op rfl rfl rfl (eff_move (v := .t _) rfl rfl rfl) ?_
        refine RD.gop rfl rfl rfl rfl rfl rfl rfl (eff_move (v := .t _) rfl rfl rfl) ?_
        refine RD.gop rfl rfl rfl rfl rfl rfl rfl (eff_move (v := .t _) rfl rfl rfl) ?_
        refine RD.gop rfl rfl rfl rfl rfl rfl rfl (eff_indexAddrT (i := i) rfl rfl te56 rfl rfl (by first | rfl | omega) (by rw [hat]; exact atL_get (by omega)) rfl (by decide)) ?_
        refine RD.gop rfl rfl rfl rfl rfl rfl rfl (eff_loadW rfl rfl ti64 rfl rfl rfl) ?_
        refine RD.gop rfl rfl rfl rfl rfl rfl rfl (eff_move (v := .t _) rfl rfl rfl) ?_
        refine RD.gop rfl rfl rfl rfl rfl rfl rfl (eff_move (v := .t _) rfl rfl rfl) ?_
        refine RD.gop rfl rfl rfl rfl rfl rfl rfl (eff_indexM (i := i) rfl rfl te32 rfl rfl (by first | rfl | omega) (by first | assumption | exact List.getElem?_eq_getElem (by omega)) rfl (by decide)) ?_
        refine RD.gop rfl rfl rfl rfl rfl rfl rfl (eff_fieldAddrT rfl rfl tf47_4 (by decide) rfl) ?_
        refine RD.gop rfl rfl rfl rfl rfl rfl rfl (eff_loadT (ys := [_, _, _, _]) rfl rfl ti28 rfl rfl rfl) ?_
        refine RD.gop rfl rfl rfl rfl rfl rfl rfl (eff_move (v := .t _) rfl rfl rfl) ?_
        refine RD.gop rfl rfl rfl rfl rfl rfl rfl (eff_move (v := .t _) rfl rfl rfl) ?_
        refine RD.gop rfl rfl rfl rfl rfl rfl rfl (eff_callT (rsent_ret l i (by omega) (by omega) hO.seq) co24 rfl rfl rfl rfl) ?_
        refine RD.gop rfl rfl rfl rfl rfl rfl rfl (eff_callT (judged_ret _ _ _ hFit.hp (fun y hy => (hFit.nx y hy).mono (by decide)) (by have := form_dec hil hfo (by assumption); omega) (by have := hFit.len; omega)) co42 rfl rfl rfl rfl) ?_
        refine RD.gop rfl rfl rfl rfl rfl rfl rfl (eff_field rfl rfl tf49_0 rfl rfl) ?_
        refine RD.op rfl rfl rfl (eff_pick (v := .t _) rfl rfl rfl rfl) ?_
        refine RD.nil ?_
        show AWP _ _ _ _
        have hHA : heldAt l i = (vOf (rights (runTo l i).1 (l[i]'hil).dec (sentN (l.take i)))).held := by rw [heldAt_at hil, vOf_held, decide_eq_true hc3]; rfl
        refine awp_cond rfl (fun h4 => ?_) (fun h4 => ?_)
        · try simp only [cl] at h4
          refine awp_rw rfl ?_
          refine RW.op rfl rfl (eff_move (v := .own _ _ _ _) rfl rfl rfl) ?_
          refine RW.op rfl rfl (eff_move (v := .t _) rfl rfl rfl) ?_
          refine RW.new rfl rfl (eff_buildSlice1 (id := 46) (els := [_]) rfl rfl te26 tz3 rfl (by decide) rfl rfl rfl rfl) ?_
          refine RW.new rfl rfl (eff_append (id := 6) (ys := [_]) rfl rfl ta26 rfl rfl rfl (by rw [he, hm]; simp) rfl rfl (srcOwn rfl rfl rfl rfl rfl rfl) (by simp) (by simp; omega) (by simp; omega)) ?_
          refine RW.op rfl rfl (eff_assign (v := .own _ _ _ _) rfl rfl rfl) ?_
          refine RW.nil ?_
          refine awp_rw rfl ?_
          refine RW.op rfl rfl (eff_move (v := .t _) rfl rfl rfl) ?_
          refine RW.op rfl rfl (eff_iop rfl rfl rfl rfl (iadd (by omega))) ?_
          refine RW.op rfl rfl (eff_assign (v := .t _) rfl rfl rfl) ?_
          refine RW.nil ?_
          have hht := heldTo_yes (show heldAt l i = true by rw [hHA]; assumption)
          refine ⟨_, ?_, _, weak_keep (n := 49) (fr' := [(0, .t (.sl (l.map encC) false)), (4, .t (.sl ((atOf l).1.map encT) false)), (6, .own 6 _ 0 _), (7, .t (encI ((i + 1) : Nat)))]) (st' := [(6, some ⟨1, 3, _, _⟩)]) ⟨rfl, rfl, rfl, rfl, rfl, rfl, rfl, rfl, trivial⟩ ⟨rfl, (by first | exact okE_nil | (rw [he]; exact okE_t) | (rw [he]; intro x hx; simp only [List.mem_append, List.mem_map, List.mem_singleton] at hx; rcases hx with ⟨y, _, rfl⟩ | rfl <;> rfl)), trivial⟩, i + 1, _, _, _, (by omega), (by first | (rw [hht, hm]; done) | (rw [hht, hm]; simp)), (by first | (rw [hht, he]; done) | (rw [hht, he]; simp <;> rfl)), rfl, rfl⟩
          omega
        · try simp only [cl] at h4
          refine awp_skip ?_
          refine awp_rw rfl ?_
          refine RW.op rfl rfl (eff_move (v := .t _) rfl rfl rfl) ?_
          refine RW.op rfl rfl (eff_iop rfl rfl rfl rfl (iadd (by omega))) ?_
          refine RW.op rfl rfl (eff_assign (v := .t _) rfl rfl rfl) ?_
          refine RW.nil ?_
          have hht := heldTo_no (show heldAt l i = false by rw [hHA]; assumption)
          refine ⟨_, ?_, _, weak_keep (n := 49) (fr' := [(0, .t (.sl (l.map encC) false)), (4, .t (.sl ((atOf l).1.map encT) false)), (6, .own 6 _ 0 _), (7, .t (encI ((i + 1) : Nat)))]) (st' := [(6, some ⟨1, 3, _, _⟩)]) ⟨rfl, rfl, rfl, rfl, rfl, rfl, rfl, rfl, trivial⟩ ⟨rfl, (by first | exact okE_nil | (rw [he]; exact okE_t) | (rw [he]; intro x hx; simp only [List.mem_append, List.mem_map, List.mem_singleton] at hx; rcases hx with ⟨y, _, rfl⟩ | rfl <;> rfl)), trivial⟩, i + 1, _, _, _, (by omega), (by first | (rw [hht, hm]; done) | (rw [hht, hm]; simp)), (by first | (rw [hht, he]; done) | (rw [hht, he]; simp <;> rfl)), rfl, rfl⟩
          omega
      · refine awp_rd [(some 22, []), (some 23, []), (some 24, []), (some 25, []), (some 26, []), (some 27, []), (some 28, []), (some 29, []), (some 30, []), (some 31, []), (some 32, []), (some 33, []), (some 34, []), (some 35, []), (some 36, []), (some 37, []), (some 38, []), (some 39, []), (some 40, []), (some 41, []), (some 42, []), (some 43, [])] [[], [], [0, 1], [0, 1, 2], [0, 1, 2, 3], [0, 1, 2, 3, 4], [0, 1, 2, 3, 4, 5], [0, 1, 2, 3, 4, 5, 6], [0, 1, 2, 3, 4, 5, 6], [0, 1, 2, 3, 4, 5, 6, 7, 8], [0, 1, 2, 3, 4, 5, 6, 7, 8, 9], [0, 1, 2, 3, 4, 5, 6], [0, 1, 2, 3, 4, 5, 6], [0, 1, 2, 3, 4, 5, 6, 11, 12], [0, 1, 2, 3, 4, 5, 6, 11, 12, 13], [0, 1, 2, 3, 4, 5, 6, 11, 12, 13, 14], [0, 1, 2, 3, 4, 5, 6], [0, 1, 2, 3, 4, 5, 6], [0, 1, 2, 3, 4, 5, 6, 16, 17], [0, 1, 2, 3, 4, 5, 6, 7, 8, 9, 10, 11, 12, 13, 14, 15, 16, 17, 18], [0, 1, 2, 3, 4, 5, 6, 7, 8, 9, 10, 11, 12, 13, 14, 15, 16, 17, 18, 19], [0, 1, 2, 3, 4, 5, 6, 7, 8, 9, 10, 11, 12, 13, 14, 15, 16, 17, 18, 19, 20]] tm rfl rfl rfl rfl ?_
        refine RD.op rfl rfl rfl (eff_move (v := .t _) rfl rfl rfl) ?_
        refine RD.op rfl rfl rfl (eff_move (v := .t _) rfl rfl rfl) ?_
        refine RD.op rfl rfl rfl (eff_indexM (i := i) rfl rfl te32 rfl rfl (by first | rfl | omega) (by first | assumption | exact List.getElem?_eq_getElem (by omega)) rfl (by decide)) ?_
        refine RD.op rfl rfl rfl (eff_fieldAddrT rfl rfl tf47_1 (by decide) rfl) ?_
        refine RD.op rfl rfl rfl (eff_loadT1 rfl rfl ti3 rfl rfl) ?_
        refine RD.op rfl rfl rfl (eff_iop (r := .bool false) rfl rfl rfl rfl (by simp [iop, hc3])) ?_
        refine RD.op rfl rfl rfl (eff_move (v := .t _) rfl rfl rfl) ?_
        refine RD.gskip rfl rfl rfl rfl rfl rfl (by decide) ?_
        refine RD.gskip rfl rfl rfl rfl rfl rfl (by decide) ?_
        refine RD.gskip rfl rfl rfl rfl rfl rfl (by decide) ?_
        refine RD.gskip rfl rfl rfl rfl rfl rfl (by decide) ?_
        refine RD.gskip rfl rfl rfl rfl rfl rfl (by decide) ?_
        refine RD.gskip rfl rfl rfl rfl rfl rfl (by decide) ?_
        refine RD.gskip rfl rfl rfl rfl rfl rfl (by decide) ?_
        refine RD.gskip rfl rfl rfl rfl rfl rfl (by decide) ?_
        refine RD.gskip rfl rfl rfl rfl rfl rfl (by decide) ?_
        refine RD.gskip rfl rfl rfl rfl rfl rfl (by decide) ?_
        refine RD.gskip rfl rfl rfl rfl rfl rfl (by decide) ?_
        refine RD.gskip rfl rfl rfl rfl rfl rfl (by decide) ?_
        refine RD.gskip rfl rfl rfl rfl rfl rfl (by decide) ?_
        refine RD.gskip rfl rfl rfl rfl rfl rfl (by decide) ?_
        refine RD.op rfl rfl rfl (eff_pick (v := .t _) rfl rfl rfl rfl) ?_
        refine RD.nil ?_
        show AWP _ _ _ _
        have hHA : heldAt l i = false := by rw [heldAt_at hil, decide_eq_false hc3]; rfl
        refine awp_cond rfl (fun h => nomatch h) (fun _ => ?_)
        refine awp_skip ?_
        refine awp_rw rfl ?_
        refine RW.op rfl rfl (eff_move (v := .t _) rfl rfl rfl) ?_
        refine RW.op rfl rfl (eff_iop rfl rfl rfl rfl (iadd (by omega))) ?_
        refine RW.op rfl rfl (eff_assign (v := .t _) rfl rfl rfl) ?_
        refine RW.nil ?_
        have hht := heldTo_no hHA
        refine ⟨_, ?_, _, weak_keep (n := 49) (fr' := [(0, .t (.sl (l.map encC) false)), (4, .t (.sl ((atOf l).1.map encT) false)), (6, .own 6 _ 0 _), (7, .t (encI ((i + 1) : Nat)))]) (st' := [(6, some ⟨1, 3, _, _⟩)]) ⟨rfl, rfl, rfl, rfl, rfl, rfl, rfl, rfl, trivial⟩ ⟨rfl, (by first | exact okE_nil | (rw [he]; exact okE_t) | (rw [he]; intro x hx; simp only [List.mem_append, List.mem_map, List.mem_singleton] at hx; rcases hx with ⟨y, _, rfl⟩ | rfl <;> rfl)), trivial⟩, i + 1, _, _, _, (by omega), (by first | (rw [hht, hm]; done) | (rw [hht, hm]; simp)), (by first | (rw [hht, he]; done) | (rw [hht, he]; simp <;> rfl)), rfl, rfl⟩
        omega
    · try simp only [cl] at h2
      refine awp_exit ?_
      refine awp_seq ?_
      refine awp_rw rfl ?_
      refine RW.op rfl rfl (eff_move (v := .own _ _ _ _) rfl rfl rfl) ?_
      refine RW.op rfl rfl (eff_assign (v := .own _ _ _ _) rfl rfl rfl) ?_
      refine RW.op rfl rfl (eff_assign (v := .t _) rfl rfl rfl) ?_
      refine RW.nil ?_
      refine awp_ret ?_
      have hi2 : i = l.length := by omega
      subst hi2
      rw [held_ok hal]
      exact ⟨Or.inr rfl, [_, _], ⟨.tmp (Res.ownT (xs := (heldTo l l.length).map encN) rfl rfl he (by rw [hm]; simp)), .tmp (.t _), trivial⟩, .refl _⟩

end Go.Tv.C36

end
section
open Go Go.Tv Go.Proofs
namespace Go.Tv.C36
set_option maxRecDepth 20000
set_option maxHeartbeats 2000000
set_option linter.unusedSimpArgs false
set_option linter.unusedVariables false
theorem sameN_ret (a : List Nat) (hl : a.length ≤ 1000000) : Ret Tryd.prog 21 [.sl (a.map encN) false, .sl (a.map encN) false] (.bool true) := by
  refine ret_of_awp Tryd.func21 rfl (Nat.le_of_ble_eq_true rfl) ?_
  refine awp_seq ?_
  refine awp_rw rfl ?_
  refine RW.op rfl rfl (eff_assign (v := .t _) rfl rfl rfl) ?_
  refine RW.nil ?_
  refine awp_seq ?_
  refine awp_seq ?_
  refine awp_rw rfl ?_
  refine RW.op rfl rfl (eff_move (v := .t _) rfl rfl rfl) ?_
  refine RW.op rfl rfl (eff_lenM rfl rfl te26 rfl) ?_
  refine RW.op rfl rfl (eff_move (v := .t _) rfl rfl rfl) ?_
  refine RW.op rfl rfl (eff_lenM rfl rfl te26 rfl) ?_
  refine RW.op rfl rfl (eff_iop (r := .bool false) rfl rfl rfl rfl (by simp [iop])) ?_
  refine RW.nil ?_
  refine awp_cond rfl (fun h => nomatch h) (fun _ => ?_)
  refine awp_skip ?_
  refine awp_seq ?_
  refine awp_seq ?_
  refine awp_rw rfl ?_
  refine RW.op rfl rfl (eff_assign (v := .t _) rfl rfl rfl) ?_
  refine RW.nil ?_
  refine awp_block ?_
  refine awp_loopW (fun m s => ∃ (i : Nat), (i ≤ a.length) ∧ m = a.length - i ∧ s = ⟨26, [(0, .t (.sl (a.map encN) false)), (1, .t (.sl (a.map encN) false)), (5, .t (encI (i : Nat)))], []⟩) (_) (⟨_, weak_keep (n := 26) (fr' := [(0, .t (.sl (a.map encN) false)), (1, .t (.sl (a.map encN) false)), (5, .t (encI (0 : Nat)))]) (st' := []) ⟨rfl, rfl, rfl, rfl, rfl, rfl, trivial⟩ trivial, 0, (by omega), rfl, rfl⟩) ?_
  rintro m s ⟨i, hi, rfl, rfl⟩
  refine awp_seq ?_
  refine awp_seq ?_
  refine awp_rw rfl ?_
  refine RW.op rfl rfl (eff_move (v := .t _) rfl rfl rfl) ?_
  refine RW.op rfl rfl (eff_move (v := .t _) rfl rfl rfl) ?_
  refine RW.op rfl rfl (eff_lenM rfl rfl te26 rfl) ?_
  refine RW.op rfl rfl (eff_iop rfl rfl rfl rfl rfl) ?_
  refine RW.nil ?_
  refine awp_cond rfl (fun h1 => ?_) (fun h1 => ?_)
  · try simp only [cl] at h1
    refine awp_skip ?_
    refine awp_seq ?_
    refine awp_block ?_
    refine awp_seq ?_
    refine awp_rd [(some 17, []), (some 18, []), (some 19, []), (some 20, []), (some 21, []), (some 22, []), (some 23, []), (some 24, []), (some 25, [])] [[], [], [0, 1], [0, 1, 2], [], [], [4, 5], [4, 5, 6], [0, 1, 2, 3, 4, 5, 6, 7]] tm rfl rfl rfl rfl ?_
    refine RD.op rfl rfl rfl (eff_move (v := .t _) rfl rfl rfl) ?_
    refine RD.op rfl rfl rfl (eff_move (v := .t _) rfl rfl rfl) ?_
    refine RD.op rfl rfl rfl (eff_indexM rfl rfl te26 rfl rfl rfl (by first | assumption | exact List.getElem?_eq_getElem (by omega)) rfl (by decide)) ?_
    refine RD.op rfl rfl rfl (eff_loadW1 rfl rfl ti3 rfl rfl) ?_
    refine RD.op rfl rfl rfl (eff_move (v := .t _) rfl rfl rfl) ?_
    refine RD.op rfl rfl rfl (eff_move (v := .t _) rfl rfl rfl) ?_
    refine RD.op rfl rfl rfl (eff_indexM rfl rfl te26 rfl rfl rfl (by first | assumption | exact List.getElem?_eq_getElem (by omega)) rfl (by decide)) ?_
    refine RD.op rfl rfl rfl (eff_loadW1 rfl rfl ti3 rfl rfl) ?_
    refine RD.op rfl rfl rfl (eff_iop (r := .bool false) rfl rfl rfl rfl (by simp [iop])) ?_
    refine RD.nil ?_
    refine awp_cond rfl (fun h => nomatch h) (fun _ => ?_)
    refine awp_skip ?_
    refine awp_rw rfl ?_
    refine RW.op rfl rfl (eff_move (v := .t _) rfl rfl rfl) ?_
    refine RW.op rfl rfl (eff_iop rfl rfl rfl rfl (iadd (by omega))) ?_
    refine RW.op rfl rfl (eff_assign (v := .t _) rfl rfl rfl) ?_
    refine RW.nil ?_
    refine ⟨_, ?_, _, weak_keep (n := 26) (fr' := [(0, .t (.sl (a.map encN) false)), (1, .t (.sl (a.map encN) false)), (5, .t (encI ((i + 1) : Nat)))]) (st' := []) ⟨rfl, rfl, rfl, rfl, rfl, rfl, trivial⟩ trivial, i + 1, (by omega), rfl, rfl⟩
    omega
  · try simp only [cl] at h1
    refine awp_exit ?_
    refine awp_seq ?_
    refine awp_rw rfl ?_
    refine RW.op rfl rfl (eff_assign (v := .t _) rfl rfl rfl) ?_
    refine RW.nil ?_
    refine awp_ret ?_
    exact ⟨Or.inr rfl, [_], ⟨.tmp (.t _), trivial⟩, .refl _⟩

end Go.Tv.C36

end
section
open Go Go.Tv Go.Proofs
namespace Go.Tv.C36

theorem snoc_ind {α : Type} {p : List α → Prop} (h0 : p []) (h1 : ∀ l a, p l → p (l ++ [a])) : ∀ l, p l := by
  have : ∀ l : List α, p l.reverse := by
    intro l
    induction l with
    | nil => exact h0
    | cons a l ih => rw [List.reverse_cons]; exact h1 _ _ ih
  intro l
  have h := this l.reverse
  rwa [List.reverse_reverse] at h

/-- Frames in the order of their keys. -/
def Inc (l : List Frm) : Prop := l.Pairwise fun a b => a.key < b.key
def KB (l : List Frm) : Prop := ∀ f, f ∈ l → 0 ≤ f.key ∧ f.key ≤ 1000000000

theorem reach_snoc (x : Rep) (l : List Frm) (f : Frm) : reachF x (l ++ [f]) = stepF (reachF x l) f := by unfold reachF; rw [List.foldl_append]; rfl
theorem reach_cases {x y : Rep} {l : List Frm} {f : Frm} : y ∈ reachF x (l ++ [f]) ↔ y ∈ reachF x l ∨ ∃ z, z ∈ reachF x l ∧ y = apply z f := by rw [reach_snoc]; exact stepF_mem
theorem stepF_self {f : Frm} {out : List Rep} {x : Rep} (h : x ∈ out) : x ∈ stepF out f := stepF_mem.2 (.inl h)
theorem reachF_self : ∀ (l : List Frm) (out : List Rep) (x : Rep), x ∈ out → x ∈ l.foldl stepF out
  | [], _, _, h => h
  | f :: l, out, x, h => reachF_self l (stepF out f) x (stepF_self h)
theorem reach_self (x : Rep) (l : List Frm) : x ∈ reachF x l := reachF_self l [x] x (List.mem_singleton.2 rfl)

theorem apply_acc {s : Rep} {f : Frm} (hk : 0 ≤ f.key ∧ f.key ≤ 1000000000) : apply s f = s ∨ (s.key ≤ f.key ∧ (apply s f).key = f.key + 1) := by
  by_cases h : f.key < s.key ∨ w64 (s.key + 4096) < f.key
  · exact .inl (apply_stay h)
  · right
    refine ⟨by omega, ?_⟩
    have e : w64 (f.key + 1) = f.key + 1 := by unfold w64; rw [wi64]; omega
    unfold apply
    rw [if_neg h]
    split
    · exact e
    · split
      · exact e
      · split
        · exact e
        · split
          · exact e
          · exact e
theorem apply_old {s : Rep} {f : Frm} (h : f.key < s.key) : apply s f = s := apply_stay (.inl h)

theorem reach_above {s : Rep} : ∀ (l : List Frm) (out : List Rep), (∀ f, f ∈ l → f.key < s.key) → (∀ y, y ∈ out → y = s) → ∀ y, y ∈ l.foldl stepF out → y = s
  | [], _, _, h, y, hy => h y hy
  | f :: l, out, hk, h, y, hy => by
    refine reach_above l (stepF out f) (fun g hg => hk g (List.mem_cons_of_mem _ hg)) (fun z hz => ?_) y hy
    rcases stepF_mem.1 hz with h1 | ⟨x, hx, rfl⟩
    · exact h z h1
    · rw [h x hx]; exact apply_old (hk f List.mem_cons_self)

theorem reach_trans {l : List Frm} : Inc l → KB l → ∀ r s x : Rep, s ∈ reachF r l → x ∈ reachF s l → x ∈ reachF r l := by
  refine snoc_ind (p := fun l => Inc l → KB l → ∀ r s x : Rep, s ∈ reachF r l → x ∈ reachF s l → x ∈ reachF r l) ?_ ?_ l
  · intro _ _ r s x hs hx
    have e1 : s = r := List.mem_singleton.1 hs
    rw [← e1]; exact hx
  · intro l f ih hi hk r s x hs hx
    have hi' : Inc l := (List.pairwise_append.1 hi).1
    have hlt : ∀ a, a ∈ l → a.key < f.key := fun a ha => (List.pairwise_append.1 hi).2.2 a ha f (List.mem_singleton.2 rfl)
    have hk' : KB l := fun g hg => hk g (List.mem_append_left _ hg)
    have first : ∀ s, s ∈ reachF r l → x ∈ reachF s (l ++ [f]) → x ∈ reachF r (l ++ [f]) := by
      intro s hs hx
      rcases reach_cases.1 hx with h | ⟨z, hz, rfl⟩
      · exact reach_cases.2 (.inl (ih hi' hk' r s x hs h))
      · exact reach_cases.2 (.inr ⟨z, ih hi' hk' r s z hs hz, rfl⟩)
    rcases reach_cases.1 hs with h | ⟨z, hz, rfl⟩
    · exact first s h hx
    · rcases apply_acc (s := z) (hk f (List.mem_append_right _ (List.mem_singleton.2 rfl))) with h | ⟨h1, h2⟩
      · rw [h] at hx; exact first z hz hx
      · have := reach_above (s := apply z f) (l ++ [f]) [apply z f] (fun g hg => by
          rw [h2]
          rcases List.mem_append.1 hg with hg | hg
          · have := hlt g hg; omega
          · rw [List.mem_singleton.1 hg]; omega) (fun y hy => List.mem_singleton.1 hy) x hx
        rw [this]; exact hs

theorem reach_arrive {l : List Frm} {f : Frm} (hf : f ∈ l) (s : Rep) : apply s f ∈ reachF s l := by
  obtain ⟨a, b, rfl⟩ := List.append_of_mem hf
  unfold reachF
  rw [List.foldl_append, List.foldl_cons]
  exact reachF_self b _ _ (stepF_mem.2 (.inr ⟨s, reachF_self a [s] s (List.mem_singleton.2 rfl), rfl⟩))

/-- The state s, and what frames that may still arrive lead it to, is possible. -/
def Inv (T : Twn) (s : Rep) : Prop := ∀ x, x ∈ reachF s T.sent → x ∈ T.poss
theorem Inv.mem {T : Twn} {s : Rep} (h : Inv T s) : s ∈ T.poss := h s (reach_self s _)
/-! ### Ledgers with a true receiver -/
def sentF (l : List Rcd) : List Frm := (l.filter fun r => decide (r.kind = 1)).map (·.frame)
structure Led (l : List Rcd) (sts : List Rep) : Prop where
  len : sts.length = l.length
  short : l.length ≤ 16
  form : ∀ i, i < l.length → form l i = 0
  inc : Inc (sentF l)
  kb : KB (sentF l)
  s0 : 0 < l.length → sts.getD 0 zr = zr
  nxt : ∀ i, i + 1 < l.length → sts.getD (i + 1) zr ∈ reachF (sts.getD i zr) (sentF (l.take (i + 1)))
  heard : ∀ i, i < l.length → (l.getD i zc).kind = 2 → sts.getD i zr ∈ reachF (l.getD i zc).rep (sentF (l.take i))
  okl : OKL l
  opr : ∀ r, r ∈ l → r.dec.op ≤ 2
  shp : ∀ s, s ∈ sts → HP s
  snx : ∀ s, s ∈ sts → NX 1000000 s

end Go.Tv.C36

end
