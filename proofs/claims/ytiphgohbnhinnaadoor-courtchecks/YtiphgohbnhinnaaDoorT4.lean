/- Part of the proof that the laws of this seat return true for every input. No condition. -/
import Derived.Test.YtiphgohbnhinnaaDoorT3
import Derived.Test.YtiphgohbnhinnaaDoorT2
import Derived.Test.YtiphgohbnhinnaaDoorT1
import Derived.Test.YtiphgohbnhinnaaDoorRows
import Derived.ProofKit
set_option linter.unnecessarySimpa false
set_option linter.unusedVariables false
set_option linter.unusedSimpArgs false
section
open Go Go.Tv Go.Proofs
namespace Go.Tv.C36
set_option maxRecDepth 20000
set_option maxHeartbeats 2000000
set_option linter.unusedSimpArgs false
set_option linter.unusedVariables false
theorem at_ret (l : List Rcd) (hO : OKL l) : Ret Tryd.prog 26 [.sl (l.map encC) false] (.tup [.sl ((atOf l).1.map encT) false, encI (atOf l).2]) := by
  refine ret_of_awp Tryd.func26 rfl (Nat.le_of_ble_eq_true rfl) ?_
  refine awp_seq ?_
  refine awp_rw rfl ?_
  refine asT ?_
  refine asT ?_
  refine RW.nil ?_
  refine awp_seq ?_
  refine awp_seq ?_
  refine awp_rw rfl ?_
  refine mvT ?_
  refine RW.op rfl rfl (eff_lenM rfl rfl te32 rfl) ?_
  refine ioT ?_
  refine RW.nil ?_
  refine awp_cond rfl (fun h1 => ?_) (fun h1 => ?_)
  · try simp only [cl] at h1
    refine awp_seq ?_
    refine awp_rw rfl ?_
    refine asT ?_
    refine asT ?_
    refine RW.nil ?_
    refine awp_ret ?_
    rw [atOf_bad (all_lim h1) (by decide)]
    exact ⟨Or.inr rfl, [_, _], ⟨.tmp (.t _), .tmp (.t _), trivial⟩, (by repeat' first | exact trivial | exact Wk.refl _ | exact Wk.sl _ | refine And.intro ?_ ?_ | refine Wk.tupP ?_ | refine Wk.aggP ?_)⟩
  · try simp only [cl] at h1
    refine awp_skip ?_
    refine awp_seq ?_
    refine awp_rw rfl ?_
    refine RW.op rfl rfl (eff_callT (new18_ret) co44 rfl rfl rfl rfl) ?_
    refine RW.new rfl rfl (eff_allocK (k := 2) (id := 4) rfl rfl tz64 rfl rfl) ?_
    refine RW.store rfl rfl (eff_storeW (v := .t _) (els := [_]) (els' := [_]) rfl rfl ti64 rfl rfl rfl rfl rfl rfl rfl rfl rfl) ?_
    refine RW.nil ?_
    refine awp_seq ?_
    refine awp_rw rfl ?_
    refine RW.op rfl rfl (eff_load rfl rfl ti64 rfl (.whole rfl rfl rfl rfl rfl rfl)) ?_
    refine RW.new rfl rfl (eff_buildSliceL (id := 15) (els := [.t (.agg [_, _])]) rfl rfl te56 tz64 rfl (by decide) (by decide) rfl rfl rfl rfl) ?_
    refine asO ?_
    refine RW.nil ?_
    refine awp_seq ?_
    refine awp_seq ?_
    refine awp_rw rfl ?_
    refine asT ?_
    refine RW.nil ?_
    refine awp_block ?_
    refine awp_loopW (fun m s => ∃ (i : Nat) (T : Twn) (gn : Nat) (mm : Nat) (els : List AV), (i ≤ l.length) ∧ (T = (runTo l i).1) ∧ ((runTo l i).2 = 0) ∧ (mm = i + 1) ∧ (els = ((atL l (i + 1)).map encT).map .t) ∧ m = l.length - i ∧ s = ⟨46, [(0, .t (.sl (l.map encC) false)), (4, .ptr 4 0 0 0), (5, .own 15 gn 0 mm), (6, .t (encI (i : Nat)))], [(4, some ⟨2, 64, 0, [.t (encT T)]⟩), (15, some ⟨2, 64, gn, els⟩)]⟩) (_) (⟨_, weak_keep (n := 46) (fr' := [(0, .t (.sl (l.map encC) false)), (4, .ptr 4 0 0 0), (5, .own 15 0 0 1), (6, .t (encI (0 : Nat)))]) (st' := [(4, some ⟨2, 64, 0, [.t (encT newT)]⟩), (15, some ⟨2, 64, 0, _⟩)]) ⟨rfl, rfl, rfl, rfl, rfl, rfl, rfl, rfl, trivial⟩ ⟨rfl, okE_one rfl, rfl, (by first | exact okE_one rfl | exact okE_nil | (rw [he]; exact okE_t) | (rw [he]; intro x hx; simp only [List.mem_append, List.mem_map, List.mem_singleton] at hx; rcases hx with ⟨y, _, rfl⟩ | rfl <;> rfl)), trivial⟩, 0, newT, 0, 1, _, (by omega), (by rfl), (by rfl), (by rfl), (by rfl), rfl, rfl⟩) ?_
    rintro m s ⟨i, T, gn, mm, els, hi, hT, hok, hm, he, rfl, rfl⟩
    refine awp_seq ?_
    refine awp_seq ?_
    refine awp_rw rfl ?_
    refine mvT ?_
    refine mvT ?_
    refine RW.op rfl rfl (eff_lenM rfl rfl te32 rfl) ?_
    refine ioT ?_
    refine RW.nil ?_
    refine awp_cond rfl (fun h2 => ?_) (fun h2 => ?_)
    · try simp only [cl] at h2
      refine awp_skip ?_
      refine awp_seq ?_
      refine awp_block ?_
      refine awp_seq ?_
      refine awp_rw rfl ?_
      have hil : i < l.length := by omega
      have hFit := runTo_fit12 hO (by omega) hok
      rw [← hT] at hFit
      refine mvT ?_
      refine mvT ?_
      refine RW.op rfl rfl (eff_callT (rform_ret l i hil (by have := hO.len; omega)) co45 rfl rfl rfl rfl) ?_
      refine asT ?_
      refine RW.nil ?_
      refine awp_seq ?_
      refine awp_seq ?_
      refine awp_rw rfl ?_
      refine mvT ?_
      refine ioT ?_
      refine RW.nil ?_
      refine awp_cond rfl (fun h3 => ?_) (fun h3 => ?_)
      · try simp only [cl] at h3
        refine awp_seq ?_
        refine awp_rw rfl ?_
        refine mvT ?_
        refine asT ?_
        refine asT ?_
        refine RW.nil ?_
        refine awp_ret ?_
        rw [atOf_bad (all_bad h1 hil (run_form hok (by omega)) (by omega)) (by omega)]
        exact ⟨Or.inr rfl, [_, _], ⟨.tmp (.t _), .tmp (.t _), trivial⟩, (by repeat' first | exact trivial | exact Wk.refl _ | exact Wk.sl _ | refine And.intro ?_ ?_ | refine Wk.tupP ?_ | refine Wk.aggP ?_)⟩
      · try simp only [cl] at h3
        refine awp_skip ?_
        refine awp_seq ?_
        refine awp_rd [(some 29, []), (some 30, []), (some 31, []), (some 32, []), (some 33, []), (some 34, []), (some 28, []), (some 35, []), (some 36, []), (some 8, [8]), (none, [8]), (some 9, [])] [[], [], [], [1, 2], [1, 2, 3], [0, 1, 2, 3, 4], [0, 1, 2, 3, 4, 5], [0, 1, 2, 3, 4, 5, 6], [0, 1, 2, 3, 4, 5, 6], [], [0, 1, 2, 3, 4, 5, 6, 7, 9], [0, 1, 2, 3, 4, 5, 6, 7, 8, 9, 10]] tm rfl rfl rfl rfl ?_
        have hfo : form l i = 0 := by omega
        refine RD.op rfl rfl rfl (eff_load rfl rfl ti64 rfl (.whole rfl rfl rfl rfl rfl rfl)) ?_
        refine mvD ?_
        refine mvD ?_
        refine RD.op rfl rfl rfl (eff_indexM rfl rfl te32 rfl rfl rfl (by first | assumption | exact List.getElem?_eq_getElem (by omega)) rfl (by decide)) ?_
        refine RD.op rfl rfl rfl (eff_loadW rfl rfl ti47 rfl rfl rfl) ?_
        refine RD.op rfl rfl rfl (eff_callT (next_ret T _ hFit (hO.hp _ (List.getElem_mem _)) (hO.bod _ (List.getElem_mem _))) co46 rfl rfl rfl rfl) ?_
        refine mvD ?_
        refine RD.op rfl rfl rfl (eff_extract rfl rfl rfl rfl) ?_
        refine RD.op rfl rfl rfl (eff_extract rfl rfl rfl rfl) ?_
        refine RD.new rfl rfl rfl (eff_allocK (k := 2) (id := 8) rfl rfl tz64 rfl rfl) ?_
        refine RD.store rfl rfl rfl (eff_storeW (v := .t _) (els := [_]) (els' := [_]) rfl rfl ti64 rfl rfl rfl rfl rfl rfl rfl rfl rfl) ?_
        refine RD.op rfl rfl rfl (eff_assign (v := .t _) rfl rfl rfl) ?_
        refine RD.nil ?_
        refine awp_seq ?_
        refine awp_seq ?_
        refine awp_rw rfl ?_
        refine mvT ?_
        refine ioT ?_
        refine RW.nil ?_
        refine awp_cond rfl (fun h4 => ?_) (fun h4 => ?_)
        · try simp only [cl] at h4
          refine awp_seq ?_
          refine awp_rw rfl ?_
          refine mvT ?_
          refine asT ?_
          refine asT ?_
          refine RW.nil ?_
          refine awp_ret ?_
          rw [atOf_bad (all_bad h1 hil (bad_next hil hT hok hfo (by omega)) (by omega)) (by omega)]
          exact ⟨Or.inr rfl, [_, _], ⟨.tmp (.t _), .tmp (.t _), trivial⟩, (by repeat' first | exact trivial | exact Wk.refl _ | exact Wk.sl _ | refine And.intro ?_ ?_ | refine Wk.tupP ?_ | refine Wk.aggP ?_)⟩
        · try simp only [cl] at h4
          refine awp_skip ?_
          refine awp_seq ?_
          refine awp_rw rfl ?_
          refine RW.op rfl rfl (eff_load rfl rfl ti64 rfl (.whole rfl rfl rfl rfl rfl rfl)) ?_
          refine RW.store rfl rfl (eff_storeW (v := .t _) (els := [_]) (els' := [_]) rfl rfl ti64 rfl rfl rfl rfl rfl rfl rfl rfl rfl) ?_
          refine RW.nil ?_
          refine awp_rw rfl ?_
          refine mvO ?_
          refine RW.op rfl rfl (eff_load rfl rfl ti64 rfl (.whole rfl rfl rfl rfl rfl rfl)) ?_
          refine RW.new rfl rfl (eff_buildSliceL (id := 43) (els := [.t (.agg [_, _])]) rfl rfl te56 tz64 rfl (by decide) (by decide) rfl rfl rfl rfl) ?_
          refine RW.new rfl rfl (eff_append (id := 15) (ys := [_]) rfl rfl ta56 rfl rfl rfl (by rw [he, hm]; simp [atL_len]) rfl rfl (srcOwn rfl rfl rfl rfl rfl rfl) (by simp) (by have := hO.len; simp; omega) (by have := hO.len; simp; omega)) ?_
          refine asO ?_
          refine RW.nil ?_
          refine awp_rw rfl ?_
          refine mvT ?_
          refine RW.op rfl rfl (eff_iop rfl rfl rfl rfl (iadd (by omega))) ?_
          refine asT ?_
          refine RW.nil ?_
          have hrn := run_next hil hT hok hfo (by omega)
          refine ⟨_, ?_, _, weak_keep (n := 46) (fr' := [(0, .t (.sl (l.map encC) false)), (4, .ptr 4 0 0 0), (5, .own 15 _ 0 _), (6, .t (encI ((i + 1) : Nat)))]) (st' := [(4, some ⟨2, 64, 0, [.t (encT _)]⟩), (15, some ⟨2, 64, _, _⟩)]) ⟨rfl, rfl, rfl, rfl, rfl, rfl, rfl, rfl, trivial⟩ ⟨rfl, okE_one rfl, rfl, (by first | exact okE_one rfl | exact okE_nil | (rw [he]; exact okE_t) | (rw [he]; intro x hx; simp only [List.mem_append, List.mem_map, List.mem_singleton] at hx; rcases hx with ⟨y, _, rfl⟩ | rfl <;> rfl)), trivial⟩, i + 1, _, _, _, _, (by omega), (by rw [hrn]), (by rw [hrn]), (by rw [hm]; rfl), (by rw [atL_succ, he, hrn]; simp <;> rfl), rfl, rfl⟩
          omega
    · try simp only [cl] at h2
      refine awp_exit ?_
      refine awp_seq ?_
      refine awp_rw rfl ?_
      refine mvO ?_
      refine asO ?_
      refine asT ?_
      refine RW.nil ?_
      refine awp_ret ?_
      have hi2 : i = l.length := by omega
      subst hi2
      rw [atOf_ok (by rw [all_ok h1 hok])]
      exact ⟨Or.inr rfl, [_, _], ⟨.tmp (Res.ownT (xs := (atL l (l.length + 1)).map encT) rfl rfl he (by rw [hm]; simp [atL_len])), .tmp (.t _), trivial⟩, .refl _⟩

end Go.Tv.C36

end
section
open Go Go.Tv Go.Proofs
namespace Go.Tv.C36
set_option maxRecDepth 20000
set_option maxHeartbeats 2000000
set_option linter.unusedSimpArgs false
set_option linter.unusedVariables false
theorem replay0_ret (vis : FuncId) (l : List Rcd) (hO : OKL l) (hv : ∀ (i : Nat) (T : Twn), Ret Tryd.prog vis [encI (i : Nat), encT T] (.tup [])) (hco : callOK Tryd.prog vis = true) : RetT Tryd.prog 38 [(1, deT)] [.sl (l.map encC) false, .fn vis []] (.tup [encT (allOf l).1, encI (allOf l).2]) := by
  refine retT_of_awp Tryd.func38 rfl (Nat.le_of_ble_eq_true rfl) ?_
  refine awp_seq ?_
  refine awp_rw rfl ?_
  refine RW.new rfl rfl (eff_allocK (k := 2) (id := 4) rfl rfl tz64 rfl rfl) ?_
  refine asT ?_
  refine RW.nil ?_
  refine awp_seq ?_
  refine awp_seq ?_
  refine awp_rw rfl ?_
  refine mvT ?_
  refine RW.op rfl rfl (eff_lenM rfl rfl te32 rfl) ?_
  refine ioT ?_
  refine RW.nil ?_
  refine awp_cond rfl (fun h1 => ?_) (fun h1 => ?_)
  · try simp only [cl] at h1
    refine awp_seq ?_
    refine awp_rw rfl ?_
    refine RW.op rfl rfl (eff_buildT (ys := [_, _]) rfl rfl tz64 tg64 rfl) ?_
    refine RW.store rfl rfl (eff_storeW (v := .t _) (els := [_]) (els' := [_]) rfl rfl ti64 rfl rfl rfl rfl rfl rfl rfl rfl rfl) ?_
    refine asT ?_
    refine RW.nil ?_
    refine awp_ret ?_
    rw [all_lim h1]
    exact ⟨Or.inr rfl, [_, _], ⟨.cell rfl ti64 (.whole rfl rfl rfl rfl rfl rfl) (.t _), .tmp (.t _), trivial⟩, (by repeat' first | exact trivial | exact Wk.refl _ | exact Wk.sl _ | refine And.intro ?_ ?_ | refine Wk.tupP ?_ | refine Wk.aggP ?_)⟩
  · try simp only [cl] at h1
    refine awp_skip ?_
    refine awp_seq ?_
    refine awp_rw rfl ?_
    refine RW.op rfl rfl (eff_callT (new17_ret) co61 rfl rfl rfl rfl) ?_
    refine RW.new rfl rfl (eff_allocK (k := 2) (id := 6) rfl rfl tz64 rfl rfl) ?_
    refine RW.store rfl rfl (eff_storeW (v := .t _) (els := [_]) (els' := [_]) rfl rfl ti64 rfl rfl rfl rfl rfl rfl rfl rfl rfl) ?_
    refine RW.nil ?_
    refine awp_seq ?_
    refine awp_seq ?_
    refine awp_rw rfl ?_
    refine mvT ?_
    refine RW.op rfl rfl (eff_lenM rfl rfl te32 rfl) ?_
    refine mvT ?_
    refine RW.nil ?_
    refine awp_block ?_
    refine awp_loopW (fun m s => ∃ (i : Nat) (T : Twn), (i ≤ l.length) ∧ (T = (runTo l i).1) ∧ ((runTo l i).2 = 0) ∧ m = l.length - i ∧ s = ⟨63, [(0, .t (.sl (l.map encC) false)), (1, .t (.fn vis [])), (4, .ptr 4 0 0 0), (6, .ptr 6 0 0 0), (17, .t (.sl (l.map encC) false)), (18, .t (encI (l.length : Nat))), (19, .t (encI (i : Nat))), (64, .t deT)], [(4, some ⟨2, 64, 0, [.t z64]⟩), (6, some ⟨2, 64, 0, [.t (encT T)]⟩)]⟩) (_) (⟨_, weak_keep (n := 63) (fr' := [(0, .t (.sl (l.map encC) false)), (1, .t (.fn vis [])), (4, .ptr 4 0 0 0), (6, .ptr 6 0 0 0), (17, .t (.sl (l.map encC) false)), (18, .t (encI (l.length : Nat))), (19, .t (encI (0 : Nat))), (64, .t deT)]) (st' := [(4, some ⟨2, 64, 0, [.t z64]⟩), (6, some ⟨2, 64, 0, [.t (encT newT)]⟩)]) ⟨rfl, rfl, rfl, rfl, rfl, rfl, rfl, rfl, rfl, rfl, rfl, rfl, rfl, rfl, rfl, rfl, trivial⟩ ⟨rfl, okE_one rfl, rfl, okE_one rfl, trivial⟩, 0, newT, (by omega), (by rfl), (by rfl), rfl, rfl⟩) ?_
    rintro m s ⟨i, T, hi, hT, hok, rfl, rfl⟩
    refine awp_seq ?_
    refine awp_rw rfl ?_
    refine ioT ?_
    refine RW.nil ?_
    refine awp_seq ?_
    refine awp_cond rfl (fun h2 => ?_) (fun h2 => ?_)
    · try simp only [cl] at h2
      refine awp_skip ?_
      refine awp_seq ?_
      refine awp_block ?_
      refine awp_seq ?_
      refine awp_rw rfl ?_
      have hil : i < l.length := by omega
      have hFit := runTo_fit12 hO (by omega) hok
      rw [← hT] at hFit
      refine mvT ?_
      refine RW.op rfl rfl (eff_indexM rfl rfl te32 rfl rfl rfl (by first | assumption | exact List.getElem?_eq_getElem (by omega)) rfl (by decide)) ?_
      refine RW.op rfl rfl (eff_loadW rfl rfl ti47 rfl rfl rfl) ?_
      refine RW.new rfl rfl (eff_allocK (k := 15) (id := 8) rfl rfl tz47 rfl rfl) ?_
      refine asT ?_
      refine RW.store rfl rfl (eff_storeW (v := .t _) (els := [_]) (els' := [_]) rfl rfl ti47 rfl rfl rfl rfl rfl rfl rfl rfl rfl) ?_
      refine RW.nil ?_
      refine awp_seq ?_
      refine awp_seq ?_
      refine awp_rw rfl ?_
      refine mvT ?_
      refine mvT ?_
      refine RW.op rfl rfl (eff_callT (form_ret l i hil (by have := hO.len; omega)) co62 rfl rfl rfl rfl) ?_
      refine asT ?_
      refine RW.nil ?_
      refine awp_seq ?_
      refine awp_rw rfl ?_
      refine mvT ?_
      refine ioT ?_
      refine RW.nil ?_
      refine awp_cond rfl (fun h3 => ?_) (fun h3 => ?_)
      · try simp only [cl] at h3
        refine awp_seq ?_
        refine awp_rw rfl ?_
        refine RW.op rfl rfl (eff_buildT (ys := [_, _]) rfl rfl tz64 tg64 rfl) ?_
        refine mvT ?_
        refine RW.store rfl rfl (eff_storeW (v := .t _) (els := [_]) (els' := [_]) rfl rfl ti64 rfl rfl rfl rfl rfl rfl rfl rfl rfl) ?_
        refine asT ?_
        refine RW.nil ?_
        refine awp_ret ?_
        rw [all_bad h1 hil (run_form hok (by omega)) (by omega)]
        exact ⟨Or.inr rfl, [_, _], ⟨.cell rfl ti64 (.whole rfl rfl rfl rfl rfl rfl) (.t _), .tmp (.t _), trivial⟩, (by repeat' first | exact trivial | exact Wk.refl _ | exact Wk.sl _ | refine And.intro ?_ ?_ | refine Wk.tupP ?_ | refine Wk.aggP ?_)⟩
      · try simp only [cl] at h3
        refine awp_skip ?_
        refine awp_seq ?_
        refine awp_rw rfl ?_
        have hfo : form l i = 0 := by omega
        refine mvT ?_
        refine mvT ?_
        refine RW.op rfl rfl (eff_load rfl rfl ti64 rfl (.whole rfl rfl rfl rfl rfl rfl)) ?_
        refine RW.op rfl rfl (eff_callT (hv i T) hco rfl rfl rfl rfl) ?_
        refine RW.nil ?_
        refine awp_seq ?_
        refine awp_rw rfl ?_
        refine asT ?_
        refine RW.nil ?_
        refine awp_seq ?_
        refine awp_rw rfl ?_
        refine RW.op rfl rfl (eff_load rfl rfl ti64 rfl (.whole rfl rfl rfl rfl rfl rfl)) ?_
        refine RW.new rfl rfl (eff_allocK (k := 2) (id := 11) rfl rfl tz64 rfl rfl) ?_
        refine RW.store rfl rfl (eff_storeW (v := .t _) (els := [_]) (els' := [_]) rfl rfl ti64 rfl rfl rfl rfl rfl rfl rfl rfl rfl) ?_
        refine RW.nil ?_
        refine awp_seq ?_
        refine awp_seq ?_
        refine awp_rw rfl ?_
        refine faT tf47_1 ?_
        refine l1T ti3 rfl rfl rfl rfl rfl (.one rfl rfl rfl rfl) ?_
        refine RW.nil ?_
        refine awp_block ?_
        refine awp_seq ?_
        refine awp_rw rfl ?_
        refine ioT ?_
        refine asT ?_
        refine RW.nil ?_
        refine awp_cond rfl (fun h4 => ?_) (fun h4 => ?_)
        · try simp only [cl] at h4
          refine awp_rw rfl ?_
          refine RW.op rfl rfl (eff_load rfl rfl ti64 rfl (.whole rfl rfl rfl rfl rfl rfl)) ?_
          refine faT tf47_2 ?_
          refine RW.op rfl rfl (eff_loadS (ys := [_, _, _, _, _]) rfl rfl ti45 rfl rfl rfl rfl rfl rfl) ?_
          refine RW.op rfl rfl (eff_callXT (tsend_ret T _ hFit.srt hFit.hp (by have := hFit.len; omega) (by have := hFit.sl; omega) hFit.bod (hO.bod _ (List.getElem_mem hil))) co63 rfl rfl rfl ⟨rfl, trivial⟩ rfl) ?_
          refine mvT ?_
          refine RW.op rfl rfl (eff_extract rfl rfl rfl rfl) ?_
          refine RW.op rfl rfl (eff_extract rfl rfl rfl rfl) ?_
          refine RW.store rfl rfl (eff_storeW (v := .t _) (els := [_]) (els' := [_]) rfl rfl ti64 rfl rfl rfl rfl rfl rfl rfl rfl rfl) ?_
          refine asT ?_
          refine RW.nil ?_
          refine awp_seq ?_
          refine awp_seq ?_
          refine awp_rw rfl ?_
          refine mvT ?_
          refine ioT ?_
          refine RW.nil ?_
          refine awp_cond rfl (fun h5 => ?_) (fun h5 => ?_)
          · try simp only [cl] at h5
            refine awp_seq ?_
            refine awp_rw rfl ?_
            refine RW.op rfl rfl (eff_buildT (ys := [_, _]) rfl rfl tz64 tg64 rfl) ?_
            refine mvT ?_
            refine RW.store rfl rfl (eff_storeW (v := .t _) (els := [_]) (els' := [_]) rfl rfl ti64 rfl rfl rfl rfl rfl rfl rfl rfl rfl) ?_
            refine asT ?_
            refine RW.nil ?_
            refine awp_ret ?_
            rw [all_bad h1 hil (bad_send hil hT hok hfo (by omega) (by omega)) (by omega)]
            exact ⟨Or.inr rfl, [_, _], ⟨.cell rfl ti64 (.whole rfl rfl rfl rfl rfl rfl) (.t _), .tmp (.t _), trivial⟩, (by repeat' first | exact trivial | exact Wk.refl _ | exact Wk.sl _ | refine And.intro ?_ ?_ | refine Wk.tupP ?_ | refine Wk.aggP ?_)⟩
          · try simp only [cl] at h5
            refine awp_skip ?_
            refine awp_rw rfl ?_
            refine RW.op rfl rfl (eff_load rfl rfl ti64 rfl (.whole rfl rfl rfl rfl rfl rfl)) ?_
            refine RW.store rfl rfl (eff_storeW (v := .t _) (els := [_]) (els' := [_]) rfl rfl ti64 rfl rfl rfl rfl rfl rfl rfl rfl rfl) ?_
            refine RW.nil ?_
            refine awp_rw rfl ?_
            refine RW.op rfl rfl (eff_iop rfl rfl rfl rfl (iadd (by omega))) ?_
            refine mvT ?_
            refine RW.nil ?_
            refine ⟨_, ?_, _, weak_keep (n := 63) (fr' := [(0, .t (.sl (l.map encC) false)), (1, .t (.fn vis [])), (4, .ptr 4 0 0 0), (6, .ptr 6 0 0 0), (17, .t (.sl (l.map encC) false)), (18, .t (encI (l.length : Nat))), (19, .t (encI ((i + 1) : Nat))), (64, .t deT)]) (st' := [(4, some ⟨2, 64, 0, [.t z64]⟩), (6, some ⟨2, 64, 0, [.t (encT _)]⟩)]) ⟨rfl, rfl, rfl, rfl, rfl, rfl, rfl, rfl, rfl, rfl, rfl, rfl, rfl, rfl, rfl, rfl, trivial⟩ ⟨rfl, okE_one rfl, rfl, okE_one rfl, trivial⟩, i + 1, _, (by omega), (by first | rw [run_send hil hT hok hfo (by omega) (by omega)] | rw [run_hear hil hT hok hfo (by omega) (by omega)] | rw [run_dec hil hT hok hfo (by omega) (by omega)]), (by first | rw [run_send hil hT hok hfo (by omega) (by omega)] | rw [run_hear hil hT hok hfo (by omega) (by omega)] | rw [run_dec hil hT hok hfo (by omega) (by omega)]), rfl, rfl⟩
            omega
        · try simp only [cl] at h4
          refine awp_seq ?_
          refine awp_rw rfl ?_
          refine ioT ?_
          refine asT ?_
          refine RW.nil ?_
          refine awp_cond rfl (fun h6 => ?_) (fun h6 => ?_)
          · try simp only [cl] at h6
            refine awp_rw rfl ?_
            refine RW.op rfl rfl (eff_load rfl rfl ti64 rfl (.whole rfl rfl rfl rfl rfl rfl)) ?_
            refine faT tf47_3 ?_
            refine RW.op rfl rfl (eff_loadS (ys := [_, _, _, _]) rfl rfl ti23 rfl rfl rfl rfl rfl rfl) ?_
            refine RW.op rfl rfl (eff_callXT (thear_ret T _ (hO.hp _ (List.getElem_mem hil)) (by have := hFit.len; omega) (by have := hFit.sl; omega) hFit.bod) co64 rfl rfl rfl ⟨rfl, trivial⟩ rfl) ?_
            refine mvT ?_
            refine RW.op rfl rfl (eff_extract rfl rfl rfl rfl) ?_
            refine RW.op rfl rfl (eff_extract rfl rfl rfl rfl) ?_
            refine RW.store rfl rfl (eff_storeW (v := .t _) (els := [_]) (els' := [_]) rfl rfl ti64 rfl rfl rfl rfl rfl rfl rfl rfl rfl) ?_
            refine asT ?_
            refine RW.nil ?_
            refine awp_seq ?_
            refine awp_seq ?_
            refine awp_rw rfl ?_
            refine mvT ?_
            refine ioT ?_
            refine RW.nil ?_
            refine awp_cond rfl (fun h7 => ?_) (fun h7 => ?_)
            · try simp only [cl] at h7
              refine awp_seq ?_
              refine awp_rw rfl ?_
              refine RW.op rfl rfl (eff_buildT (ys := [_, _]) rfl rfl tz64 tg64 rfl) ?_
              refine mvT ?_
              refine RW.store rfl rfl (eff_storeW (v := .t _) (els := [_]) (els' := [_]) rfl rfl ti64 rfl rfl rfl rfl rfl rfl rfl rfl rfl) ?_
              refine asT ?_
              refine RW.nil ?_
              refine awp_ret ?_
              rw [all_bad h1 hil (bad_hear hil hT hok hfo (by omega) (by omega)) (by omega)]
              exact ⟨Or.inr rfl, [_, _], ⟨.cell rfl ti64 (.whole rfl rfl rfl rfl rfl rfl) (.t _), .tmp (.t _), trivial⟩, (by repeat' first | exact trivial | exact Wk.refl _ | exact Wk.sl _ | refine And.intro ?_ ?_ | refine Wk.tupP ?_ | refine Wk.aggP ?_)⟩
            · try simp only [cl] at h7
              refine awp_skip ?_
              refine awp_rw rfl ?_
              refine RW.op rfl rfl (eff_load rfl rfl ti64 rfl (.whole rfl rfl rfl rfl rfl rfl)) ?_
              refine RW.store rfl rfl (eff_storeW (v := .t _) (els := [_]) (els' := [_]) rfl rfl ti64 rfl rfl rfl rfl rfl rfl rfl rfl rfl) ?_
              refine RW.nil ?_
              refine awp_rw rfl ?_
              refine RW.op rfl rfl (eff_iop rfl rfl rfl rfl (iadd (by omega))) ?_
              refine mvT ?_
              refine RW.nil ?_
              refine ⟨_, ?_, _, weak_keep (n := 63) (fr' := [(0, .t (.sl (l.map encC) false)), (1, .t (.fn vis [])), (4, .ptr 4 0 0 0), (6, .ptr 6 0 0 0), (17, .t (.sl (l.map encC) false)), (18, .t (encI (l.length : Nat))), (19, .t (encI ((i + 1) : Nat))), (64, .t deT)]) (st' := [(4, some ⟨2, 64, 0, [.t z64]⟩), (6, some ⟨2, 64, 0, [.t (encT _)]⟩)]) ⟨rfl, rfl, rfl, rfl, rfl, rfl, rfl, rfl, rfl, rfl, rfl, rfl, rfl, rfl, rfl, rfl, trivial⟩ ⟨rfl, okE_one rfl, rfl, okE_one rfl, trivial⟩, i + 1, _, (by omega), (by first | rw [run_send hil hT hok hfo (by omega) (by omega)] | rw [run_hear hil hT hok hfo (by omega) (by omega)] | rw [run_dec hil hT hok hfo (by omega) (by omega)]), (by first | rw [run_send hil hT hok hfo (by omega) (by omega)] | rw [run_hear hil hT hok hfo (by omega) (by omega)] | rw [run_dec hil hT hok hfo (by omega) (by omega)]), rfl, rfl⟩
              omega
          · try simp only [cl] at h6
            refine awp_skip ?_
            refine awp_seq ?_
            refine awp_seq ?_
            refine awp_rw rfl ?_
            refine mvT ?_
            refine ioT ?_
            refine RW.nil ?_
            refine awp_cond rfl (fun h8 => ?_) (fun h8 => ?_)
            · try simp only [cl] at h8
              refine awp_seq ?_
              refine awp_rw rfl ?_
              refine RW.op rfl rfl (eff_buildT (ys := [_, _]) rfl rfl tz64 tg64 rfl) ?_
              refine mvT ?_
              refine RW.store rfl rfl (eff_storeW (v := .t _) (els := [_]) (els' := [_]) rfl rfl ti64 rfl rfl rfl rfl rfl rfl rfl rfl rfl) ?_
              refine asT ?_
              refine RW.nil ?_
              refine awp_ret ?_
              exact absurd trivial ‹¬ True›
            · try simp only [cl] at h8
              refine awp_skip ?_
              refine awp_rw rfl ?_
              refine RW.op rfl rfl (eff_load rfl rfl ti64 rfl (.whole rfl rfl rfl rfl rfl rfl)) ?_
              refine RW.store rfl rfl (eff_storeW (v := .t _) (els := [_]) (els' := [_]) rfl rfl ti64 rfl rfl rfl rfl rfl rfl rfl rfl rfl) ?_
              refine RW.nil ?_
              refine awp_rw rfl ?_
              refine RW.op rfl rfl (eff_iop rfl rfl rfl rfl (iadd (by omega))) ?_
              refine mvT ?_
              refine RW.nil ?_
              refine ⟨_, ?_, _, weak_keep (n := 63) (fr' := [(0, .t (.sl (l.map encC) false)), (1, .t (.fn vis [])), (4, .ptr 4 0 0 0), (6, .ptr 6 0 0 0), (17, .t (.sl (l.map encC) false)), (18, .t (encI (l.length : Nat))), (19, .t (encI ((i + 1) : Nat))), (64, .t deT)]) (st' := [(4, some ⟨2, 64, 0, [.t z64]⟩), (6, some ⟨2, 64, 0, [.t (encT _)]⟩)]) ⟨rfl, rfl, rfl, rfl, rfl, rfl, rfl, rfl, rfl, rfl, rfl, rfl, rfl, rfl, rfl, rfl, trivial⟩ ⟨rfl, okE_one rfl, rfl, okE_one rfl, trivial⟩, i + 1, _, (by omega), (by first | rw [run_send hil hT hok hfo (by omega) (by omega)] | rw [run_hear hil hT hok hfo (by omega) (by omega)] | rw [run_dec hil hT hok hfo (by omega) (by omega)]), (by first | rw [run_send hil hT hok hfo (by omega) (by omega)] | rw [run_hear hil hT hok hfo (by omega) (by omega)] | rw [run_dec hil hT hok hfo (by omega) (by omega)]), rfl, rfl⟩
              omega
    · try simp only [cl] at h2
      refine awp_exit ?_
      refine awp_seq ?_
      refine awp_rw rfl ?_
      refine RW.op rfl rfl (eff_load rfl rfl ti64 rfl (.whole rfl rfl rfl rfl rfl rfl)) ?_
      refine RW.store rfl rfl (eff_storeW (v := .t _) (els := [_]) (els' := [_]) rfl rfl ti64 rfl rfl rfl rfl rfl rfl rfl rfl rfl) ?_
      refine asT ?_
      refine RW.nil ?_
      refine awp_ret ?_
      have hi2 : i = l.length := by omega
      subst hi2
      rw [all_ok h1 hok, ← hT]
      exact ⟨Or.inr rfl, [_, _], ⟨.cell rfl ti64 (.whole rfl rfl rfl rfl rfl rfl) (.t _), .tmp (.t _), trivial⟩, (by repeat' first | exact trivial | exact Wk.refl _ | exact Wk.sl _ | refine And.intro ?_ ?_ | refine Wk.tupP ?_ | refine Wk.aggP ?_)⟩

theorem vis47_ret (i : Nat) (T : Twn) : Ret Tryd.prog 47 [encI (i : Nat), encT T] (.tup []) := by
  refine ret_of_awp Tryd.func47 rfl (Nat.le_of_ble_eq_true rfl) ?_
  refine awp_rw rfl ?_
  refine RW.new rfl rfl (eff_boxK (v := .t _) (k := 2) (id := 3) rfl rfl rfl rfl rfl rfl) ?_
  refine RW.nil ?_
  exact ⟨Or.inl rfl, [], trivial, .refl _⟩

theorem check_ret (l : List Rcd) (hO : OKL l) : RetT Tryd.prog 27 [(1, deT)] [.sl (l.map encC) false] (encI (allOf l).2) := by
  refine retT_of_awp Tryd.func27 rfl (Nat.le_of_ble_eq_true rfl) ?_
  refine awp_seq ?_
  refine awp_rw rfl ?_
  refine asT ?_
  refine RW.nil ?_
  refine awp_seq ?_
  refine awp_rw rfl ?_
  refine mvT ?_
  refine RW.op rfl rfl (eff_callXT (replay0_ret 47 l hO vis47_ret co47) co38 rfl rfl rfl ⟨rfl, trivial⟩ rfl) ?_
  refine mvT ?_
  refine RW.op rfl rfl (eff_extract rfl rfl rfl rfl) ?_
  refine RW.op rfl rfl (eff_extract rfl rfl rfl rfl) ?_
  refine RW.new rfl rfl (eff_allocK (k := 2) (id := 3) rfl rfl tz64 rfl rfl) ?_
  refine RW.store rfl rfl (eff_storeW (v := .t _) (els := [_]) (els' := [_]) rfl rfl ti64 rfl rfl rfl rfl rfl rfl rfl rfl rfl) ?_
  refine asT ?_
  refine RW.nil ?_
  refine awp_seq ?_
  refine awp_rw rfl ?_
  refine mvT ?_
  refine asT ?_
  refine RW.nil ?_
  refine awp_ret ?_
  exact ⟨Or.inr rfl, [_], ⟨.tmp (.t _), trivial⟩, .refl _⟩

end Go.Tv.C36

end
section
open Go Go.Tv Go.Proofs
namespace Go.Tv.C36
set_option maxRecDepth 20000
set_option maxHeartbeats 2000000
set_option linter.unusedSimpArgs false
set_option linter.unusedVariables false
theorem dvis_t (l : List Rcd) (d : Dec) (i : Nat) (T : Twn) (ys : List Tr) (fl : Bool) (hi : i < l.length) (hl : l.length ≤ 1000000) : RetK Tryd.prog 65 [(1007, some ⟨1, 4, 0, [.t (.bool true)]⟩), (1002, some ⟨1, 32, 0, [.t (.sl (l.map encC) false)]⟩), (1003, some ⟨4, 28, 0, [.t (encD d)]⟩), (1006, some ⟨1, 33, 0, [.t (.sl ys fl)]⟩)] [.t (encI (i : Nat)), .t (encT T), .ptr 1007 0 0 0, .ptr 1002 0 0 0, .ptr 1003 0 0 0, .ptr 1006 0 0 0] [(1007, some ⟨1, 4, 0, [.t (.bool true)]⟩), (1002, some ⟨1, 32, 0, [.t (.sl (l.map encC) false)]⟩), (1003, some ⟨4, 28, 0, [.t (encD d)]⟩), (1006, some ⟨1, 33, 0, [.t (.sl ys fl)]⟩)] (.tup []) [(2, .ptr 1007 0 0 0), (3, .ptr 1002 0 0 0), (4, .ptr 1003 0 0 0), (5, .ptr 1006 0 0 0)] := by
  refine retK_of_awj (kp := fun i => Nat.beq i 2 || Nat.beq i 3 || Nat.beq i 4 || Nat.beq i 5) Tryd.func65 rfl (Nat.le_of_ble_eq_true rfl) (by simp) ?_
  intro F0 w0
  refine awj_seq ?_
  refine awj_rj rfl ?_
  refine RJ.new rfl rfl (eff_boxK (v := .t _) (k := 2) (id := 7) rfl rfl rfl rfl rfl rfl) ?_
  refine RJ.nil ?_
  refine awj_seq ?_
  refine awj_rd [(some 8, []), (some 9, []), (some 10, []), (some 11, []), (some 12, []), (some 13, []), (some 14, []), (some 15, []), (some 16, []), (some 17, []), (some 18, []), (some 19, []), (some 20, []), (some 21, []), (some 22, []), (some 23, []), (some 24, []), (some 25, []), (some 26, [])] [[], [0], [0, 1], [0, 1, 2], [0, 1, 2], [0, 1, 2, 3, 4], [0, 1, 2, 3, 4, 5], [0, 1, 2, 3, 4, 5, 6], [0, 1, 2, 3, 4, 5, 6, 7], [0, 1, 2, 3, 4, 5, 6, 7, 8], [0, 1, 2, 3, 4, 5, 6, 7, 8, 9], [0, 1, 2, 3, 4, 5, 6, 7, 8, 9, 10], [0, 1, 2, 3, 4, 5, 6, 7, 8, 9, 10], [0, 1, 2, 3, 4, 5, 6, 7, 8, 9, 10, 11, 12], [0, 1, 2, 3, 4, 5, 6, 7, 8, 9, 10, 11, 12, 13], [0, 1, 2, 3, 4, 5, 6, 7, 8, 9, 10, 11, 12, 13, 14], [0, 1, 2, 3, 4, 5, 6, 7, 8, 9, 10], [0, 1, 2, 3, 4, 5, 6, 7, 8, 9, 10, 11, 12, 13, 14, 15, 16], [0, 1, 2, 3, 4, 5, 6, 7, 8, 9, 10, 11, 12, 13, 14, 15, 16, 17]] tm rfl rfl rfl rfl ?_
  refine RD.op rfl rfl rfl (eff_load (y := .t _) rfl rfl ti4 rfl (.one rfl rfl rfl rfl)) ?_
  refine RD.op rfl rfl rfl (eff_unop rfl rfl rfl rfl) ?_
  refine mvD ?_
  refine gkD ?_
  refine gkD ?_
  refine gkD ?_
  refine gkD ?_
  refine gkD ?_
  refine gkD ?_
  refine RD.op rfl rfl rfl (eff_pick (v := .t _) rfl rfl rfl rfl) ?_
  refine mvD ?_
  refine gkD ?_
  refine gkD ?_
  refine gkD ?_
  refine gkD ?_
  refine gkD ?_
  refine gkD ?_
  refine gkD ?_
  refine RD.op rfl rfl rfl (eff_pick (v := .t _) rfl rfl rfl rfl) ?_
  refine RD.nil ?_
  refine awj_cond rfl (fun h => nomatch h) (fun _ => ?_)
  refine awj_skip ?_
  exact ⟨Or.inl rfl, [], [], trivial, rfl, weak_keep ⟨rfl, rfl, rfl, rfl, rfl, rfl, rfl, rfl, trivial⟩ ⟨rfl, okE_one rfl, rfl, okE_one rfl, rfl, okE_one rfl, rfl, okE_one rfl, trivial⟩, rfl⟩

theorem dvis_n (l : List Rcd) (d : Dec) (i : Nat) (T : Twn) (ys : List Tr) (fl : Bool) (hi : i < l.length) (hl : l.length ≤ 1000000) (hn : isD l d i = false) : RetK Tryd.prog 65 [(1007, some ⟨1, 4, 0, [.t (.bool false)]⟩), (1002, some ⟨1, 32, 0, [.t (.sl (l.map encC) false)]⟩), (1003, some ⟨4, 28, 0, [.t (encD d)]⟩), (1006, some ⟨1, 33, 0, [.t (.sl ys fl)]⟩)] [.t (encI (i : Nat)), .t (encT T), .ptr 1007 0 0 0, .ptr 1002 0 0 0, .ptr 1003 0 0 0, .ptr 1006 0 0 0] [(1007, some ⟨1, 4, 0, [.t (.bool false)]⟩), (1002, some ⟨1, 32, 0, [.t (.sl (l.map encC) false)]⟩), (1003, some ⟨4, 28, 0, [.t (encD d)]⟩), (1006, some ⟨1, 33, 0, [.t (.sl ys fl)]⟩)] (.tup []) [(2, .ptr 1007 0 0 0), (3, .ptr 1002 0 0 0), (4, .ptr 1003 0 0 0), (5, .ptr 1006 0 0 0)] := by
  refine retK_of_awj (kp := fun i => Nat.beq i 2 || Nat.beq i 3 || Nat.beq i 4 || Nat.beq i 5) Tryd.func65 rfl (Nat.le_of_ble_eq_true rfl) (by simp) ?_
  intro F0 w0
  refine awj_seq ?_
  refine awj_rj rfl ?_
  refine RJ.new rfl rfl (eff_boxK (v := .t _) (k := 2) (id := 7) rfl rfl rfl rfl rfl rfl) ?_
  refine RJ.nil ?_
  refine awj_seq ?_
  by_cases hc1 : (l[i]'hi).kind = 3
  · refine awj_rd [(some 8, []), (some 9, []), (some 10, []), (some 11, []), (some 12, []), (some 13, []), (some 14, []), (some 15, []), (some 16, []), (some 17, []), (some 18, []), (some 19, []), (some 20, []), (some 21, []), (some 22, []), (some 23, []), (some 24, []), (some 25, []), (some 26, [])] [[], [0], [0, 1], [0, 1, 2], [0, 1, 2], [0, 1, 2, 3, 4], [0, 1, 2, 3, 4, 5], [0, 1, 2, 3, 4, 5, 6], [0, 1, 2, 3, 4, 5, 6, 7], [0, 1, 2, 3, 4, 5, 6, 7, 8], [0, 1, 2, 3, 4, 5, 6, 7, 8, 9], [0, 1, 2, 3, 4, 5, 6, 7, 8, 9, 10], [0, 1, 2, 3, 4, 5, 6, 7, 8, 9, 10], [0, 1, 2, 3, 4, 5, 6, 7, 8, 9, 10, 11, 12], [0, 1, 2, 3, 4, 5, 6, 7, 8, 9, 10, 11, 12, 13], [0, 1, 2, 3, 4, 5, 6, 7, 8, 9, 10, 11, 12, 13, 14], [0, 1, 2, 3, 4, 5, 6, 7, 8, 9, 10], [0, 1, 2, 3, 4, 5, 6, 7, 8, 9, 10, 11, 12, 13, 14, 15, 16], [0, 1, 2, 3, 4, 5, 6, 7, 8, 9, 10, 11, 12, 13, 14, 15, 16, 17]] tm rfl rfl rfl rfl ?_
    refine RD.op rfl rfl rfl (eff_load (y := .t _) rfl rfl ti4 rfl (.one rfl rfl rfl rfl)) ?_
    refine RD.op rfl rfl rfl (eff_unop rfl rfl rfl rfl) ?_
    refine mvD ?_
    refine RD.gop rfl rfl rfl rfl rfl rfl rfl (eff_load (y := .t _) rfl rfl ti32 rfl (.one rfl rfl rfl rfl)) ?_
    refine RD.gop rfl rfl rfl rfl rfl rfl rfl (eff_move (v := .t _) rfl rfl rfl) ?_
    refine RD.gop rfl rfl rfl rfl rfl rfl rfl (eff_indexM rfl rfl te32 rfl rfl rfl (by first | assumption | exact List.getElem?_eq_getElem (by omega)) rfl (by decide)) ?_
    refine RD.gop rfl rfl rfl rfl rfl rfl rfl (eff_fieldAddrT rfl rfl tf47_1 (by decide) rfl) ?_
    refine RD.gop rfl rfl rfl rfl rfl rfl rfl (eff_loadT1 rfl rfl ti3 rfl rfl) ?_
    refine RD.gop rfl rfl rfl rfl rfl rfl rfl (eff_iop (r := .bool true) rfl rfl rfl rfl (by simp [iop, hc1])) ?_
    refine RD.op rfl rfl rfl (eff_pick (v := .t _) rfl rfl rfl rfl) ?_
    refine mvD ?_
    refine RD.gop rfl rfl rfl rfl rfl rfl rfl (eff_load (y := .t _) rfl rfl ti32 rfl (.one rfl rfl rfl rfl)) ?_
    refine RD.gop rfl rfl rfl rfl rfl rfl rfl (eff_move (v := .t _) rfl rfl rfl) ?_
    refine RD.gop rfl rfl rfl rfl rfl rfl rfl (eff_indexM (i := i) rfl rfl te32 rfl rfl (by first | rfl | omega) (by first | assumption | exact List.getElem?_eq_getElem (by omega)) rfl (by decide)) ?_
    refine RD.gop rfl rfl rfl rfl rfl rfl rfl (eff_fieldAddrT rfl rfl tf47_4 (by decide) rfl) ?_
    refine RD.gop rfl rfl rfl rfl rfl rfl rfl (eff_loadT (ys := [_, _, _, _]) rfl rfl ti28 rfl rfl rfl) ?_
    refine RD.gop rfl rfl rfl rfl rfl rfl rfl (eff_load rfl rfl ti28 rfl (.whole rfl rfl rfl rfl rfl rfl)) ?_
    refine RD.gop rfl rfl rfl rfl rfl rfl rfl (eff_structEqlAB (cells := cellsD) (a := (l[i]'hi).dec) (b := d) (r := false) rfl rfl ts28s ti28 th28 cellsD_inj cellsD_kind rfl rfl (decide_eq_false (fun hd => by rw [isD_at hi, decide_eq_true ⟨hc1, hd⟩] at hn; cases hn))) ?_
    refine RD.op rfl rfl rfl (eff_pick (v := .t _) rfl rfl rfl rfl) ?_
    refine RD.nil ?_
    refine awj_cond rfl (fun h => nomatch h) (fun _ => ?_)
    refine awj_skip ?_
    exact ⟨Or.inl rfl, [], [], trivial, rfl, weak_keep ⟨rfl, rfl, rfl, rfl, rfl, rfl, rfl, rfl, trivial⟩ ⟨rfl, okE_one rfl, rfl, okE_one rfl, rfl, okE_one rfl, rfl, okE_one rfl, trivial⟩, rfl⟩
  · refine awj_rd [(some 8, []), (some 9, []), (some 10, []), (some 11, []), (some 12, []), (some 13, []), (some 14, []), (some 15, []), (some 16, []), (some 17, []), (some 18, []), (some 19, []), (some 20, []), (some 21, []), (some 22, []), (some 23, []), (some 24, []), (some 25, []), (some 26, [])] [[], [0], [0, 1], [0, 1, 2], [0, 1, 2], [0, 1, 2, 3, 4], [0, 1, 2, 3, 4, 5], [0, 1, 2, 3, 4, 5, 6], [0, 1, 2, 3, 4, 5, 6, 7], [0, 1, 2, 3, 4, 5, 6, 7, 8], [0, 1, 2, 3, 4, 5, 6, 7, 8, 9], [0, 1, 2, 3, 4, 5, 6, 7, 8, 9, 10], [0, 1, 2, 3, 4, 5, 6, 7, 8, 9, 10], [0, 1, 2, 3, 4, 5, 6, 7, 8, 9, 10, 11, 12], [0, 1, 2, 3, 4, 5, 6, 7, 8, 9, 10, 11, 12, 13], [0, 1, 2, 3, 4, 5, 6, 7, 8, 9, 10, 11, 12, 13, 14], [0, 1, 2, 3, 4, 5, 6, 7, 8, 9, 10], [0, 1, 2, 3, 4, 5, 6, 7, 8, 9, 10, 11, 12, 13, 14, 15, 16], [0, 1, 2, 3, 4, 5, 6, 7, 8, 9, 10, 11, 12, 13, 14, 15, 16, 17]] tm rfl rfl rfl rfl ?_
    refine RD.op rfl rfl rfl (eff_load (y := .t _) rfl rfl ti4 rfl (.one rfl rfl rfl rfl)) ?_
    refine RD.op rfl rfl rfl (eff_unop rfl rfl rfl rfl) ?_
    refine mvD ?_
    refine RD.gop rfl rfl rfl rfl rfl rfl rfl (eff_load (y := .t _) rfl rfl ti32 rfl (.one rfl rfl rfl rfl)) ?_
    refine RD.gop rfl rfl rfl rfl rfl rfl rfl (eff_move (v := .t _) rfl rfl rfl) ?_
    refine RD.gop rfl rfl rfl rfl rfl rfl rfl (eff_indexM rfl rfl te32 rfl rfl rfl (by first | assumption | exact List.getElem?_eq_getElem (by omega)) rfl (by decide)) ?_
    refine RD.gop rfl rfl rfl rfl rfl rfl rfl (eff_fieldAddrT rfl rfl tf47_1 (by decide) rfl) ?_
    refine RD.gop rfl rfl rfl rfl rfl rfl rfl (eff_loadT1 rfl rfl ti3 rfl rfl) ?_
    refine RD.gop rfl rfl rfl rfl rfl rfl rfl (eff_iop (r := .bool false) rfl rfl rfl rfl (by simp [iop, hc1])) ?_
    refine RD.op rfl rfl rfl (eff_pick (v := .t _) rfl rfl rfl rfl) ?_
    refine mvD ?_
    refine gkD ?_
    refine gkD ?_
    refine gkD ?_
    refine gkD ?_
    refine gkD ?_
    refine gkD ?_
    refine gkD ?_
    refine RD.op rfl rfl rfl (eff_pick (v := .t _) rfl rfl rfl rfl) ?_
    refine RD.nil ?_
    refine awj_cond rfl (fun h => nomatch h) (fun _ => ?_)
    refine awj_skip ?_
    exact ⟨Or.inl rfl, [], [], trivial, rfl, weak_keep ⟨rfl, rfl, rfl, rfl, rfl, rfl, rfl, rfl, trivial⟩ ⟨rfl, okE_one rfl, rfl, okE_one rfl, rfl, okE_one rfl, rfl, okE_one rfl, trivial⟩, rfl⟩

theorem dvis_y (l : List Rcd) (d : Dec) (i : Nat) (T : Twn) (ys : List Tr) (fl : Bool) (hi : i < l.length) (hl : l.length ≤ 1000000) (hn : isD l d i = true) (hT : T = (runTo l i).1) (hF : Fit 12 T) (hq : ∀ r, r ∈ l → 0 ≤ r.frame.seq ∧ r.frame.seq ≤ 1000000) (hd : -2000000 ≤ d.seq ∧ d.seq ≤ 2000000) : RetK Tryd.prog 65 [(1007, some ⟨1, 4, 0, [.t (.bool false)]⟩), (1002, some ⟨1, 32, 0, [.t (.sl (l.map encC) false)]⟩), (1003, some ⟨4, 28, 0, [.t (encD d)]⟩), (1006, some ⟨1, 33, 0, [.t (.sl ys fl)]⟩)] [.t (encI (i : Nat)), .t (encT T), .ptr 1007 0 0 0, .ptr 1002 0 0 0, .ptr 1003 0 0 0, .ptr 1006 0 0 0] [(1007, some ⟨1, 4, 0, [.t (.bool true)]⟩), (1002, some ⟨1, 32, 0, [.t (.sl (l.map encC) false)]⟩), (1003, some ⟨4, 28, 0, [.t (encD d)]⟩), (1006, some ⟨1, 33, 0, [.t (.sl ((rightsAt l d i).map encR) false)]⟩)] (.tup []) [(2, .ptr 1007 0 0 0), (3, .ptr 1002 0 0 0), (4, .ptr 1003 0 0 0), (5, .ptr 1006 0 0 0)] := by
  have hk3 : (l[i]'hi).kind = 3 ∧ (l[i]'hi).dec = d := by
    rw [isD_at hi] at hn; exact of_decide_eq_true hn
  refine retK_of_awj (kp := fun i => Nat.beq i 2 || Nat.beq i 3 || Nat.beq i 4 || Nat.beq i 5) Tryd.func65 rfl (Nat.le_of_ble_eq_true rfl) (by simp) ?_
  intro F0 w0
  refine awj_seq ?_
  refine awj_rj rfl ?_
  refine RJ.new rfl rfl (eff_boxK (v := .t _) (k := 2) (id := 7) rfl rfl rfl rfl rfl rfl) ?_
  refine RJ.nil ?_
  refine awj_seq ?_
  refine awj_rd [(some 8, []), (some 9, []), (some 10, []), (some 11, []), (some 12, []), (some 13, []), (some 14, []), (some 15, []), (some 16, []), (some 17, []), (some 18, []), (some 19, []), (some 20, []), (some 21, []), (some 22, []), (some 23, []), (some 24, []), (some 25, []), (some 26, [])] [[], [0], [0, 1], [0, 1, 2], [0, 1, 2], [0, 1, 2, 3, 4], [0, 1, 2, 3, 4, 5], [0, 1, 2, 3, 4, 5, 6], [0, 1, 2, 3, 4, 5, 6, 7], [0, 1, 2, 3, 4, 5, 6, 7, 8], [0, 1, 2, 3, 4, 5, 6, 7, 8, 9], [0, 1, 2, 3, 4, 5, 6, 7, 8, 9, 10], [0, 1, 2, 3, 4, 5, 6, 7, 8, 9, 10], [0, 1, 2, 3, 4, 5, 6, 7, 8, 9, 10, 11, 12], [0, 1, 2, 3, 4, 5, 6, 7, 8, 9, 10, 11, 12, 13], [0, 1, 2, 3, 4, 5, 6, 7, 8, 9, 10, 11, 12, 13, 14], [0, 1, 2, 3, 4, 5, 6, 7, 8, 9, 10], [0, 1, 2, 3, 4, 5, 6, 7, 8, 9, 10, 11, 12, 13, 14, 15, 16], [0, 1, 2, 3, 4, 5, 6, 7, 8, 9, 10, 11, 12, 13, 14, 15, 16, 17]] tm rfl rfl rfl rfl ?_
  refine RD.op rfl rfl rfl (eff_load (y := .t _) rfl rfl ti4 rfl (.one rfl rfl rfl rfl)) ?_
  refine RD.op rfl rfl rfl (eff_unop rfl rfl rfl rfl) ?_
  refine mvD ?_
  refine RD.gop rfl rfl rfl rfl rfl rfl rfl (eff_load (y := .t _) rfl rfl ti32 rfl (.one rfl rfl rfl rfl)) ?_
  refine RD.gop rfl rfl rfl rfl rfl rfl rfl (eff_move (v := .t _) rfl rfl rfl) ?_
  refine RD.gop rfl rfl rfl rfl rfl rfl rfl (eff_indexM rfl rfl te32 rfl rfl rfl (by first | assumption | exact List.getElem?_eq_getElem (by omega)) rfl (by decide)) ?_
  refine RD.gop rfl rfl rfl rfl rfl rfl rfl (eff_fieldAddrT rfl rfl tf47_1 (by decide) rfl) ?_
  refine RD.gop rfl rfl rfl rfl rfl rfl rfl (eff_loadT1 rfl rfl ti3 rfl rfl) ?_
  refine RD.gop rfl rfl rfl rfl rfl rfl rfl (eff_iop (r := .bool true) rfl rfl rfl rfl (by simp [iop, hk3.1])) ?_
  refine RD.op rfl rfl rfl (eff_pick (v := .t _) rfl rfl rfl rfl) ?_
  refine mvD ?_
  refine RD.gop rfl rfl rfl rfl rfl rfl rfl (eff_load (y := .t _) rfl rfl ti32 rfl (.one rfl rfl rfl rfl)) ?_
  refine RD.gop rfl rfl rfl rfl rfl rfl rfl (eff_move (v := .t _) rfl rfl rfl) ?_
  refine RD.gop rfl rfl rfl rfl rfl rfl rfl (eff_indexM (i := i) rfl rfl te32 rfl rfl (by first | rfl | omega) (by first | assumption | exact List.getElem?_eq_getElem (by omega)) rfl (by decide)) ?_
  refine RD.gop rfl rfl rfl rfl rfl rfl rfl (eff_fieldAddrT rfl rfl tf47_4 (by decide) rfl) ?_
  refine RD.gop rfl rfl rfl rfl rfl rfl rfl (eff_loadT (ys := [_, _, _, _]) rfl rfl ti28 rfl rfl rfl) ?_
  refine RD.gop rfl rfl rfl rfl rfl rfl rfl (eff_load rfl rfl ti28 rfl (.whole rfl rfl rfl rfl rfl rfl)) ?_
  refine RD.gop rfl rfl rfl rfl rfl rfl rfl (eff_structEqlAB (cells := cellsD) (a := (l[i]'hi).dec) (b := d) (r := true) rfl rfl ts28s ti28 th28 cellsD_inj cellsD_kind rfl rfl (decide_eq_true hk3.2)) ?_
  refine RD.op rfl rfl rfl (eff_pick (v := .t _) rfl rfl rfl rfl) ?_
  refine RD.nil ?_
  refine awj_cond rfl (fun _ => ?_) (fun h => nomatch h)
  refine awj_rd [(some 27, []), (some 28, []), (some 29, []), (some 30, []), (some 31, []), (some 32, []), (some 33, []), (none, [1007]), (none, [1006])] [[], [], [], [], [2, 3], [2, 3, 4], [0, 1, 2, 3, 4, 5], [0, 1, 2, 3, 4, 5, 6], [0, 1, 2, 3, 4, 5, 6, 7]] tm rfl rfl rfl rfl ?_
  refine RD.op rfl rfl rfl (eff_load rfl rfl ti64 rfl (.whole rfl rfl rfl rfl rfl rfl)) ?_
  refine RD.op rfl rfl rfl (eff_load rfl rfl ti28 rfl (.whole rfl rfl rfl rfl rfl rfl)) ?_
  refine RD.op rfl rfl rfl (eff_load (y := .t _) rfl rfl ti32 rfl (.one rfl rfl rfl rfl)) ?_
  refine mvD ?_
  refine RD.op rfl rfl rfl (eff_sliceM (g := encC) (l := none) (h := some i) (r := l.take i) rfl rfl te32 rfl (fun _ => rfl) .no (.yes rfl rfl) (Nat.zero_le _) (by simp; omega) (by simp)) ?_
  refine RD.op rfl rfl rfl (eff_callT (sent_ret (l.take i) (by rw [List.length_take]; omega) (fun r hr => hq r (List.mem_of_mem_take hr))) co41 rfl rfl rfl rfl) ?_
  refine RD.op rfl rfl rfl (eff_callT (rights_ret T d _ hF.hp (fun y hy => (hF.nx y hy).mono (by decide)) hd (by have := hF.len; omega)) co40 rfl rfl rfl rfl) ?_
  refine RD.store rfl rfl rfl (eff_storeW (v := .t _) (els := [_]) (els' := [_]) rfl rfl ti4 rfl rfl rfl rfl rfl rfl rfl rfl rfl) ?_
  refine RD.store rfl rfl rfl (eff_storeW (v := .t _) (els := [_]) (els' := [_]) rfl rfl ti33 rfl rfl rfl rfl rfl rfl rfl rfl rfl) ?_
  refine RD.nil ?_
  rw [show rightsAt l d i = rights T d (sentN (l.take i)) from by rw [hT]; rfl]
  exact ⟨Or.inl rfl, [], [], trivial, rfl, weak_keep ⟨rfl, rfl, rfl, rfl, rfl, rfl, rfl, rfl, trivial⟩ ⟨rfl, okE_one rfl, rfl, okE_one rfl, rfl, okE_one rfl, rfl, okE_one rfl, trivial⟩, rfl⟩

theorem dvis_ret (l : List Rcd) (d : Dec) (i : Nat) (T : Twn) (hi : i < l.length) (hl : l.length ≤ 1000000) (hT : T = (runTo l i).1) (hF : Fit 12 T) (hq : ∀ r, r ∈ l → 0 ≤ r.frame.seq ∧ r.frame.seq ≤ 1000000) (hf : form l i = 0) :
    RetK Tryd.prog 65 [(1007, some ⟨1, 4, 0, [.t (.bool (fdN l d i))]⟩), (1002, some ⟨1, 32, 0, [.t (.sl (l.map encC) false)]⟩), (1003, some ⟨4, 28, 0, [.t (encD d)]⟩), (1006, some ⟨1, 33, 0, [.t (.sl ((outN l d i).map encR) (!fdN l d i))]⟩)] [.t (encI (i : Nat)), .t (encT T), .ptr 1007 0 0 0, .ptr 1002 0 0 0, .ptr 1003 0 0 0, .ptr 1006 0 0 0] [(1007, some ⟨1, 4, 0, [.t (.bool (fdN l d (i + 1)))]⟩), (1002, some ⟨1, 32, 0, [.t (.sl (l.map encC) false)]⟩), (1003, some ⟨4, 28, 0, [.t (encD d)]⟩), (1006, some ⟨1, 33, 0, [.t (.sl ((outN l d (i + 1)).map encR) (!fdN l d (i + 1)))]⟩)] (.tup []) [(2, .ptr 1007 0 0 0), (3, .ptr 1002 0 0 0), (4, .ptr 1003 0 0 0), (5, .ptr 1006 0 0 0)] := by
  cases h : fdN l d i with
  | true =>
    obtain ⟨e1, e2⟩ := fd_old h
    rw [e1, e2]
    exact dvis_t l d i T _ _ hi hl
  | false =>
    cases hn : isD l d i with
    | false =>
      obtain ⟨e1, e2⟩ := fd_no h hn
      rw [e1, e2]
      exact dvis_n l d i T _ _ hi hl hn
    | true =>
      obtain ⟨e1, e2⟩ := fd_yes h hn
      rw [e1, e2]
      have hk3 : (l[i]'hi).kind = 3 ∧ (l[i]'hi).dec = d := by
        rw [isD_at hi] at hn; exact of_decide_eq_true hn
      have := form_dec hi hf hk3.1
      rw [hk3.2] at this
      exact dvis_y l d i T _ _ hi hl hn hT hF hq (by omega)

end Go.Tv.C36

end
section
open Go Go.Tv Go.Proofs
namespace Go.Tv.C36
set_option maxRecDepth 20000
set_option maxHeartbeats 2000000
set_option linter.unusedSimpArgs false
set_option linter.unusedVariables false
theorem replay65_ret (l : List Rcd) (d : Dec) (hO : OKL l) : RetKT Tryd.prog 38 [(1, deT)] [(1007, some ⟨1, 4, 0, [.t (.bool (fdN l d 0))]⟩), (1002, some ⟨1, 32, 0, [.t (.sl (l.map encC) false)]⟩), (1003, some ⟨4, 28, 0, [.t (encD d)]⟩), (1006, some ⟨1, 33, 0, [.t (.sl ((outN l d 0).map encR) (!fdN l d 0))]⟩)] [.t (.sl (l.map encC) false), .fn 65 [.ptr 1007 0 0 0, .ptr 1002 0 0 0, .ptr 1003 0 0 0, .ptr 1006 0 0 0]] [(1007, some ⟨1, 4, 0, [.t (.bool (fdN l d (nvis l)))]⟩), (1002, some ⟨1, 32, 0, [.t (.sl (l.map encC) false)]⟩), (1003, some ⟨4, 28, 0, [.t (encD d)]⟩), (1006, some ⟨1, 33, 0, [.t (.sl ((outN l d (nvis l)).map encR) (!fdN l d (nvis l)))]⟩)] (.tup [.t (encT (allOf l).1), .t (encI (allOf l).2)]) [(1, .fn 65 [.ptr 1007 0 0 0, .ptr 1002 0 0 0, .ptr 1003 0 0 0, .ptr 1006 0 0 0])] := by
  refine retKT_of_awj (kp := fun i => Nat.beq i 1) Tryd.func38 rfl (Nat.le_of_ble_eq_true rfl) (by simp) ?_
  intro F0 w0
  refine awj_seq ?_
  refine awj_rj rfl ?_
  refine RJ.new rfl rfl (eff_allocK (k := 2) (id := 4) rfl rfl tz64 rfl rfl) ?_
  refine RJ.op rfl rfl (eff_assign (v := .t _) rfl rfl rfl) ?_
  refine RJ.nil ?_
  refine awj_seq ?_
  refine awj_seq ?_
  refine awj_rj rfl ?_
  refine RJ.op rfl rfl (eff_move (v := .t _) rfl rfl rfl) ?_
  refine RJ.op rfl rfl (eff_lenM rfl rfl te32 rfl) ?_
  refine RJ.op rfl rfl (eff_iop rfl rfl rfl rfl rfl) ?_
  refine RJ.nil ?_
  refine awj_cond rfl (fun h1 => ?_) (fun h1 => ?_)
  · try simp only [cl] at h1
    refine awj_seq ?_
    refine awj_rj rfl ?_
    refine RJ.op rfl rfl (eff_buildT (ys := [_, _]) rfl rfl tz64 tg64 rfl) ?_
    refine RJ.store rfl rfl (eff_storeW (v := .t _) (els := [_]) (els' := [_]) rfl rfl ti64 rfl rfl rfl rfl rfl rfl rfl rfl rfl) ?_
    refine RJ.op rfl rfl (eff_assign (v := .t _) rfl rfl rfl) ?_
    refine RJ.nil ?_
    refine awj_ret ?_
    rw [all_lim h1, nvis_lim h1]
    exact ⟨Or.inr rfl, [_, _], [.t (encT zt), .t _], ⟨.cell rfl ti64 (.whole rfl rfl rfl rfl rfl rfl), .tmp rfl, trivial⟩, rfl, Weak.trans (weak_slot 0 (y := encT zt) rfl (by repeat' first | exact trivial | exact Wk.refl _ | exact Wk.sl _ | refine And.intro ?_ ?_ | refine Wk.tupP ?_ | refine Wk.aggP ?_)) (weak_keep ⟨rfl, rfl, rfl, rfl, rfl, rfl, trivial⟩ ⟨rfl, okE_one rfl, rfl, okE_one rfl, rfl, okE_one rfl, rfl, okE_one rfl, trivial⟩), rfl⟩
  · try simp only [cl] at h1
    refine awj_skip ?_
    refine awj_seq ?_
    refine awj_rj rfl ?_
    refine RJ.op rfl rfl (eff_callT (new17_ret) co61 rfl rfl rfl rfl) ?_
    refine RJ.new rfl rfl (eff_allocK (k := 2) (id := 6) rfl rfl tz64 rfl rfl) ?_
    refine RJ.store rfl rfl (eff_storeW (v := .t _) (els := [_]) (els' := [_]) rfl rfl ti64 rfl rfl rfl rfl rfl rfl rfl rfl rfl) ?_
    refine RJ.nil ?_
    refine awj_seq ?_
    refine awj_seq ?_
    refine awj_rj rfl ?_
    refine RJ.op rfl rfl (eff_move (v := .t _) rfl rfl rfl) ?_
    refine RJ.op rfl rfl (eff_lenM rfl rfl te32 rfl) ?_
    refine RJ.op rfl rfl (eff_move (v := .t _) rfl rfl rfl) ?_
    refine RJ.nil ?_
    refine awj_block ?_
    refine awj_loopW (fun m s g => ∃ (i : Nat) (T : Twn), (i ≤ l.length) ∧ (T = (runTo l i).1) ∧ ((runTo l i).2 = 0) ∧ m = l.length - i ∧ s = ⟨63, [(0, .t (.sl (l.map encC) false)), (1, .fn 65 [.ptr 1007 0 0 0, .ptr 1002 0 0 0, .ptr 1003 0 0 0, .ptr 1006 0 0 0]), (4, .ptr 4 0 0 0), (6, .ptr 6 0 0 0), (17, .t (.sl (l.map encC) false)), (18, .t (encI (l.length : Nat))), (19, .t (encI (i : Nat))), (64, .t deT)], [(4, some ⟨2, 64, 0, [.t z64]⟩), (6, some ⟨2, 64, 0, [.t (encT T)]⟩), (1007, some ⟨1, 4, 0, [.t (.bool (fdN l d i))]⟩), (1002, some ⟨1, 32, 0, [.t (.sl (l.map encC) false)]⟩), (1003, some ⟨4, 28, 0, [.t (encD d)]⟩), (1006, some ⟨1, 33, 0, [.t (.sl ((outN l d i).map encR) (!fdN l d i))]⟩)]⟩) (_) (⟨_, weak_keep (n := 63) (fr' := [(0, .t (.sl (l.map encC) false)), (1, .fn 65 [.ptr 1007 0 0 0, .ptr 1002 0 0 0, .ptr 1003 0 0 0, .ptr 1006 0 0 0]), (4, .ptr 4 0 0 0), (6, .ptr 6 0 0 0), (17, .t (.sl (l.map encC) false)), (18, .t (encI (l.length : Nat))), (19, .t (encI (0 : Nat))), (64, .t deT)]) (st' := [(4, some ⟨2, 64, 0, [.t z64]⟩), (6, some ⟨2, 64, 0, [.t (encT newT)]⟩), (1007, some ⟨1, 4, 0, [.t (.bool (fdN l d 0))]⟩), (1002, some ⟨1, 32, 0, [.t (.sl (l.map encC) false)]⟩), (1003, some ⟨4, 28, 0, [.t (encD d)]⟩), (1006, some ⟨1, 33, 0, [.t (.sl ((outN l d 0).map encR) (!fdN l d 0))]⟩)]) ⟨rfl, rfl, rfl, rfl, rfl, rfl, rfl, rfl, rfl, rfl, rfl, rfl, rfl, rfl, rfl, rfl, trivial⟩ ⟨rfl, okE_one rfl, rfl, okE_one rfl, rfl, okE_one rfl, rfl, okE_one rfl, rfl, okE_one rfl, rfl, okE_one rfl, trivial⟩, 0, newT, (by omega), (by rfl), (by rfl), rfl, rfl⟩) ?_
    rintro m s g ⟨i, T, hi, hT, hok, rfl, rfl⟩
    refine awj_seq ?_
    refine awj_rj rfl ?_
    refine RJ.op rfl rfl (eff_iop rfl rfl rfl rfl rfl) ?_
    refine RJ.nil ?_
    refine awj_seq ?_
    refine awj_cond rfl (fun h2 => ?_) (fun h2 => ?_)
    · try simp only [cl] at h2
      refine awj_skip ?_
      refine awj_seq ?_
      refine awj_block ?_
      refine awj_seq ?_
      refine awj_rj rfl ?_
      have hil : i < l.length := by omega
      have hFit := runTo_fit12 hO (by omega) hok
      rw [← hT] at hFit
      refine RJ.op rfl rfl (eff_move (v := .t _) rfl rfl rfl) ?_
      refine RJ.op rfl rfl (eff_indexM rfl rfl te32 rfl rfl rfl (by first | assumption | exact List.getElem?_eq_getElem (by omega)) rfl (by decide)) ?_
      refine RJ.op rfl rfl (eff_loadW rfl rfl ti47 rfl rfl rfl) ?_
      refine RJ.new rfl rfl (eff_allocK (k := 15) (id := 8) rfl rfl tz47 rfl rfl) ?_
      refine RJ.op rfl rfl (eff_assign (v := .t _) rfl rfl rfl) ?_
      refine RJ.store rfl rfl (eff_storeW (v := .t _) (els := [_]) (els' := [_]) rfl rfl ti47 rfl rfl rfl rfl rfl rfl rfl rfl rfl) ?_
      refine RJ.nil ?_
      refine awj_seq ?_
      refine awj_seq ?_
      refine awj_rj rfl ?_
      refine RJ.op rfl rfl (eff_move (v := .t _) rfl rfl rfl) ?_
      refine RJ.op rfl rfl (eff_move (v := .t _) rfl rfl rfl) ?_
      refine RJ.op rfl rfl (eff_callT (form_ret l i hil (by have := hO.len; omega)) co62 rfl rfl rfl rfl) ?_
      refine RJ.op rfl rfl (eff_assign (v := .t _) rfl rfl rfl) ?_
      refine RJ.nil ?_
      refine awj_seq ?_
      refine awj_rj rfl ?_
      refine RJ.op rfl rfl (eff_move (v := .t _) rfl rfl rfl) ?_
      refine RJ.op rfl rfl (eff_iop rfl rfl rfl rfl rfl) ?_
      refine RJ.nil ?_
      refine awj_cond rfl (fun h3 => ?_) (fun h3 => ?_)
      · try simp only [cl] at h3
        refine awj_seq ?_
        refine awj_rj rfl ?_
        refine RJ.op rfl rfl (eff_buildT (ys := [_, _]) rfl rfl tz64 tg64 rfl) ?_
        refine RJ.op rfl rfl (eff_move (v := .t _) rfl rfl rfl) ?_
        refine RJ.store rfl rfl (eff_storeW (v := .t _) (els := [_]) (els' := [_]) rfl rfl ti64 rfl rfl rfl rfl rfl rfl rfl rfl rfl) ?_
        refine RJ.op rfl rfl (eff_assign (v := .t _) rfl rfl rfl) ?_
        refine RJ.nil ?_
        refine awj_ret ?_
        have hfx : form l i ≠ 0 := by omega
        rw [all_bad h1 hil (run_form hok hfx) hfx, nvis_form h1 hil hok hfx]
        exact ⟨Or.inr rfl, [_, _], [.t (encT zt), .t _], ⟨.cell rfl ti64 (.whole rfl rfl rfl rfl rfl rfl), .tmp rfl, trivial⟩, rfl, Weak.trans (weak_slot 0 (y := encT zt) rfl (by repeat' first | exact trivial | exact Wk.refl _ | exact Wk.sl _ | refine And.intro ?_ ?_ | refine Wk.tupP ?_ | refine Wk.aggP ?_)) (weak_keep ⟨rfl, rfl, rfl, rfl, rfl, rfl, trivial⟩ ⟨rfl, okE_one rfl, rfl, okE_one rfl, rfl, okE_one rfl, rfl, okE_one rfl, trivial⟩), rfl⟩
      · try simp only [cl] at h3
        refine awj_skip ?_
        refine awj_seq ?_
        refine awj_rj rfl ?_
        have hfo : form l i = 0 := by omega
        refine RJ.op rfl rfl (eff_move (v := .fn _ _) rfl rfl rfl) ?_
        refine RJ.op rfl rfl (eff_move (v := .t _) rfl rfl rfl) ?_
        refine RJ.op rfl rfl (eff_load rfl rfl ti64 rfl (.whole rfl rfl rfl rfl rfl rfl)) ?_
        refine RJ.new4 rfl rfl (eff_callKF (dvis_ret l d i T hil (by have := hO.len; omega) hT hFit hO.seq hfo) co65 (fun id => id) rfl rfl rfl ⟨.t _, .t _, .ptr _ _ _ _ rfl rfl, .ptr _ _ _ _ rfl rfl, .ptr _ _ _ _ rfl rfl, .ptr _ _ _ _ rfl rfl, trivial⟩ (.tup _ _ rfl (fun i c d h _ => by simp at h)) rfl ⟨⟨rfl, self_one, ⟨_, rfl, .inr ⟨rfl, rfl, rfl, rfl, 2, rfl, (by simp)⟩⟩⟩, ⟨rfl, self_one, ⟨_, rfl, .inr ⟨rfl, rfl, rfl, rfl, 3, rfl, (by simp)⟩⟩⟩, ⟨rfl, self_one, ⟨_, rfl, .inr ⟨rfl, rfl, rfl, rfl, 4, rfl, (by simp)⟩⟩⟩, ⟨rfl, self_one, ⟨_, rfl, .inr ⟨rfl, rfl, rfl, rfl, 5, rfl, (by simp)⟩⟩⟩, trivial⟩ ⟨⟨self_one, .inl rfl⟩, ⟨self_one, .inl rfl⟩, ⟨self_one, .inl rfl⟩, ⟨self_one, .inl rfl⟩, trivial⟩) ?_
        refine RJ.nil ?_
        refine awj_seq ?_
        refine awj_rj rfl ?_
        refine RJ.op rfl rfl (eff_assign (v := .t _) rfl rfl rfl) ?_
        refine RJ.nil ?_
        refine awj_seq ?_
        refine awj_rj rfl ?_
        refine RJ.op rfl rfl (eff_load rfl rfl ti64 rfl (.whole rfl rfl rfl rfl rfl rfl)) ?_
        refine RJ.new rfl rfl (eff_allocK (k := 2) (id := 11) rfl rfl tz64 rfl rfl) ?_
        refine RJ.store rfl rfl (eff_storeW (v := .t _) (els := [_]) (els' := [_]) rfl rfl ti64 rfl rfl rfl rfl rfl rfl rfl rfl rfl) ?_
        refine RJ.nil ?_
        refine awj_seq ?_
        refine awj_seq ?_
        refine awj_rj rfl ?_
        refine RJ.op rfl rfl (eff_fieldAddr rfl rfl tf47_1 (by decide) rfl rfl rfl (Nat.le_of_ble_eq_true rfl)) ?_
        refine RJ.op rfl rfl (eff_load (y := .t _) rfl rfl ti3 rfl (.one rfl rfl rfl rfl)) ?_
        refine RJ.nil ?_
        refine awj_block ?_
        refine awj_seq ?_
        refine awj_rj rfl ?_
        refine RJ.op rfl rfl (eff_iop rfl rfl rfl rfl rfl) ?_
        refine RJ.op rfl rfl (eff_assign (v := .t _) rfl rfl rfl) ?_
        refine RJ.nil ?_
        refine awj_cond rfl (fun h4 => ?_) (fun h4 => ?_)
        · try simp only [cl] at h4
          refine awj_rj rfl ?_
          refine RJ.op rfl rfl (eff_load rfl rfl ti64 rfl (.whole rfl rfl rfl rfl rfl rfl)) ?_
          refine RJ.op rfl rfl (eff_fieldAddr rfl rfl tf47_2 (by decide) rfl rfl rfl (Nat.le_of_ble_eq_true rfl)) ?_
          refine RJ.op rfl rfl (eff_loadS (ys := [_, _, _, _, _]) rfl rfl ti45 rfl rfl rfl rfl rfl rfl) ?_
          refine RJ.op rfl rfl (eff_callXT (tsend_ret T _ hFit.srt hFit.hp (by have := hFit.len; omega) (by have := hFit.sl; omega) hFit.bod (hO.bod _ (List.getElem_mem hil))) co63 rfl rfl rfl ⟨rfl, trivial⟩ rfl) ?_
          refine RJ.op rfl rfl (eff_move (v := .t _) rfl rfl rfl) ?_
          refine RJ.op rfl rfl (eff_extract rfl rfl rfl rfl) ?_
          refine RJ.op rfl rfl (eff_extract rfl rfl rfl rfl) ?_
          refine RJ.store rfl rfl (eff_storeW (v := .t _) (els := [_]) (els' := [_]) rfl rfl ti64 rfl rfl rfl rfl rfl rfl rfl rfl rfl) ?_
          refine RJ.op rfl rfl (eff_assign (v := .t _) rfl rfl rfl) ?_
          refine RJ.nil ?_
          refine awj_seq ?_
          refine awj_seq ?_
          refine awj_rj rfl ?_
          refine RJ.op rfl rfl (eff_move (v := .t _) rfl rfl rfl) ?_
          refine RJ.op rfl rfl (eff_iop rfl rfl rfl rfl rfl) ?_
          refine RJ.nil ?_
          refine awj_cond rfl (fun h5 => ?_) (fun h5 => ?_)
          · try simp only [cl] at h5
            refine awj_seq ?_
            refine awj_rj rfl ?_
            refine RJ.op rfl rfl (eff_buildT (ys := [_, _]) rfl rfl tz64 tg64 rfl) ?_
            refine RJ.op rfl rfl (eff_move (v := .t _) rfl rfl rfl) ?_
            refine RJ.store rfl rfl (eff_storeW (v := .t _) (els := [_]) (els' := [_]) rfl rfl ti64 rfl rfl rfl rfl rfl rfl rfl rfl rfl) ?_
            refine RJ.op rfl rfl (eff_assign (v := .t _) rfl rfl rfl) ?_
            refine RJ.nil ?_
            refine awj_ret ?_
            have hrb := bad_send hil hT hok hfo (by omega) (by omega)
            rw [all_bad h1 hil hrb (by omega), nvis_bad h1 hil hok hfo hrb (by omega)]
            exact ⟨Or.inr rfl, [_, _], [.t (encT zt), .t _], ⟨.cell rfl ti64 (.whole rfl rfl rfl rfl rfl rfl), .tmp rfl, trivial⟩, rfl, Weak.trans (weak_slot 0 (y := encT zt) rfl (by repeat' first | exact trivial | exact Wk.refl _ | exact Wk.sl _ | refine And.intro ?_ ?_ | refine Wk.tupP ?_ | refine Wk.aggP ?_)) (weak_keep ⟨rfl, rfl, rfl, rfl, rfl, rfl, trivial⟩ ⟨rfl, okE_one rfl, rfl, okE_one rfl, rfl, okE_one rfl, rfl, okE_one rfl, trivial⟩), rfl⟩
          · try simp only [cl] at h5
            refine awj_skip ?_
            refine awj_rj rfl ?_
            refine RJ.op rfl rfl (eff_load rfl rfl ti64 rfl (.whole rfl rfl rfl rfl rfl rfl)) ?_
            refine RJ.store rfl rfl (eff_storeW (v := .t _) (els := [_]) (els' := [_]) rfl rfl ti64 rfl rfl rfl rfl rfl rfl rfl rfl rfl) ?_
            refine RJ.nil ?_
            refine awj_rj rfl ?_
            refine RJ.op rfl rfl (eff_iop rfl rfl rfl rfl (iadd (by omega))) ?_
            refine RJ.op rfl rfl (eff_move (v := .t _) rfl rfl rfl) ?_
            refine RJ.nil ?_
            refine ⟨_, ?_, _, weak_keep (n := 63) (fr' := [(0, .t (.sl (l.map encC) false)), (1, .fn 65 [.ptr 1007 0 0 0, .ptr 1002 0 0 0, .ptr 1003 0 0 0, .ptr 1006 0 0 0]), (4, .ptr 4 0 0 0), (6, .ptr 6 0 0 0), (17, .t (.sl (l.map encC) false)), (18, .t (encI (l.length : Nat))), (19, .t (encI ((i + 1) : Nat))), (64, .t deT)]) (st' := [(4, some ⟨2, 64, 0, [.t z64]⟩), (6, some ⟨2, 64, 0, [.t (encT _)]⟩), (1007, some ⟨1, 4, 0, [.t (.bool (fdN l d (i + 1)))]⟩), (1002, some ⟨1, 32, 0, [.t (.sl (l.map encC) false)]⟩), (1003, some ⟨4, 28, 0, [.t (encD d)]⟩), (1006, some ⟨1, 33, 0, [.t (.sl ((outN l d (i + 1)).map encR) (!fdN l d (i + 1)))]⟩)]) ⟨rfl, rfl, rfl, rfl, rfl, rfl, rfl, rfl, rfl, rfl, rfl, rfl, rfl, rfl, rfl, rfl, trivial⟩ ⟨rfl, okE_one rfl, rfl, okE_one rfl, rfl, okE_one rfl, rfl, okE_one rfl, rfl, okE_one rfl, rfl, okE_one rfl, trivial⟩, i + 1, _, (by omega), (by first | rw [run_send hil hT hok hfo (by omega) (by omega)] | rw [run_hear hil hT hok hfo (by omega) (by omega)] | rw [run_dec hil hT hok hfo (by omega) (by omega)]), (by first | rw [run_send hil hT hok hfo (by omega) (by omega)] | rw [run_hear hil hT hok hfo (by omega) (by omega)] | rw [run_dec hil hT hok hfo (by omega) (by omega)]), rfl, rfl⟩
            omega
        · try simp only [cl] at h4
          refine awj_seq ?_
          refine awj_rj rfl ?_
          refine RJ.op rfl rfl (eff_iop rfl rfl rfl rfl rfl) ?_
          refine RJ.op rfl rfl (eff_assign (v := .t _) rfl rfl rfl) ?_
          refine RJ.nil ?_
          refine awj_cond rfl (fun h6 => ?_) (fun h6 => ?_)
          · try simp only [cl] at h6
            refine awj_rj rfl ?_
            refine RJ.op rfl rfl (eff_load rfl rfl ti64 rfl (.whole rfl rfl rfl rfl rfl rfl)) ?_
            refine RJ.op rfl rfl (eff_fieldAddr rfl rfl tf47_3 (by decide) rfl rfl rfl (Nat.le_of_ble_eq_true rfl)) ?_
            refine RJ.op rfl rfl (eff_loadS (ys := [_, _, _, _]) rfl rfl ti23 rfl rfl rfl rfl rfl rfl) ?_
            refine RJ.op rfl rfl (eff_callXT (thear_ret T _ (hO.hp _ (List.getElem_mem hil)) (by have := hFit.len; omega) (by have := hFit.sl; omega) hFit.bod) co64 rfl rfl rfl ⟨rfl, trivial⟩ rfl) ?_
            refine RJ.op rfl rfl (eff_move (v := .t _) rfl rfl rfl) ?_
            refine RJ.op rfl rfl (eff_extract rfl rfl rfl rfl) ?_
            refine RJ.op rfl rfl (eff_extract rfl rfl rfl rfl) ?_
            refine RJ.store rfl rfl (eff_storeW (v := .t _) (els := [_]) (els' := [_]) rfl rfl ti64 rfl rfl rfl rfl rfl rfl rfl rfl rfl) ?_
            refine RJ.op rfl rfl (eff_assign (v := .t _) rfl rfl rfl) ?_
            refine RJ.nil ?_
            refine awj_seq ?_
            refine awj_seq ?_
            refine awj_rj rfl ?_
            refine RJ.op rfl rfl (eff_move (v := .t _) rfl rfl rfl) ?_
            refine RJ.op rfl rfl (eff_iop rfl rfl rfl rfl rfl) ?_
            refine RJ.nil ?_
            refine awj_cond rfl (fun h7 => ?_) (fun h7 => ?_)
            · try simp only [cl] at h7
              refine awj_seq ?_
              refine awj_rj rfl ?_
              refine RJ.op rfl rfl (eff_buildT (ys := [_, _]) rfl rfl tz64 tg64 rfl) ?_
              refine RJ.op rfl rfl (eff_move (v := .t _) rfl rfl rfl) ?_
              refine RJ.store rfl rfl (eff_storeW (v := .t _) (els := [_]) (els' := [_]) rfl rfl ti64 rfl rfl rfl rfl rfl rfl rfl rfl rfl) ?_
              refine RJ.op rfl rfl (eff_assign (v := .t _) rfl rfl rfl) ?_
              refine RJ.nil ?_
              refine awj_ret ?_
              have hrb := bad_hear hil hT hok hfo (by omega) (by omega)
              rw [all_bad h1 hil hrb (by omega), nvis_bad h1 hil hok hfo hrb (by omega)]
              exact ⟨Or.inr rfl, [_, _], [.t (encT zt), .t _], ⟨.cell rfl ti64 (.whole rfl rfl rfl rfl rfl rfl), .tmp rfl, trivial⟩, rfl, Weak.trans (weak_slot 0 (y := encT zt) rfl (by repeat' first | exact trivial | exact Wk.refl _ | exact Wk.sl _ | refine And.intro ?_ ?_ | refine Wk.tupP ?_ | refine Wk.aggP ?_)) (weak_keep ⟨rfl, rfl, rfl, rfl, rfl, rfl, trivial⟩ ⟨rfl, okE_one rfl, rfl, okE_one rfl, rfl, okE_one rfl, rfl, okE_one rfl, trivial⟩), rfl⟩
            · try simp only [cl] at h7
              refine awj_skip ?_
              refine awj_rj rfl ?_
              refine RJ.op rfl rfl (eff_load rfl rfl ti64 rfl (.whole rfl rfl rfl rfl rfl rfl)) ?_
              refine RJ.store rfl rfl (eff_storeW (v := .t _) (els := [_]) (els' := [_]) rfl rfl ti64 rfl rfl rfl rfl rfl rfl rfl rfl rfl) ?_
              refine RJ.nil ?_
              refine awj_rj rfl ?_
              refine RJ.op rfl rfl (eff_iop rfl rfl rfl rfl (iadd (by omega))) ?_
              refine RJ.op rfl rfl (eff_move (v := .t _) rfl rfl rfl) ?_
              refine RJ.nil ?_
              refine ⟨_, ?_, _, weak_keep (n := 63) (fr' := [(0, .t (.sl (l.map encC) false)), (1, .fn 65 [.ptr 1007 0 0 0, .ptr 1002 0 0 0, .ptr 1003 0 0 0, .ptr 1006 0 0 0]), (4, .ptr 4 0 0 0), (6, .ptr 6 0 0 0), (17, .t (.sl (l.map encC) false)), (18, .t (encI (l.length : Nat))), (19, .t (encI ((i + 1) : Nat))), (64, .t deT)]) (st' := [(4, some ⟨2, 64, 0, [.t z64]⟩), (6, some ⟨2, 64, 0, [.t (encT _)]⟩), (1007, some ⟨1, 4, 0, [.t (.bool (fdN l d (i + 1)))]⟩), (1002, some ⟨1, 32, 0, [.t (.sl (l.map encC) false)]⟩), (1003, some ⟨4, 28, 0, [.t (encD d)]⟩), (1006, some ⟨1, 33, 0, [.t (.sl ((outN l d (i + 1)).map encR) (!fdN l d (i + 1)))]⟩)]) ⟨rfl, rfl, rfl, rfl, rfl, rfl, rfl, rfl, rfl, rfl, rfl, rfl, rfl, rfl, rfl, rfl, trivial⟩ ⟨rfl, okE_one rfl, rfl, okE_one rfl, rfl, okE_one rfl, rfl, okE_one rfl, rfl, okE_one rfl, rfl, okE_one rfl, trivial⟩, i + 1, _, (by omega), (by first | rw [run_send hil hT hok hfo (by omega) (by omega)] | rw [run_hear hil hT hok hfo (by omega) (by omega)] | rw [run_dec hil hT hok hfo (by omega) (by omega)]), (by first | rw [run_send hil hT hok hfo (by omega) (by omega)] | rw [run_hear hil hT hok hfo (by omega) (by omega)] | rw [run_dec hil hT hok hfo (by omega) (by omega)]), rfl, rfl⟩
              omega
          · try simp only [cl] at h6
            refine awj_skip ?_
            refine awj_seq ?_
            refine awj_seq ?_
            refine awj_rj rfl ?_
            refine RJ.op rfl rfl (eff_move (v := .t _) rfl rfl rfl) ?_
            refine RJ.op rfl rfl (eff_iop rfl rfl rfl rfl rfl) ?_
            refine RJ.nil ?_
            refine awj_cond rfl (fun h8 => ?_) (fun h8 => ?_)
            · try simp only [cl] at h8
              refine awj_seq ?_
              refine awj_rj rfl ?_
              refine RJ.op rfl rfl (eff_buildT (ys := [_, _]) rfl rfl tz64 tg64 rfl) ?_
              refine RJ.op rfl rfl (eff_move (v := .t _) rfl rfl rfl) ?_
              refine RJ.store rfl rfl (eff_storeW (v := .t _) (els := [_]) (els' := [_]) rfl rfl ti64 rfl rfl rfl rfl rfl rfl rfl rfl rfl) ?_
              refine RJ.op rfl rfl (eff_assign (v := .t _) rfl rfl rfl) ?_
              refine RJ.nil ?_
              refine awj_ret ?_
              exact absurd trivial ‹¬ True›
            · try simp only [cl] at h8
              refine awj_skip ?_
              refine awj_rj rfl ?_
              refine RJ.op rfl rfl (eff_load rfl rfl ti64 rfl (.whole rfl rfl rfl rfl rfl rfl)) ?_
              refine RJ.store rfl rfl (eff_storeW (v := .t _) (els := [_]) (els' := [_]) rfl rfl ti64 rfl rfl rfl rfl rfl rfl rfl rfl rfl) ?_
              refine RJ.nil ?_
              refine awj_rj rfl ?_
              refine RJ.op rfl rfl (eff_iop rfl rfl rfl rfl (iadd (by omega))) ?_
              refine RJ.op rfl rfl (eff_move (v := .t _) rfl rfl rfl) ?_
              refine RJ.nil ?_
              refine ⟨_, ?_, _, weak_keep (n := 63) (fr' := [(0, .t (.sl (l.map encC) false)), (1, .fn 65 [.ptr 1007 0 0 0, .ptr 1002 0 0 0, .ptr 1003 0 0 0, .ptr 1006 0 0 0]), (4, .ptr 4 0 0 0), (6, .ptr 6 0 0 0), (17, .t (.sl (l.map encC) false)), (18, .t (encI (l.length : Nat))), (19, .t (encI ((i + 1) : Nat))), (64, .t deT)]) (st' := [(4, some ⟨2, 64, 0, [.t z64]⟩), (6, some ⟨2, 64, 0, [.t (encT _)]⟩), (1007, some ⟨1, 4, 0, [.t (.bool (fdN l d (i + 1)))]⟩), (1002, some ⟨1, 32, 0, [.t (.sl (l.map encC) false)]⟩), (1003, some ⟨4, 28, 0, [.t (encD d)]⟩), (1006, some ⟨1, 33, 0, [.t (.sl ((outN l d (i + 1)).map encR) (!fdN l d (i + 1)))]⟩)]) ⟨rfl, rfl, rfl, rfl, rfl, rfl, rfl, rfl, rfl, rfl, rfl, rfl, rfl, rfl, rfl, rfl, trivial⟩ ⟨rfl, okE_one rfl, rfl, okE_one rfl, rfl, okE_one rfl, rfl, okE_one rfl, rfl, okE_one rfl, rfl, okE_one rfl, trivial⟩, i + 1, _, (by omega), (by first | rw [run_send hil hT hok hfo (by omega) (by omega)] | rw [run_hear hil hT hok hfo (by omega) (by omega)] | rw [run_dec hil hT hok hfo (by omega) (by omega)]), (by first | rw [run_send hil hT hok hfo (by omega) (by omega)] | rw [run_hear hil hT hok hfo (by omega) (by omega)] | rw [run_dec hil hT hok hfo (by omega) (by omega)]), rfl, rfl⟩
              omega
    · try simp only [cl] at h2
      refine awj_exit ?_
      refine awj_seq ?_
      refine awj_rj rfl ?_
      refine RJ.op rfl rfl (eff_load rfl rfl ti64 rfl (.whole rfl rfl rfl rfl rfl rfl)) ?_
      refine RJ.store rfl rfl (eff_storeW (v := .t _) (els := [_]) (els' := [_]) rfl rfl ti64 rfl rfl rfl rfl rfl rfl rfl rfl rfl) ?_
      refine RJ.op rfl rfl (eff_assign (v := .t _) rfl rfl rfl) ?_
      refine RJ.nil ?_
      refine awj_ret ?_
      have hi2 : i = l.length := by omega
      subst hi2
      rw [all_ok h1 hok, nvis_ok h1 hok, ← hT]
      exact ⟨Or.inr rfl, [_, _], [.t (encT T), .t _], ⟨.cell rfl ti64 (.whole rfl rfl rfl rfl rfl rfl), .tmp rfl, trivial⟩, rfl, Weak.trans (weak_slot 0 (y := encT T) rfl (by repeat' first | exact trivial | exact Wk.refl _ | exact Wk.sl _ | refine And.intro ?_ ?_ | refine Wk.tupP ?_ | refine Wk.aggP ?_)) (weak_keep ⟨rfl, rfl, rfl, rfl, rfl, rfl, trivial⟩ ⟨rfl, okE_one rfl, rfl, okE_one rfl, rfl, okE_one rfl, rfl, okE_one rfl, trivial⟩), rfl⟩

end Go.Tv.C36

end
section
open Go Go.Tv Go.Proofs
namespace Go.Tv.C36
set_option maxRecDepth 20000
set_option maxHeartbeats 2000000
set_option linter.unusedSimpArgs false
set_option linter.unusedVariables false
theorem defence_ret (l : List Rcd) (d : Dec) (hO : OKL l) : RetT Tryd.prog 43 [(1, deT)] [.sl (l.map encC) false, encD d] (.tup [.sl ((defence l d).1.map encR) false, encI (defence l d).2]) := by
  refine retT_of_awp Tryd.func43 rfl (Nat.le_of_ble_eq_true rfl) ?_
  refine awp_seq ?_
  refine awp_rw rfl ?_
  refine RW.new rfl rfl (eff_boxK (v := .t _) (k := 1) (id := 2) rfl rfl rfl rfl rfl rfl) ?_
  refine RW.new rfl rfl (eff_boxK (v := .t _) (k := 4) (id := 3) rfl rfl rfl rfl rfl rfl) ?_
  refine asT ?_
  refine asT ?_
  refine RW.nil ?_
  refine awp_seq ?_
  refine awp_rw rfl ?_
  refine RW.new rfl rfl (eff_allocK (k := 1) (id := 6) rfl rfl tz33 rfl rfl) ?_
  refine RW.nil ?_
  refine awp_seq ?_
  refine awp_rw rfl ?_
  refine RW.new rfl rfl (eff_allocK (k := 1) (id := 7) rfl rfl tz4 rfl rfl) ?_
  refine RW.store rfl rfl (eff_storeW (v := .t _) (els := [_]) (els' := [_]) rfl rfl ti4 rfl rfl rfl rfl rfl rfl rfl rfl rfl) ?_
  refine RW.nil ?_
  refine awp_seq ?_
  refine awp_rw rfl ?_
  refine l1T ti32 rfl rfl rfl rfl rfl (.one rfl rfl rfl rfl) ?_
  refine RW.op rfl rfl (eff_makeFunc rfl rfl rfl rfl) ?_
  refine RW.new4 rfl rfl (eff_callKT (r' := .tup [.t _, .t _]) (replay65_ret l d hO) co38 (fun id => id - 1000) rfl rfl rfl ⟨rfl, trivial⟩ ⟨.t _, .fnL ⟨.ptr _ _ _ _ rfl rfl, .ptr _ _ _ _ rfl rfl, .ptr _ _ _ _ rfl rfl, .ptr _ _ _ _ rfl rfl, trivial⟩, trivial⟩ (.tupL ⟨.t _, .t _, trivial⟩) rfl ⟨⟨rfl, self_one, ⟨_, rfl, .inr ⟨rfl, rfl, rfl, rfl, 1, _, rfl, List.mem_singleton.2 rfl, .inr ⟨_, _, 0, rfl, rfl⟩⟩⟩⟩, ⟨rfl, self_one, ⟨_, rfl, .inr ⟨rfl, rfl, rfl, rfl, 1, _, rfl, List.mem_singleton.2 rfl, .inr ⟨_, _, 1, rfl, rfl⟩⟩⟩⟩, ⟨rfl, self_one, ⟨_, rfl, .inr ⟨rfl, rfl, rfl, rfl, 1, _, rfl, List.mem_singleton.2 rfl, .inr ⟨_, _, 2, rfl, rfl⟩⟩⟩⟩, ⟨rfl, self_one, ⟨_, rfl, .inr ⟨rfl, rfl, rfl, rfl, 1, _, rfl, List.mem_singleton.2 rfl, .inr ⟨_, _, 3, rfl, rfl⟩⟩⟩⟩, trivial⟩ ⟨⟨self_one, .inl rfl⟩, ⟨self_one, .inl rfl⟩, ⟨self_one, .inl rfl⟩, ⟨self_one, .inl rfl⟩, trivial⟩) ?_
  refine RW.op rfl rfl (eff_move (v := .tup _) rfl rfl rfl) ?_
  refine RW.op rfl rfl (eff_extractA rfl rfl rfl rfl) ?_
  refine RW.op rfl rfl (eff_extractA rfl rfl rfl rfl) ?_
  refine RW.new rfl rfl (eff_allocK (k := 2) (id := 8) rfl rfl tz64 rfl rfl) ?_
  refine RW.store rfl rfl (eff_storeW (v := .t _) (els := [_]) (els' := [_]) rfl rfl ti64 rfl rfl rfl rfl rfl rfl rfl rfl rfl) ?_
  refine asT ?_
  refine RW.nil ?_
  refine awp_seq ?_
  refine awp_block ?_
  refine awp_seq ?_
  refine awp_rw rfl ?_
  refine mvT ?_
  refine ioT ?_
  refine asT ?_
  refine RW.nil ?_
  refine awp_cond rfl (fun h1 => ?_) (fun h1 => ?_)
  · try simp only [cl] at h1
    refine awp_seq ?_
    refine awp_rw rfl ?_
    refine mvT ?_
    refine asT ?_
    refine asT ?_
    refine RW.nil ?_
    refine awp_ret ?_
    rw [defence_bad (all_zt h1) h1]
    exact ⟨Or.inr rfl, [_, _], ⟨.tmp (.t _), .tmp (.t _), trivial⟩, (by repeat' first | exact trivial | exact Wk.refl _ | exact Wk.sl _ | refine And.intro ?_ ?_ | refine Wk.tupP ?_ | refine Wk.aggP ?_)⟩
  · try simp only [cl] at h1
    refine awp_seq ?_
    refine awp_rw rfl ?_
    refine l1T ti4 rfl rfl rfl rfl rfl (.one rfl rfl rfl rfl) ?_
    refine RW.op rfl rfl (eff_unop rfl rfl rfl rfl) ?_
    refine asT ?_
    refine RW.nil ?_
    refine awp_cond rfl (fun h2 => ?_) (fun h2 => ?_)
    · try simp only [cl] at h2
      refine awp_seq ?_
      refine awp_rw rfl ?_
      refine asT ?_
      refine asT ?_
      refine RW.nil ?_
      refine awp_ret ?_
      rw [defence_none (by omega) (by first | assumption | simpa using h2)]
      exact ⟨Or.inr rfl, [_, _], ⟨.tmp (.t _), .tmp (.t _), trivial⟩, (by repeat' first | exact trivial | exact Wk.refl _ | exact Wk.sl _ | refine And.intro ?_ ?_ | refine Wk.tupP ?_ | refine Wk.aggP ?_)⟩
    · try simp only [cl] at h2
      refine awp_skip ?_
      refine awp_seq ?_
      refine awp_rw rfl ?_
      refine l1T ti33 rfl rfl rfl rfl rfl (.one rfl rfl rfl rfl) ?_
      refine asT ?_
      refine asT ?_
      refine RW.nil ?_
      refine awp_ret ?_
      rw [defence_some (by omega) (by first | assumption | simpa using h2)]
      exact ⟨Or.inr rfl, [_, _], ⟨.tmp (.t _), .tmp (.t _), trivial⟩, (by repeat' first | exact trivial | exact Wk.refl _ | exact Wk.sl _ | (rw [h2]; exact Wk.refl _) | refine And.intro ?_ ?_ | refine Wk.tupP ?_ | refine Wk.aggP ?_)⟩

theorem judge_ret (l : List Rcd) (d : Dec) (hO : OKL l) : RetT Tryd.prog 22 [(1, deT)] [.sl (l.map encC) false, encD d] (.tup [encV (judge l d).1, encI (judge l d).2]) := by
  refine retT_of_awp Tryd.func22 rfl (Nat.le_of_ble_eq_true rfl) ?_
  refine awp_seq ?_
  refine awp_rw rfl ?_
  refine RW.new rfl rfl (eff_boxK (v := .t _) (k := 4) (id := 3) rfl rfl rfl rfl rfl rfl) ?_
  refine RW.new rfl rfl (eff_allocK (k := 5) (id := 4) rfl rfl tz49 rfl rfl) ?_
  refine asT ?_
  refine RW.nil ?_
  refine awp_seq ?_
  refine awp_rw rfl ?_
  refine mvT ?_
  refine RW.op rfl rfl (eff_load rfl rfl ti28 rfl (.whole rfl rfl rfl rfl rfl rfl)) ?_
  refine RW.op rfl rfl (eff_callXT (defence_ret l d hO) co43 rfl rfl rfl ⟨rfl, trivial⟩ rfl) ?_
  refine mvT ?_
  refine RW.op rfl rfl (eff_extract rfl rfl rfl rfl) ?_
  refine RW.op rfl rfl (eff_extract rfl rfl rfl rfl) ?_
  refine asT ?_
  refine asT ?_
  refine RW.nil ?_
  refine awp_seq ?_
  refine awp_seq ?_
  refine awp_rw rfl ?_
  refine mvT ?_
  refine ioT ?_
  refine RW.nil ?_
  refine awp_cond rfl (fun h1 => ?_) (fun h1 => ?_)
  · try simp only [cl] at h1
    refine awp_seq ?_
    refine awp_rw rfl ?_
    refine RW.op rfl rfl (eff_buildT (ys := [_, _, _, _, _]) rfl rfl tz49 tg49 rfl) ?_
    refine mvT ?_
    refine RW.store rfl rfl (eff_storeW (v := .t _) (els := [_]) (els' := [_]) rfl rfl ti49 rfl rfl rfl rfl rfl rfl rfl rfl rfl) ?_
    refine asT ?_
    refine RW.nil ?_
    refine awp_ret ?_
    rw [judge_err h1]
    exact ⟨Or.inr rfl, [_, _], ⟨.cell rfl ti49 (.whole rfl rfl rfl rfl rfl rfl) (.t _), .tmp (.t _), trivial⟩, .refl _⟩
  · try simp only [cl] at h1
    refine awp_skip ?_
    refine awp_seq ?_
    refine awp_seq ?_
    refine awp_rw rfl ?_
    have hdl := defence_len hO d
    refine mvT ?_
    refine RW.op rfl rfl (eff_lenM rfl rfl te33 rfl) ?_
    refine ioT ?_
    refine RW.nil ?_
    refine awp_cond rfl (fun h2 => ?_) (fun h2 => ?_)
    · try simp only [cl] at h2
      refine awp_seq ?_
      refine awp_rw rfl ?_
      refine RW.op rfl rfl (eff_buildT (ys := [_, _, _, _, _]) rfl rfl tz49 tg49 rfl) ?_
      refine RW.store rfl rfl (eff_storeW (v := .t _) (els := [_]) (els' := [_]) rfl rfl ti49 rfl rfl rfl rfl rfl rfl rfl rfl rfl) ?_
      refine asT ?_
      refine RW.nil ?_
      refine awp_ret ?_
      rw [judge_nil (by omega) h2]
      exact ⟨Or.inr rfl, [_, _], ⟨.cell rfl ti49 (.whole rfl rfl rfl rfl rfl rfl) (.t _), .tmp (.t _), trivial⟩, .refl _⟩
    · try simp only [cl] at h2
      refine awp_skip ?_
      refine awp_seq ?_
      refine awp_rw rfl ?_
      have hd0 : 0 < (defence l d).1.length := by omega
      refine mvT ?_
      refine RW.op rfl rfl (eff_indexM (i := 0) rfl rfl te33 rfl rfl (by first | rfl | omega) (by exact List.getElem?_eq_getElem (by omega)) rfl (by decide)) ?_
      refine RW.op rfl rfl (eff_loadW rfl rfl ti23 rfl rfl rfl) ?_
      refine RW.op rfl rfl (eff_buildT (ys := [_, _, _, _, _]) rfl rfl tz49 tg49 rfl) ?_
      refine RW.store rfl rfl (eff_storeW (v := .t _) (els := [_]) (els' := [_]) rfl rfl ti49 rfl rfl rfl rfl rfl rfl rfl rfl rfl) ?_
      refine asT ?_
      refine RW.nil ?_
      refine awp_ret ?_
      rw [judge_cons (by omega) hd0]
      exact ⟨Or.inr rfl, [_, _], ⟨.cell rfl ti49 (.whole rfl rfl rfl rfl rfl rfl) (.t _), .tmp (.t _), trivial⟩, .refl _⟩

end Go.Tv.C36

end
section
open Go Go.Tv Go.Proofs
namespace Go.Tv.C36
set_option maxRecDepth 20000
set_option maxHeartbeats 2000000
set_option linter.unusedSimpArgs false
set_option linter.unusedVariables false
theorem hRn {R : List Rep} {k : Int} (h : (decide (k = 3) && R.isEmpty) = false) (hk : k = 3) : (R.length : Int) ≠ 0 := by
  intro hl
  rw [decide_eq_true hk, List.length_eq_zero_iff.1 (show R.length = 0 by omega)] at h
  cases h

theorem hvis_n (l : List Rcd) (i : Nat) (T : Twn) (hi : i < l.length) (hl : l.length ≤ 1000000) (hT : T = (runTo l i).1) (hF : Fit 12 T) (hq : ∀ r, r ∈ l → 0 ≤ r.frame.seq ∧ r.frame.seq ≤ 1000000) (hf : form l i = 0) (hn : heldAt l i = false) : RetK Tryd.prog 39 [(1001, some ⟨1, 32, 0, [.t (.sl (l.map encC) false)]⟩), (1004, some ⟨1, 26, 0, [.own 1100 i 0 (heldTo l i).length]⟩), (1100, some ⟨1, 3, i, ((heldTo l i).map encN).map .t⟩)] [.t (encI (i : Nat)), .t (encT T), .ptr 1001 0 0 0, .ptr 1004 0 0 0] [(1001, some ⟨1, 32, 0, [.t (.sl (l.map encC) false)]⟩), (1004, some ⟨1, 26, 0, [.own 1100 (i + 1) 0 (heldTo l i).length]⟩), (1100, some ⟨1, 3, (i + 1), ((heldTo l i).map encN).map .t⟩)] (.tup []) [(2, .ptr 1001 0 0 0), (3, .ptr 1004 0 0 0)] := by
  have hRE : rightsAt l (l[i]'hi).dec i = (rights T (l[i]'hi).dec (sentN (l.take i))) := by rw [hT]; rfl
  have hhl := heldTo_len l i
  rw [heldAt_at hi, hRE] at hn
  refine retK_of_awj (kp := fun i => Nat.beq i 2 || Nat.beq i 3) Tryd.func39 rfl (Nat.le_of_ble_eq_true rfl) (by simp) ?_
  intro F0 w0
  refine awj_seq ?_
  refine awj_rj rfl ?_
  refine RJ.new rfl rfl (eff_boxK (v := .t _) (k := 2) (id := 5) rfl rfl rfl rfl rfl rfl) ?_
  refine RJ.nil ?_
  refine awj_seq ?_
  by_cases hc1 : (l[i]'hi).kind = 3
  · refine awj_rd [(some 6, []), (some 7, []), (some 8, []), (some 9, []), (some 10, []), (some 11, []), (some 12, []), (some 13, []), (some 14, []), (some 15, []), (some 16, []), (some 17, []), (some 18, []), (some 19, []), (some 20, []), (some 21, []), (some 22, []), (some 23, []), (some 24, []), (some 25, []), (some 26, [])] [[], [], [0, 1], [0, 1, 2], [0, 1, 2, 3], [0, 1, 2, 3, 4], [0, 1, 2, 3, 4, 5], [0, 1, 2, 3, 4, 5, 6], [0, 1, 2, 3, 4, 5, 6], [0, 1, 2, 3, 4, 5, 6], [0, 1, 2, 3, 4, 5, 6, 8, 9], [0, 1, 2, 3, 4, 5, 6, 8, 9, 10], [0, 1, 2, 3, 4, 5, 6, 8, 9, 10, 11], [0, 1, 2, 3, 4, 5, 6], [0, 1, 2, 3, 4, 5, 6], [0, 1, 2, 3, 4, 5, 6, 13, 14], [0, 1, 2, 3, 4, 5, 6, 13, 14, 15], [0, 1, 2, 3, 4, 5, 6, 7, 8, 9, 10, 11, 12, 13, 14, 15, 16], [0, 1, 2, 3, 4, 5, 6, 7, 8, 9, 10, 11, 12, 13, 14, 15, 16, 17], [0, 1, 2, 3, 4, 5, 6, 7, 8, 9, 10, 11, 12, 13, 14, 15, 16, 17, 18], [0, 1, 2, 3, 4, 5, 6, 7, 8, 9, 10, 11, 12, 13, 14, 15, 16, 17, 18, 19]] tm rfl rfl rfl rfl ?_
    refine RD.op rfl rfl rfl (eff_load (y := .t _) rfl rfl ti32 rfl (.one rfl rfl rfl rfl)) ?_
    refine mvD ?_
    refine RD.op rfl rfl rfl (eff_indexM (i := i) rfl rfl te32 rfl rfl (by first | rfl | omega) (by first | assumption | exact List.getElem?_eq_getElem (by omega)) rfl (by decide)) ?_
    refine RD.op rfl rfl rfl (eff_fieldAddrT rfl rfl tf47_1 (by decide) rfl) ?_
    refine RD.op rfl rfl rfl (eff_loadT1 rfl rfl ti3 rfl rfl) ?_
    refine RD.op rfl rfl rfl (eff_iop (r := .bool true) rfl rfl rfl rfl (by simp [iop, hc1])) ?_
    refine mvD ?_
    refine RD.gop rfl rfl rfl rfl rfl rfl rfl (eff_load rfl rfl ti64 rfl (.whole rfl rfl rfl rfl rfl rfl)) ?_
    refine RD.gop rfl rfl rfl rfl rfl rfl rfl (eff_load (y := .t _) rfl rfl ti32 rfl (.one rfl rfl rfl rfl)) ?_
    refine RD.gop rfl rfl rfl rfl rfl rfl rfl (eff_move (v := .t _) rfl rfl rfl) ?_
    refine RD.gop rfl rfl rfl rfl rfl rfl rfl (eff_indexM (i := i) rfl rfl te32 rfl rfl (by first | rfl | omega) (by first | assumption | exact List.getElem?_eq_getElem (by omega)) rfl (by decide)) ?_
    refine RD.gop rfl rfl rfl rfl rfl rfl rfl (eff_fieldAddrT rfl rfl tf47_4 (by decide) rfl) ?_
    refine RD.gop rfl rfl rfl rfl rfl rfl rfl (eff_loadT (ys := [_, _, _, _]) rfl rfl ti28 rfl rfl rfl) ?_
    refine RD.gop rfl rfl rfl rfl rfl rfl rfl (eff_load (y := .t _) rfl rfl ti32 rfl (.one rfl rfl rfl rfl)) ?_
    refine RD.gop rfl rfl rfl rfl rfl rfl rfl (eff_move (v := .t _) rfl rfl rfl) ?_
    refine RD.gop rfl rfl rfl rfl rfl rfl rfl (eff_sliceM (g := encC) (l := none) (h := some i) (r := l.take i) rfl rfl te32 rfl (fun _ => rfl) .no (.yes rfl rfl) (Nat.zero_le _) (by simp; omega) (by simp)) ?_
    refine RD.gop rfl rfl rfl rfl rfl rfl rfl (eff_callT (sent_ret (l.take i) (by rw [List.length_take]; omega) (fun r hr => hq r (List.mem_of_mem_take hr))) co41 rfl rfl rfl rfl) ?_
    refine RD.gop rfl rfl rfl rfl rfl rfl rfl (eff_callT (rights_ret T _ _ hF.hp (fun y hy => (hF.nx y hy).mono (by decide)) (by have := form_dec hi hf hc1; omega) (by have := hF.len; omega)) co40 rfl rfl rfl rfl) ?_
    refine RD.gop rfl rfl rfl rfl rfl rfl rfl (eff_lenM rfl rfl te33 rfl) ?_
    refine RD.gop rfl rfl rfl rfl rfl rfl rfl (eff_iop (r := .bool false) rfl rfl rfl rfl (by exact congrArg (fun b => some (Tr.bool b)) (beq_eq_false_iff_ne.2 (hRn hn hc1)))) ?_
    refine RD.op rfl rfl rfl (eff_pick (v := .t _) rfl rfl rfl rfl) ?_
    refine RD.nil ?_
    refine awj_cond rfl (fun h => nomatch h) (fun _ => ?_)
    refine awj_skip ?_
    exact ⟨Or.inl rfl, [], [], trivial, rfl, weak_gen ⟨.ptr 1001 0 0 0 0 rfl rfl rfl rfl rfl rfl, .ptr 1004 0 0 0 0 rfl rfl rfl rfl rfl rfl, trivial⟩ ⟨⟨_, rfl, rfl, rfl, rfl, gen_t1⟩, ⟨_, rfl, rfl, rfl, rfl, gen_own1 (.own 1100 _ _ 0 _ rfl rfl rfl rfl rfl rfl rfl)⟩, ⟨_, rfl, rfl, rfl, rfl, gen_trees⟩, trivial⟩, rfl⟩
  · refine awj_rd [(some 6, []), (some 7, []), (some 8, []), (some 9, []), (some 10, []), (some 11, []), (some 12, []), (some 13, []), (some 14, []), (some 15, []), (some 16, []), (some 17, []), (some 18, []), (some 19, []), (some 20, []), (some 21, []), (some 22, []), (some 23, []), (some 24, []), (some 25, []), (some 26, [])] [[], [], [0, 1], [0, 1, 2], [0, 1, 2, 3], [0, 1, 2, 3, 4], [0, 1, 2, 3, 4, 5], [0, 1, 2, 3, 4, 5, 6], [0, 1, 2, 3, 4, 5, 6], [0, 1, 2, 3, 4, 5, 6], [0, 1, 2, 3, 4, 5, 6, 8, 9], [0, 1, 2, 3, 4, 5, 6, 8, 9, 10], [0, 1, 2, 3, 4, 5, 6, 8, 9, 10, 11], [0, 1, 2, 3, 4, 5, 6], [0, 1, 2, 3, 4, 5, 6], [0, 1, 2, 3, 4, 5, 6, 13, 14], [0, 1, 2, 3, 4, 5, 6, 13, 14, 15], [0, 1, 2, 3, 4, 5, 6, 7, 8, 9, 10, 11, 12, 13, 14, 15, 16], [0, 1, 2, 3, 4, 5, 6, 7, 8, 9, 10, 11, 12, 13, 14, 15, 16, 17], [0, 1, 2, 3, 4, 5, 6, 7, 8, 9, 10, 11, 12, 13, 14, 15, 16, 17, 18], [0, 1, 2, 3, 4, 5, 6, 7, 8, 9, 10, 11, 12, 13, 14, 15, 16, 17, 18, 19]] tm rfl rfl rfl rfl ?_
    refine RD.op rfl rfl rfl (eff_load (y := .t _) rfl rfl ti32 rfl (.one rfl rfl rfl rfl)) ?_
    refine mvD ?_
    refine RD.op rfl rfl rfl (eff_indexM (i := i) rfl rfl te32 rfl rfl (by first | rfl | omega) (by first | assumption | exact List.getElem?_eq_getElem (by omega)) rfl (by decide)) ?_
    refine RD.op rfl rfl rfl (eff_fieldAddrT rfl rfl tf47_1 (by decide) rfl) ?_
    refine RD.op rfl rfl rfl (eff_loadT1 rfl rfl ti3 rfl rfl) ?_
    refine RD.op rfl rfl rfl (eff_iop (r := .bool false) rfl rfl rfl rfl (by simp [iop, hc1])) ?_
    refine mvD ?_
    refine gkD ?_
    refine gkD ?_
    refine gkD ?_
    refine gkD ?_
    refine gkD ?_
    refine gkD ?_
    refine gkD ?_
    refine gkD ?_
    refine gkD ?_
    refine gkD ?_
    refine gkD ?_
    refine gkD ?_
    refine gkD ?_
    refine RD.op rfl rfl rfl (eff_pick (v := .t _) rfl rfl rfl rfl) ?_
    refine RD.nil ?_
    refine awj_cond rfl (fun h => nomatch h) (fun _ => ?_)
    refine awj_skip ?_
    exact ⟨Or.inl rfl, [], [], trivial, rfl, weak_gen ⟨.ptr 1001 0 0 0 0 rfl rfl rfl rfl rfl rfl, .ptr 1004 0 0 0 0 rfl rfl rfl rfl rfl rfl, trivial⟩ ⟨⟨_, rfl, rfl, rfl, rfl, gen_t1⟩, ⟨_, rfl, rfl, rfl, rfl, gen_own1 (.own 1100 _ _ 0 _ rfl rfl rfl rfl rfl rfl rfl)⟩, ⟨_, rfl, rfl, rfl, rfl, gen_trees⟩, trivial⟩, rfl⟩

theorem hvis_y (l : List Rcd) (i : Nat) (T : Twn) (hi : i < l.length) (hl : l.length ≤ 1000000) (hT : T = (runTo l i).1) (hF : Fit 12 T) (hq : ∀ r, r ∈ l → 0 ≤ r.frame.seq ∧ r.frame.seq ≤ 1000000) (hf : form l i = 0) (hn : heldAt l i = true) : RetK Tryd.prog 39 [(1001, some ⟨1, 32, 0, [.t (.sl (l.map encC) false)]⟩), (1004, some ⟨1, 26, 0, [.own 1100 i 0 (heldTo l i).length]⟩), (1100, some ⟨1, 3, i, ((heldTo l i).map encN).map .t⟩)] [.t (encI (i : Nat)), .t (encT T), .ptr 1001 0 0 0, .ptr 1004 0 0 0] [(1001, some ⟨1, 32, 0, [.t (.sl (l.map encC) false)]⟩), (1004, some ⟨1, 26, 0, [.own 1100 (i + 1) 0 (heldTo l (i + 1)).length]⟩), (1100, some ⟨1, 3, (i + 1), ((heldTo l (i + 1)).map encN).map .t⟩)] (.tup []) [(2, .ptr 1001 0 0 0), (3, .ptr 1004 0 0 0)] := by
  have hn0 := hn
  have hRE : rightsAt l (l[i]'hi).dec i = (rights T (l[i]'hi).dec (sentN (l.take i))) := by rw [hT]; rfl
  have hhl := heldTo_len l i
  rw [heldAt_at hi, hRE] at hn
  simp only [Bool.and_eq_true, decide_eq_true_eq, List.isEmpty_iff] at hn
  obtain ⟨hk3, hR0⟩ := hn
  refine retK_of_awj (kp := fun i => Nat.beq i 2 || Nat.beq i 3) Tryd.func39 rfl (Nat.le_of_ble_eq_true rfl) (by simp) ?_
  intro F0 w0
  refine awj_seq ?_
  refine awj_rj rfl ?_
  refine RJ.new rfl rfl (eff_boxK (v := .t _) (k := 2) (id := 5) rfl rfl rfl rfl rfl rfl) ?_
  refine RJ.nil ?_
  refine awj_seq ?_
  refine awj_rd [(some 6, []), (some 7, []), (some 8, []), (some 9, []), (some 10, []), (some 11, []), (some 12, []), (some 13, []), (some 14, []), (some 15, []), (some 16, []), (some 17, []), (some 18, []), (some 19, []), (some 20, []), (some 21, []), (some 22, []), (some 23, []), (some 24, []), (some 25, []), (some 26, [])] [[], [], [0, 1], [0, 1, 2], [0, 1, 2, 3], [0, 1, 2, 3, 4], [0, 1, 2, 3, 4, 5], [0, 1, 2, 3, 4, 5, 6], [0, 1, 2, 3, 4, 5, 6], [0, 1, 2, 3, 4, 5, 6], [0, 1, 2, 3, 4, 5, 6, 8, 9], [0, 1, 2, 3, 4, 5, 6, 8, 9, 10], [0, 1, 2, 3, 4, 5, 6, 8, 9, 10, 11], [0, 1, 2, 3, 4, 5, 6], [0, 1, 2, 3, 4, 5, 6], [0, 1, 2, 3, 4, 5, 6, 13, 14], [0, 1, 2, 3, 4, 5, 6, 13, 14, 15], [0, 1, 2, 3, 4, 5, 6, 7, 8, 9, 10, 11, 12, 13, 14, 15, 16], [0, 1, 2, 3, 4, 5, 6, 7, 8, 9, 10, 11, 12, 13, 14, 15, 16, 17], [0, 1, 2, 3, 4, 5, 6, 7, 8, 9, 10, 11, 12, 13, 14, 15, 16, 17, 18], [0, 1, 2, 3, 4, 5, 6, 7, 8, 9, 10, 11, 12, 13, 14, 15, 16, 17, 18, 19]] tm rfl rfl rfl rfl ?_
  refine RD.op rfl rfl rfl (eff_load (y := .t _) rfl rfl ti32 rfl (.one rfl rfl rfl rfl)) ?_
  refine mvD ?_
  refine RD.op rfl rfl rfl (eff_indexM (i := i) rfl rfl te32 rfl rfl (by first | rfl | omega) (by first | assumption | exact List.getElem?_eq_getElem (by omega)) rfl (by decide)) ?_
  refine RD.op rfl rfl rfl (eff_fieldAddrT rfl rfl tf47_1 (by decide) rfl) ?_
  refine RD.op rfl rfl rfl (eff_loadT1 rfl rfl ti3 rfl rfl) ?_
  refine RD.op rfl rfl rfl (eff_iop (r := .bool true) rfl rfl rfl rfl (by simp [iop, hk3])) ?_
  refine mvD ?_
  refine RD.gop rfl rfl rfl rfl rfl rfl rfl (eff_load rfl rfl ti64 rfl (.whole rfl rfl rfl rfl rfl rfl)) ?_
  refine RD.gop rfl rfl rfl rfl rfl rfl rfl (eff_load (y := .t _) rfl rfl ti32 rfl (.one rfl rfl rfl rfl)) ?_
  refine RD.gop rfl rfl rfl rfl rfl rfl rfl (eff_move (v := .t _) rfl rfl rfl) ?_
  refine RD.gop rfl rfl rfl rfl rfl rfl rfl (eff_indexM (i := i) rfl rfl te32 rfl rfl (by first | rfl | omega) (by first | assumption | exact List.getElem?_eq_getElem (by omega)) rfl (by decide)) ?_
  refine RD.gop rfl rfl rfl rfl rfl rfl rfl (eff_fieldAddrT rfl rfl tf47_4 (by decide) rfl) ?_
  refine RD.gop rfl rfl rfl rfl rfl rfl rfl (eff_loadT (ys := [_, _, _, _]) rfl rfl ti28 rfl rfl rfl) ?_
  refine RD.gop rfl rfl rfl rfl rfl rfl rfl (eff_load (y := .t _) rfl rfl ti32 rfl (.one rfl rfl rfl rfl)) ?_
  refine RD.gop rfl rfl rfl rfl rfl rfl rfl (eff_move (v := .t _) rfl rfl rfl) ?_
  refine RD.gop rfl rfl rfl rfl rfl rfl rfl (eff_sliceM (g := encC) (l := none) (h := some i) (r := l.take i) rfl rfl te32 rfl (fun _ => rfl) .no (.yes rfl rfl) (Nat.zero_le _) (by simp; omega) (by simp)) ?_
  refine RD.gop rfl rfl rfl rfl rfl rfl rfl (eff_callT (sent_ret (l.take i) (by rw [List.length_take]; omega) (fun r hr => hq r (List.mem_of_mem_take hr))) co41 rfl rfl rfl rfl) ?_
  refine RD.gop rfl rfl rfl rfl rfl rfl rfl (eff_callT (rights_ret T _ _ hF.hp (fun y hy => (hF.nx y hy).mono (by decide)) (by have := form_dec hi hf hk3; omega) (by have := hF.len; omega)) co40 rfl rfl rfl rfl) ?_
  refine RD.gop rfl rfl rfl rfl rfl rfl rfl (eff_lenM rfl rfl te33 rfl) ?_
  refine RD.gop rfl rfl rfl rfl rfl rfl rfl (eff_iop (r := .bool true) rfl rfl rfl rfl (by simp [iop, hR0])) ?_
  refine RD.op rfl rfl rfl (eff_pick (v := .t _) rfl rfl rfl rfl) ?_
  refine RD.nil ?_
  refine awj_cond rfl (fun _ => ?_) (fun h => nomatch h)
  refine awj_rj rfl ?_
  refine RJ.op rfl rfl (eff_load (y := .own _ _ _ _) rfl rfl ti26 rfl (.one rfl rfl rfl rfl)) ?_
  refine RJ.op rfl rfl (eff_move (v := .t _) rfl rfl rfl) ?_
  refine RJ.new rfl rfl (eff_buildSlice1 (id := 29) (els := [_]) rfl rfl te26 tz3 rfl (by decide) rfl rfl rfl rfl) ?_
  refine RJ.new rfl rfl (eff_append (id := 1100) (ys := [_]) rfl rfl ta26 rfl rfl rfl (by simp) rfl rfl (srcOwn rfl rfl rfl rfl rfl rfl) (by simp) (by simp; omega) (by simp; omega)) ?_
  refine RJ.store rfl rfl (eff_storeW (v := .own _ _ _ _) (els := [_]) (els' := [_]) rfl rfl ti26 rfl rfl rfl rfl rfl rfl rfl rfl rfl) ?_
  refine RJ.nil ?_
  have hle : ((heldTo l (i + 1)).map encN).map AV.t = ((heldTo l i).map encN).map AV.t ++ [.t (encI (i : Nat))] := by rw [heldTo_yes hn0]; simp <;> rfl
  have hll : (heldTo l (i + 1)).length = (heldTo l i).length + 1 := by rw [heldTo_yes hn0]; simp
  rw [hle, hll]
  exact ⟨Or.inl rfl, [], [], trivial, rfl, weak_keep ⟨rfl, rfl, rfl, rfl, trivial⟩ ⟨rfl, okE_one rfl, rfl, okE_one rfl, rfl, (by rw [← hle]; exact okE_t), trivial⟩, rfl⟩

theorem hvis_ret (l : List Rcd) (i : Nat) (T : Twn) (hi : i < l.length) (hl : l.length ≤ 1000000) (hT : T = (runTo l i).1) (hF : Fit 12 T) (hq : ∀ r, r ∈ l → 0 ≤ r.frame.seq ∧ r.frame.seq ≤ 1000000) (hf : form l i = 0) :
    RetK Tryd.prog 39 [(1001, some ⟨1, 32, 0, [.t (.sl (l.map encC) false)]⟩), (1004, some ⟨1, 26, 0, [.own 1100 i 0 (heldTo l i).length]⟩), (1100, some ⟨1, 3, i, ((heldTo l i).map encN).map .t⟩)] [.t (encI (i : Nat)), .t (encT T), .ptr 1001 0 0 0, .ptr 1004 0 0 0] [(1001, some ⟨1, 32, 0, [.t (.sl (l.map encC) false)]⟩), (1004, some ⟨1, 26, 0, [.own 1100 (i + 1) 0 (heldTo l (i + 1)).length]⟩), (1100, some ⟨1, 3, (i + 1), ((heldTo l (i + 1)).map encN).map .t⟩)] (.tup []) [(2, .ptr 1001 0 0 0), (3, .ptr 1004 0 0 0)] := by
  cases hn : heldAt l i with
  | true => exact hvis_y l i T hi hl hT hF hq hf hn
  | false =>
    have h := hvis_n l i T hi hl hT hF hq hf hn
    rw [heldTo_no hn]
    exact h

theorem replay39_ret (l : List Rcd) (hO : OKL l) : RetKT Tryd.prog 38 [(1, deT)] [(1001, some ⟨1, 32, 0, [.t (.sl (l.map encC) false)]⟩), (1004, some ⟨1, 26, 0, [.own 1100 0 0 (heldTo l 0).length]⟩), (1100, some ⟨1, 3, 0, ((heldTo l 0).map encN).map .t⟩)] [.t (.sl (l.map encC) false), .fn 39 [.ptr 1001 0 0 0, .ptr 1004 0 0 0]] [(1001, some ⟨1, 32, 0, [.t (.sl (l.map encC) false)]⟩), (1004, some ⟨1, 26, 0, [.own 1100 (nvis l + 1) 0 (heldTo l (nvis l)).length]⟩), (1100, some ⟨1, 3, (nvis l + 1), ((heldTo l (nvis l)).map encN).map .t⟩)] (.tup [.t (encT (allOf l).1), .t (encI (allOf l).2)]) [(1, .fn 39 [.ptr 1001 0 0 0, .ptr 1004 0 0 0])] := by
  refine retKT_of_awj (kp := fun i => Nat.beq i 1) Tryd.func38 rfl (Nat.le_of_ble_eq_true rfl) (by simp) ?_
  intro F0 w0
  refine awj_seq ?_
  refine awj_rj rfl ?_
  refine RJ.new rfl rfl (eff_allocK (k := 2) (id := 4) rfl rfl tz64 rfl rfl) ?_
  refine RJ.op rfl rfl (eff_assign (v := .t _) rfl rfl rfl) ?_
  refine RJ.nil ?_
  refine awj_seq ?_
  refine awj_seq ?_
  refine awj_rj rfl ?_
  refine RJ.op rfl rfl (eff_move (v := .t _) rfl rfl rfl) ?_
  refine RJ.op rfl rfl (eff_lenM rfl rfl te32 rfl) ?_
  refine RJ.op rfl rfl (eff_iop rfl rfl rfl rfl rfl) ?_
  refine RJ.nil ?_
  refine awj_cond rfl (fun h1 => ?_) (fun h1 => ?_)
  · try simp only [cl] at h1
    refine awj_seq ?_
    refine awj_rj rfl ?_
    refine RJ.op rfl rfl (eff_buildT (ys := [_, _]) rfl rfl tz64 tg64 rfl) ?_
    refine RJ.store rfl rfl (eff_storeW (v := .t _) (els := [_]) (els' := [_]) rfl rfl ti64 rfl rfl rfl rfl rfl rfl rfl rfl rfl) ?_
    refine RJ.op rfl rfl (eff_assign (v := .t _) rfl rfl rfl) ?_
    refine RJ.nil ?_
    refine awj_ret ?_
    rw [all_lim h1, nvis_lim h1]
    exact ⟨Or.inr rfl, [_, _], [.t (encT zt), .t _], ⟨.cell rfl ti64 (.whole rfl rfl rfl rfl rfl rfl), .tmp rfl, trivial⟩, rfl, Weak.trans (weak_slot 0 (y := encT zt) rfl (by repeat' first | exact trivial | exact Wk.refl _ | exact Wk.sl _ | refine And.intro ?_ ?_ | refine Wk.tupP ?_ | refine Wk.aggP ?_)) (weak_genX ⟨.a (.t _), .a (.t _), .fn _ _ ⟨.ptr 1001 0 0 0 0 rfl rfl rfl rfl rfl rfl, .ptr 1004 0 0 0 0 rfl rfl rfl rfl rfl rfl, trivial⟩, trivial⟩ ⟨⟨_, rfl, rfl, rfl, rfl, gen_t1⟩, ⟨_, rfl, rfl, rfl, rfl, gen_own1 (.own 1100 _ _ 0 _ rfl rfl rfl rfl rfl rfl rfl)⟩, ⟨_, rfl, rfl, rfl, rfl, gen_trees⟩, trivial⟩), rfl⟩
  · try simp only [cl] at h1
    refine awj_skip ?_
    refine awj_seq ?_
    refine awj_rj rfl ?_
    refine RJ.op rfl rfl (eff_callT (new17_ret) co61 rfl rfl rfl rfl) ?_
    refine RJ.new rfl rfl (eff_allocK (k := 2) (id := 6) rfl rfl tz64 rfl rfl) ?_
    refine RJ.store rfl rfl (eff_storeW (v := .t _) (els := [_]) (els' := [_]) rfl rfl ti64 rfl rfl rfl rfl rfl rfl rfl rfl rfl) ?_
    refine RJ.nil ?_
    refine awj_seq ?_
    refine awj_seq ?_
    refine awj_rj rfl ?_
    refine RJ.op rfl rfl (eff_move (v := .t _) rfl rfl rfl) ?_
    refine RJ.op rfl rfl (eff_lenM rfl rfl te32 rfl) ?_
    refine RJ.op rfl rfl (eff_move (v := .t _) rfl rfl rfl) ?_
    refine RJ.nil ?_
    refine awj_block ?_
    refine awj_loopW (fun m s g => ∃ (i : Nat) (T : Twn), (i ≤ l.length) ∧ (T = (runTo l i).1) ∧ ((runTo l i).2 = 0) ∧ m = l.length - i ∧ s = ⟨63, [(0, .t (.sl (l.map encC) false)), (1, .fn 39 [.ptr 1001 0 0 0, .ptr 1004 0 0 0]), (4, .ptr 4 0 0 0), (6, .ptr 6 0 0 0), (17, .t (.sl (l.map encC) false)), (18, .t (encI (l.length : Nat))), (19, .t (encI (i : Nat))), (64, .t deT)], [(4, some ⟨2, 64, 0, [.t z64]⟩), (6, some ⟨2, 64, 0, [.t (encT T)]⟩), (1001, some ⟨1, 32, 0, [.t (.sl (l.map encC) false)]⟩), (1004, some ⟨1, 26, 0, [.own 1100 i 0 (heldTo l i).length]⟩), (1100, some ⟨1, 3, i, ((heldTo l i).map encN).map .t⟩)]⟩) (_) (⟨_, weak_keep (n := 63) (fr' := [(0, .t (.sl (l.map encC) false)), (1, .fn 39 [.ptr 1001 0 0 0, .ptr 1004 0 0 0]), (4, .ptr 4 0 0 0), (6, .ptr 6 0 0 0), (17, .t (.sl (l.map encC) false)), (18, .t (encI (l.length : Nat))), (19, .t (encI (0 : Nat))), (64, .t deT)]) (st' := [(4, some ⟨2, 64, 0, [.t z64]⟩), (6, some ⟨2, 64, 0, [.t (encT newT)]⟩), (1001, some ⟨1, 32, 0, [.t (.sl (l.map encC) false)]⟩), (1004, some ⟨1, 26, 0, [.own 1100 0 0 (heldTo l 0).length]⟩), (1100, some ⟨1, 3, 0, ((heldTo l 0).map encN).map .t⟩)]) ⟨rfl, rfl, rfl, rfl, rfl, rfl, rfl, rfl, rfl, rfl, rfl, rfl, rfl, rfl, rfl, rfl, trivial⟩ ⟨rfl, okE_one rfl, rfl, okE_one rfl, rfl, okE_one rfl, rfl, okE_one rfl, rfl, okE_t, trivial⟩, 0, newT, (by omega), (by rfl), (by rfl), rfl, rfl⟩) ?_
    rintro m s g ⟨i, T, hi, hT, hok, rfl, rfl⟩
    refine awj_seq ?_
    refine awj_rj rfl ?_
    refine RJ.op rfl rfl (eff_iop rfl rfl rfl rfl rfl) ?_
    refine RJ.nil ?_
    refine awj_seq ?_
    refine awj_cond rfl (fun h2 => ?_) (fun h2 => ?_)
    · try simp only [cl] at h2
      refine awj_skip ?_
      refine awj_seq ?_
      refine awj_block ?_
      refine awj_seq ?_
      refine awj_rj rfl ?_
      have hil : i < l.length := by omega
      have hFit := runTo_fit12 hO (by omega) hok
      rw [← hT] at hFit
      refine RJ.op rfl rfl (eff_move (v := .t _) rfl rfl rfl) ?_
      refine RJ.op rfl rfl (eff_indexM rfl rfl te32 rfl rfl rfl (by first | assumption | exact List.getElem?_eq_getElem (by omega)) rfl (by decide)) ?_
      refine RJ.op rfl rfl (eff_loadW rfl rfl ti47 rfl rfl rfl) ?_
      refine RJ.new rfl rfl (eff_allocK (k := 15) (id := 8) rfl rfl tz47 rfl rfl) ?_
      refine RJ.op rfl rfl (eff_assign (v := .t _) rfl rfl rfl) ?_
      refine RJ.store rfl rfl (eff_storeW (v := .t _) (els := [_]) (els' := [_]) rfl rfl ti47 rfl rfl rfl rfl rfl rfl rfl rfl rfl) ?_
      refine RJ.nil ?_
      refine awj_seq ?_
      refine awj_seq ?_
      refine awj_rj rfl ?_
      refine RJ.op rfl rfl (eff_move (v := .t _) rfl rfl rfl) ?_
      refine RJ.op rfl rfl (eff_move (v := .t _) rfl rfl rfl) ?_
      refine RJ.op rfl rfl (eff_callT (form_ret l i hil (by have := hO.len; omega)) co62 rfl rfl rfl rfl) ?_
      refine RJ.op rfl rfl (eff_assign (v := .t _) rfl rfl rfl) ?_
      refine RJ.nil ?_
      refine awj_seq ?_
      refine awj_rj rfl ?_
      refine RJ.op rfl rfl (eff_move (v := .t _) rfl rfl rfl) ?_
      refine RJ.op rfl rfl (eff_iop rfl rfl rfl rfl rfl) ?_
      refine RJ.nil ?_
      refine awj_cond rfl (fun h3 => ?_) (fun h3 => ?_)
      · try simp only [cl] at h3
        refine awj_seq ?_
        refine awj_rj rfl ?_
        refine RJ.op rfl rfl (eff_buildT (ys := [_, _]) rfl rfl tz64 tg64 rfl) ?_
        refine RJ.op rfl rfl (eff_move (v := .t _) rfl rfl rfl) ?_
        refine RJ.store rfl rfl (eff_storeW (v := .t _) (els := [_]) (els' := [_]) rfl rfl ti64 rfl rfl rfl rfl rfl rfl rfl rfl rfl) ?_
        refine RJ.op rfl rfl (eff_assign (v := .t _) rfl rfl rfl) ?_
        refine RJ.nil ?_
        refine awj_ret ?_
        have hfx : form l i ≠ 0 := by omega
        rw [all_bad h1 hil (run_form hok hfx) hfx, nvis_form h1 hil hok hfx]
        exact ⟨Or.inr rfl, [_, _], [.t (encT zt), .t _], ⟨.cell rfl ti64 (.whole rfl rfl rfl rfl rfl rfl), .tmp rfl, trivial⟩, rfl, Weak.trans (weak_slot 0 (y := encT zt) rfl (by repeat' first | exact trivial | exact Wk.refl _ | exact Wk.sl _ | refine And.intro ?_ ?_ | refine Wk.tupP ?_ | refine Wk.aggP ?_)) (weak_genX ⟨.a (.t _), .a (.t _), .fn _ _ ⟨.ptr 1001 0 0 0 0 rfl rfl rfl rfl rfl rfl, .ptr 1004 0 0 0 0 rfl rfl rfl rfl rfl rfl, trivial⟩, trivial⟩ ⟨⟨_, rfl, rfl, rfl, rfl, gen_t1⟩, ⟨_, rfl, rfl, rfl, rfl, gen_own1 (.own 1100 _ _ 0 _ rfl rfl rfl rfl rfl rfl rfl)⟩, ⟨_, rfl, rfl, rfl, rfl, gen_trees⟩, trivial⟩), rfl⟩
      · try simp only [cl] at h3
        refine awj_skip ?_
        refine awj_seq ?_
        refine awj_rj rfl ?_
        have hfo : form l i = 0 := by omega
        refine RJ.op rfl rfl (eff_move (v := .fn _ _) rfl rfl rfl) ?_
        refine RJ.op rfl rfl (eff_move (v := .t _) rfl rfl rfl) ?_
        refine RJ.op rfl rfl (eff_load rfl rfl ti64 rfl (.whole rfl rfl rfl rfl rfl rfl)) ?_
        refine RJ.new3 rfl rfl (eff_callKF (hvis_ret l i T hil (by have := hO.len; omega) hT hFit hO.seq hfo) co39 (fun id => id) rfl rfl rfl ⟨.t _, .t _, .ptr _ _ _ _ rfl rfl, .ptr _ _ _ _ rfl rfl, trivial⟩ (.tup _ _ rfl (fun i c d h _ => by simp at h)) rfl ⟨⟨rfl, self_one, ⟨_, rfl, .inr ⟨rfl, rfl, rfl, rfl, 2, rfl, (by simp)⟩⟩⟩, ⟨rfl, self_own rfl rfl, ⟨_, rfl, .inr ⟨rfl, rfl, rfl, rfl, 3, rfl, (by simp)⟩⟩⟩, ⟨rfl, self_tree, ⟨_, rfl, .inl (Nat.lt_succ_self _)⟩⟩, trivial⟩ ⟨⟨self_one, .inl rfl⟩, ⟨self_own rfl rfl, .inl rfl⟩, ⟨self_tree, .inl rfl⟩, trivial⟩) ?_
        refine RJ.nil ?_
        refine awj_seq ?_
        refine awj_rj rfl ?_
        refine RJ.op rfl rfl (eff_assign (v := .t _) rfl rfl rfl) ?_
        refine RJ.nil ?_
        refine awj_seq ?_
        refine awj_rj rfl ?_
        refine RJ.op rfl rfl (eff_load rfl rfl ti64 rfl (.whole rfl rfl rfl rfl rfl rfl)) ?_
        refine RJ.new rfl rfl (eff_allocK (k := 2) (id := 11) rfl rfl tz64 rfl rfl) ?_
        refine RJ.store rfl rfl (eff_storeW (v := .t _) (els := [_]) (els' := [_]) rfl rfl ti64 rfl rfl rfl rfl rfl rfl rfl rfl rfl) ?_
        refine RJ.nil ?_
        refine awj_seq ?_
        refine awj_seq ?_
        refine awj_rj rfl ?_
        refine RJ.op rfl rfl (eff_fieldAddr rfl rfl tf47_1 (by decide) rfl rfl rfl (Nat.le_of_ble_eq_true rfl)) ?_
        refine RJ.op rfl rfl (eff_load (y := .t _) rfl rfl ti3 rfl (.one rfl rfl rfl rfl)) ?_
        refine RJ.nil ?_
        refine awj_block ?_
        refine awj_seq ?_
        refine awj_rj rfl ?_
        refine RJ.op rfl rfl (eff_iop rfl rfl rfl rfl rfl) ?_
        refine RJ.op rfl rfl (eff_assign (v := .t _) rfl rfl rfl) ?_
        refine RJ.nil ?_
        refine awj_cond rfl (fun h4 => ?_) (fun h4 => ?_)
        · try simp only [cl] at h4
          refine awj_rj rfl ?_
          refine RJ.op rfl rfl (eff_load rfl rfl ti64 rfl (.whole rfl rfl rfl rfl rfl rfl)) ?_
          refine RJ.op rfl rfl (eff_fieldAddr rfl rfl tf47_2 (by decide) rfl rfl rfl (Nat.le_of_ble_eq_true rfl)) ?_
          refine RJ.op rfl rfl (eff_loadS (ys := [_, _, _, _, _]) rfl rfl ti45 rfl rfl rfl rfl rfl rfl) ?_
          refine RJ.op rfl rfl (eff_callXT (tsend_ret T _ hFit.srt hFit.hp (by have := hFit.len; omega) (by have := hFit.sl; omega) hFit.bod (hO.bod _ (List.getElem_mem hil))) co63 rfl rfl rfl ⟨rfl, trivial⟩ rfl) ?_
          refine RJ.op rfl rfl (eff_move (v := .t _) rfl rfl rfl) ?_
          refine RJ.op rfl rfl (eff_extract rfl rfl rfl rfl) ?_
          refine RJ.op rfl rfl (eff_extract rfl rfl rfl rfl) ?_
          refine RJ.store rfl rfl (eff_storeW (v := .t _) (els := [_]) (els' := [_]) rfl rfl ti64 rfl rfl rfl rfl rfl rfl rfl rfl rfl) ?_
          refine RJ.op rfl rfl (eff_assign (v := .t _) rfl rfl rfl) ?_
          refine RJ.nil ?_
          refine awj_seq ?_
          refine awj_seq ?_
          refine awj_rj rfl ?_
          refine RJ.op rfl rfl (eff_move (v := .t _) rfl rfl rfl) ?_
          refine RJ.op rfl rfl (eff_iop rfl rfl rfl rfl rfl) ?_
          refine RJ.nil ?_
          refine awj_cond rfl (fun h5 => ?_) (fun h5 => ?_)
          · try simp only [cl] at h5
            refine awj_seq ?_
            refine awj_rj rfl ?_
            refine RJ.op rfl rfl (eff_buildT (ys := [_, _]) rfl rfl tz64 tg64 rfl) ?_
            refine RJ.op rfl rfl (eff_move (v := .t _) rfl rfl rfl) ?_
            refine RJ.store rfl rfl (eff_storeW (v := .t _) (els := [_]) (els' := [_]) rfl rfl ti64 rfl rfl rfl rfl rfl rfl rfl rfl rfl) ?_
            refine RJ.op rfl rfl (eff_assign (v := .t _) rfl rfl rfl) ?_
            refine RJ.nil ?_
            refine awj_ret ?_
            have hrb := bad_send hil hT hok hfo (by omega) (by omega)
            rw [all_bad h1 hil hrb (by omega), nvis_bad h1 hil hok hfo hrb (by omega)]
            exact ⟨Or.inr rfl, [_, _], [.t (encT zt), .t _], ⟨.cell rfl ti64 (.whole rfl rfl rfl rfl rfl rfl), .tmp rfl, trivial⟩, rfl, Weak.trans (weak_slot 0 (y := encT zt) rfl (by repeat' first | exact trivial | exact Wk.refl _ | exact Wk.sl _ | refine And.intro ?_ ?_ | refine Wk.tupP ?_ | refine Wk.aggP ?_)) (weak_genX ⟨.a (.t _), .a (.t _), .fn _ _ ⟨.ptr 1001 0 0 0 0 rfl rfl rfl rfl rfl rfl, .ptr 1004 0 0 0 0 rfl rfl rfl rfl rfl rfl, trivial⟩, trivial⟩ ⟨⟨_, rfl, rfl, rfl, rfl, gen_t1⟩, ⟨_, rfl, rfl, rfl, rfl, gen_own1 (.own 1100 _ _ 0 _ rfl rfl rfl rfl rfl rfl rfl)⟩, ⟨_, rfl, rfl, rfl, rfl, gen_trees⟩, trivial⟩), rfl⟩
          · try simp only [cl] at h5
            refine awj_skip ?_
            refine awj_rj rfl ?_
            refine RJ.op rfl rfl (eff_load rfl rfl ti64 rfl (.whole rfl rfl rfl rfl rfl rfl)) ?_
            refine RJ.store rfl rfl (eff_storeW (v := .t _) (els := [_]) (els' := [_]) rfl rfl ti64 rfl rfl rfl rfl rfl rfl rfl rfl rfl) ?_
            refine RJ.nil ?_
            refine awj_rj rfl ?_
            refine RJ.op rfl rfl (eff_iop rfl rfl rfl rfl (iadd (by omega))) ?_
            refine RJ.op rfl rfl (eff_move (v := .t _) rfl rfl rfl) ?_
            refine RJ.nil ?_
            refine ⟨_, ?_, _, weak_keep (n := 63) (fr' := [(0, .t (.sl (l.map encC) false)), (1, .fn 39 [.ptr 1001 0 0 0, .ptr 1004 0 0 0]), (4, .ptr 4 0 0 0), (6, .ptr 6 0 0 0), (17, .t (.sl (l.map encC) false)), (18, .t (encI (l.length : Nat))), (19, .t (encI ((i + 1) : Nat))), (64, .t deT)]) (st' := [(4, some ⟨2, 64, 0, [.t z64]⟩), (6, some ⟨2, 64, 0, [.t (encT _)]⟩), (1001, some ⟨1, 32, 0, [.t (.sl (l.map encC) false)]⟩), (1004, some ⟨1, 26, 0, [.own 1100 (i + 1) 0 (heldTo l (i + 1)).length]⟩), (1100, some ⟨1, 3, (i + 1), ((heldTo l (i + 1)).map encN).map .t⟩)]) ⟨rfl, rfl, rfl, rfl, rfl, rfl, rfl, rfl, rfl, rfl, rfl, rfl, rfl, rfl, rfl, rfl, trivial⟩ ⟨rfl, okE_one rfl, rfl, okE_one rfl, rfl, okE_one rfl, rfl, okE_one rfl, rfl, okE_t, trivial⟩, i + 1, _, (by omega), (by first | rw [run_send hil hT hok hfo (by omega) (by omega)] | rw [run_hear hil hT hok hfo (by omega) (by omega)] | rw [run_dec hil hT hok hfo (by omega) (by omega)]), (by first | rw [run_send hil hT hok hfo (by omega) (by omega)] | rw [run_hear hil hT hok hfo (by omega) (by omega)] | rw [run_dec hil hT hok hfo (by omega) (by omega)]), rfl, rfl⟩
            omega
        · try simp only [cl] at h4
          refine awj_seq ?_
          refine awj_rj rfl ?_
          refine RJ.op rfl rfl (eff_iop rfl rfl rfl rfl rfl) ?_
          refine RJ.op rfl rfl (eff_assign (v := .t _) rfl rfl rfl) ?_
          refine RJ.nil ?_
          refine awj_cond rfl (fun h6 => ?_) (fun h6 => ?_)
          · try simp only [cl] at h6
            refine awj_rj rfl ?_
            refine RJ.op rfl rfl (eff_load rfl rfl ti64 rfl (.whole rfl rfl rfl rfl rfl rfl)) ?_
            refine RJ.op rfl rfl (eff_fieldAddr rfl rfl tf47_3 (by decide) rfl rfl rfl (Nat.le_of_ble_eq_true rfl)) ?_
            refine RJ.op rfl rfl (eff_loadS (ys := [_, _, _, _]) rfl rfl ti23 rfl rfl rfl rfl rfl rfl) ?_
            refine RJ.op rfl rfl (eff_callXT (thear_ret T _ (hO.hp _ (List.getElem_mem hil)) (by have := hFit.len; omega) (by have := hFit.sl; omega) hFit.bod) co64 rfl rfl rfl ⟨rfl, trivial⟩ rfl) ?_
            refine RJ.op rfl rfl (eff_move (v := .t _) rfl rfl rfl) ?_
            refine RJ.op rfl rfl (eff_extract rfl rfl rfl rfl) ?_
            refine RJ.op rfl rfl (eff_extract rfl rfl rfl rfl) ?_
            refine RJ.store rfl rfl (eff_storeW (v := .t _) (els := [_]) (els' := [_]) rfl rfl ti64 rfl rfl rfl rfl rfl rfl rfl rfl rfl) ?_
            refine RJ.op rfl rfl (eff_assign (v := .t _) rfl rfl rfl) ?_
            refine RJ.nil ?_
            refine awj_seq ?_
            refine awj_seq ?_
            refine awj_rj rfl ?_
            refine RJ.op rfl rfl (eff_move (v := .t _) rfl rfl rfl) ?_
            refine RJ.op rfl rfl (eff_iop rfl rfl rfl rfl rfl) ?_
            refine RJ.nil ?_
            refine awj_cond rfl (fun h7 => ?_) (fun h7 => ?_)
            · try simp only [cl] at h7
              refine awj_seq ?_
              refine awj_rj rfl ?_
              refine RJ.op rfl rfl (eff_buildT (ys := [_, _]) rfl rfl tz64 tg64 rfl) ?_
              refine RJ.op rfl rfl (eff_move (v := .t _) rfl rfl rfl) ?_
              refine RJ.store rfl rfl (eff_storeW (v := .t _) (els := [_]) (els' := [_]) rfl rfl ti64 rfl rfl rfl rfl rfl rfl rfl rfl rfl) ?_
              refine RJ.op rfl rfl (eff_assign (v := .t _) rfl rfl rfl) ?_
              refine RJ.nil ?_
              refine awj_ret ?_
              have hrb := bad_hear hil hT hok hfo (by omega) (by omega)
              rw [all_bad h1 hil hrb (by omega), nvis_bad h1 hil hok hfo hrb (by omega)]
              exact ⟨Or.inr rfl, [_, _], [.t (encT zt), .t _], ⟨.cell rfl ti64 (.whole rfl rfl rfl rfl rfl rfl), .tmp rfl, trivial⟩, rfl, Weak.trans (weak_slot 0 (y := encT zt) rfl (by repeat' first | exact trivial | exact Wk.refl _ | exact Wk.sl _ | refine And.intro ?_ ?_ | refine Wk.tupP ?_ | refine Wk.aggP ?_)) (weak_genX ⟨.a (.t _), .a (.t _), .fn _ _ ⟨.ptr 1001 0 0 0 0 rfl rfl rfl rfl rfl rfl, .ptr 1004 0 0 0 0 rfl rfl rfl rfl rfl rfl, trivial⟩, trivial⟩ ⟨⟨_, rfl, rfl, rfl, rfl, gen_t1⟩, ⟨_, rfl, rfl, rfl, rfl, gen_own1 (.own 1100 _ _ 0 _ rfl rfl rfl rfl rfl rfl rfl)⟩, ⟨_, rfl, rfl, rfl, rfl, gen_trees⟩, trivial⟩), rfl⟩
            · try simp only [cl] at h7
              refine awj_skip ?_
              refine awj_rj rfl ?_
              refine RJ.op rfl rfl (eff_load rfl rfl ti64 rfl (.whole rfl rfl rfl rfl rfl rfl)) ?_
              refine RJ.store rfl rfl (eff_storeW (v := .t _) (els := [_]) (els' := [_]) rfl rfl ti64 rfl rfl rfl rfl rfl rfl rfl rfl rfl) ?_
              refine RJ.nil ?_
              refine awj_rj rfl ?_
              refine RJ.op rfl rfl (eff_iop rfl rfl rfl rfl (iadd (by omega))) ?_
              refine RJ.op rfl rfl (eff_move (v := .t _) rfl rfl rfl) ?_
              refine RJ.nil ?_
              refine ⟨_, ?_, _, weak_keep (n := 63) (fr' := [(0, .t (.sl (l.map encC) false)), (1, .fn 39 [.ptr 1001 0 0 0, .ptr 1004 0 0 0]), (4, .ptr 4 0 0 0), (6, .ptr 6 0 0 0), (17, .t (.sl (l.map encC) false)), (18, .t (encI (l.length : Nat))), (19, .t (encI ((i + 1) : Nat))), (64, .t deT)]) (st' := [(4, some ⟨2, 64, 0, [.t z64]⟩), (6, some ⟨2, 64, 0, [.t (encT _)]⟩), (1001, some ⟨1, 32, 0, [.t (.sl (l.map encC) false)]⟩), (1004, some ⟨1, 26, 0, [.own 1100 (i + 1) 0 (heldTo l (i + 1)).length]⟩), (1100, some ⟨1, 3, (i + 1), ((heldTo l (i + 1)).map encN).map .t⟩)]) ⟨rfl, rfl, rfl, rfl, rfl, rfl, rfl, rfl, rfl, rfl, rfl, rfl, rfl, rfl, rfl, rfl, trivial⟩ ⟨rfl, okE_one rfl, rfl, okE_one rfl, rfl, okE_one rfl, rfl, okE_one rfl, rfl, okE_t, trivial⟩, i + 1, _, (by omega), (by first | rw [run_send hil hT hok hfo (by omega) (by omega)] | rw [run_hear hil hT hok hfo (by omega) (by omega)] | rw [run_dec hil hT hok hfo (by omega) (by omega)]), (by first | rw [run_send hil hT hok hfo (by omega) (by omega)] | rw [run_hear hil hT hok hfo (by omega) (by omega)] | rw [run_dec hil hT hok hfo (by omega) (by omega)]), rfl, rfl⟩
              omega
          · try simp only [cl] at h6
            refine awj_skip ?_
            refine awj_seq ?_
            refine awj_seq ?_
            refine awj_rj rfl ?_
            refine RJ.op rfl rfl (eff_move (v := .t _) rfl rfl rfl) ?_
            refine RJ.op rfl rfl (eff_iop rfl rfl rfl rfl rfl) ?_
            refine RJ.nil ?_
            refine awj_cond rfl (fun h8 => ?_) (fun h8 => ?_)
            · try simp only [cl] at h8
              refine awj_seq ?_
              refine awj_rj rfl ?_
              refine RJ.op rfl rfl (eff_buildT (ys := [_, _]) rfl rfl tz64 tg64 rfl) ?_
              refine RJ.op rfl rfl (eff_move (v := .t _) rfl rfl rfl) ?_
              refine RJ.store rfl rfl (eff_storeW (v := .t _) (els := [_]) (els' := [_]) rfl rfl ti64 rfl rfl rfl rfl rfl rfl rfl rfl rfl) ?_
              refine RJ.op rfl rfl (eff_assign (v := .t _) rfl rfl rfl) ?_
              refine RJ.nil ?_
              refine awj_ret ?_
              exact absurd trivial ‹¬ True›
            · try simp only [cl] at h8
              refine awj_skip ?_
              refine awj_rj rfl ?_
              refine RJ.op rfl rfl (eff_load rfl rfl ti64 rfl (.whole rfl rfl rfl rfl rfl rfl)) ?_
              refine RJ.store rfl rfl (eff_storeW (v := .t _) (els := [_]) (els' := [_]) rfl rfl ti64 rfl rfl rfl rfl rfl rfl rfl rfl rfl) ?_
              refine RJ.nil ?_
              refine awj_rj rfl ?_
              refine RJ.op rfl rfl (eff_iop rfl rfl rfl rfl (iadd (by omega))) ?_
              refine RJ.op rfl rfl (eff_move (v := .t _) rfl rfl rfl) ?_
              refine RJ.nil ?_
              refine ⟨_, ?_, _, weak_keep (n := 63) (fr' := [(0, .t (.sl (l.map encC) false)), (1, .fn 39 [.ptr 1001 0 0 0, .ptr 1004 0 0 0]), (4, .ptr 4 0 0 0), (6, .ptr 6 0 0 0), (17, .t (.sl (l.map encC) false)), (18, .t (encI (l.length : Nat))), (19, .t (encI ((i + 1) : Nat))), (64, .t deT)]) (st' := [(4, some ⟨2, 64, 0, [.t z64]⟩), (6, some ⟨2, 64, 0, [.t (encT _)]⟩), (1001, some ⟨1, 32, 0, [.t (.sl (l.map encC) false)]⟩), (1004, some ⟨1, 26, 0, [.own 1100 (i + 1) 0 (heldTo l (i + 1)).length]⟩), (1100, some ⟨1, 3, (i + 1), ((heldTo l (i + 1)).map encN).map .t⟩)]) ⟨rfl, rfl, rfl, rfl, rfl, rfl, rfl, rfl, rfl, rfl, rfl, rfl, rfl, rfl, rfl, rfl, trivial⟩ ⟨rfl, okE_one rfl, rfl, okE_one rfl, rfl, okE_one rfl, rfl, okE_one rfl, rfl, okE_t, trivial⟩, i + 1, _, (by omega), (by first | rw [run_send hil hT hok hfo (by omega) (by omega)] | rw [run_hear hil hT hok hfo (by omega) (by omega)] | rw [run_dec hil hT hok hfo (by omega) (by omega)]), (by first | rw [run_send hil hT hok hfo (by omega) (by omega)] | rw [run_hear hil hT hok hfo (by omega) (by omega)] | rw [run_dec hil hT hok hfo (by omega) (by omega)]), rfl, rfl⟩
              omega
    · try simp only [cl] at h2
      refine awj_exit ?_
      refine awj_seq ?_
      refine awj_rj rfl ?_
      refine RJ.op rfl rfl (eff_load rfl rfl ti64 rfl (.whole rfl rfl rfl rfl rfl rfl)) ?_
      refine RJ.store rfl rfl (eff_storeW (v := .t _) (els := [_]) (els' := [_]) rfl rfl ti64 rfl rfl rfl rfl rfl rfl rfl rfl rfl) ?_
      refine RJ.op rfl rfl (eff_assign (v := .t _) rfl rfl rfl) ?_
      refine RJ.nil ?_
      refine awj_ret ?_
      have hi2 : i = l.length := by omega
      subst hi2
      rw [all_ok h1 hok, nvis_ok h1 hok, ← hT]
      exact ⟨Or.inr rfl, [_, _], [.t (encT T), .t _], ⟨.cell rfl ti64 (.whole rfl rfl rfl rfl rfl rfl), .tmp rfl, trivial⟩, rfl, Weak.trans (weak_slot 0 (y := encT T) rfl (by repeat' first | exact trivial | exact Wk.refl _ | exact Wk.sl _ | refine And.intro ?_ ?_ | refine Wk.tupP ?_ | refine Wk.aggP ?_)) (weak_genX ⟨.a (.t _), .a (.t _), .fn _ _ ⟨.ptr 1001 0 0 0 0 rfl rfl rfl rfl rfl rfl, .ptr 1004 0 0 0 0 rfl rfl rfl rfl rfl rfl, trivial⟩, trivial⟩ ⟨⟨_, rfl, rfl, rfl, rfl, gen_t1⟩, ⟨_, rfl, rfl, rfl, rfl, gen_own1 (.own 1100 _ _ 0 _ rfl rfl rfl rfl rfl rfl rfl)⟩, ⟨_, rfl, rfl, rfl, rfl, gen_trees⟩, trivial⟩), rfl⟩

end Go.Tv.C36

end
section
open Go Go.Tv Go.Proofs
namespace Go.Tv.C36
set_option maxRecDepth 20000
set_option maxHeartbeats 2000000
set_option linter.unusedSimpArgs false
set_option linter.unusedVariables false
theorem held_ret (l : List Rcd) (hO : OKL l) : RetT Tryd.prog 19 [(1, deT)] [.sl (l.map encC) false] (.tup [.sl ((held l).1.map encN) false, encI (held l).2]) := by
  refine retT_of_awp Tryd.func19 rfl (Nat.le_of_ble_eq_true rfl) ?_
  refine awp_seq ?_
  refine awp_rw rfl ?_
  refine RW.new rfl rfl (eff_boxK (v := .t _) (k := 1) (id := 1) rfl rfl rfl rfl rfl rfl) ?_
  refine asT ?_
  refine asT ?_
  refine RW.nil ?_
  refine awp_seq ?_
  refine awp_rw rfl ?_
  refine RW.new rfl rfl (eff_allocK (k := 1) (id := 4) rfl rfl tz26 rfl rfl) ?_
  refine RW.nil ?_
  show AWP _ _ _ _
  refine awp_weak (weak_adopt1 (id0 := 4) 1100 1 3 rfl rfl) ?_
  refine awp_seq ?_
  refine awp_rw rfl ?_
  refine l1T ti32 rfl rfl rfl rfl rfl (.one rfl rfl rfl rfl) ?_
  refine RW.op rfl rfl (eff_makeFunc rfl rfl rfl rfl) ?_
  refine RW.new3 rfl rfl (eff_callKT (r' := .tup [.t _, .t _]) (replay39_ret l hO) co38 (fun id => bif Nat.beq id 1100 then 1100 else id - 1000) rfl rfl rfl ⟨rfl, trivial⟩ ⟨.t _, .fnL ⟨.ptr _ _ _ _ rfl rfl, .ptr _ _ _ _ rfl rfl, trivial⟩, trivial⟩ (.tupL ⟨.t _, .t _, trivial⟩) rfl ⟨⟨rfl, self_one, ⟨_, rfl, .inr ⟨rfl, rfl, rfl, rfl, 1, _, rfl, List.mem_singleton.2 rfl, .inr ⟨_, _, 0, rfl, rfl⟩⟩⟩⟩, ⟨rfl, self_own rfl rfl, ⟨_, rfl, .inr ⟨rfl, rfl, rfl, rfl, 1, _, rfl, List.mem_singleton.2 rfl, .inr ⟨_, _, 1, rfl, rfl⟩⟩⟩⟩, ⟨rfl, self_tree, ⟨_, rfl, .inl (Nat.succ_pos _)⟩⟩, trivial⟩ ⟨⟨self_one, .inl rfl⟩, ⟨self_own rfl rfl, .inl rfl⟩, ⟨self_tree, .inl rfl⟩, trivial⟩) ?_
  refine RW.op rfl rfl (eff_move (v := .tup _) rfl rfl rfl) ?_
  refine RW.op rfl rfl (eff_extractA rfl rfl rfl rfl) ?_
  refine RW.op rfl rfl (eff_extractA rfl rfl rfl rfl) ?_
  refine RW.new rfl rfl (eff_allocK (k := 2) (id := 5) rfl rfl tz64 rfl rfl) ?_
  refine RW.store rfl rfl (eff_storeW (v := .t _) (els := [_]) (els' := [_]) rfl rfl ti64 rfl rfl rfl rfl rfl rfl rfl rfl rfl) ?_
  refine asT ?_
  refine RW.nil ?_
  refine awp_seq ?_
  refine awp_seq ?_
  refine awp_rw rfl ?_
  refine mvT ?_
  refine ioT ?_
  refine RW.nil ?_
  refine awp_cond rfl (fun h1 => ?_) (fun h1 => ?_)
  · try simp only [cl] at h1
    refine awp_seq ?_
    refine awp_rw rfl ?_
    refine mvT ?_
    refine asT ?_
    refine asT ?_
    refine RW.nil ?_
    refine awp_ret ?_
    rw [held_bad (all_zt h1) h1]
    exact ⟨Or.inr rfl, [_, _], ⟨.tmp (.t _), .tmp (.t _), trivial⟩, (by repeat' first | exact trivial | exact Wk.refl _ | exact Wk.sl _ | refine And.intro ?_ ?_ | refine Wk.tupP ?_ | refine Wk.aggP ?_)⟩
  · try simp only [cl] at h1
    refine awp_skip ?_
    refine awp_seq ?_
    refine awp_rw rfl ?_
    refine RW.op rfl rfl (eff_load (y := .own _ _ _ _) rfl rfl ti26 rfl (.one rfl rfl rfl rfl)) ?_
    refine asO ?_
    refine asT ?_
    refine RW.nil ?_
    refine awp_ret ?_
    rw [held_ok (by omega), ← nvis_all (by omega)]
    exact ⟨Or.inr rfl, [_, _], ⟨.tmp (Res.ownT (xs := (heldTo l (nvis l)).map encN) rfl rfl rfl (by simp)), .tmp (.t _), trivial⟩, .refl _⟩

end Go.Tv.C36

end
section
open Go Go.Tv Go.Proofs
namespace Go.Tv.C36
set_option maxRecDepth 20000
set_option maxHeartbeats 2000000
set_option linter.unusedSimpArgs false
set_option linter.unusedVariables false
end Go.Tv.C36

end
section
open Go Go.Tv Go.Proofs
namespace Go.Tv.C36
set_option maxRecDepth 20000
set_option maxHeartbeats 2000000
set_option linter.unusedSimpArgs false
set_option linter.unusedVariables false
theorem sameN_ret (a : List Nat) (hl : a.length ≤ 1000000) : Ret Tryd.prog 21 [.sl (a.map encN) false, .sl (a.map encN) false] (.bool true) := by
  refine ret_of_awp Tryd.func21 rfl (Nat.le_of_ble_eq_true rfl) ?_
  refine awp_seq ?_
  refine awp_rw rfl ?_
  refine asT ?_
  refine RW.nil ?_
  refine awp_seq ?_
  refine awp_seq ?_
  refine awp_rw rfl ?_
  refine mvT ?_
  refine RW.op rfl rfl (eff_lenM rfl rfl te26 rfl) ?_
  refine mvT ?_
  refine RW.op rfl rfl (eff_lenM rfl rfl te26 rfl) ?_
  refine RW.op rfl rfl (eff_iop (r := .bool false) rfl rfl rfl rfl (by simp [iop])) ?_
  refine RW.nil ?_
  refine awp_cond rfl (fun h => nomatch h) (fun _ => ?_)
  refine awp_skip ?_
  refine awp_seq ?_
  refine awp_seq ?_
  refine awp_rw rfl ?_
  refine asT ?_
  refine RW.nil ?_
  refine awp_block ?_
  refine awp_loopW (fun m s => ∃ (i : Nat), (i ≤ a.length) ∧ m = a.length - i ∧ s = ⟨26, [(0, .t (.sl (a.map encN) false)), (1, .t (.sl (a.map encN) false)), (5, .t (encI (i : Nat)))], []⟩) (_) (⟨_, weak_keep (n := 26) (fr' := [(0, .t (.sl (a.map encN) false)), (1, .t (.sl (a.map encN) false)), (5, .t (encI (0 : Nat)))]) (st' := []) ⟨rfl, rfl, rfl, rfl, rfl, rfl, trivial⟩ trivial, 0, (by omega), rfl, rfl⟩) ?_
  rintro m s ⟨i, hi, rfl, rfl⟩
  refine awp_seq ?_
  refine awp_seq ?_
  refine awp_rw rfl ?_
  refine mvT ?_
  refine mvT ?_
  refine RW.op rfl rfl (eff_lenM rfl rfl te26 rfl) ?_
  refine ioT ?_
  refine RW.nil ?_
  refine awp_cond rfl (fun h1 => ?_) (fun h1 => ?_)
  · try simp only [cl] at h1
    refine awp_skip ?_
    refine awp_seq ?_
    refine awp_block ?_
    refine awp_seq ?_
    refine awp_rd [(some 17, []), (some 18, []), (some 19, []), (some 20, []), (some 21, []), (some 22, []), (some 23, []), (some 24, []), (some 25, [])] [[], [], [0, 1], [0, 1, 2], [], [], [4, 5], [4, 5, 6], [0, 1, 2, 3, 4, 5, 6, 7]] tm rfl rfl rfl rfl ?_
    refine mvD ?_
    refine mvD ?_
    refine RD.op rfl rfl rfl (eff_indexM rfl rfl te26 rfl rfl rfl (by first | assumption | exact List.getElem?_eq_getElem (by omega)) rfl (by decide)) ?_
    refine RD.op rfl rfl rfl (eff_loadW1 rfl rfl ti3 rfl rfl) ?_
    refine mvD ?_
    refine mvD ?_
    refine RD.op rfl rfl rfl (eff_indexM rfl rfl te26 rfl rfl rfl (by first | assumption | exact List.getElem?_eq_getElem (by omega)) rfl (by decide)) ?_
    refine RD.op rfl rfl rfl (eff_loadW1 rfl rfl ti3 rfl rfl) ?_
    refine RD.op rfl rfl rfl (eff_iop (r := .bool false) rfl rfl rfl rfl (by simp [iop])) ?_
    refine RD.nil ?_
    refine awp_cond rfl (fun h => nomatch h) (fun _ => ?_)
    refine awp_skip ?_
    refine awp_rw rfl ?_
    refine mvT ?_
    refine RW.op rfl rfl (eff_iop rfl rfl rfl rfl (iadd (by omega))) ?_
    refine asT ?_
    refine RW.nil ?_
    refine ⟨_, ?_, _, weak_keep (n := 26) (fr' := [(0, .t (.sl (a.map encN) false)), (1, .t (.sl (a.map encN) false)), (5, .t (encI ((i + 1) : Nat)))]) (st' := []) ⟨rfl, rfl, rfl, rfl, rfl, rfl, trivial⟩ trivial, i + 1, (by omega), rfl, rfl⟩
    omega
  · try simp only [cl] at h1
    refine awp_exit ?_
    refine awp_seq ?_
    refine awp_rw rfl ?_
    refine asT ?_
    refine RW.nil ?_
    refine awp_ret ?_
    exact ⟨Or.inr rfl, [_], ⟨.tmp (.t _), trivial⟩, .refl _⟩

end Go.Tv.C36

end
section
open Go Go.Tv Go.Proofs
namespace Go.Tv.C36

theorem snoc_ind {α : Type} {p : List α → Prop} (h0 : p []) (h1 : ∀ l a, p l → p (l ++ [a])) : ∀ l, p l := by
  have : ∀ l : List α, p l.reverse := by
    intro l
    induction l with
    | nil => exact h0
    | cons a l ih => rw [List.reverse_cons]; exact h1 _ _ ih
  intro l
  have h := this l.reverse
  rwa [List.reverse_reverse] at h

/-- Frames in the order of their keys. -/
def Inc (l : List Frm) : Prop := l.Pairwise fun a b => a.key < b.key
def KB (l : List Frm) : Prop := ∀ f, f ∈ l → 0 ≤ f.key ∧ f.key ≤ 1000000000

theorem reach_snoc (x : Rep) (l : List Frm) (f : Frm) : reachF x (l ++ [f]) = stepF (reachF x l) f := by unfold reachF; rw [List.foldl_append]; rfl
theorem reach_cases {x y : Rep} {l : List Frm} {f : Frm} : y ∈ reachF x (l ++ [f]) ↔ y ∈ reachF x l ∨ ∃ z, z ∈ reachF x l ∧ y = apply z f := by rw [reach_snoc]; exact stepF_mem
theorem stepF_self {f : Frm} {out : List Rep} {x : Rep} (h : x ∈ out) : x ∈ stepF out f := stepF_mem.2 (.inl h)
theorem reachF_self : ∀ (l : List Frm) (out : List Rep) (x : Rep), x ∈ out → x ∈ l.foldl stepF out
  | [], _, _, h => h
  | f :: l, out, x, h => reachF_self l (stepF out f) x (stepF_self h)
theorem reach_self (x : Rep) (l : List Frm) : x ∈ reachF x l := reachF_self l [x] x (List.mem_singleton.2 rfl)

theorem apply_acc {s : Rep} {f : Frm} (hk : 0 ≤ f.key ∧ f.key ≤ 1000000000) : apply s f = s ∨ (s.key ≤ f.key ∧ (apply s f).key = f.key + 1) := by
  by_cases h : f.key < s.key ∨ w64 (s.key + 4096) < f.key
  · exact .inl (apply_stay h)
  · right
    refine ⟨by omega, ?_⟩
    have e : w64 (f.key + 1) = f.key + 1 := by unfold w64; rw [wi64]; omega
    unfold apply
    rw [if_neg h]
    split
    · exact e
    · split
      · exact e
      · split
        · exact e
        · split
          · exact e
          · exact e
theorem apply_old {s : Rep} {f : Frm} (h : f.key < s.key) : apply s f = s := apply_stay (.inl h)

theorem reach_above {s : Rep} : ∀ (l : List Frm) (out : List Rep), (∀ f, f ∈ l → f.key < s.key) → (∀ y, y ∈ out → y = s) → ∀ y, y ∈ l.foldl stepF out → y = s
  | [], _, _, h, y, hy => h y hy
  | f :: l, out, hk, h, y, hy => by
    refine reach_above l (stepF out f) (fun g hg => hk g (List.mem_cons_of_mem _ hg)) (fun z hz => ?_) y hy
    rcases stepF_mem.1 hz with h1 | ⟨x, hx, rfl⟩
    · exact h z h1
    · rw [h x hx]; exact apply_old (hk f List.mem_cons_self)

theorem reach_trans {l : List Frm} : Inc l → KB l → ∀ r s x : Rep, s ∈ reachF r l → x ∈ reachF s l → x ∈ reachF r l := by
  refine snoc_ind (p := fun l => Inc l → KB l → ∀ r s x : Rep, s ∈ reachF r l → x ∈ reachF s l → x ∈ reachF r l) ?_ ?_ l
  · intro _ _ r s x hs hx
    have e1 : s = r := List.mem_singleton.1 hs
    rw [← e1]; exact hx
  · intro l f ih hi hk r s x hs hx
    have hi' : Inc l := (List.pairwise_append.1 hi).1
    have hlt : ∀ a, a ∈ l → a.key < f.key := fun a ha => (List.pairwise_append.1 hi).2.2 a ha f (List.mem_singleton.2 rfl)
    have hk' : KB l := fun g hg => hk g (List.mem_append_left _ hg)
    have first : ∀ s, s ∈ reachF r l → x ∈ reachF s (l ++ [f]) → x ∈ reachF r (l ++ [f]) := by
      intro s hs hx
      rcases reach_cases.1 hx with h | ⟨z, hz, rfl⟩
      · exact reach_cases.2 (.inl (ih hi' hk' r s x hs h))
      · exact reach_cases.2 (.inr ⟨z, ih hi' hk' r s z hs hz, rfl⟩)
    rcases reach_cases.1 hs with h | ⟨z, hz, rfl⟩
    · exact first s h hx
    · rcases apply_acc (s := z) (hk f (List.mem_append_right _ (List.mem_singleton.2 rfl))) with h | ⟨h1, h2⟩
      · rw [h] at hx; exact first z hz hx
      · have := reach_above (s := apply z f) (l ++ [f]) [apply z f] (fun g hg => by
          rw [h2]
          rcases List.mem_append.1 hg with hg | hg
          · have := hlt g hg; omega
          · rw [List.mem_singleton.1 hg]; omega) (fun y hy => List.mem_singleton.1 hy) x hx
        rw [this]; exact hs

theorem reach_arrive {l : List Frm} {f : Frm} (hf : f ∈ l) (s : Rep) : apply s f ∈ reachF s l := by
  obtain ⟨a, b, rfl⟩ := List.append_of_mem hf
  unfold reachF
  rw [List.foldl_append, List.foldl_cons]
  exact reachF_self b _ _ (stepF_mem.2 (.inr ⟨s, reachF_self a [s] s (List.mem_singleton.2 rfl), rfl⟩))

/-- The state s, and what frames that may still arrive lead it to, is possible. -/
def Inv (T : Twn) (s : Rep) : Prop := ∀ x, x ∈ reachF s T.sent → x ∈ T.poss
theorem Inv.mem {T : Twn} {s : Rep} (h : Inv T s) : s ∈ T.poss := h s (reach_self s _)
/-! ### Ledgers with a true receiver -/
def sentF (l : List Rcd) : List Frm := (l.filter fun r => decide (r.kind = 1)).map (·.frame)
structure Led (l : List Rcd) (sts : List Rep) : Prop where
  len : sts.length = l.length
  short : l.length ≤ 16
  form : ∀ i, i < l.length → form l i = 0
  inc : Inc (sentF l)
  kb : KB (sentF l)
  s0 : 0 < l.length → sts.getD 0 zr = zr
  nxt : ∀ i, i + 1 < l.length → sts.getD (i + 1) zr ∈ reachF (sts.getD i zr) (sentF (l.take (i + 1)))
  heard : ∀ i, i < l.length → (l.getD i zc).kind = 2 → sts.getD i zr ∈ reachF (l.getD i zc).rep (sentF (l.take i))
  okl : OKL l
  opr : ∀ r, r ∈ l → r.dec.op ≤ 2
  shp : ∀ s, s ∈ sts → HP s
  snx : ∀ s, s ∈ sts → NX 1000000 s

end Go.Tv.C36

end
section
open Go Go.Tv Go.Proofs
namespace Go.Tv.C36

structure Gst where
  recs : List Rcd
  sts : List Rep
  s : Rep
  reps : List Rep
  sn : Nat
  tick : Int

def gst0 : Gst := ⟨[], [], zr, [zr], 0, 0⟩
def gput (G : Gst) (r : Rcd) (sn : Nat) (tick : Int) : Gst := ⟨G.recs ++ [r], G.sts ++ [G.s], G.s, G.reps, sn, tick⟩
def garr (G : Gst) (f : Frm) (tick : Int) : Gst := ⟨G.recs, G.sts, apply G.s f, G.reps ++ [apply G.s f], G.sn, tick⟩
def repAt (G : Gst) (n : Int) : Rep := G.reps.getD (imax 0 ((G.reps.length : Int) - 1 - n / 15 % 3)).toNat zr
def gstep (F : List Frm) (n : Int) (G : Gst) : Gst :=
  if n / 3 % 5 < 2 ∧ G.sn < F.length then gput G ⟨G.tick + n % 3, 1, F.getD G.sn zf, zr, zd⟩ (G.sn + 1) (G.tick + n % 3)
  else if n / 3 % 5 = 2 ∧ 0 < G.sn then garr G (F.getD (n / 15 % (G.sn : Int)).toNat zf) (G.tick + n % 3)
  else if n / 3 % 5 = 3 then gput G ⟨G.tick + n % 3, 2, zf, repAt G n, zd⟩ G.sn (G.tick + n % 3)
  else gput G ⟨G.tick + n % 3, 3, zf, zr, ⟨G.tick + n % 3, n / 15 % 3, n / 45 % 4, n / 180 % 8⟩⟩ G.sn (G.tick + n % 3)
def gnext (F : List Frm) (x : Int) (G : Gst) : Gst := if G.recs.length < 16 then gstep F (around x 1000000) G else G
def gall (F : List Frm) (what : List Int) (i : Nat) : Gst := (what.take i).foldl (fun G x => gnext F x G) gst0
def ledger (l what : List Int) : List Rcd × List Rep := ((gall (frames l 7) what 30).recs, (gall (frames l 7) what 30).sts)

theorem gall_succ {F : List Frm} {what : List Int} {i : Nat} (h : i < what.length) : gall F what (i + 1) = gnext F what[i] (gall F what i) := by
  unfold gall; rw [take_succ_get h, List.foldl_append]; rfl
theorem gall_end {F : List Frm} {what : List Int} {i : Nat} (h : what.length ≤ i) : gall F what i = gall F what what.length := by
  unfold gall; rw [List.take_of_length_le h, List.take_length]
theorem gall_full {F : List Frm} {what : List Int} {i : Nat} (h : ¬ (gall F what i).recs.length < 16) : ∀ j, i ≤ j → gall F what j = gall F what i
  | 0, hj => by obtain rfl : i = 0 := by omega
                rfl
  | j + 1, hj => by
    rcases Nat.lt_or_ge j i with h1 | h1
    · obtain rfl : i = j + 1 := by omega
      rfl
    · have ih := gall_full h j h1
      rcases Nat.lt_or_ge j what.length with h2 | h2
      · rw [gall_succ h2, ih]; unfold gnext; rw [if_neg h]
      · rw [gall_end (i := j + 1) (by omega), ← gall_end (i := j) h2, ih]
/-- Where the generator's loop ends. -/
theorem gall_stop {F : List Frm} {what : List Int} {i : Nat} (hi : i ≤ what.length) (h30 : i ≤ 30) (h : ¬ (i < what.length ∧ (gall F what i).recs.length < 16 ∧ i < 30)) : gall F what 30 = gall F what i := by
  by_cases h1 : (gall F what i).recs.length < 16
  · rcases Nat.lt_or_ge i what.length with h2 | h2
    · have : i = 30 := by omega
      rw [this]
    · obtain rfl : i = what.length := by omega
      exact gall_end h30
  · exact gall_full h1 30 h30

/-- Frames that a generator sends. -/
structure FOK (F : List Frm) : Prop where
  inc : Inc F
  kb : KB F
  len : F.length ≤ 7
  bod : ∀ f, f ∈ F → f.body.length ≤ 1000000
  seq : ∀ f, f ∈ F → 0 ≤ f.seq ∧ f.seq ≤ 1000000

structure GI (F : List Frm) (k : Nat) (G : Gst) : Prop where
  sn : G.sn ≤ F.length
  sent : sentF G.recs = F.take G.sn
  len : G.sts.length = G.recs.length
  short : G.recs.length ≤ 16
  form : ∀ i, i < G.recs.length → form G.recs i = 0
  tick : 0 ≤ G.tick ∧ G.tick ≤ 2 * (k : Int)
  last : prevT G.recs G.recs.length ≤ G.tick
  s0 : 0 < G.recs.length → G.sts.getD 0 zr = zr
  e0 : G.recs.length = 0 → G.s = zr
  nxt : ∀ i, i + 1 < G.recs.length → G.sts.getD (i + 1) zr ∈ reachF (G.sts.getD i zr) (sentF (G.recs.take (i + 1)))
  cur : 0 < G.recs.length → G.s ∈ reachF (G.sts.getD (G.recs.length - 1) zr) (sentF G.recs)
  rne : 0 < G.reps.length
  rlen : G.reps.length ≤ k + 1
  reps : ∀ p, p ∈ G.reps → G.s ∈ reachF p (sentF G.recs)
  rhp : ∀ p, p ∈ G.reps → HP p
  heard : ∀ i, i < G.recs.length → (G.recs.getD i zc).kind = 2 → G.sts.getD i zr ∈ reachF (G.recs.getD i zc).rep (sentF (G.recs.take i))
  hp : ∀ r, r ∈ G.recs → HP r.rep
  bod : ∀ r, r ∈ G.recs → r.frame.body.length ≤ 1000000
  seq : ∀ r, r ∈ G.recs → 0 ≤ r.frame.seq ∧ r.frame.seq ≤ 1000000
  opr : ∀ r, r ∈ G.recs → r.dec.op ≤ 2
  shp : ∀ s, s ∈ G.sts → HP s
  chp : HP G.s
  cnx : NX (128 * (k : Int)) G.s
  snx : ∀ s, s ∈ G.sts → NX (128 * (k : Int)) s

theorem hpzr : HP zr := hp0 zr (List.mem_singleton.2 rfl)
theorem gi0 (F : List Frm) : GI F 0 gst0 where
  sn := Nat.zero_le _
  sent := rfl
  len := rfl
  short := by decide
  form := by intro i h; cases h
  tick := by decide
  last := by decide
  s0 := by intro h; cases h
  e0 := fun _ => rfl
  nxt := by intro i h; cases h
  cur := by intro h; cases h
  rne := by decide
  rlen := by decide
  reps := by intro p hp; rw [List.mem_singleton.1 hp]; exact List.mem_singleton.2 rfl
  rhp := by intro p hp; rw [List.mem_singleton.1 hp]; exact hpzr
  heard := by intro i h; cases h
  hp := by intro r h; cases h
  bod := by intro r h; cases h
  seq := by intro r h; cases h
  opr := by intro r h; cases h
  shp := by intro r h; cases h
  chp := hpzr
  cnx := ⟨Int.le_refl _, Int.le_refl _⟩
  snx := by intro r h; cases h

theorem getD_snoc_lt {α : Type} {l : List α} {x d : α} {i : Nat} (h : i < l.length) : (l ++ [x]).getD i d = l.getD i d := by simp [List.getD_eq_getElem?_getD, List.getElem?_append_left h]
theorem getD_snoc_eq {α : Type} {l : List α} {x d : α} : (l ++ [x]).getD l.length d = x := by simp [List.getD_eq_getElem?_getD]
theorem take_snoc {α : Type} {l : List α} {x : α} {i : Nat} (h : i ≤ l.length) : (l ++ [x]).take i = l.take i := List.take_append_of_le_length h
theorem sentF_snoc (l : List Rcd) (r : Rcd) : sentF (l ++ [r]) = sentF l ++ if r.kind = 1 then [r.frame] else [] := by
  unfold sentF
  rw [List.filter_append, List.map_append]
  congr 1
  by_cases hk : r.kind = 1
  · rw [if_pos hk, List.filter_cons, if_pos (decide_eq_true hk)]; rfl
  · rw [if_neg hk, List.filter_cons, if_neg (by rw [decide_eq_false hk]; decide)]; rfl
theorem reach_more_sent {p s : Rep} {l : List Rcd} {r : Rcd} (h : s ∈ reachF p (sentF l)) : s ∈ reachF p (sentF (l ++ [r])) := by
  rw [sentF_snoc]
  split
  · exact reach_cases.2 (.inl h)
  · rw [List.append_nil]; exact h

theorem gi_put {F : List Frm} {k : Nat} {G : Gst} (h : GI F k G) {r : Rcd} {sn : Nat} {t : Int} (hs : G.recs.length < 16) (ht : 0 ≤ t ∧ t ≤ 2 * ((k + 1 : Nat) : Int)) (hrt : r.tick = t)
    (hf : formR (prevT G.recs G.recs.length) r = 0) (hsn : sn ≤ F.length) (hse : (F.take G.sn ++ if r.kind = 1 then [r.frame] else []) = F.take sn)
    (hh : r.kind = 2 → G.s ∈ reachF r.rep (sentF G.recs)) (hr : HP r.rep) (hb : r.frame.body.length ≤ 1000000) (hq : 0 ≤ r.frame.seq ∧ r.frame.seq ≤ 1000000) (ho : r.dec.op ≤ 2) : GI F (k + 1) (gput G r sn t) where
  sn := hsn
  sent := by show sentF (G.recs ++ [r]) = _; rw [sentF_snoc, h.sent]; exact hse
  len := by show (G.sts ++ [G.s]).length = (G.recs ++ [r]).length; simp [h.len]
  short := by show (G.recs ++ [r]).length ≤ 16; simp; omega
  form := by
    intro i hi
    change i < (G.recs ++ [r]).length at hi
    show form (G.recs ++ [r]) i = 0
    rw [List.length_append, List.length_singleton] at hi
    rcases Nat.lt_or_ge i G.recs.length with h1 | h1
    · rw [form_app h1]; exact h.form i h1
    · obtain rfl : i = G.recs.length := by omega
      unfold Go.Tv.C36.form
      rw [getD_snoc_eq]
      have : prevT (G.recs ++ [r]) G.recs.length = prevT G.recs G.recs.length := by
        unfold prevT
        split
        · rfl
        · rw [getD_snoc_lt (by omega)]
      rw [this]; exact hf
  tick := ht
  last := by
    show prevT (G.recs ++ [r]) (G.recs ++ [r]).length ≤ t
    unfold prevT
    rw [List.length_append, List.length_singleton, if_neg (by omega), Nat.add_sub_cancel, getD_snoc_eq]
    omega
  s0 := by
    intro _
    show (G.sts ++ [G.s]).getD 0 zr = zr
    rcases Nat.eq_zero_or_pos G.recs.length with h1 | h1
    · have : G.sts = [] := List.length_eq_zero_iff.1 (by rw [h.len, h1])
      rw [this]; exact h.e0 h1
    · rw [getD_snoc_lt (by rw [h.len]; exact h1)]; exact h.s0 h1
  e0 := by intro h1; change (G.recs ++ [r]).length = 0 at h1; simp at h1
  nxt := by
    intro i hi
    change i + 1 < (G.recs ++ [r]).length at hi
    rw [List.length_append, List.length_singleton] at hi
    show (G.sts ++ [G.s]).getD (i + 1) zr ∈ reachF ((G.sts ++ [G.s]).getD i zr) (sentF ((G.recs ++ [r]).take (i + 1)))
    rw [take_snoc (by omega), getD_snoc_lt (i := i) (by rw [h.len]; omega)]
    rcases Nat.lt_or_ge (i + 1) G.recs.length with h1 | h1
    · rw [getD_snoc_lt (by rw [h.len]; exact h1)]; exact h.nxt i h1
    · obtain h2 : i + 1 = G.recs.length := by omega
      have := h.cur (by omega)
      rw [show i + 1 = G.sts.length from by rw [h.len]; exact h2, getD_snoc_eq, h.len, List.take_length]
      rwa [show G.recs.length - 1 = i from by omega] at this
  cur := by
    intro _
    show G.s ∈ reachF ((G.sts ++ [G.s]).getD ((G.recs ++ [r]).length - 1) zr) _
    rw [List.length_append, List.length_singleton, Nat.add_sub_cancel, ← h.len, getD_snoc_eq]
    exact reach_self _ _
  rne := h.rne
  rlen := by have := h.rlen; show G.reps.length ≤ k + 1 + 1; omega
  reps := fun p hp => reach_more_sent (h.reps p hp)
  rhp := h.rhp
  heard := by
    intro i hi
    change i < (G.recs ++ [r]).length at hi
    rw [List.length_append, List.length_singleton] at hi
    show ((G.recs ++ [r]).getD i zc).kind = 2 → (G.sts ++ [G.s]).getD i zr ∈ reachF ((G.recs ++ [r]).getD i zc).rep (sentF ((G.recs ++ [r]).take i))
    rw [take_snoc (by omega)]
    rcases Nat.lt_or_ge i G.recs.length with h1 | h1
    · rw [getD_snoc_lt h1, getD_snoc_lt (by rw [h.len]; exact h1)]; exact h.heard i h1
    · obtain rfl : i = G.recs.length := by omega
      rw [getD_snoc_eq, ← h.len, getD_snoc_eq, h.len, List.take_length]
      exact hh
  hp := by intro q hq'; rcases List.mem_append.1 hq' with h1 | h1
           · exact h.hp q h1
           · rw [List.mem_singleton.1 h1]; exact hr
  bod := by intro q hq'; rcases List.mem_append.1 hq' with h1 | h1
            · exact h.bod q h1
            · rw [List.mem_singleton.1 h1]; exact hb
  seq := by intro q hq'; rcases List.mem_append.1 hq' with h1 | h1
            · exact h.seq q h1
            · rw [List.mem_singleton.1 h1]; exact hq
  opr := by intro q hq'; rcases List.mem_append.1 hq' with h1 | h1
            · exact h.opr q h1
            · rw [List.mem_singleton.1 h1]; exact ho
  shp := by intro q hq'; rcases List.mem_append.1 hq' with h1 | h1
            · exact h.shp q h1
            · rw [List.mem_singleton.1 h1]; exact h.chp
  chp := h.chp
  cnx := h.cnx.mono (by omega)
  snx := by intro q hq'; rcases List.mem_append.1 hq' with h1 | h1
            · exact (h.snx q h1).mono (by omega)
            · rw [List.mem_singleton.1 h1]; exact h.cnx.mono (by omega)

theorem gi_arr {F : List Frm} {k : Nat} {G : Gst} (hF : FOK F) (h : GI F k G) (hk : k ≤ 1000) {f : Frm} {t : Int} (ht : 0 ≤ t ∧ t ≤ 2 * ((k + 1 : Nat) : Int)) (ht2 : G.tick ≤ t) (hf : f ∈ F.take G.sn) : GI F (k + 1) (garr G f t) := by
  have hin : Inc (sentF G.recs) := by rw [h.sent]; exact hF.inc.sublist (List.take_sublist _ _)
  have hkb : KB (sentF G.recs) := by rw [h.sent]; exact fun g hg => hF.kb g (List.mem_of_mem_take hg)
  have harr : apply G.s f ∈ reachF G.s (sentF G.recs) := reach_arrive (by rw [h.sent]; exact hf) _
  exact {
    sn := h.sn, sent := h.sent, len := h.len, short := h.short, form := h.form, tick := ht, last := Int.le_trans h.last ht2, s0 := h.s0
    e0 := by
      intro h1
      have h2 : G.recs = [] := List.length_eq_zero_iff.1 h1
      have h3 := h.sent
      rw [h2] at h3
      rw [← h3] at hf
      cases hf
    nxt := h.nxt
    cur := fun h1 => reach_trans hin hkb _ _ _ (h.cur h1) harr
    rne := by show 0 < (G.reps ++ [apply G.s f]).length; simp
    rlen := by have := h.rlen; show (G.reps ++ [apply G.s f]).length ≤ k + 1 + 1; simp; omega
    reps := by
      intro p hp
      rcases List.mem_append.1 hp with h1 | h1
      · exact reach_trans hin hkb _ _ _ (h.reps p h1) harr
      · rw [List.mem_singleton.1 h1]; exact reach_self _ _
    rhp := by
      intro p hp
      rcases List.mem_append.1 hp with h1 | h1
      · exact h.rhp p h1
      · rw [List.mem_singleton.1 h1]; exact apply_hp h.chp
    heard := h.heard, hp := h.hp, bod := h.bod, seq := h.seq, opr := h.opr, shp := h.shp, chp := apply_hp h.chp
    cnx := (apply_nx h.cnx (by omega)).mono (by omega)
    snx := fun q hq => (h.snx q hq).mono (by omega) }

theorem GI.up {F : List Frm} {k : Nat} {G : Gst} (h : GI F k G) : GI F (k + 1) G :=
  { h with tick := by have := h.tick; omega, cnx := h.cnx.mono (by omega), snx := fun q hq => (h.snx q hq).mono (by omega), rlen := by have := h.rlen; omega }
theorem formR_ok {p : Int} {r : Rcd} (hk : r.kind = 1 ∨ r.kind = 2) (ht : 0 ≤ r.tick ∧ r.tick ≤ 1000000) (hp : p ≤ r.tick) : formR p r = 0 := by
  unfold formR
  rw [if_neg (by omega), if_neg (by omega), if_neg (by omega), if_pos (by omega)]
theorem formR_dec {p : Int} {r : Rcd} (hk : r.kind = 3) (ht : 0 ≤ r.tick ∧ r.tick ≤ 1000000) (hp : p ≤ r.tick) (h1 : r.dec.tick = r.tick) (h2 : 0 ≤ r.dec.kind ∧ r.dec.kind ≤ 3) (h3 : 0 ≤ r.dec.seq ∧ r.dec.seq ≤ 1000000) : formR p r = 0 := by
  unfold formR
  rw [if_neg (by omega), if_neg (by omega), if_neg (by omega), if_neg (by omega), if_neg (by omega)]
theorem gi_step {F : List Frm} {k : Nat} {G : Gst} (hF : FOK F) (h : GI F k G) (hk : k ≤ 1000) (hs : G.recs.length < 16) {n : Int} (hn : 0 ≤ n) : GI F (k + 1) (gstep F n G) := by
  have ht := h.tick
  have h3 : 0 ≤ n % 3 ∧ n % 3 < 3 := by omega
  have hl := h.last
  unfold gstep
  split
  · rename_i hc
    refine gi_put h hs (by omega) rfl (formR_ok (.inl rfl) (by show 0 ≤ G.tick + n % 3 ∧ G.tick + n % 3 ≤ 1000000; omega) (by show prevT G.recs G.recs.length ≤ G.tick + n % 3; omega)) (by omega) ?_ (fun e => by cases e) hpzr ?_ ?_ (by show (0 : Int) ≤ 2; decide)
    · show _ ++ [F.getD G.sn zf] = _
      rw [take_succ_get hc.2]; simp [List.getD_eq_getElem?_getD, hc.2]
    · show (F.getD G.sn zf).body.length ≤ _
      rw [show F.getD G.sn zf = F[G.sn]'hc.2 from by simp [List.getD_eq_getElem?_getD, hc.2]]
      exact hF.bod _ (List.getElem_mem _)
    · show 0 ≤ (F.getD G.sn zf).seq ∧ _
      rw [show F.getD G.sn zf = F[G.sn]'hc.2 from by simp [List.getD_eq_getElem?_getD, hc.2]]
      exact hF.seq _ (List.getElem_mem _)
  · split
    · rename_i _ hc
      have h1 := Int.emod_nonneg (n / 15) (show (G.sn : Int) ≠ 0 by omega)
      have h2 := Int.emod_lt_of_pos (n / 15) (show (0 : Int) < G.sn by omega)
      have hsn := h.sn
      have hj : (n / 15 % (G.sn : Int)).toNat < (F.take G.sn).length := by rw [List.length_take]; omega
      refine gi_arr hF h (by omega) (by omega) (by omega) ?_
      have : F.getD (n / 15 % (G.sn : Int)).toNat zf = (F.take G.sn)[(n / 15 % (G.sn : Int)).toNat]'hj := by
        rw [List.getElem_take, List.getD_eq_getElem?_getD, List.getElem?_eq_getElem (by omega)]; rfl
      rw [this]
      exact List.getElem_mem _
    · split
      · have hm : repAt G n ∈ G.reps := by
          unfold repAt
          have h4 : (imax 0 ((G.reps.length : Int) - 1 - n / 15 % 3)).toNat < G.reps.length := by
            have := h.rne
            unfold imax
            split <;> omega
          rw [List.getD_eq_getElem?_getD, List.getElem?_eq_getElem h4]
          exact List.getElem_mem _
        refine gi_put h hs (by omega) rfl (formR_ok (.inr rfl) (by show 0 ≤ G.tick + n % 3 ∧ G.tick + n % 3 ≤ 1000000; omega) (by show prevT G.recs G.recs.length ≤ G.tick + n % 3; omega)) h.sn ?_ (fun _ => h.reps _ hm) (h.rhp _ hm) (by show (0 : Nat) ≤ _; omega) (by show (0 : Int) ≤ 0 ∧ (0 : Int) ≤ 1000000; decide) (by show (0 : Int) ≤ 2; decide)
        show _ ++ (if (2 : Int) = 1 then _ else []) = _
        rw [if_neg (by decide), List.append_nil]
      · refine gi_put h hs (by omega) rfl (formR_dec rfl (by show 0 ≤ G.tick + n % 3 ∧ G.tick + n % 3 ≤ 1000000; omega) (by show prevT G.recs G.recs.length ≤ G.tick + n % 3; omega) rfl (by show 0 ≤ n / 45 % 4 ∧ n / 45 % 4 ≤ 3; omega) (by show 0 ≤ n / 180 % 8 ∧ n / 180 % 8 ≤ 1000000; omega)) h.sn ?_ (fun e => by cases e) hpzr (by show (0 : Nat) ≤ _; omega) (by show (0 : Int) ≤ 0 ∧ (0 : Int) ≤ 1000000; decide) (by show n / 15 % 3 ≤ 2; omega)
        show _ ++ (if (3 : Int) = 1 then _ else []) = _
        rw [if_neg (by decide), List.append_nil]
theorem gi_all {F : List Frm} (hF : FOK F) (what : List Int) : ∀ i, i ≤ what.length → i ≤ 1000 → GI F i (gall F what i)
  | 0, _, _ => gi0 F
  | i + 1, hi, hk => by
    have ih := gi_all hF what i (by omega) (by omega)
    rw [gall_succ (by omega)]
    unfold gnext
    split
    · rename_i hs; exact gi_step hF ih (by omega) hs (around_range (by decide)).1
    · exact ih.up
theorem nSent_sentF (l : List Rcd) : (l.filter fun r => decide (r.kind = 1)).length = (sentF l).length := by unfold sentF; rw [List.length_map]
theorem GI.led {F : List Frm} {k : Nat} {G : Gst} (hF : FOK F) (h : GI F k G) (hk : k ≤ 1000) : Led G.recs G.sts where
  len := h.len
  short := h.short
  form := h.form
  inc := by rw [h.sent]; exact hF.inc.sublist (List.take_sublist _ _)
  kb := by rw [h.sent]; exact fun g hg => hF.kb g (List.mem_of_mem_take hg)
  s0 := h.s0
  nxt := h.nxt
  heard := h.heard
  okl := ⟨by have := h.short; omega, by rw [nSent_sentF, h.sent, List.length_take]; have := hF.len; omega, h.hp, h.bod, h.seq⟩
  opr := h.opr
  shp := h.shp
  snx := fun s hs => (h.snx s hs).mono (by omega)
theorem frames_ok (l : List Int) : FOK (frames l 7) where
  inc := by
    unfold Inc
    rw [List.pairwise_iff_getElem]
    intro i j hi hj hij
    rw [frames_get, frames_get, frame_key, frame_key]
    exact keyAt_mono l hij
  kb := by
    intro f hf
    obtain ⟨j, hj, rfl⟩ := frames_mem hf
    rw [frame_key]
    have := keyAt_range l j
    omega
  len := by rw [frames_len]; omega
  bod := by intro f hf; obtain ⟨j, _, rfl⟩ := frames_mem hf; rw [frame_body]; decide
  seq := by
    intro f hf
    obtain ⟨j, hj, rfl⟩ := frames_mem hf
    have := around_range (n := l.getD j 0) (m := 1000000) (by decide)
    have hm : 0 ≤ imax 0 ((j : Int) - 3) ∧ imax 0 ((j : Int) - 3) ≤ 20 := by unfold imax; split <;> omega
    unfold frameAt frm
    split
    · show 0 ≤ imax 0 ((j : Int) - 3) + around (l.getD j 0) 1000000 % 7 ∧ imax 0 ((j : Int) - 3) + around (l.getD j 0) 1000000 % 7 ≤ 1000000; omega
    · split
      · show 0 ≤ around (l.getD j 0) 1000000 / 84 % 300 ∧ around (l.getD j 0) 1000000 / 84 % 300 ≤ 1000000; omega
      · show 0 ≤ imax 0 ((j : Int) - 3) + around (l.getD j 0) 1000000 % 7 ∧ imax 0 ((j : Int) - 3) + around (l.getD j 0) 1000000 % 7 ≤ 1000000; omega
theorem ledger_led (l what : List Int) : Led (ledger l what).1 (ledger l what).2 := by
  unfold ledger
  rcases Nat.lt_or_ge what.length 30 with h | h
  · rw [gall_end (i := 30) (by omega)]
    exact (gi_all (frames_ok l) what what.length (Nat.le_refl _) (by omega)).led (frames_ok l) (by omega)
  · exact (gi_all (frames_ok l) what 30 h (by omega)).led (frames_ok l) (by omega)

/-! ### The generator's steps -/
section
variable {F : List Frm} {what : List Int} {i : Nat}
theorem gall_on (hi : i < what.length) (h16 : (gall F what i).recs.length < 16) : gall F what (i + 1) = gstep F (around what[i] 1000000) (gall F what i) := by
  rw [gall_succ hi]; unfold gnext; rw [if_pos h16]
theorem gall_send {n : Int} {sn : Nat} (hi : i < what.length) (hn : around what[i] 1000000 = n) (h16 : (gall F what i).recs.length < 16) (hs : sn = (gall F what i).sn) (c : n / 3 % 5 < 2) (c2 : sn < F.length) :
    gall F what (i + 1) = gput (gall F what i) ⟨(gall F what i).tick + n % 3, 1, F[sn], zr, zd⟩ (sn + 1) ((gall F what i).tick + n % 3) := by
  subst hs hn
  rw [gall_on hi h16]; unfold gstep
  rw [if_pos ⟨c, c2⟩, show F.getD (gall F what i).sn zf = F[(gall F what i).sn] from by simp [List.getD_eq_getElem?_getD, c2]]
theorem gall_arr {n : Int} {sn q : Nat} (hi : i < what.length) (hn : around what[i] 1000000 = n) (h16 : (gall F what i).recs.length < 16) (hs : sn = (gall F what i).sn) (c : n / 3 % 5 = 2) (c2 : 0 < sn) (hq : n / 15 % (sn : Int) = (q : Int)) (hqf : q < F.length) :
    gall F what (i + 1) = garr (gall F what i) F[q] ((gall F what i).tick + n % 3) := by
  subst hs hn
  rw [gall_on hi h16]; unfold gstep
  rw [if_neg (by omega), if_pos ⟨c, c2⟩, hq, Int.toNat_natCast, show F.getD q zf = F[q] from by simp [List.getD_eq_getElem?_getD, hqf]]
theorem gall_hear {n : Int} {sn q : Nat} (hi : i < what.length) (hn : around what[i] 1000000 = n) (h16 : (gall F what i).recs.length < 16) (hs : sn = (gall F what i).sn) (c : n / 3 % 5 = 3) (hq : imax 0 (((gall F what i).reps.length : Int) - 1 - n / 15 % 3) = (q : Int)) (hql : q < (gall F what i).reps.length) :
    gall F what (i + 1) = gput (gall F what i) ⟨(gall F what i).tick + n % 3, 2, zf, (gall F what i).reps[q], zd⟩ sn ((gall F what i).tick + n % 3) := by
  subst hs hn
  rw [gall_on hi h16]; unfold gstep repAt
  rw [if_neg (by omega), if_neg (by omega), if_pos c, hq, Int.toNat_natCast, show (gall F what i).reps.getD q zr = (gall F what i).reps[q] from by simp [List.getD_eq_getElem?_getD, hql]]
theorem gall_dec {n : Int} {sn : Nat} (hi : i < what.length) (hn : around what[i] 1000000 = n) (h16 : (gall F what i).recs.length < 16) (hs : sn = (gall F what i).sn) (c1 : ¬ (n / 3 % 5 < 2 ∧ sn < F.length)) (c2 : ¬ (n / 3 % 5 = 2 ∧ 0 < sn)) (c3 : ¬ n / 3 % 5 = 3) :
    gall F what (i + 1) = gput (gall F what i) ⟨(gall F what i).tick + n % 3, 3, zf, zr, ⟨(gall F what i).tick + n % 3, n / 15 % 3, n / 45 % 4, n / 180 % 8⟩⟩ sn ((gall F what i).tick + n % 3) := by
  subst hs hn
  rw [gall_on hi h16]; unfold gstep
  rw [if_neg c1, if_neg c2, if_neg c3]
end
theorem mapT_snoc {α : Type} {f : α → Tr} {l : List α} {x : α} {y : AV} (h : y = .t (f x)) : (l.map f).map AV.t ++ [y] = ((l ++ [x]).map f).map .t := by subst h; simp
theorem elR {l : List Rep} {i : Nat} (h : i < l.length) : ((l.map encR).map AV.t)[i]? = some (.t (encR l[i])) := by simp [h]

/-! ### A ledger with one field replaced -/
def bentR (h n : Int) (r : Rcd) : Rcd :=
  if h = 0 then ⟨n, r.kind, r.frame, r.rep, r.dec⟩
  else if h = 1 then ⟨r.tick, n, r.frame, r.rep, r.dec⟩
  else if h = 2 then ⟨r.tick, r.kind, r.frame, r.rep, ⟨n, r.dec.op, r.dec.kind, r.dec.seq⟩⟩
  else if h = 3 then ⟨r.tick, r.kind, r.frame, r.rep, ⟨r.dec.tick, r.dec.op, n, r.dec.seq⟩⟩
  else if h = 4 then ⟨r.tick, r.kind, r.frame, r.rep, ⟨r.dec.tick, r.dec.op, r.dec.kind, n⟩⟩
  else if h = 5 then ⟨r.tick, r.kind, ⟨r.frame.seq, around n 20, r.frame.unlock, r.frame.body, r.frame.tag⟩, r.rep, r.dec⟩
  else ⟨r.tick, r.kind, r.frame, ⟨around n 20, r.rep.have_, r.rep.key, r.rep.locked⟩, r.dec⟩
def bent (l : List Rcd) (p h n : Int) : List Rcd := if l = [] then [] else l.set (around p (l.length : Int)).toNat (bentR (around h 7) n (l.getD (around p (l.length : Int)).toNat zc))
theorem bent_nil {l : List Rcd} {p h n : Int} (hl : (l.length : Int) = 0) : bent l p h n = l := by
  unfold bent
  rw [if_pos (List.length_eq_zero_iff.1 (by omega)), List.length_eq_zero_iff.1 (show l.length = 0 by omega)]
theorem bent_at {l : List Rcd} {p h n : Int} {k : Nat} {r : Rcd} (hk : around p (l.length : Int) = (k : Int)) (hl : k < l.length) (hr : bentR (around h 7) n l[k] = r) : bent l p h n = l.set k r := by
  unfold bent
  rw [if_neg (fun e => by rw [e] at hl; simp at hl), hk, Int.toNat_natCast, getD_at hl, hr]
theorem setC_eq {l : List Rcd} {k : Nat} {y : AV} {r : Rcd} (h : y = .t (encC r)) : ((l.map encC).map AV.t).set k y = ((l.set k r).map encC).map .t := by
  subst h; rw [List.map_set, List.map_set]
theorem elC {l : List Rcd} {i : Nat} (h : i < l.length) : ((l.map encC).map AV.t)[i]? = some (.t (encC l[i])) := by simp [h]
theorem bentR_okl (h n : Int) (r : Rcd) (hr : HP r.rep ∧ r.frame.body.length ≤ 1000000 ∧ 0 ≤ r.frame.seq ∧ r.frame.seq ≤ 1000000) : HP (bentR h n r).rep ∧ (bentR h n r).frame.body.length ≤ 1000000 ∧ 0 ≤ (bentR h n r).frame.seq ∧ (bentR h n r).frame.seq ≤ 1000000 := by
  unfold bentR
  repeat' split
  all_goals exact hr
theorem bent_okl {l : List Rcd} (hl : OKL l) (hs : l.length ≤ 16) (h8 : (sentF l).length ≤ 7) (p h n : Int) : OKL (bent l p h n) := by
  by_cases he : l = []
  · rw [bent_nil (by rw [he]; rfl)]; exact hl
  · have hlp := List.length_pos_iff.2 he
    have hr := around_range (n := p) (m := (l.length : Int)) (by omega)
    obtain ⟨k, hk⟩ : ∃ k : Nat, around p (l.length : Int) = (k : Int) := ⟨(around p (l.length : Int)).toNat, by omega⟩
    have hkl : k < l.length := by omega
    rw [bent_at hk hkl rfl]
    have hm : ∀ r, r ∈ l.set k (bentR (around h 7) n l[k]) → HP r.rep ∧ r.frame.body.length ≤ 1000000 ∧ 0 ≤ r.frame.seq ∧ r.frame.seq ≤ 1000000 := by
      intro r hr2
      have good : ∀ x, x ∈ l → HP x.rep ∧ x.frame.body.length ≤ 1000000 ∧ 0 ≤ x.frame.seq ∧ x.frame.seq ≤ 1000000 := fun x hx => ⟨hl.hp x hx, hl.bod x hx, hl.seq x hx⟩
      rcases List.mem_or_eq_of_mem_set hr2 with h1 | h1
      · exact good r h1
      · rw [h1]; exact bentR_okl _ _ _ (good _ (List.getElem_mem _))
    refine ⟨by rw [List.length_set]; omega, ?_, fun r hr => (hm r hr).1, fun r hr => (hm r hr).2.1, fun r hr => (hm r hr).2.2⟩
    have h1 := nSent_sentF l
    have h2 : ((l.set k (bentR (around h 7) n l[k])).filter fun r => decide (r.kind = 1)).length ≤ (l.filter fun r => decide (r.kind = 1)).length + 1 := by
      rw [← List.countP_eq_length_filter, ← List.countP_eq_length_filter, List.countP_set hkl]
      repeat' split
      all_goals omega
    omega
theorem Led.bentO {l sts} (h : Led l sts) (h7 : (sentF l).length ≤ 7) (p hw n : Int) : OKL (bent l p hw n) := bent_okl h.okl h.short h7 p hw n

theorem ledger_few (l what : List Int) : (sentF (ledger l what).1).length ≤ 7 := by
  unfold ledger
  have key : ∀ i, i ≤ what.length → i ≤ 1000 → (sentF (gall (frames l 7) what i).recs).length ≤ 7 := fun i h1 h2 => by
    rw [(gi_all (frames_ok l) what i h1 h2).sent, List.length_take]
    have := (frames_ok l).len
    omega
  rcases Nat.lt_or_ge what.length 30 with h | h
  · rw [gall_end (i := 30) (by omega)]; exact key _ (Nat.le_refl _) (by omega)
  · exact key 30 h (by omega)

/-! ### The examples -/
abbrev dAg : Dec := ⟨3, 0, 1, 0⟩
abbrev dTo : Dec := ⟨3, 0, 3, 0⟩
abbrev rSe : Rcd := ⟨0, 1, zf, zr, zd⟩
abbrev rHe : Rcd := ⟨3, 2, zf, ⟨1, 0, 1, false⟩, zd⟩
abbrev rX : Rcd := ⟨3, 3, zf, zr, dAg⟩
abbrev rY : Rcd := ⟨3, 3, zf, zr, dTo⟩
abbrev late4 : List Rcd := [rSe, rX, rY, rHe]
abbrev early4 : List Rcd := [rSe, rHe, rX, rY]
theorem livA : judge late4 dAg = (zv, 0) := by decide +kernel
theorem livB : judge late4 dTo = (⟨false, ⟨1, 0, 1, false⟩⟩, 0) := by decide +kernel
theorem livC : judge early4 dAg = (⟨true, zr⟩, 0) := by decide +kernel
theorem livD : held early4 = ([2], 0) := by decide +kernel
theorem hp1 : HP ⟨1, 0, 1, false⟩ := ⟨by decide, by decide⟩
theorem okL4 {l : List Rcd} (h : ∀ r, r ∈ l → r = rSe ∨ r = rX ∨ r = rY ∨ r = rHe) (hl : l.length ≤ 12) : OKL l where
  len := by omega
  few := Nat.le_trans (List.length_filter_le _ _) hl
  hp := by intro r hr; rcases h r hr with rfl | rfl | rfl | rfl <;> first | exact hpzr | exact hp1
  bod := by intro r hr; rcases h r hr with rfl | rfl | rfl | rfl <;> exact Nat.zero_le _
  seq := by intro r hr; rcases h r hr with rfl | rfl | rfl | rfl <;> exact ⟨Int.le_refl _, by decide⟩
theorem okLate : OKL late4 := okL4 (by simp) (by decide)
theorem okEarly : OKL early4 := okL4 (by simp) (by decide)
end Go.Tv.C36

end
section
open Go Go.Tv Go.Proofs
namespace Go.Tv.C36
set_option maxRecDepth 20000
set_option maxHeartbeats 2000000
set_option linter.unusedSimpArgs false
set_option linter.unusedVariables false
theorem ledger_ret (l what : List Int) (hI : ∀ x, x ∈ l → I64 x) (hl : l.length ≤ 9223372036854775807) (hJ : ∀ x, x ∈ what → I64 x) (hwl : what.length ≤ 9223372036854775807) : Ret Tryd.prog 17 [.sl (l.map encI) false, .sl (what.map encI) false] (.tup [.sl ((ledger l what).1.map encC) false, .sl ((ledger l what).2.map encR) false]) := by
  refine ret_of_awp Tryd.func17 rfl (Nat.le_of_ble_eq_true rfl) ?_
  refine awp_seq ?_
  refine awp_rw rfl ?_
  refine asT ?_
  refine asT ?_
  refine RW.nil ?_
  refine awp_seq ?_
  refine awp_rw rfl ?_
  refine mvT ?_
  refine RW.op rfl rfl (eff_callT (frames_ret l 7 hI hl (by decide)) co36 rfl rfl rfl rfl) ?_
  refine asT ?_
  refine RW.nil ?_
  refine awp_seq ?_
  refine awp_rw rfl ?_
  refine asT ?_
  refine RW.nil ?_
  show AWP _ _ _ _
  refine awp_weak (weak_adopt (d := 7) (id := 7) (k := 15) (ty := 47) rfl rfl) ?_
  refine awp_seq ?_
  refine awp_rw rfl ?_
  refine asT ?_
  refine RW.nil ?_
  show AWP _ _ _ _
  refine awp_weak (weak_adopt (d := 8) (id := 8) (k := 4) (ty := 23) rfl rfl) ?_
  refine awp_seq ?_
  refine awp_rw rfl ?_
  refine RW.op rfl rfl (eff_buildT (ys := [_, _, _, _]) rfl rfl tz23 tg23 rfl) ?_
  refine RW.new rfl rfl (eff_allocK (k := 4) (id := 9) rfl rfl tz23 rfl rfl) ?_
  refine RW.store rfl rfl (eff_storeW (v := .t _) (els := [_]) (els' := [_]) rfl rfl ti23 rfl rfl rfl rfl rfl rfl rfl rfl rfl) ?_
  refine RW.nil ?_
  refine awp_seq ?_
  refine awp_rw rfl ?_
  refine RW.op rfl rfl (eff_load rfl rfl ti23 rfl (.whole rfl rfl rfl rfl rfl rfl)) ?_
  refine RW.new rfl rfl (eff_buildSliceL (id := 20) (els := [.t (.agg [_, _, _, _])]) rfl rfl te33 tz23 rfl (by decide) (by decide) rfl rfl rfl rfl) ?_
  refine asO ?_
  refine RW.nil ?_
  refine awp_seq ?_
  refine awp_rw rfl ?_
  refine asT ?_
  refine RW.nil ?_
  refine awp_seq ?_
  refine awp_rw rfl ?_
  refine asT ?_
  refine RW.nil ?_
  refine awp_seq ?_
  refine awp_seq ?_
  refine awp_rw rfl ?_
  refine asT ?_
  refine RW.nil ?_
  refine awp_block ?_
  refine awp_loopW (fun m s => ∃ (i : Nat) (g7 : Nat) (g8 : Nat) (g0 : Nat) (n7 : Nat) (n8 : Nat) (n0 : Nat) (e7 : List AV) (e8 : List AV) (e0 : List AV) (cs : Rep) (sn : Nat) (tk : Int), (i ≤ what.length) ∧ (i ≤ 30) ∧ (n7 = (gall (frames l 7) what i).recs.length) ∧ (n8 = (gall (frames l 7) what i).sts.length) ∧ (n0 = (gall (frames l 7) what i).reps.length) ∧ (e7 = ((gall (frames l 7) what i).recs.map encC).map .t) ∧ (e8 = ((gall (frames l 7) what i).sts.map encR).map .t) ∧ (e0 = ((gall (frames l 7) what i).reps.map encR).map .t) ∧ (cs = (gall (frames l 7) what i).s) ∧ (sn = (gall (frames l 7) what i).sn) ∧ (tk = (gall (frames l 7) what i).tick) ∧ m = what.length - i ∧ s = ⟨129, [(1, .t (.sl (what.map encI) false)), (6, .t (.sl ((frames l 7).map encF) false)), (7, .own 7 g7 0 n7), (8, .own 8 g8 0 n8), (9, .ptr 9 0 0 0), (10, .own 20 g0 0 n0), (11, .t (encI (sn : Nat))), (12, .t (encI tk)), (13, .t (encI (i : Nat)))], [(7, some ⟨15, 47, g7, e7⟩), (8, some ⟨4, 23, g8, e8⟩), (9, some ⟨4, 23, 0, [.t (encR cs)]⟩), (20, some ⟨4, 23, g0, e0⟩)]⟩) (_) (⟨_, weak_keep (n := 129) (fr' := [(1, .t (.sl (what.map encI) false)), (6, .t (.sl ((frames l 7).map encF) false)), (7, .own 7 0 0 0), (8, .own 8 0 0 0), (9, .ptr 9 0 0 0), (10, .own 20 0 0 1), (11, .t (encI (0 : Nat))), (12, .t (encI 0)), (13, .t (encI (0 : Nat)))]) (st' := [(7, some ⟨15, 47, 0, ([])⟩), (8, some ⟨4, 23, 0, ([])⟩), (9, some ⟨4, 23, 0, [.t (encR zr)]⟩), (20, some ⟨4, 23, 0, _⟩)]) ⟨rfl, rfl, rfl, rfl, rfl, rfl, rfl, rfl, rfl, rfl, rfl, rfl, rfl, rfl, rfl, rfl, rfl, rfl, trivial⟩ ⟨rfl, (by first | exact okE_nil | exact okE_one rfl | (rw [he7]; exact okE_t) | (rw [he7]; intro x hx; simp only [List.mem_append, List.mem_map, List.mem_singleton] at hx; rcases hx with ⟨y, _, rfl⟩ | rfl <;> rfl)), rfl, (by first | exact okE_nil | exact okE_one rfl | (rw [he8]; exact okE_t) | (rw [he8]; intro x hx; simp only [List.mem_append, List.mem_map, List.mem_singleton] at hx; rcases hx with ⟨y, _, rfl⟩ | rfl <;> rfl)), rfl, okE_one rfl, rfl, (by first | exact okE_nil | exact okE_one rfl | (rw [he0]; exact okE_t) | (rw [he0]; intro x hx; simp only [List.mem_append, List.mem_map, List.mem_singleton] at hx; rcases hx with ⟨y, _, rfl⟩ | rfl <;> rfl)), trivial⟩, 0, 0, 0, 0, 0, 0, 1, [], [], _, zr, 0, 0, (by omega), (by omega), (by rfl), (by rfl), (by rfl), (by rfl), (by rfl), (by rfl), (by rfl), (by rfl), (by rfl), rfl, rfl⟩) ?_
  rintro m s ⟨i, g7, g8, g0, n7, n8, n0, e7, e8, e0, cs, sn, tk, hi, h30, hn7, hn8, hn0, he7, he8, he0, hcs, hsn, htk, rfl, rfl⟩
  have hgi := gi_all (frames_ok l) what i hi (by omega)
  have hg1 := hgi.sn
  have hg2 := hgi.tick
  have hg3 := hgi.rlen
  have hg4 := hgi.rne
  have hg5 := hgi.len
  have hg6 := hgi.short
  have hg7 : HP cs := by rw [hcs]; exact hgi.chp
  have hfl : (frames l 7).length ≤ 7 := by rw [frames_len]; omega
  refine awp_seq ?_
  refine awp_seq ?_
  refine awp_rw rfl ?_
  refine mvT ?_
  refine mvT ?_
  refine RW.op rfl rfl (eff_lenM rfl rfl te26 rfl) ?_
  refine ioT ?_
  refine mvT ?_
  refine RW.split 25 rfl (fun h1 => ?_) (fun h1 => ?_)
  · try simp only [cl] at h1
    refine RW.gop rfl rfl rfl rfl rfl rfl (eff_move (v := .own _ _ _ _) rfl rfl rfl) ?_
    refine RW.gop rfl rfl rfl rfl rfl rfl (eff_len rfl rfl te32 rfl rfl rfl) ?_
    refine RW.gop rfl rfl rfl rfl rfl rfl (eff_iop rfl rfl rfl rfl rfl) ?_
    refine pkT ?_
    refine mvT ?_
    refine RW.split 30 rfl (fun h2 => ?_) (fun h2 => ?_)
    · try simp only [cl] at h2
      refine RW.gop rfl rfl rfl rfl rfl rfl (eff_move (v := .t _) rfl rfl rfl) ?_
      refine RW.gop rfl rfl rfl rfl rfl rfl (eff_iop rfl rfl rfl rfl rfl) ?_
      refine pkT ?_
      refine RW.nil ?_
      refine awp_cond rfl (fun h3 => ?_) (fun h3 => ?_)
      · try simp only [cl] at h3
        refine awp_skip ?_
        refine awp_seq ?_
        refine awp_block ?_
        refine awp_seq ?_
        refine awp_rw rfl ?_
        have hil : i < what.length := by omega
        refine mvT ?_
        refine mvT ?_
        refine RW.op rfl rfl (eff_indexM rfl rfl te26 rfl rfl rfl (by first | assumption | exact List.getElem?_eq_getElem (by omega)) rfl (by decide)) ?_
        refine RW.op rfl rfl (eff_loadW1 rfl rfl ti3 rfl rfl) ?_
        refine RW.op rfl rfl (eff_callT (around_ret _ _ (hJ _ (List.getElem_mem _)) (by omega)) co13 rfl rfl rfl rfl) ?_
        refine asT ?_
        refine RW.nil ?_
        refine awp_seq ?_
        refine awp_rw rfl ?_
        have har := around_range (n := what[i]'hil) (m := 1000000) (by decide)
        refine mvT ?_
        refine mvT ?_
        refine RW.op rfl rfl (eff_remE (r := (around (what[i]'hil) 1000000) % 3) rfl rfl rfl rfl (by decide) (tmod_pos (by omega))) ?_
        refine RW.op rfl rfl (eff_iop (r := encI (tk + (around (what[i]'hil) 1000000) % 3)) rfl rfl rfl rfl (iadd (by omega))) ?_
        refine asT ?_
        refine RW.nil ?_
        refine awp_seq ?_
        refine awp_rw rfl ?_
        refine mvT ?_
        refine RW.op rfl rfl (eff_buildT (ys := [_, _, _, _, _, _, _, _, _, _, _, _, _, _, _]) rfl rfl tz47 tg47 rfl) ?_
        refine RW.new rfl rfl (eff_allocK (k := 15) (id := 15) rfl rfl tz47 rfl rfl) ?_
        refine RW.store rfl rfl (eff_storeW (v := .t _) (els := [_]) (els' := [_]) rfl rfl ti47 rfl rfl rfl rfl rfl rfl rfl rfl rfl) ?_
        refine RW.nil ?_
        refine awp_seq ?_
        refine awp_block ?_
        refine awp_seq ?_
        refine awp_rw rfl ?_
        refine mvT ?_
        refine RW.op rfl rfl (eff_quoE (r := (around (what[i]'hil) 1000000) / 3) rfl rfl rfl rfl (by decide) (quoN (by omega) (by decide))) ?_
        refine RW.op rfl rfl (eff_remE (r := ((around (what[i]'hil) 1000000) / 3) % 5) rfl rfl rfl rfl (by decide) (tmod_pos (by omega))) ?_
        refine ioT ?_
        refine mvT ?_
        refine RW.split 65 rfl (fun h4 => ?_) (fun h4 => ?_)
        · try simp only [cl] at h4
          refine RW.gop rfl rfl rfl rfl rfl rfl (eff_move (v := .t _) rfl rfl rfl) ?_
          refine RW.gop rfl rfl rfl rfl rfl rfl (eff_move (v := .t _) rfl rfl rfl) ?_
          refine RW.gop rfl rfl rfl rfl rfl rfl (eff_lenM rfl rfl te62 rfl) ?_
          refine RW.gop rfl rfl rfl rfl rfl rfl (eff_iop rfl rfl rfl rfl rfl) ?_
          refine pkT ?_
          refine asT ?_
          refine RW.nil ?_
          refine awp_cond rfl (fun h5 => ?_) (fun h5 => ?_)
          · try simp only [cl] at h5
            refine awp_seq ?_
            refine awp_rw rfl ?_
            refine faT tf47_1 ?_
            refine RW.store rfl rfl (eff_storeS (v := .t _) (ys := [_, _, _, _, _, _, _, _, _, _, _, _, _, _, _]) (els := [_]) (els' := [_]) rfl rfl ti3 rfl rfl rfl rfl rfl rfl rfl (Nat.le_of_ble_eq_true rfl) rfl rfl) ?_
            refine RW.nil ?_
            refine awp_seq ?_
            refine awp_rw rfl ?_
            refine mvT ?_
            refine mvT ?_
            refine RW.op rfl rfl (eff_indexM rfl rfl te62 rfl rfl rfl (by first | assumption | exact List.getElem?_eq_getElem (by omega)) rfl (by decide)) ?_
            refine RW.op rfl rfl (eff_loadW rfl rfl ti45 rfl rfl rfl) ?_
            refine faT tf47_2 ?_
            refine RW.store rfl rfl (eff_storeS (v := .t _) (ys := [_, _, _, _, _, _, _, _, _, _, _, _, _, _, _]) (els := [_]) (els' := [_]) rfl rfl ti45 rfl rfl rfl rfl rfl rfl rfl (Nat.le_of_ble_eq_true rfl) rfl rfl) ?_
            refine RW.nil ?_
            refine awp_rw rfl ?_
            refine mvT ?_
            refine RW.op rfl rfl (eff_iop rfl rfl rfl rfl (iadd (by omega))) ?_
            refine asT ?_
            refine RW.nil ?_
            refine awp_seq ?_
            refine awp_rw rfl ?_
            refine mvO ?_
            refine RW.op rfl rfl (eff_load rfl rfl ti47 rfl (.whole rfl rfl rfl rfl rfl rfl)) ?_
            (refine RW.weak (weak_slot 120 (y := encC ⟨tk + (around (what[i]'hil) 1000000) % 3, 1, (frames l 7)[sn]'(by omega), zr, zd⟩) rfl (by first | ((repeat' (first | exact trivial | exact Wk.refl _ | exact Wk.sl _ | refine And.intro ?_ ?_ | refine Wk.tupP ?_ | refine Wk.aggP ?_)); done) | fail)) rfl ?_)
            refine RW.new rfl rfl (eff_buildSliceL (id := 121) (els := [.t (.agg [_, _, _, _, _, _, _, _, _, _, _, _, _, _, _])]) rfl rfl te32 tz47 rfl (by decide) (by decide) rfl rfl rfl rfl) ?_
            refine RW.new rfl rfl (eff_append (id := 7) (ys := [_]) rfl rfl ta32 rfl rfl rfl (by rw [he7, hn7]; simp) rfl rfl (srcOwn rfl rfl rfl rfl rfl rfl) (by simp) (by simp; omega) (by simp; omega)) ?_
            refine asO ?_
            refine RW.nil ?_
            refine awp_rw rfl ?_
            refine mvO ?_
            refine RW.op rfl rfl (eff_load rfl rfl ti23 rfl (.whole rfl rfl rfl rfl rfl rfl)) ?_
            refine RW.new rfl rfl (eff_buildSliceL (id := 125) (els := [.t (.agg [_, _, _, _])]) rfl rfl te33 tz23 rfl (by decide) (by decide) rfl rfl rfl rfl) ?_
            refine RW.new rfl rfl (eff_append (id := 8) (ys := [_]) rfl rfl ta33 rfl rfl rfl (by rw [he8, hn8]; simp) rfl rfl (srcOwn rfl rfl rfl rfl rfl rfl) (by simp) (by simp; omega) (by simp; omega)) ?_
            refine asO ?_
            refine RW.nil ?_
            refine awp_rw rfl ?_
            refine mvT ?_
            refine RW.op rfl rfl (eff_iop rfl rfl rfl rfl (iadd (by omega))) ?_
            refine asT ?_
            refine RW.nil ?_
            have hG := gall_send (F := (frames l 7)) hil rfl (by omega) hsn (by omega) (by omega)
            refine ⟨_, ?_, _, weak_keep (n := 129) (fr' := [(1, .t (.sl (what.map encI) false)), (6, .t (.sl ((frames l 7).map encF) false)), (7, .own 7 _ 0 _), (8, .own 8 _ 0 _), (9, .ptr 9 0 0 0), (10, .own 20 _ 0 _), (11, .t (encI (_ : Nat))), (12, .t (encI _)), (13, .t (encI ((i + 1) : Nat)))]) (st' := [(7, some ⟨15, 47, _, _⟩), (8, some ⟨4, 23, _, _⟩), (9, some ⟨4, 23, 0, [.t (encR _)]⟩), (20, some ⟨4, 23, _, _⟩)]) ⟨rfl, rfl, rfl, rfl, rfl, rfl, rfl, rfl, rfl, rfl, rfl, rfl, rfl, rfl, rfl, rfl, rfl, rfl, trivial⟩ ⟨rfl, (by first | exact okE_nil | exact okE_one rfl | (rw [he7]; exact okE_t) | (rw [he7]; intro x hx; simp only [List.mem_append, List.mem_map, List.mem_singleton] at hx; rcases hx with ⟨y, _, rfl⟩ | rfl <;> rfl)), rfl, (by first | exact okE_nil | exact okE_one rfl | (rw [he8]; exact okE_t) | (rw [he8]; intro x hx; simp only [List.mem_append, List.mem_map, List.mem_singleton] at hx; rcases hx with ⟨y, _, rfl⟩ | rfl <;> rfl)), rfl, okE_one rfl, rfl, (by first | exact okE_nil | exact okE_one rfl | (rw [he0]; exact okE_t) | (rw [he0]; intro x hx; simp only [List.mem_append, List.mem_map, List.mem_singleton] at hx; rcases hx with ⟨y, _, rfl⟩ | rfl <;> rfl)), trivial⟩, i + 1, _, _, _, _, _, _, _, _, _, _, _, _, (by omega), (by omega), (by first | (exfalso; omega) | (rw [hG]; simp [gput, garr, hn7])), (by first | (exfalso; omega) | (rw [hG]; simp [gput, garr, hn8])), (by first | (exfalso; omega) | (rw [hG]; simp [gput, garr, hn0])), (by first | (exfalso; omega) | (first | (rw [hG]; exact he7) | (rw [hG, he7]; exact mapT_snoc (by subst htk; rfl)))), (by first | (exfalso; omega) | (first | (rw [hG]; exact he8) | (rw [hG, he8]; exact mapT_snoc (by subst hcs; rfl)))), (by first | (exfalso; omega) | (first | (rw [hG]; exact he0) | (rw [hG, he0]; exact mapT_snoc (by subst hcs; rfl)))), (by first | (exfalso; omega) | (first | (rw [hG]; exact hcs) | (rw [hG, hcs]; rfl))), (by first | (exfalso; omega) | (first | (rw [hG]; rfl) | (rw [hG]; exact hsn))), (by first | (exfalso; omega) | (rw [hG, htk]; rfl)), rfl, rfl⟩
            omega
          · try simp only [cl] at h5
            refine awp_seq ?_
            refine awp_rw rfl ?_
            refine mvT ?_
            refine RW.op rfl rfl (eff_quoE (r := (around (what[i]'hil) 1000000) / 3) rfl rfl rfl rfl (by decide) (quoN (by omega) (by decide))) ?_
            refine RW.op rfl rfl (eff_remE (r := ((around (what[i]'hil) 1000000) / 3) % 5) rfl rfl rfl rfl (by decide) (tmod_pos (by omega))) ?_
            refine ioT ?_
            refine mvT ?_
            refine RW.split 84 rfl (fun h6 => ?_) (fun h6 => ?_)
            · try simp only [cl] at h6
              refine RW.gop rfl rfl rfl rfl rfl rfl (eff_move (v := .t _) rfl rfl rfl) ?_
              refine RW.gop rfl rfl rfl rfl rfl rfl (eff_iop rfl rfl rfl rfl rfl) ?_
              refine pkT ?_
              refine asT ?_
              refine RW.nil ?_
              refine awp_cond rfl (fun h7 => ?_) (fun h7 => ?_)
              · try simp only [cl] at h7
                refine awp_seq ?_
                obtain ⟨q, hq, hqn⟩ : ∃ q : Nat, (around (what[i]'hil) 1000000) / 15 % (sn : Int) = (q : Int) ∧ q < sn := ⟨((around (what[i]'hil) 1000000) / 15 % (sn : Int)).toNat, by have := Int.emod_nonneg ((around (what[i]'hil) 1000000) / 15) (show (sn : Int) ≠ 0 by omega); omega, by have := Int.emod_lt_of_pos ((around (what[i]'hil) 1000000) / 15) (show (0 : Int) < sn by omega); have := Int.emod_nonneg ((around (what[i]'hil) 1000000) / 15) (show (sn : Int) ≠ 0 by omega); omega⟩
                have hqf : q < (frames l 7).length := by omega
                refine awp_rd [(some 88, []), (some 89, []), (some 90, []), (some 91, []), (some 92, []), (some 93, []), (some 94, []), (some 95, []), (some 96, []), (none, [9])] [[], [], [], [2], [], [2, 3, 4], [1, 2, 3, 4, 5], [1, 2, 3, 4, 5, 6], [0, 1, 2, 3, 4, 5, 6, 7], [0, 1, 2, 3, 4, 5, 6, 7, 8]] tm rfl rfl rfl rfl ?_
                refine RD.op rfl rfl rfl (eff_load rfl rfl ti23 rfl (.whole rfl rfl rfl rfl rfl rfl)) ?_
                refine mvD ?_
                refine mvD ?_
                refine RD.op rfl rfl rfl (eff_quoE (r := (around (what[i]'hil) 1000000) / 15) rfl rfl rfl rfl (by decide) (quoN (by omega) (by decide))) ?_
                refine mvD ?_
                refine RD.op rfl rfl rfl (eff_remE (r := ((q : Nat) : Int)) rfl rfl rfl rfl (by omega) (by rw [tmod_pos (by omega), hq])) ?_
                refine RD.op rfl rfl rfl (eff_indexM (i := q) rfl rfl te62 rfl rfl (by first | rfl | omega) (by first | assumption | exact List.getElem?_eq_getElem (by omega)) rfl (by decide)) ?_
                refine RD.op rfl rfl rfl (eff_loadW rfl rfl ti45 rfl rfl rfl) ?_
                refine RD.op rfl rfl rfl (eff_callT (rapply_ret cs _ hg7) co37 rfl rfl rfl rfl) ?_
                refine RD.store rfl rfl rfl (eff_storeW (v := .t _) (els := [_]) (els' := [_]) rfl rfl ti23 rfl rfl rfl rfl rfl rfl rfl rfl rfl) ?_
                refine RD.nil ?_
                refine awp_seq ?_
                refine awp_rw rfl ?_
                refine mvO ?_
                refine RW.op rfl rfl (eff_load rfl rfl ti23 rfl (.whole rfl rfl rfl rfl rfl rfl)) ?_
                refine RW.new rfl rfl (eff_buildSliceL (id := 99) (els := [.t (.agg [_, _, _, _])]) rfl rfl te33 tz23 rfl (by decide) (by decide) rfl rfl rfl rfl) ?_
                refine RW.new rfl rfl (eff_append (id := 20) (ys := [_]) rfl rfl ta33 rfl rfl rfl (by rw [he0, hn0]; simp) rfl rfl (srcOwn rfl rfl rfl rfl rfl rfl) (by simp) (by simp; omega) (by simp; omega)) ?_
                refine asO ?_
                refine RW.nil ?_
                refine awp_exit ?_
                refine awp_rw rfl ?_
                refine mvT ?_
                refine RW.op rfl rfl (eff_iop rfl rfl rfl rfl (iadd (by omega))) ?_
                refine asT ?_
                refine RW.nil ?_
                have hG := gall_send (F := (frames l 7)) hil rfl (by omega) hsn (by omega) (by omega)
                refine ⟨_, ?_, _, weak_keep (n := 129) (fr' := [(1, .t (.sl (what.map encI) false)), (6, .t (.sl ((frames l 7).map encF) false)), (7, .own 7 _ 0 _), (8, .own 8 _ 0 _), (9, .ptr 9 0 0 0), (10, .own 20 _ 0 _), (11, .t (encI (_ : Nat))), (12, .t (encI _)), (13, .t (encI ((i + 1) : Nat)))]) (st' := [(7, some ⟨15, 47, _, _⟩), (8, some ⟨4, 23, _, _⟩), (9, some ⟨4, 23, 0, [.t (encR _)]⟩), (20, some ⟨4, 23, _, _⟩)]) ⟨rfl, rfl, rfl, rfl, rfl, rfl, rfl, rfl, rfl, rfl, rfl, rfl, rfl, rfl, rfl, rfl, rfl, rfl, trivial⟩ ⟨rfl, (by first | exact okE_nil | exact okE_one rfl | (rw [he7]; exact okE_t) | (rw [he7]; intro x hx; simp only [List.mem_append, List.mem_map, List.mem_singleton] at hx; rcases hx with ⟨y, _, rfl⟩ | rfl <;> rfl)), rfl, (by first | exact okE_nil | exact okE_one rfl | (rw [he8]; exact okE_t) | (rw [he8]; intro x hx; simp only [List.mem_append, List.mem_map, List.mem_singleton] at hx; rcases hx with ⟨y, _, rfl⟩ | rfl <;> rfl)), rfl, okE_one rfl, rfl, (by first | exact okE_nil | exact okE_one rfl | (rw [he0]; exact okE_t) | (rw [he0]; intro x hx; simp only [List.mem_append, List.mem_map, List.mem_singleton] at hx; rcases hx with ⟨y, _, rfl⟩ | rfl <;> rfl)), trivial⟩, i + 1, _, _, _, _, _, _, _, _, _, _, _, _, (by omega), (by omega), (by first | (exfalso; omega) | (rw [hG]; simp [gput, garr, hn7])), (by first | (exfalso; omega) | (rw [hG]; simp [gput, garr, hn8])), (by first | (exfalso; omega) | (rw [hG]; simp [gput, garr, hn0])), (by first | (exfalso; omega) | (first | (rw [hG]; exact he7) | (rw [hG, he7]; exact mapT_snoc (by subst htk; rfl)))), (by first | (exfalso; omega) | (first | (rw [hG]; exact he8) | (rw [hG, he8]; exact mapT_snoc (by subst hcs; rfl)))), (by first | (exfalso; omega) | (first | (rw [hG]; exact he0) | (rw [hG, he0]; exact mapT_snoc (by subst hcs; rfl)))), (by first | (exfalso; omega) | (first | (rw [hG]; exact hcs) | (rw [hG, hcs]; rfl))), (by first | (exfalso; omega) | (first | (rw [hG]; rfl) | (rw [hG]; exact hsn))), (by first | (exfalso; omega) | (rw [hG, htk]; rfl)), rfl, rfl⟩
                omega
              · try simp only [cl] at h7
                refine awp_seq ?_
                refine awp_rw rfl ?_
                refine mvT ?_
                refine RW.op rfl rfl (eff_quoE (r := (around (what[i]'hil) 1000000) / 3) rfl rfl rfl rfl (by decide) (quoN (by omega) (by decide))) ?_
                refine RW.op rfl rfl (eff_remE (r := ((around (what[i]'hil) 1000000) / 3) % 5) rfl rfl rfl rfl (by decide) (tmod_pos (by omega))) ?_
                refine ioT ?_
                refine asT ?_
                refine RW.nil ?_
                refine awp_cond rfl (fun h8 => ?_) (fun h8 => ?_)
                · try simp only [cl] at h8
                  refine awp_seq ?_
                  refine awp_rw rfl ?_
                  refine faT tf47_1 ?_
                  refine RW.store rfl rfl (eff_storeS (v := .t _) (ys := [_, _, _, _, _, _, _, _, _, _, _, _, _, _, _]) (els := [_]) (els' := [_]) rfl rfl ti3 rfl rfl rfl rfl rfl rfl rfl (Nat.le_of_ble_eq_true rfl) rfl rfl) ?_
                  refine RW.nil ?_
                  refine awp_rw rfl ?_
                  obtain ⟨q2, hq2⟩ : ∃ q : Nat, imax 0 (((gall (frames l 7) what i).reps.length : Int) - 1 - (around (what[i]'hil) 1000000) / 15 % 3) = (q : Int) := ⟨(imax 0 (((gall (frames l 7) what i).reps.length : Int) - 1 - (around (what[i]'hil) 1000000) / 15 % 3)).toNat, by unfold imax; split <;> omega⟩
                  have hql : q2 < (gall (frames l 7) what i).reps.length := by unfold imax at hq2; split at hq2 <;> omega
                  refine mvO ?_
                  refine mvO ?_
                  refine RW.op rfl rfl (eff_len rfl rfl te33 rfl rfl rfl) ?_
                  refine RW.op rfl rfl (eff_iop (r := encI ((n0 : Int) - 1)) rfl rfl rfl rfl (isub (by omega))) ?_
                  refine mvT ?_
                  refine RW.op rfl rfl (eff_quoE (r := (around (what[i]'hil) 1000000) / 15) rfl rfl rfl rfl (by decide) (quoN (by omega) (by decide))) ?_
                  refine RW.op rfl rfl (eff_remE (r := ((around (what[i]'hil) 1000000) / 15) % 3) rfl rfl rfl rfl (by decide) (tmod_pos (by omega))) ?_
                  refine RW.op rfl rfl (eff_iop (r := encI ((n0 : Int) - 1 - (around (what[i]'hil) 1000000) / 15 % 3)) rfl rfl rfl rfl (isub (by omega))) ?_
                  refine RW.op rfl rfl (eff_maxE (r := ((q2 : Nat) : Int)) rfl rfl rfl rfl (by rw [hn0]; exact hq2)) ?_
                  refine RW.op rfl rfl (eff_indexAddr (i := q2) rfl rfl te33 rfl rfl rfl rfl rfl rfl (by omega)) ?_
                  refine RW.op rfl rfl (eff_load (y := .t (encR ((gall (frames l 7) what i).reps[q2]'hql))) rfl rfl ti23 rfl (.whole rfl rfl (by rw [Nat.zero_add, he0]; exact elR hql) rfl rfl rfl)) ?_
                  refine faT tf47_3 ?_
                  refine RW.store rfl rfl (eff_storeS (v := .t _) (ys := [_, _, _, _, _, _, _, _, _, _, _, _, _, _, _]) (els := [_]) (els' := [_]) rfl rfl ti23 rfl rfl rfl rfl rfl rfl rfl (Nat.le_of_ble_eq_true rfl) rfl rfl) ?_
                  refine RW.nil ?_
                  refine awp_seq ?_
                  refine awp_rw rfl ?_
                  refine mvO ?_
                  refine RW.op rfl rfl (eff_load rfl rfl ti47 rfl (.whole rfl rfl rfl rfl rfl rfl)) ?_
                  (refine RW.weak (weak_slot 120 (y := encC ⟨tk + (around (what[i]'hil) 1000000) % 3, 2, zf, (gall (frames l 7) what i).reps[q2]'hql, zd⟩) rfl (by first | ((repeat' (first | exact trivial | exact Wk.refl _ | exact Wk.sl _ | refine And.intro ?_ ?_ | refine Wk.tupP ?_ | refine Wk.aggP ?_)); done) | fail)) rfl ?_)
                  refine RW.new rfl rfl (eff_buildSliceL (id := 121) (els := [.t (.agg [_, _, _, _, _, _, _, _, _, _, _, _, _, _, _])]) rfl rfl te32 tz47 rfl (by decide) (by decide) rfl rfl rfl rfl) ?_
                  refine RW.new rfl rfl (eff_append (id := 7) (ys := [_]) rfl rfl ta32 rfl rfl rfl (by rw [he7, hn7]; simp) rfl rfl (srcOwn rfl rfl rfl rfl rfl rfl) (by simp) (by simp; omega) (by simp; omega)) ?_
                  refine asO ?_
                  refine RW.nil ?_
                  refine awp_rw rfl ?_
                  refine mvO ?_
                  refine RW.op rfl rfl (eff_load rfl rfl ti23 rfl (.whole rfl rfl rfl rfl rfl rfl)) ?_
                  refine RW.new rfl rfl (eff_buildSliceL (id := 125) (els := [.t (.agg [_, _, _, _])]) rfl rfl te33 tz23 rfl (by decide) (by decide) rfl rfl rfl rfl) ?_
                  refine RW.new rfl rfl (eff_append (id := 8) (ys := [_]) rfl rfl ta33 rfl rfl rfl (by rw [he8, hn8]; simp) rfl rfl (srcOwn rfl rfl rfl rfl rfl rfl) (by simp) (by simp; omega) (by simp; omega)) ?_
                  refine asO ?_
                  refine RW.nil ?_
                  refine awp_rw rfl ?_
                  refine mvT ?_
                  refine RW.op rfl rfl (eff_iop rfl rfl rfl rfl (iadd (by omega))) ?_
                  refine asT ?_
                  refine RW.nil ?_
                  have hG := gall_send (F := (frames l 7)) hil rfl (by omega) hsn (by omega) (by omega)
                  refine ⟨_, ?_, _, weak_keep (n := 129) (fr' := [(1, .t (.sl (what.map encI) false)), (6, .t (.sl ((frames l 7).map encF) false)), (7, .own 7 _ 0 _), (8, .own 8 _ 0 _), (9, .ptr 9 0 0 0), (10, .own 20 _ 0 _), (11, .t (encI (_ : Nat))), (12, .t (encI _)), (13, .t (encI ((i + 1) : Nat)))]) (st' := [(7, some ⟨15, 47, _, _⟩), (8, some ⟨4, 23, _, _⟩), (9, some ⟨4, 23, 0, [.t (encR _)]⟩), (20, some ⟨4, 23, _, _⟩)]) ⟨rfl, rfl, rfl, rfl, rfl, rfl, rfl, rfl, rfl, rfl, rfl, rfl, rfl, rfl, rfl, rfl, rfl, rfl, trivial⟩ ⟨rfl, (by first | exact okE_nil | exact okE_one rfl | (rw [he7]; exact okE_t) | (rw [he7]; intro x hx; simp only [List.mem_append, List.mem_map, List.mem_singleton] at hx; rcases hx with ⟨y, _, rfl⟩ | rfl <;> rfl)), rfl, (by first | exact okE_nil | exact okE_one rfl | (rw [he8]; exact okE_t) | (rw [he8]; intro x hx; simp only [List.mem_append, List.mem_map, List.mem_singleton] at hx; rcases hx with ⟨y, _, rfl⟩ | rfl <;> rfl)), rfl, okE_one rfl, rfl, (by first | exact okE_nil | exact okE_one rfl | (rw [he0]; exact okE_t) | (rw [he0]; intro x hx; simp only [List.mem_append, List.mem_map, List.mem_singleton] at hx; rcases hx with ⟨y, _, rfl⟩ | rfl <;> rfl)), trivial⟩, i + 1, _, _, _, _, _, _, _, _, _, _, _, _, (by omega), (by omega), (by first | (exfalso; omega) | (rw [hG]; simp [gput, garr, hn7])), (by first | (exfalso; omega) | (rw [hG]; simp [gput, garr, hn8])), (by first | (exfalso; omega) | (rw [hG]; simp [gput, garr, hn0])), (by first | (exfalso; omega) | (first | (rw [hG]; exact he7) | (rw [hG, he7]; exact mapT_snoc (by subst htk; rfl)))), (by first | (exfalso; omega) | (first | (rw [hG]; exact he8) | (rw [hG, he8]; exact mapT_snoc (by subst hcs; rfl)))), (by first | (exfalso; omega) | (first | (rw [hG]; exact he0) | (rw [hG, he0]; exact mapT_snoc (by subst hcs; rfl)))), (by first | (exfalso; omega) | (first | (rw [hG]; exact hcs) | (rw [hG, hcs]; rfl))), (by first | (exfalso; omega) | (first | (rw [hG]; rfl) | (rw [hG]; exact hsn))), (by first | (exfalso; omega) | (rw [hG, htk]; rfl)), rfl, rfl⟩
                  omega
                · try simp only [cl] at h8
                  refine awp_seq ?_
                  refine awp_rw rfl ?_
                  refine faT tf47_1 ?_
                  refine RW.store rfl rfl (eff_storeS (v := .t _) (ys := [_, _, _, _, _, _, _, _, _, _, _, _, _, _, _]) (els := [_]) (els' := [_]) rfl rfl ti3 rfl rfl rfl rfl rfl rfl rfl (Nat.le_of_ble_eq_true rfl) rfl rfl) ?_
                  refine RW.nil ?_
                  refine awp_rw rfl ?_
                  refine mvT ?_
                  refine mvT ?_
                  refine RW.op rfl rfl (eff_quoE (r := (around (what[i]'hil) 1000000) / 15) rfl rfl rfl rfl (by decide) (quoN (by omega) (by decide))) ?_
                  refine RW.op rfl rfl (eff_remE (r := ((around (what[i]'hil) 1000000) / 15) % 3) rfl rfl rfl rfl (by decide) (tmod_pos (by omega))) ?_
                  refine mvT ?_
                  refine RW.op rfl rfl (eff_quoE (r := (around (what[i]'hil) 1000000) / 45) rfl rfl rfl rfl (by decide) (quoN (by omega) (by decide))) ?_
                  refine RW.op rfl rfl (eff_remE (r := ((around (what[i]'hil) 1000000) / 45) % 4) rfl rfl rfl rfl (by decide) (tmod_pos (by omega))) ?_
                  refine mvT ?_
                  refine RW.op rfl rfl (eff_quoE (r := (around (what[i]'hil) 1000000) / 180) rfl rfl rfl rfl (by decide) (quoN (by omega) (by decide))) ?_
                  refine RW.op rfl rfl (eff_remE (r := ((around (what[i]'hil) 1000000) / 180) % 8) rfl rfl rfl rfl (by decide) (tmod_pos (by omega))) ?_
                  refine RW.op rfl rfl (eff_buildT (ys := [_, _, _, _]) rfl rfl tz28 tg28 rfl) ?_
                  refine faT tf47_4 ?_
                  refine RW.store rfl rfl (eff_storeS (v := .t _) (ys := [_, _, _, _, _, _, _, _, _, _, _, _, _, _, _]) (els := [_]) (els' := [_]) rfl rfl ti28 rfl rfl rfl rfl rfl rfl rfl (Nat.le_of_ble_eq_true rfl) rfl rfl) ?_
                  refine RW.nil ?_
                  refine awp_seq ?_
                  refine awp_rw rfl ?_
                  refine mvO ?_
                  refine RW.op rfl rfl (eff_load rfl rfl ti47 rfl (.whole rfl rfl rfl rfl rfl rfl)) ?_
                  (refine RW.weak (weak_slot 120 (y := encC ⟨tk + (around (what[i]'hil) 1000000) % 3, 3, zf, zr, ⟨tk + (around (what[i]'hil) 1000000) % 3, (around (what[i]'hil) 1000000) / 15 % 3, (around (what[i]'hil) 1000000) / 45 % 4, (around (what[i]'hil) 1000000) / 180 % 8⟩⟩) rfl (by first | ((repeat' (first | exact trivial | exact Wk.refl _ | exact Wk.sl _ | refine And.intro ?_ ?_ | refine Wk.tupP ?_ | refine Wk.aggP ?_)); done) | fail)) rfl ?_)
                  refine RW.new rfl rfl (eff_buildSliceL (id := 121) (els := [.t (.agg [_, _, _, _, _, _, _, _, _, _, _, _, _, _, _])]) rfl rfl te32 tz47 rfl (by decide) (by decide) rfl rfl rfl rfl) ?_
                  refine RW.new rfl rfl (eff_append (id := 7) (ys := [_]) rfl rfl ta32 rfl rfl rfl (by rw [he7, hn7]; simp) rfl rfl (srcOwn rfl rfl rfl rfl rfl rfl) (by simp) (by simp; omega) (by simp; omega)) ?_
                  refine asO ?_
                  refine RW.nil ?_
                  refine awp_rw rfl ?_
                  refine mvO ?_
                  refine RW.op rfl rfl (eff_load rfl rfl ti23 rfl (.whole rfl rfl rfl rfl rfl rfl)) ?_
                  refine RW.new rfl rfl (eff_buildSliceL (id := 125) (els := [.t (.agg [_, _, _, _])]) rfl rfl te33 tz23 rfl (by decide) (by decide) rfl rfl rfl rfl) ?_
                  refine RW.new rfl rfl (eff_append (id := 8) (ys := [_]) rfl rfl ta33 rfl rfl rfl (by rw [he8, hn8]; simp) rfl rfl (srcOwn rfl rfl rfl rfl rfl rfl) (by simp) (by simp; omega) (by simp; omega)) ?_
                  refine asO ?_
                  refine RW.nil ?_
                  refine awp_rw rfl ?_
                  refine mvT ?_
                  refine RW.op rfl rfl (eff_iop rfl rfl rfl rfl (iadd (by omega))) ?_
                  refine asT ?_
                  refine RW.nil ?_
                  have hG := gall_send (F := (frames l 7)) hil rfl (by omega) hsn (by omega) (by omega)
                  refine ⟨_, ?_, _, weak_keep (n := 129) (fr' := [(1, .t (.sl (what.map encI) false)), (6, .t (.sl ((frames l 7).map encF) false)), (7, .own 7 _ 0 _), (8, .own 8 _ 0 _), (9, .ptr 9 0 0 0), (10, .own 20 _ 0 _), (11, .t (encI (_ : Nat))), (12, .t (encI _)), (13, .t (encI ((i + 1) : Nat)))]) (st' := [(7, some ⟨15, 47, _, _⟩), (8, some ⟨4, 23, _, _⟩), (9, some ⟨4, 23, 0, [.t (encR _)]⟩), (20, some ⟨4, 23, _, _⟩)]) ⟨rfl, rfl, rfl, rfl, rfl, rfl, rfl, rfl, rfl, rfl, rfl, rfl, rfl, rfl, rfl, rfl, rfl, rfl, trivial⟩ ⟨rfl, (by first | exact okE_nil | exact okE_one rfl | (rw [he7]; exact okE_t) | (rw [he7]; intro x hx; simp only [List.mem_append, List.mem_map, List.mem_singleton] at hx; rcases hx with ⟨y, _, rfl⟩ | rfl <;> rfl)), rfl, (by first | exact okE_nil | exact okE_one rfl | (rw [he8]; exact okE_t) | (rw [he8]; intro x hx; simp only [List.mem_append, List.mem_map, List.mem_singleton] at hx; rcases hx with ⟨y, _, rfl⟩ | rfl <;> rfl)), rfl, okE_one rfl, rfl, (by first | exact okE_nil | exact okE_one rfl | (rw [he0]; exact okE_t) | (rw [he0]; intro x hx; simp only [List.mem_append, List.mem_map, List.mem_singleton] at hx; rcases hx with ⟨y, _, rfl⟩ | rfl <;> rfl)), trivial⟩, i + 1, _, _, _, _, _, _, _, _, _, _, _, _, (by omega), (by omega), (by first | (exfalso; omega) | (rw [hG]; simp [gput, garr, hn7])), (by first | (exfalso; omega) | (rw [hG]; simp [gput, garr, hn8])), (by first | (exfalso; omega) | (rw [hG]; simp [gput, garr, hn0])), (by first | (exfalso; omega) | (first | (rw [hG]; exact he7) | (rw [hG, he7]; exact mapT_snoc (by subst htk; rfl)))), (by first | (exfalso; omega) | (first | (rw [hG]; exact he8) | (rw [hG, he8]; exact mapT_snoc (by subst hcs; rfl)))), (by first | (exfalso; omega) | (first | (rw [hG]; exact he0) | (rw [hG, he0]; exact mapT_snoc (by subst hcs; rfl)))), (by first | (exfalso; omega) | (first | (rw [hG]; exact hcs) | (rw [hG, hcs]; rfl))), (by first | (exfalso; omega) | (first | (rw [hG]; rfl) | (rw [hG]; exact hsn))), (by first | (exfalso; omega) | (rw [hG, htk]; rfl)), rfl, rfl⟩
                  omega
            · try simp only [cl] at h6
              refine gkT ?_
              refine gkT ?_
              refine pkT ?_
              refine asT ?_
              refine RW.nil ?_
              refine awp_cond rfl (fun h => nomatch h) (fun _ => ?_)
              refine awp_seq ?_
              refine awp_rw rfl ?_
              refine mvT ?_
              refine RW.op rfl rfl (eff_quoE (r := (around (what[i]'hil) 1000000) / 3) rfl rfl rfl rfl (by decide) (quoN (by omega) (by decide))) ?_
              refine RW.op rfl rfl (eff_remE (r := ((around (what[i]'hil) 1000000) / 3) % 5) rfl rfl rfl rfl (by decide) (tmod_pos (by omega))) ?_
              refine ioT ?_
              refine asT ?_
              refine RW.nil ?_
              refine awp_cond rfl (fun h9 => ?_) (fun h9 => ?_)
              · try simp only [cl] at h9
                refine awp_seq ?_
                refine awp_rw rfl ?_
                refine faT tf47_1 ?_
                refine RW.store rfl rfl (eff_storeS (v := .t _) (ys := [_, _, _, _, _, _, _, _, _, _, _, _, _, _, _]) (els := [_]) (els' := [_]) rfl rfl ti3 rfl rfl rfl rfl rfl rfl rfl (Nat.le_of_ble_eq_true rfl) rfl rfl) ?_
                refine RW.nil ?_
                refine awp_rw rfl ?_
                obtain ⟨q2, hq2⟩ : ∃ q : Nat, imax 0 (((gall (frames l 7) what i).reps.length : Int) - 1 - (around (what[i]'hil) 1000000) / 15 % 3) = (q : Int) := ⟨(imax 0 (((gall (frames l 7) what i).reps.length : Int) - 1 - (around (what[i]'hil) 1000000) / 15 % 3)).toNat, by unfold imax; split <;> omega⟩
                have hql : q2 < (gall (frames l 7) what i).reps.length := by unfold imax at hq2; split at hq2 <;> omega
                refine mvO ?_
                refine mvO ?_
                refine RW.op rfl rfl (eff_len rfl rfl te33 rfl rfl rfl) ?_
                refine RW.op rfl rfl (eff_iop (r := encI ((n0 : Int) - 1)) rfl rfl rfl rfl (isub (by omega))) ?_
                refine mvT ?_
                refine RW.op rfl rfl (eff_quoE (r := (around (what[i]'hil) 1000000) / 15) rfl rfl rfl rfl (by decide) (quoN (by omega) (by decide))) ?_
                refine RW.op rfl rfl (eff_remE (r := ((around (what[i]'hil) 1000000) / 15) % 3) rfl rfl rfl rfl (by decide) (tmod_pos (by omega))) ?_
                refine RW.op rfl rfl (eff_iop (r := encI ((n0 : Int) - 1 - (around (what[i]'hil) 1000000) / 15 % 3)) rfl rfl rfl rfl (isub (by omega))) ?_
                refine RW.op rfl rfl (eff_maxE (r := ((q2 : Nat) : Int)) rfl rfl rfl rfl (by rw [hn0]; exact hq2)) ?_
                refine RW.op rfl rfl (eff_indexAddr (i := q2) rfl rfl te33 rfl rfl rfl rfl rfl rfl (by omega)) ?_
                refine RW.op rfl rfl (eff_load (y := .t (encR ((gall (frames l 7) what i).reps[q2]'hql))) rfl rfl ti23 rfl (.whole rfl rfl (by rw [Nat.zero_add, he0]; exact elR hql) rfl rfl rfl)) ?_
                refine faT tf47_3 ?_
                refine RW.store rfl rfl (eff_storeS (v := .t _) (ys := [_, _, _, _, _, _, _, _, _, _, _, _, _, _, _]) (els := [_]) (els' := [_]) rfl rfl ti23 rfl rfl rfl rfl rfl rfl rfl (Nat.le_of_ble_eq_true rfl) rfl rfl) ?_
                refine RW.nil ?_
                refine awp_seq ?_
                refine awp_rw rfl ?_
                refine mvO ?_
                refine RW.op rfl rfl (eff_load rfl rfl ti47 rfl (.whole rfl rfl rfl rfl rfl rfl)) ?_
                (refine RW.weak (weak_slot 120 (y := encC ⟨tk + (around (what[i]'hil) 1000000) % 3, 2, zf, (gall (frames l 7) what i).reps[q2]'hql, zd⟩) rfl (by first | ((repeat' (first | exact trivial | exact Wk.refl _ | exact Wk.sl _ | refine And.intro ?_ ?_ | refine Wk.tupP ?_ | refine Wk.aggP ?_)); done) | fail)) rfl ?_)
                refine RW.new rfl rfl (eff_buildSliceL (id := 121) (els := [.t (.agg [_, _, _, _, _, _, _, _, _, _, _, _, _, _, _])]) rfl rfl te32 tz47 rfl (by decide) (by decide) rfl rfl rfl rfl) ?_
                refine RW.new rfl rfl (eff_append (id := 7) (ys := [_]) rfl rfl ta32 rfl rfl rfl (by rw [he7, hn7]; simp) rfl rfl (srcOwn rfl rfl rfl rfl rfl rfl) (by simp) (by simp; omega) (by simp; omega)) ?_
                refine asO ?_
                refine RW.nil ?_
                refine awp_rw rfl ?_
                refine mvO ?_
                refine RW.op rfl rfl (eff_load rfl rfl ti23 rfl (.whole rfl rfl rfl rfl rfl rfl)) ?_
                refine RW.new rfl rfl (eff_buildSliceL (id := 125) (els := [.t (.agg [_, _, _, _])]) rfl rfl te33 tz23 rfl (by decide) (by decide) rfl rfl rfl rfl) ?_
                refine RW.new rfl rfl (eff_append (id := 8) (ys := [_]) rfl rfl ta33 rfl rfl rfl (by rw [he8, hn8]; simp) rfl rfl (srcOwn rfl rfl rfl rfl rfl rfl) (by simp) (by simp; omega) (by simp; omega)) ?_
                refine asO ?_
                refine RW.nil ?_
                refine awp_rw rfl ?_
                refine mvT ?_
                refine RW.op rfl rfl (eff_iop rfl rfl rfl rfl (iadd (by omega))) ?_
                refine asT ?_
                refine RW.nil ?_
                have hG := gall_send (F := (frames l 7)) hil rfl (by omega) hsn (by omega) (by omega)
                refine ⟨_, ?_, _, weak_keep (n := 129) (fr' := [(1, .t (.sl (what.map encI) false)), (6, .t (.sl ((frames l 7).map encF) false)), (7, .own 7 _ 0 _), (8, .own 8 _ 0 _), (9, .ptr 9 0 0 0), (10, .own 20 _ 0 _), (11, .t (encI (_ : Nat))), (12, .t (encI _)), (13, .t (encI ((i + 1) : Nat)))]) (st' := [(7, some ⟨15, 47, _, _⟩), (8, some ⟨4, 23, _, _⟩), (9, some ⟨4, 23, 0, [.t (encR _)]⟩), (20, some ⟨4, 23, _, _⟩)]) ⟨rfl, rfl, rfl, rfl, rfl, rfl, rfl, rfl, rfl, rfl, rfl, rfl, rfl, rfl, rfl, rfl, rfl, rfl, trivial⟩ ⟨rfl, (by first | exact okE_nil | exact okE_one rfl | (rw [he7]; exact okE_t) | (rw [he7]; intro x hx; simp only [List.mem_append, List.mem_map, List.mem_singleton] at hx; rcases hx with ⟨y, _, rfl⟩ | rfl <;> rfl)), rfl, (by first | exact okE_nil | exact okE_one rfl | (rw [he8]; exact okE_t) | (rw [he8]; intro x hx; simp only [List.mem_append, List.mem_map, List.mem_singleton] at hx; rcases hx with ⟨y, _, rfl⟩ | rfl <;> rfl)), rfl, okE_one rfl, rfl, (by first | exact okE_nil | exact okE_one rfl | (rw [he0]; exact okE_t) | (rw [he0]; intro x hx; simp only [List.mem_append, List.mem_map, List.mem_singleton] at hx; rcases hx with ⟨y, _, rfl⟩ | rfl <;> rfl)), trivial⟩, i + 1, _, _, _, _, _, _, _, _, _, _, _, _, (by omega), (by omega), (by first | (exfalso; omega) | (rw [hG]; simp [gput, garr, hn7])), (by first | (exfalso; omega) | (rw [hG]; simp [gput, garr, hn8])), (by first | (exfalso; omega) | (rw [hG]; simp [gput, garr, hn0])), (by first | (exfalso; omega) | (first | (rw [hG]; exact he7) | (rw [hG, he7]; exact mapT_snoc (by subst htk; rfl)))), (by first | (exfalso; omega) | (first | (rw [hG]; exact he8) | (rw [hG, he8]; exact mapT_snoc (by subst hcs; rfl)))), (by first | (exfalso; omega) | (first | (rw [hG]; exact he0) | (rw [hG, he0]; exact mapT_snoc (by subst hcs; rfl)))), (by first | (exfalso; omega) | (first | (rw [hG]; exact hcs) | (rw [hG, hcs]; rfl))), (by first | (exfalso; omega) | (first | (rw [hG]; rfl) | (rw [hG]; exact hsn))), (by first | (exfalso; omega) | (rw [hG, htk]; rfl)), rfl, rfl⟩
                omega
              · try simp only [cl] at h9
                refine awp_seq ?_
                refine awp_rw rfl ?_
                refine faT tf47_1 ?_
                refine RW.store rfl rfl (eff_storeS (v := .t _) (ys := [_, _, _, _, _, _, _, _, _, _, _, _, _, _, _]) (els := [_]) (els' := [_]) rfl rfl ti3 rfl rfl rfl rfl rfl rfl rfl (Nat.le_of_ble_eq_true rfl) rfl rfl) ?_
                refine RW.nil ?_
                refine awp_rw rfl ?_
                refine mvT ?_
                refine mvT ?_
                refine RW.op rfl rfl (eff_quoE (r := (around (what[i]'hil) 1000000) / 15) rfl rfl rfl rfl (by decide) (quoN (by omega) (by decide))) ?_
                refine RW.op rfl rfl (eff_remE (r := ((around (what[i]'hil) 1000000) / 15) % 3) rfl rfl rfl rfl (by decide) (tmod_pos (by omega))) ?_
                refine mvT ?_
                refine RW.op rfl rfl (eff_quoE (r := (around (what[i]'hil) 1000000) / 45) rfl rfl rfl rfl (by decide) (quoN (by omega) (by decide))) ?_
                refine RW.op rfl rfl (eff_remE (r := ((around (what[i]'hil) 1000000) / 45) % 4) rfl rfl rfl rfl (by decide) (tmod_pos (by omega))) ?_
                refine mvT ?_
                refine RW.op rfl rfl (eff_quoE (r := (around (what[i]'hil) 1000000) / 180) rfl rfl rfl rfl (by decide) (quoN (by omega) (by decide))) ?_
                refine RW.op rfl rfl (eff_remE (r := ((around (what[i]'hil) 1000000) / 180) % 8) rfl rfl rfl rfl (by decide) (tmod_pos (by omega))) ?_
                refine RW.op rfl rfl (eff_buildT (ys := [_, _, _, _]) rfl rfl tz28 tg28 rfl) ?_
                refine faT tf47_4 ?_
                refine RW.store rfl rfl (eff_storeS (v := .t _) (ys := [_, _, _, _, _, _, _, _, _, _, _, _, _, _, _]) (els := [_]) (els' := [_]) rfl rfl ti28 rfl rfl rfl rfl rfl rfl rfl (Nat.le_of_ble_eq_true rfl) rfl rfl) ?_
                refine RW.nil ?_
                refine awp_seq ?_
                refine awp_rw rfl ?_
                refine mvO ?_
                refine RW.op rfl rfl (eff_load rfl rfl ti47 rfl (.whole rfl rfl rfl rfl rfl rfl)) ?_
                (refine RW.weak (weak_slot 120 (y := encC ⟨tk + (around (what[i]'hil) 1000000) % 3, 3, zf, zr, ⟨tk + (around (what[i]'hil) 1000000) % 3, (around (what[i]'hil) 1000000) / 15 % 3, (around (what[i]'hil) 1000000) / 45 % 4, (around (what[i]'hil) 1000000) / 180 % 8⟩⟩) rfl (by first | ((repeat' (first | exact trivial | exact Wk.refl _ | exact Wk.sl _ | refine And.intro ?_ ?_ | refine Wk.tupP ?_ | refine Wk.aggP ?_)); done) | fail)) rfl ?_)
                refine RW.new rfl rfl (eff_buildSliceL (id := 121) (els := [.t (.agg [_, _, _, _, _, _, _, _, _, _, _, _, _, _, _])]) rfl rfl te32 tz47 rfl (by decide) (by decide) rfl rfl rfl rfl) ?_
                refine RW.new rfl rfl (eff_append (id := 7) (ys := [_]) rfl rfl ta32 rfl rfl rfl (by rw [he7, hn7]; simp) rfl rfl (srcOwn rfl rfl rfl rfl rfl rfl) (by simp) (by simp; omega) (by simp; omega)) ?_
                refine asO ?_
                refine RW.nil ?_
                refine awp_rw rfl ?_
                refine mvO ?_
                refine RW.op rfl rfl (eff_load rfl rfl ti23 rfl (.whole rfl rfl rfl rfl rfl rfl)) ?_
                refine RW.new rfl rfl (eff_buildSliceL (id := 125) (els := [.t (.agg [_, _, _, _])]) rfl rfl te33 tz23 rfl (by decide) (by decide) rfl rfl rfl rfl) ?_
                refine RW.new rfl rfl (eff_append (id := 8) (ys := [_]) rfl rfl ta33 rfl rfl rfl (by rw [he8, hn8]; simp) rfl rfl (srcOwn rfl rfl rfl rfl rfl rfl) (by simp) (by simp; omega) (by simp; omega)) ?_
                refine asO ?_
                refine RW.nil ?_
                refine awp_rw rfl ?_
                refine mvT ?_
                refine RW.op rfl rfl (eff_iop rfl rfl rfl rfl (iadd (by omega))) ?_
                refine asT ?_
                refine RW.nil ?_
                have hG := gall_dec (F := (frames l 7)) hil rfl (by omega) hsn (by omega) (by omega) (by omega)
                refine ⟨_, ?_, _, weak_keep (n := 129) (fr' := [(1, .t (.sl (what.map encI) false)), (6, .t (.sl ((frames l 7).map encF) false)), (7, .own 7 _ 0 _), (8, .own 8 _ 0 _), (9, .ptr 9 0 0 0), (10, .own 20 _ 0 _), (11, .t (encI (_ : Nat))), (12, .t (encI _)), (13, .t (encI ((i + 1) : Nat)))]) (st' := [(7, some ⟨15, 47, _, _⟩), (8, some ⟨4, 23, _, _⟩), (9, some ⟨4, 23, 0, [.t (encR _)]⟩), (20, some ⟨4, 23, _, _⟩)]) ⟨rfl, rfl, rfl, rfl, rfl, rfl, rfl, rfl, rfl, rfl, rfl, rfl, rfl, rfl, rfl, rfl, rfl, rfl, trivial⟩ ⟨rfl, (by first | exact okE_nil | exact okE_one rfl | (rw [he7]; exact okE_t) | (rw [he7]; intro x hx; simp only [List.mem_append, List.mem_map, List.mem_singleton] at hx; rcases hx with ⟨y, _, rfl⟩ | rfl <;> rfl)), rfl, (by first | exact okE_nil | exact okE_one rfl | (rw [he8]; exact okE_t) | (rw [he8]; intro x hx; simp only [List.mem_append, List.mem_map, List.mem_singleton] at hx; rcases hx with ⟨y, _, rfl⟩ | rfl <;> rfl)), rfl, okE_one rfl, rfl, (by first | exact okE_nil | exact okE_one rfl | (rw [he0]; exact okE_t) | (rw [he0]; intro x hx; simp only [List.mem_append, List.mem_map, List.mem_singleton] at hx; rcases hx with ⟨y, _, rfl⟩ | rfl <;> rfl)), trivial⟩, i + 1, _, _, _, _, _, _, _, _, _, _, _, _, (by omega), (by omega), (by first | (exfalso; omega) | (rw [hG]; simp [gput, garr, hn7])), (by first | (exfalso; omega) | (rw [hG]; simp [gput, garr, hn8])), (by first | (exfalso; omega) | (rw [hG]; simp [gput, garr, hn0])), (by first | (exfalso; omega) | (first | (rw [hG]; exact he7) | (rw [hG, he7]; exact mapT_snoc (by subst htk; rfl)))), (by first | (exfalso; omega) | (first | (rw [hG]; exact he8) | (rw [hG, he8]; exact mapT_snoc (by subst hcs; rfl)))), (by first | (exfalso; omega) | (first | (rw [hG]; exact he0) | (rw [hG, he0]; exact mapT_snoc (by subst hcs; rfl)))), (by first | (exfalso; omega) | (first | (rw [hG]; exact hcs) | (rw [hG, hcs]; rfl))), (by first | (exfalso; omega) | (first | (rw [hG]; rfl) | (rw [hG]; exact hsn))), (by first | (exfalso; omega) | (rw [hG, htk]; rfl)), rfl, rfl⟩
                omega
        · try simp only [cl] at h4
          refine gkT ?_
          refine gkT ?_
          refine gkT ?_
          refine gkT ?_
          refine pkT ?_
          refine asT ?_
          refine RW.nil ?_
          refine awp_cond rfl (fun h => nomatch h) (fun _ => ?_)
          refine awp_seq ?_
          refine awp_rw rfl ?_
          refine mvT ?_
          refine RW.op rfl rfl (eff_quoE (r := (around (what[i]'hil) 1000000) / 3) rfl rfl rfl rfl (by decide) (quoN (by omega) (by decide))) ?_
          refine RW.op rfl rfl (eff_remE (r := ((around (what[i]'hil) 1000000) / 3) % 5) rfl rfl rfl rfl (by decide) (tmod_pos (by omega))) ?_
          refine ioT ?_
          refine mvT ?_
          refine RW.split 84 rfl (fun h10 => ?_) (fun h10 => ?_)
          · try simp only [cl] at h10
            refine RW.gop rfl rfl rfl rfl rfl rfl (eff_move (v := .t _) rfl rfl rfl) ?_
            refine RW.gop rfl rfl rfl rfl rfl rfl (eff_iop rfl rfl rfl rfl rfl) ?_
            refine pkT ?_
            refine asT ?_
            refine RW.nil ?_
            refine awp_cond rfl (fun h11 => ?_) (fun h11 => ?_)
            · try simp only [cl] at h11
              refine awp_seq ?_
              obtain ⟨q, hq, hqn⟩ : ∃ q : Nat, (around (what[i]'hil) 1000000) / 15 % (sn : Int) = (q : Int) ∧ q < sn := ⟨((around (what[i]'hil) 1000000) / 15 % (sn : Int)).toNat, by have := Int.emod_nonneg ((around (what[i]'hil) 1000000) / 15) (show (sn : Int) ≠ 0 by omega); omega, by have := Int.emod_lt_of_pos ((around (what[i]'hil) 1000000) / 15) (show (0 : Int) < sn by omega); have := Int.emod_nonneg ((around (what[i]'hil) 1000000) / 15) (show (sn : Int) ≠ 0 by omega); omega⟩
              have hqf : q < (frames l 7).length := by omega
              refine awp_rd [(some 88, []), (some 89, []), (some 90, []), (some 91, []), (some 92, []), (some 93, []), (some 94, []), (some 95, []), (some 96, []), (none, [9])] [[], [], [], [2], [], [2, 3, 4], [1, 2, 3, 4, 5], [1, 2, 3, 4, 5, 6], [0, 1, 2, 3, 4, 5, 6, 7], [0, 1, 2, 3, 4, 5, 6, 7, 8]] tm rfl rfl rfl rfl ?_
              refine RD.op rfl rfl rfl (eff_load rfl rfl ti23 rfl (.whole rfl rfl rfl rfl rfl rfl)) ?_
              refine mvD ?_
              refine mvD ?_
              refine RD.op rfl rfl rfl (eff_quoE (r := (around (what[i]'hil) 1000000) / 15) rfl rfl rfl rfl (by decide) (quoN (by omega) (by decide))) ?_
              refine mvD ?_
              refine RD.op rfl rfl rfl (eff_remE (r := ((q : Nat) : Int)) rfl rfl rfl rfl (by omega) (by rw [tmod_pos (by omega), hq])) ?_
              refine RD.op rfl rfl rfl (eff_indexM (i := q) rfl rfl te62 rfl rfl (by first | rfl | omega) (by first | assumption | exact List.getElem?_eq_getElem (by omega)) rfl (by decide)) ?_
              refine RD.op rfl rfl rfl (eff_loadW rfl rfl ti45 rfl rfl rfl) ?_
              refine RD.op rfl rfl rfl (eff_callT (rapply_ret cs _ hg7) co37 rfl rfl rfl rfl) ?_
              refine RD.store rfl rfl rfl (eff_storeW (v := .t _) (els := [_]) (els' := [_]) rfl rfl ti23 rfl rfl rfl rfl rfl rfl rfl rfl rfl) ?_
              refine RD.nil ?_
              refine awp_seq ?_
              refine awp_rw rfl ?_
              refine mvO ?_
              refine RW.op rfl rfl (eff_load rfl rfl ti23 rfl (.whole rfl rfl rfl rfl rfl rfl)) ?_
              refine RW.new rfl rfl (eff_buildSliceL (id := 99) (els := [.t (.agg [_, _, _, _])]) rfl rfl te33 tz23 rfl (by decide) (by decide) rfl rfl rfl rfl) ?_
              refine RW.new rfl rfl (eff_append (id := 20) (ys := [_]) rfl rfl ta33 rfl rfl rfl (by rw [he0, hn0]; simp) rfl rfl (srcOwn rfl rfl rfl rfl rfl rfl) (by simp) (by simp; omega) (by simp; omega)) ?_
              refine asO ?_
              refine RW.nil ?_
              refine awp_exit ?_
              refine awp_rw rfl ?_
              refine mvT ?_
              refine RW.op rfl rfl (eff_iop rfl rfl rfl rfl (iadd (by omega))) ?_
              refine asT ?_
              refine RW.nil ?_
              have hG := gall_arr (F := (frames l 7)) hil rfl (by omega) hsn (by omega) (by omega) hq (by omega)
              refine ⟨_, ?_, _, weak_keep (n := 129) (fr' := [(1, .t (.sl (what.map encI) false)), (6, .t (.sl ((frames l 7).map encF) false)), (7, .own 7 _ 0 _), (8, .own 8 _ 0 _), (9, .ptr 9 0 0 0), (10, .own 20 _ 0 _), (11, .t (encI (_ : Nat))), (12, .t (encI _)), (13, .t (encI ((i + 1) : Nat)))]) (st' := [(7, some ⟨15, 47, _, _⟩), (8, some ⟨4, 23, _, _⟩), (9, some ⟨4, 23, 0, [.t (encR _)]⟩), (20, some ⟨4, 23, _, _⟩)]) ⟨rfl, rfl, rfl, rfl, rfl, rfl, rfl, rfl, rfl, rfl, rfl, rfl, rfl, rfl, rfl, rfl, rfl, rfl, trivial⟩ ⟨rfl, (by first | exact okE_nil | exact okE_one rfl | (rw [he7]; exact okE_t) | (rw [he7]; intro x hx; simp only [List.mem_append, List.mem_map, List.mem_singleton] at hx; rcases hx with ⟨y, _, rfl⟩ | rfl <;> rfl)), rfl, (by first | exact okE_nil | exact okE_one rfl | (rw [he8]; exact okE_t) | (rw [he8]; intro x hx; simp only [List.mem_append, List.mem_map, List.mem_singleton] at hx; rcases hx with ⟨y, _, rfl⟩ | rfl <;> rfl)), rfl, okE_one rfl, rfl, (by first | exact okE_nil | exact okE_one rfl | (rw [he0]; exact okE_t) | (rw [he0]; intro x hx; simp only [List.mem_append, List.mem_map, List.mem_singleton] at hx; rcases hx with ⟨y, _, rfl⟩ | rfl <;> rfl)), trivial⟩, i + 1, _, _, _, _, _, _, _, _, _, _, _, _, (by omega), (by omega), (by first | (exfalso; omega) | (rw [hG]; simp [gput, garr, hn7])), (by first | (exfalso; omega) | (rw [hG]; simp [gput, garr, hn8])), (by first | (exfalso; omega) | (rw [hG]; simp [gput, garr, hn0])), (by first | (exfalso; omega) | (first | (rw [hG]; exact he7) | (rw [hG, he7]; exact mapT_snoc (by subst htk; rfl)))), (by first | (exfalso; omega) | (first | (rw [hG]; exact he8) | (rw [hG, he8]; exact mapT_snoc (by subst hcs; rfl)))), (by first | (exfalso; omega) | (first | (rw [hG]; exact he0) | (rw [hG, he0]; exact mapT_snoc (by subst hcs; rfl)))), (by first | (exfalso; omega) | (first | (rw [hG]; exact hcs) | (rw [hG, hcs]; rfl))), (by first | (exfalso; omega) | (first | (rw [hG]; rfl) | (rw [hG]; exact hsn))), (by first | (exfalso; omega) | (rw [hG, htk]; rfl)), rfl, rfl⟩
              omega
            · try simp only [cl] at h11
              refine awp_seq ?_
              refine awp_rw rfl ?_
              refine mvT ?_
              refine RW.op rfl rfl (eff_quoE (r := (around (what[i]'hil) 1000000) / 3) rfl rfl rfl rfl (by decide) (quoN (by omega) (by decide))) ?_
              refine RW.op rfl rfl (eff_remE (r := ((around (what[i]'hil) 1000000) / 3) % 5) rfl rfl rfl rfl (by decide) (tmod_pos (by omega))) ?_
              refine ioT ?_
              refine asT ?_
              refine RW.nil ?_
              refine awp_cond rfl (fun h12 => ?_) (fun h12 => ?_)
              · try simp only [cl] at h12
                refine awp_seq ?_
                refine awp_rw rfl ?_
                refine faT tf47_1 ?_
                refine RW.store rfl rfl (eff_storeS (v := .t _) (ys := [_, _, _, _, _, _, _, _, _, _, _, _, _, _, _]) (els := [_]) (els' := [_]) rfl rfl ti3 rfl rfl rfl rfl rfl rfl rfl (Nat.le_of_ble_eq_true rfl) rfl rfl) ?_
                refine RW.nil ?_
                refine awp_rw rfl ?_
                obtain ⟨q2, hq2⟩ : ∃ q : Nat, imax 0 (((gall (frames l 7) what i).reps.length : Int) - 1 - (around (what[i]'hil) 1000000) / 15 % 3) = (q : Int) := ⟨(imax 0 (((gall (frames l 7) what i).reps.length : Int) - 1 - (around (what[i]'hil) 1000000) / 15 % 3)).toNat, by unfold imax; split <;> omega⟩
                have hql : q2 < (gall (frames l 7) what i).reps.length := by unfold imax at hq2; split at hq2 <;> omega
                refine mvO ?_
                refine mvO ?_
                refine RW.op rfl rfl (eff_len rfl rfl te33 rfl rfl rfl) ?_
                refine RW.op rfl rfl (eff_iop (r := encI ((n0 : Int) - 1)) rfl rfl rfl rfl (isub (by omega))) ?_
                refine mvT ?_
                refine RW.op rfl rfl (eff_quoE (r := (around (what[i]'hil) 1000000) / 15) rfl rfl rfl rfl (by decide) (quoN (by omega) (by decide))) ?_
                refine RW.op rfl rfl (eff_remE (r := ((around (what[i]'hil) 1000000) / 15) % 3) rfl rfl rfl rfl (by decide) (tmod_pos (by omega))) ?_
                refine RW.op rfl rfl (eff_iop (r := encI ((n0 : Int) - 1 - (around (what[i]'hil) 1000000) / 15 % 3)) rfl rfl rfl rfl (isub (by omega))) ?_
                refine RW.op rfl rfl (eff_maxE (r := ((q2 : Nat) : Int)) rfl rfl rfl rfl (by rw [hn0]; exact hq2)) ?_
                refine RW.op rfl rfl (eff_indexAddr (i := q2) rfl rfl te33 rfl rfl rfl rfl rfl rfl (by omega)) ?_
                refine RW.op rfl rfl (eff_load (y := .t (encR ((gall (frames l 7) what i).reps[q2]'hql))) rfl rfl ti23 rfl (.whole rfl rfl (by rw [Nat.zero_add, he0]; exact elR hql) rfl rfl rfl)) ?_
                refine faT tf47_3 ?_
                refine RW.store rfl rfl (eff_storeS (v := .t _) (ys := [_, _, _, _, _, _, _, _, _, _, _, _, _, _, _]) (els := [_]) (els' := [_]) rfl rfl ti23 rfl rfl rfl rfl rfl rfl rfl (Nat.le_of_ble_eq_true rfl) rfl rfl) ?_
                refine RW.nil ?_
                refine awp_seq ?_
                refine awp_rw rfl ?_
                refine mvO ?_
                refine RW.op rfl rfl (eff_load rfl rfl ti47 rfl (.whole rfl rfl rfl rfl rfl rfl)) ?_
                (refine RW.weak (weak_slot 120 (y := encC ⟨tk + (around (what[i]'hil) 1000000) % 3, 2, zf, (gall (frames l 7) what i).reps[q2]'hql, zd⟩) rfl (by first | ((repeat' (first | exact trivial | exact Wk.refl _ | exact Wk.sl _ | refine And.intro ?_ ?_ | refine Wk.tupP ?_ | refine Wk.aggP ?_)); done) | fail)) rfl ?_)
                refine RW.new rfl rfl (eff_buildSliceL (id := 121) (els := [.t (.agg [_, _, _, _, _, _, _, _, _, _, _, _, _, _, _])]) rfl rfl te32 tz47 rfl (by decide) (by decide) rfl rfl rfl rfl) ?_
                refine RW.new rfl rfl (eff_append (id := 7) (ys := [_]) rfl rfl ta32 rfl rfl rfl (by rw [he7, hn7]; simp) rfl rfl (srcOwn rfl rfl rfl rfl rfl rfl) (by simp) (by simp; omega) (by simp; omega)) ?_
                refine asO ?_
                refine RW.nil ?_
                refine awp_rw rfl ?_
                refine mvO ?_
                refine RW.op rfl rfl (eff_load rfl rfl ti23 rfl (.whole rfl rfl rfl rfl rfl rfl)) ?_
                refine RW.new rfl rfl (eff_buildSliceL (id := 125) (els := [.t (.agg [_, _, _, _])]) rfl rfl te33 tz23 rfl (by decide) (by decide) rfl rfl rfl rfl) ?_
                refine RW.new rfl rfl (eff_append (id := 8) (ys := [_]) rfl rfl ta33 rfl rfl rfl (by rw [he8, hn8]; simp) rfl rfl (srcOwn rfl rfl rfl rfl rfl rfl) (by simp) (by simp; omega) (by simp; omega)) ?_
                refine asO ?_
                refine RW.nil ?_
                refine awp_rw rfl ?_
                refine mvT ?_
                refine RW.op rfl rfl (eff_iop rfl rfl rfl rfl (iadd (by omega))) ?_
                refine asT ?_
                refine RW.nil ?_
                have hG := gall_send (F := (frames l 7)) hil rfl (by omega) hsn (by omega) (by omega)
                refine ⟨_, ?_, _, weak_keep (n := 129) (fr' := [(1, .t (.sl (what.map encI) false)), (6, .t (.sl ((frames l 7).map encF) false)), (7, .own 7 _ 0 _), (8, .own 8 _ 0 _), (9, .ptr 9 0 0 0), (10, .own 20 _ 0 _), (11, .t (encI (_ : Nat))), (12, .t (encI _)), (13, .t (encI ((i + 1) : Nat)))]) (st' := [(7, some ⟨15, 47, _, _⟩), (8, some ⟨4, 23, _, _⟩), (9, some ⟨4, 23, 0, [.t (encR _)]⟩), (20, some ⟨4, 23, _, _⟩)]) ⟨rfl, rfl, rfl, rfl, rfl, rfl, rfl, rfl, rfl, rfl, rfl, rfl, rfl, rfl, rfl, rfl, rfl, rfl, trivial⟩ ⟨rfl, (by first | exact okE_nil | exact okE_one rfl | (rw [he7]; exact okE_t) | (rw [he7]; intro x hx; simp only [List.mem_append, List.mem_map, List.mem_singleton] at hx; rcases hx with ⟨y, _, rfl⟩ | rfl <;> rfl)), rfl, (by first | exact okE_nil | exact okE_one rfl | (rw [he8]; exact okE_t) | (rw [he8]; intro x hx; simp only [List.mem_append, List.mem_map, List.mem_singleton] at hx; rcases hx with ⟨y, _, rfl⟩ | rfl <;> rfl)), rfl, okE_one rfl, rfl, (by first | exact okE_nil | exact okE_one rfl | (rw [he0]; exact okE_t) | (rw [he0]; intro x hx; simp only [List.mem_append, List.mem_map, List.mem_singleton] at hx; rcases hx with ⟨y, _, rfl⟩ | rfl <;> rfl)), trivial⟩, i + 1, _, _, _, _, _, _, _, _, _, _, _, _, (by omega), (by omega), (by first | (exfalso; omega) | (rw [hG]; simp [gput, garr, hn7])), (by first | (exfalso; omega) | (rw [hG]; simp [gput, garr, hn8])), (by first | (exfalso; omega) | (rw [hG]; simp [gput, garr, hn0])), (by first | (exfalso; omega) | (first | (rw [hG]; exact he7) | (rw [hG, he7]; exact mapT_snoc (by subst htk; rfl)))), (by first | (exfalso; omega) | (first | (rw [hG]; exact he8) | (rw [hG, he8]; exact mapT_snoc (by subst hcs; rfl)))), (by first | (exfalso; omega) | (first | (rw [hG]; exact he0) | (rw [hG, he0]; exact mapT_snoc (by subst hcs; rfl)))), (by first | (exfalso; omega) | (first | (rw [hG]; exact hcs) | (rw [hG, hcs]; rfl))), (by first | (exfalso; omega) | (first | (rw [hG]; rfl) | (rw [hG]; exact hsn))), (by first | (exfalso; omega) | (rw [hG, htk]; rfl)), rfl, rfl⟩
                omega
              · try simp only [cl] at h12
                refine awp_seq ?_
                refine awp_rw rfl ?_
                refine faT tf47_1 ?_
                refine RW.store rfl rfl (eff_storeS (v := .t _) (ys := [_, _, _, _, _, _, _, _, _, _, _, _, _, _, _]) (els := [_]) (els' := [_]) rfl rfl ti3 rfl rfl rfl rfl rfl rfl rfl (Nat.le_of_ble_eq_true rfl) rfl rfl) ?_
                refine RW.nil ?_
                refine awp_rw rfl ?_
                refine mvT ?_
                refine mvT ?_
                refine RW.op rfl rfl (eff_quoE (r := (around (what[i]'hil) 1000000) / 15) rfl rfl rfl rfl (by decide) (quoN (by omega) (by decide))) ?_
                refine RW.op rfl rfl (eff_remE (r := ((around (what[i]'hil) 1000000) / 15) % 3) rfl rfl rfl rfl (by decide) (tmod_pos (by omega))) ?_
                refine mvT ?_
                refine RW.op rfl rfl (eff_quoE (r := (around (what[i]'hil) 1000000) / 45) rfl rfl rfl rfl (by decide) (quoN (by omega) (by decide))) ?_
                refine RW.op rfl rfl (eff_remE (r := ((around (what[i]'hil) 1000000) / 45) % 4) rfl rfl rfl rfl (by decide) (tmod_pos (by omega))) ?_
                refine mvT ?_
                refine RW.op rfl rfl (eff_quoE (r := (around (what[i]'hil) 1000000) / 180) rfl rfl rfl rfl (by decide) (quoN (by omega) (by decide))) ?_
                refine RW.op rfl rfl (eff_remE (r := ((around (what[i]'hil) 1000000) / 180) % 8) rfl rfl rfl rfl (by decide) (tmod_pos (by omega))) ?_
                refine RW.op rfl rfl (eff_buildT (ys := [_, _, _, _]) rfl rfl tz28 tg28 rfl) ?_
                refine faT tf47_4 ?_
                refine RW.store rfl rfl (eff_storeS (v := .t _) (ys := [_, _, _, _, _, _, _, _, _, _, _, _, _, _, _]) (els := [_]) (els' := [_]) rfl rfl ti28 rfl rfl rfl rfl rfl rfl rfl (Nat.le_of_ble_eq_true rfl) rfl rfl) ?_
                refine RW.nil ?_
                refine awp_seq ?_
                refine awp_rw rfl ?_
                refine mvO ?_
                refine RW.op rfl rfl (eff_load rfl rfl ti47 rfl (.whole rfl rfl rfl rfl rfl rfl)) ?_
                (refine RW.weak (weak_slot 120 (y := encC ⟨tk + (around (what[i]'hil) 1000000) % 3, 3, zf, zr, ⟨tk + (around (what[i]'hil) 1000000) % 3, (around (what[i]'hil) 1000000) / 15 % 3, (around (what[i]'hil) 1000000) / 45 % 4, (around (what[i]'hil) 1000000) / 180 % 8⟩⟩) rfl (by first | ((repeat' (first | exact trivial | exact Wk.refl _ | exact Wk.sl _ | refine And.intro ?_ ?_ | refine Wk.tupP ?_ | refine Wk.aggP ?_)); done) | fail)) rfl ?_)
                refine RW.new rfl rfl (eff_buildSliceL (id := 121) (els := [.t (.agg [_, _, _, _, _, _, _, _, _, _, _, _, _, _, _])]) rfl rfl te32 tz47 rfl (by decide) (by decide) rfl rfl rfl rfl) ?_
                refine RW.new rfl rfl (eff_append (id := 7) (ys := [_]) rfl rfl ta32 rfl rfl rfl (by rw [he7, hn7]; simp) rfl rfl (srcOwn rfl rfl rfl rfl rfl rfl) (by simp) (by simp; omega) (by simp; omega)) ?_
                refine asO ?_
                refine RW.nil ?_
                refine awp_rw rfl ?_
                refine mvO ?_
                refine RW.op rfl rfl (eff_load rfl rfl ti23 rfl (.whole rfl rfl rfl rfl rfl rfl)) ?_
                refine RW.new rfl rfl (eff_buildSliceL (id := 125) (els := [.t (.agg [_, _, _, _])]) rfl rfl te33 tz23 rfl (by decide) (by decide) rfl rfl rfl rfl) ?_
                refine RW.new rfl rfl (eff_append (id := 8) (ys := [_]) rfl rfl ta33 rfl rfl rfl (by rw [he8, hn8]; simp) rfl rfl (srcOwn rfl rfl rfl rfl rfl rfl) (by simp) (by simp; omega) (by simp; omega)) ?_
                refine asO ?_
                refine RW.nil ?_
                refine awp_rw rfl ?_
                refine mvT ?_
                refine RW.op rfl rfl (eff_iop rfl rfl rfl rfl (iadd (by omega))) ?_
                refine asT ?_
                refine RW.nil ?_
                have hG := gall_dec (F := (frames l 7)) hil rfl (by omega) hsn (by omega) (by omega) (by omega)
                refine ⟨_, ?_, _, weak_keep (n := 129) (fr' := [(1, .t (.sl (what.map encI) false)), (6, .t (.sl ((frames l 7).map encF) false)), (7, .own 7 _ 0 _), (8, .own 8 _ 0 _), (9, .ptr 9 0 0 0), (10, .own 20 _ 0 _), (11, .t (encI (_ : Nat))), (12, .t (encI _)), (13, .t (encI ((i + 1) : Nat)))]) (st' := [(7, some ⟨15, 47, _, _⟩), (8, some ⟨4, 23, _, _⟩), (9, some ⟨4, 23, 0, [.t (encR _)]⟩), (20, some ⟨4, 23, _, _⟩)]) ⟨rfl, rfl, rfl, rfl, rfl, rfl, rfl, rfl, rfl, rfl, rfl, rfl, rfl, rfl, rfl, rfl, rfl, rfl, trivial⟩ ⟨rfl, (by first | exact okE_nil | exact okE_one rfl | (rw [he7]; exact okE_t) | (rw [he7]; intro x hx; simp only [List.mem_append, List.mem_map, List.mem_singleton] at hx; rcases hx with ⟨y, _, rfl⟩ | rfl <;> rfl)), rfl, (by first | exact okE_nil | exact okE_one rfl | (rw [he8]; exact okE_t) | (rw [he8]; intro x hx; simp only [List.mem_append, List.mem_map, List.mem_singleton] at hx; rcases hx with ⟨y, _, rfl⟩ | rfl <;> rfl)), rfl, okE_one rfl, rfl, (by first | exact okE_nil | exact okE_one rfl | (rw [he0]; exact okE_t) | (rw [he0]; intro x hx; simp only [List.mem_append, List.mem_map, List.mem_singleton] at hx; rcases hx with ⟨y, _, rfl⟩ | rfl <;> rfl)), trivial⟩, i + 1, _, _, _, _, _, _, _, _, _, _, _, _, (by omega), (by omega), (by first | (exfalso; omega) | (rw [hG]; simp [gput, garr, hn7])), (by first | (exfalso; omega) | (rw [hG]; simp [gput, garr, hn8])), (by first | (exfalso; omega) | (rw [hG]; simp [gput, garr, hn0])), (by first | (exfalso; omega) | (first | (rw [hG]; exact he7) | (rw [hG, he7]; exact mapT_snoc (by subst htk; rfl)))), (by first | (exfalso; omega) | (first | (rw [hG]; exact he8) | (rw [hG, he8]; exact mapT_snoc (by subst hcs; rfl)))), (by first | (exfalso; omega) | (first | (rw [hG]; exact he0) | (rw [hG, he0]; exact mapT_snoc (by subst hcs; rfl)))), (by first | (exfalso; omega) | (first | (rw [hG]; exact hcs) | (rw [hG, hcs]; rfl))), (by first | (exfalso; omega) | (first | (rw [hG]; rfl) | (rw [hG]; exact hsn))), (by first | (exfalso; omega) | (rw [hG, htk]; rfl)), rfl, rfl⟩
                omega
          · try simp only [cl] at h10
            refine gkT ?_
            refine gkT ?_
            refine pkT ?_
            refine asT ?_
            refine RW.nil ?_
            refine awp_cond rfl (fun h => nomatch h) (fun _ => ?_)
            refine awp_seq ?_
            refine awp_rw rfl ?_
            refine mvT ?_
            refine RW.op rfl rfl (eff_quoE (r := (around (what[i]'hil) 1000000) / 3) rfl rfl rfl rfl (by decide) (quoN (by omega) (by decide))) ?_
            refine RW.op rfl rfl (eff_remE (r := ((around (what[i]'hil) 1000000) / 3) % 5) rfl rfl rfl rfl (by decide) (tmod_pos (by omega))) ?_
            refine ioT ?_
            refine asT ?_
            refine RW.nil ?_
            refine awp_cond rfl (fun h13 => ?_) (fun h13 => ?_)
            · try simp only [cl] at h13
              refine awp_seq ?_
              refine awp_rw rfl ?_
              refine faT tf47_1 ?_
              refine RW.store rfl rfl (eff_storeS (v := .t _) (ys := [_, _, _, _, _, _, _, _, _, _, _, _, _, _, _]) (els := [_]) (els' := [_]) rfl rfl ti3 rfl rfl rfl rfl rfl rfl rfl (Nat.le_of_ble_eq_true rfl) rfl rfl) ?_
              refine RW.nil ?_
              refine awp_rw rfl ?_
              obtain ⟨q2, hq2⟩ : ∃ q : Nat, imax 0 (((gall (frames l 7) what i).reps.length : Int) - 1 - (around (what[i]'hil) 1000000) / 15 % 3) = (q : Int) := ⟨(imax 0 (((gall (frames l 7) what i).reps.length : Int) - 1 - (around (what[i]'hil) 1000000) / 15 % 3)).toNat, by unfold imax; split <;> omega⟩
              have hql : q2 < (gall (frames l 7) what i).reps.length := by unfold imax at hq2; split at hq2 <;> omega
              refine mvO ?_
              refine mvO ?_
              refine RW.op rfl rfl (eff_len rfl rfl te33 rfl rfl rfl) ?_
              refine RW.op rfl rfl (eff_iop (r := encI ((n0 : Int) - 1)) rfl rfl rfl rfl (isub (by omega))) ?_
              refine mvT ?_
              refine RW.op rfl rfl (eff_quoE (r := (around (what[i]'hil) 1000000) / 15) rfl rfl rfl rfl (by decide) (quoN (by omega) (by decide))) ?_
              refine RW.op rfl rfl (eff_remE (r := ((around (what[i]'hil) 1000000) / 15) % 3) rfl rfl rfl rfl (by decide) (tmod_pos (by omega))) ?_
              refine RW.op rfl rfl (eff_iop (r := encI ((n0 : Int) - 1 - (around (what[i]'hil) 1000000) / 15 % 3)) rfl rfl rfl rfl (isub (by omega))) ?_
              refine RW.op rfl rfl (eff_maxE (r := ((q2 : Nat) : Int)) rfl rfl rfl rfl (by rw [hn0]; exact hq2)) ?_
              refine RW.op rfl rfl (eff_indexAddr (i := q2) rfl rfl te33 rfl rfl rfl rfl rfl rfl (by omega)) ?_
              refine RW.op rfl rfl (eff_load (y := .t (encR ((gall (frames l 7) what i).reps[q2]'hql))) rfl rfl ti23 rfl (.whole rfl rfl (by rw [Nat.zero_add, he0]; exact elR hql) rfl rfl rfl)) ?_
              refine faT tf47_3 ?_
              refine RW.store rfl rfl (eff_storeS (v := .t _) (ys := [_, _, _, _, _, _, _, _, _, _, _, _, _, _, _]) (els := [_]) (els' := [_]) rfl rfl ti23 rfl rfl rfl rfl rfl rfl rfl (Nat.le_of_ble_eq_true rfl) rfl rfl) ?_
              refine RW.nil ?_
              refine awp_seq ?_
              refine awp_rw rfl ?_
              refine mvO ?_
              refine RW.op rfl rfl (eff_load rfl rfl ti47 rfl (.whole rfl rfl rfl rfl rfl rfl)) ?_
              (refine RW.weak (weak_slot 120 (y := encC ⟨tk + (around (what[i]'hil) 1000000) % 3, 2, zf, (gall (frames l 7) what i).reps[q2]'hql, zd⟩) rfl (by first | ((repeat' (first | exact trivial | exact Wk.refl _ | exact Wk.sl _ | refine And.intro ?_ ?_ | refine Wk.tupP ?_ | refine Wk.aggP ?_)); done) | fail)) rfl ?_)
              refine RW.new rfl rfl (eff_buildSliceL (id := 121) (els := [.t (.agg [_, _, _, _, _, _, _, _, _, _, _, _, _, _, _])]) rfl rfl te32 tz47 rfl (by decide) (by decide) rfl rfl rfl rfl) ?_
              refine RW.new rfl rfl (eff_append (id := 7) (ys := [_]) rfl rfl ta32 rfl rfl rfl (by rw [he7, hn7]; simp) rfl rfl (srcOwn rfl rfl rfl rfl rfl rfl) (by simp) (by simp; omega) (by simp; omega)) ?_
              refine asO ?_
              refine RW.nil ?_
              refine awp_rw rfl ?_
              refine mvO ?_
              refine RW.op rfl rfl (eff_load rfl rfl ti23 rfl (.whole rfl rfl rfl rfl rfl rfl)) ?_
              refine RW.new rfl rfl (eff_buildSliceL (id := 125) (els := [.t (.agg [_, _, _, _])]) rfl rfl te33 tz23 rfl (by decide) (by decide) rfl rfl rfl rfl) ?_
              refine RW.new rfl rfl (eff_append (id := 8) (ys := [_]) rfl rfl ta33 rfl rfl rfl (by rw [he8, hn8]; simp) rfl rfl (srcOwn rfl rfl rfl rfl rfl rfl) (by simp) (by simp; omega) (by simp; omega)) ?_
              refine asO ?_
              refine RW.nil ?_
              refine awp_rw rfl ?_
              refine mvT ?_
              refine RW.op rfl rfl (eff_iop rfl rfl rfl rfl (iadd (by omega))) ?_
              refine asT ?_
              refine RW.nil ?_
              have hG := gall_hear (F := (frames l 7)) hil rfl (by omega) hsn (by omega) hq2 hql
              refine ⟨_, ?_, _, weak_keep (n := 129) (fr' := [(1, .t (.sl (what.map encI) false)), (6, .t (.sl ((frames l 7).map encF) false)), (7, .own 7 _ 0 _), (8, .own 8 _ 0 _), (9, .ptr 9 0 0 0), (10, .own 20 _ 0 _), (11, .t (encI (_ : Nat))), (12, .t (encI _)), (13, .t (encI ((i + 1) : Nat)))]) (st' := [(7, some ⟨15, 47, _, _⟩), (8, some ⟨4, 23, _, _⟩), (9, some ⟨4, 23, 0, [.t (encR _)]⟩), (20, some ⟨4, 23, _, _⟩)]) ⟨rfl, rfl, rfl, rfl, rfl, rfl, rfl, rfl, rfl, rfl, rfl, rfl, rfl, rfl, rfl, rfl, rfl, rfl, trivial⟩ ⟨rfl, (by first | exact okE_nil | exact okE_one rfl | (rw [he7]; exact okE_t) | (rw [he7]; intro x hx; simp only [List.mem_append, List.mem_map, List.mem_singleton] at hx; rcases hx with ⟨y, _, rfl⟩ | rfl <;> rfl)), rfl, (by first | exact okE_nil | exact okE_one rfl | (rw [he8]; exact okE_t) | (rw [he8]; intro x hx; simp only [List.mem_append, List.mem_map, List.mem_singleton] at hx; rcases hx with ⟨y, _, rfl⟩ | rfl <;> rfl)), rfl, okE_one rfl, rfl, (by first | exact okE_nil | exact okE_one rfl | (rw [he0]; exact okE_t) | (rw [he0]; intro x hx; simp only [List.mem_append, List.mem_map, List.mem_singleton] at hx; rcases hx with ⟨y, _, rfl⟩ | rfl <;> rfl)), trivial⟩, i + 1, _, _, _, _, _, _, _, _, _, _, _, _, (by omega), (by omega), (by first | (exfalso; omega) | (rw [hG]; simp [gput, garr, hn7])), (by first | (exfalso; omega) | (rw [hG]; simp [gput, garr, hn8])), (by first | (exfalso; omega) | (rw [hG]; simp [gput, garr, hn0])), (by first | (exfalso; omega) | (first | (rw [hG]; exact he7) | (rw [hG, he7]; exact mapT_snoc (by subst htk; rfl)))), (by first | (exfalso; omega) | (first | (rw [hG]; exact he8) | (rw [hG, he8]; exact mapT_snoc (by subst hcs; rfl)))), (by first | (exfalso; omega) | (first | (rw [hG]; exact he0) | (rw [hG, he0]; exact mapT_snoc (by subst hcs; rfl)))), (by first | (exfalso; omega) | (first | (rw [hG]; exact hcs) | (rw [hG, hcs]; rfl))), (by first | (exfalso; omega) | (first | (rw [hG]; rfl) | (rw [hG]; exact hsn))), (by first | (exfalso; omega) | (rw [hG, htk]; rfl)), rfl, rfl⟩
              omega
            · try simp only [cl] at h13
              refine awp_seq ?_
              refine awp_rw rfl ?_
              refine faT tf47_1 ?_
              refine RW.store rfl rfl (eff_storeS (v := .t _) (ys := [_, _, _, _, _, _, _, _, _, _, _, _, _, _, _]) (els := [_]) (els' := [_]) rfl rfl ti3 rfl rfl rfl rfl rfl rfl rfl (Nat.le_of_ble_eq_true rfl) rfl rfl) ?_
              refine RW.nil ?_
              refine awp_rw rfl ?_
              refine mvT ?_
              refine mvT ?_
              refine RW.op rfl rfl (eff_quoE (r := (around (what[i]'hil) 1000000) / 15) rfl rfl rfl rfl (by decide) (quoN (by omega) (by decide))) ?_
              refine RW.op rfl rfl (eff_remE (r := ((around (what[i]'hil) 1000000) / 15) % 3) rfl rfl rfl rfl (by decide) (tmod_pos (by omega))) ?_
              refine mvT ?_
              refine RW.op rfl rfl (eff_quoE (r := (around (what[i]'hil) 1000000) / 45) rfl rfl rfl rfl (by decide) (quoN (by omega) (by decide))) ?_
              refine RW.op rfl rfl (eff_remE (r := ((around (what[i]'hil) 1000000) / 45) % 4) rfl rfl rfl rfl (by decide) (tmod_pos (by omega))) ?_
              refine mvT ?_
              refine RW.op rfl rfl (eff_quoE (r := (around (what[i]'hil) 1000000) / 180) rfl rfl rfl rfl (by decide) (quoN (by omega) (by decide))) ?_
              refine RW.op rfl rfl (eff_remE (r := ((around (what[i]'hil) 1000000) / 180) % 8) rfl rfl rfl rfl (by decide) (tmod_pos (by omega))) ?_
              refine RW.op rfl rfl (eff_buildT (ys := [_, _, _, _]) rfl rfl tz28 tg28 rfl) ?_
              refine faT tf47_4 ?_
              refine RW.store rfl rfl (eff_storeS (v := .t _) (ys := [_, _, _, _, _, _, _, _, _, _, _, _, _, _, _]) (els := [_]) (els' := [_]) rfl rfl ti28 rfl rfl rfl rfl rfl rfl rfl (Nat.le_of_ble_eq_true rfl) rfl rfl) ?_
              refine RW.nil ?_
              refine awp_seq ?_
              refine awp_rw rfl ?_
              refine mvO ?_
              refine RW.op rfl rfl (eff_load rfl rfl ti47 rfl (.whole rfl rfl rfl rfl rfl rfl)) ?_
              (refine RW.weak (weak_slot 120 (y := encC ⟨tk + (around (what[i]'hil) 1000000) % 3, 3, zf, zr, ⟨tk + (around (what[i]'hil) 1000000) % 3, (around (what[i]'hil) 1000000) / 15 % 3, (around (what[i]'hil) 1000000) / 45 % 4, (around (what[i]'hil) 1000000) / 180 % 8⟩⟩) rfl (by first | ((repeat' (first | exact trivial | exact Wk.refl _ | exact Wk.sl _ | refine And.intro ?_ ?_ | refine Wk.tupP ?_ | refine Wk.aggP ?_)); done) | fail)) rfl ?_)
              refine RW.new rfl rfl (eff_buildSliceL (id := 121) (els := [.t (.agg [_, _, _, _, _, _, _, _, _, _, _, _, _, _, _])]) rfl rfl te32 tz47 rfl (by decide) (by decide) rfl rfl rfl rfl) ?_
              refine RW.new rfl rfl (eff_append (id := 7) (ys := [_]) rfl rfl ta32 rfl rfl rfl (by rw [he7, hn7]; simp) rfl rfl (srcOwn rfl rfl rfl rfl rfl rfl) (by simp) (by simp; omega) (by simp; omega)) ?_
              refine asO ?_
              refine RW.nil ?_
              refine awp_rw rfl ?_
              refine mvO ?_
              refine RW.op rfl rfl (eff_load rfl rfl ti23 rfl (.whole rfl rfl rfl rfl rfl rfl)) ?_
              refine RW.new rfl rfl (eff_buildSliceL (id := 125) (els := [.t (.agg [_, _, _, _])]) rfl rfl te33 tz23 rfl (by decide) (by decide) rfl rfl rfl rfl) ?_
              refine RW.new rfl rfl (eff_append (id := 8) (ys := [_]) rfl rfl ta33 rfl rfl rfl (by rw [he8, hn8]; simp) rfl rfl (srcOwn rfl rfl rfl rfl rfl rfl) (by simp) (by simp; omega) (by simp; omega)) ?_
              refine asO ?_
              refine RW.nil ?_
              refine awp_rw rfl ?_
              refine mvT ?_
              refine RW.op rfl rfl (eff_iop rfl rfl rfl rfl (iadd (by omega))) ?_
              refine asT ?_
              refine RW.nil ?_
              have hG := gall_dec (F := (frames l 7)) hil rfl (by omega) hsn (by omega) (by omega) (by omega)
              refine ⟨_, ?_, _, weak_keep (n := 129) (fr' := [(1, .t (.sl (what.map encI) false)), (6, .t (.sl ((frames l 7).map encF) false)), (7, .own 7 _ 0 _), (8, .own 8 _ 0 _), (9, .ptr 9 0 0 0), (10, .own 20 _ 0 _), (11, .t (encI (_ : Nat))), (12, .t (encI _)), (13, .t (encI ((i + 1) : Nat)))]) (st' := [(7, some ⟨15, 47, _, _⟩), (8, some ⟨4, 23, _, _⟩), (9, some ⟨4, 23, 0, [.t (encR _)]⟩), (20, some ⟨4, 23, _, _⟩)]) ⟨rfl, rfl, rfl, rfl, rfl, rfl, rfl, rfl, rfl, rfl, rfl, rfl, rfl, rfl, rfl, rfl, rfl, rfl, trivial⟩ ⟨rfl, (by first | exact okE_nil | exact okE_one rfl | (rw [he7]; exact okE_t) | (rw [he7]; intro x hx; simp only [List.mem_append, List.mem_map, List.mem_singleton] at hx; rcases hx with ⟨y, _, rfl⟩ | rfl <;> rfl)), rfl, (by first | exact okE_nil | exact okE_one rfl | (rw [he8]; exact okE_t) | (rw [he8]; intro x hx; simp only [List.mem_append, List.mem_map, List.mem_singleton] at hx; rcases hx with ⟨y, _, rfl⟩ | rfl <;> rfl)), rfl, okE_one rfl, rfl, (by first | exact okE_nil | exact okE_one rfl | (rw [he0]; exact okE_t) | (rw [he0]; intro x hx; simp only [List.mem_append, List.mem_map, List.mem_singleton] at hx; rcases hx with ⟨y, _, rfl⟩ | rfl <;> rfl)), trivial⟩, i + 1, _, _, _, _, _, _, _, _, _, _, _, _, (by omega), (by omega), (by first | (exfalso; omega) | (rw [hG]; simp [gput, garr, hn7])), (by first | (exfalso; omega) | (rw [hG]; simp [gput, garr, hn8])), (by first | (exfalso; omega) | (rw [hG]; simp [gput, garr, hn0])), (by first | (exfalso; omega) | (first | (rw [hG]; exact he7) | (rw [hG, he7]; exact mapT_snoc (by subst htk; rfl)))), (by first | (exfalso; omega) | (first | (rw [hG]; exact he8) | (rw [hG, he8]; exact mapT_snoc (by subst hcs; rfl)))), (by first | (exfalso; omega) | (first | (rw [hG]; exact he0) | (rw [hG, he0]; exact mapT_snoc (by subst hcs; rfl)))), (by first | (exfalso; omega) | (first | (rw [hG]; exact hcs) | (rw [hG, hcs]; rfl))), (by first | (exfalso; omega) | (first | (rw [hG]; rfl) | (rw [hG]; exact hsn))), (by first | (exfalso; omega) | (rw [hG, htk]; rfl)), rfl, rfl⟩
              omega
      · try simp only [cl] at h3
        refine awp_exit ?_
        refine awp_seq ?_
        refine awp_rw rfl ?_
        refine mvO ?_
        refine mvO ?_
        refine asO ?_
        refine asO ?_
        refine RW.nil ?_
        refine awp_ret ?_
        have hst := gall_stop (F := (frames l 7)) hi h30 (by rintro ⟨a1, a2, a3⟩; omega)
        unfold ledger
        rw [hst]
        exact ⟨Or.inr rfl, [_, _], ⟨.tmp (Res.ownT (xs := (gall (frames l 7) what i).recs.map encC) rfl rfl he7 (by rw [hn7]; simp)), .tmp (Res.ownT (xs := (gall (frames l 7) what i).sts.map encR) rfl rfl he8 (by rw [hn8]; simp)), trivial⟩, .refl _⟩
    · try simp only [cl] at h2
      refine gkT ?_
      refine gkT ?_
      refine pkT ?_
      refine RW.nil ?_
      refine awp_cond rfl (fun h => nomatch h) (fun _ => ?_)
      refine awp_exit ?_
      refine awp_seq ?_
      refine awp_rw rfl ?_
      refine mvO ?_
      refine mvO ?_
      refine asO ?_
      refine asO ?_
      refine RW.nil ?_
      refine awp_ret ?_
      have hst := gall_stop (F := (frames l 7)) hi h30 (by rintro ⟨a1, a2, a3⟩; omega)
      unfold ledger
      rw [hst]
      exact ⟨Or.inr rfl, [_, _], ⟨.tmp (Res.ownT (xs := (gall (frames l 7) what i).recs.map encC) rfl rfl he7 (by rw [hn7]; simp)), .tmp (Res.ownT (xs := (gall (frames l 7) what i).sts.map encR) rfl rfl he8 (by rw [hn8]; simp)), trivial⟩, .refl _⟩
  · try simp only [cl] at h1
    refine gkT ?_
    refine gkT ?_
    refine gkT ?_
    refine pkT ?_
    refine mvT ?_
    refine gkT ?_
    refine gkT ?_
    refine pkT ?_
    refine RW.nil ?_
    refine awp_cond rfl (fun h => nomatch h) (fun _ => ?_)
    refine awp_exit ?_
    refine awp_seq ?_
    refine awp_rw rfl ?_
    refine mvO ?_
    refine mvO ?_
    refine asO ?_
    refine asO ?_
    refine RW.nil ?_
    refine awp_ret ?_
    have hst := gall_stop (F := (frames l 7)) hi h30 (by rintro ⟨a1, a2, a3⟩; omega)
    unfold ledger
    rw [hst]
    exact ⟨Or.inr rfl, [_, _], ⟨.tmp (Res.ownT (xs := (gall (frames l 7) what i).recs.map encC) rfl rfl he7 (by rw [hn7]; simp)), .tmp (Res.ownT (xs := (gall (frames l 7) what i).sts.map encR) rfl rfl he8 (by rw [hn8]; simp)), trivial⟩, .refl _⟩

end Go.Tv.C36

end
section
open Go Go.Tv Go.Proofs
namespace Go.Tv.C36
set_option maxRecDepth 20000
set_option maxHeartbeats 2000000
set_option linter.unusedSimpArgs false
set_option linter.unusedVariables false
theorem aroundK {n m : Int} {k : Nat} (hn : I64 n) (hm : 0 < m ∧ m ≤ 9223372036854775807) (h : around n m = (k : Int)) : Ret Tryd.prog 13 [encI n, encI m] (encI (k : Nat)) := by
  have := around_ret n m hn hm
  rwa [h] at this

theorem bent_ret (l : List Rcd) (p h n : Int) (hl : l.length ≤ 100000) (hp : I64 p) (hh : I64 h) (hn : I64 n) : Ret Tryd.prog 18 [.sl (l.map encC) false, encI p, encI h, encI n] (.sl ((bent l p h n).map encC) false) := by
  refine ret_of_awp Tryd.func18 rfl (Nat.le_of_ble_eq_true rfl) ?_
  refine awp_seq ?_
  refine awp_rw rfl ?_
  refine asT ?_
  refine RW.nil ?_
  refine awp_seq ?_
  refine awp_rw rfl ?_
  refine RW.new rfl rfl (eff_buildSliceL (id := 11) (els := []) rfl rfl te32 tz47 rfl (by decide) (by decide) rfl rfl rfl rfl) ?_
  refine mvT ?_
  refine RW.new rfl rfl (eff_appendAny (id := 11) rfl rfl ta32 rfl rfl rfl rfl rfl rfl (srcM rfl (fun _ => rfl)) (by simp; omega) (by simp; omega)) ?_
  refine asO ?_
  refine RW.nil ?_
  show AWP _ _ _ _
  refine awp_weak (weak_keep (n := 79) (fr' := [(1, .t (encI p)), (2, .t (encI h)), (3, .t (encI n)), (9, .own 11 1 0 l.length)]) (st' := [(11, some ⟨15, 47, 1, (l.map encC).map .t⟩)]) ⟨rfl, rfl, rfl, rfl, rfl, rfl, (by show AV.own 11 _ 0 _ = AV.own 11 1 0 l.length; congr 1; simp), rfl, trivial⟩ ⟨rfl, okE_t, trivial⟩) ?_
  refine awp_seq ?_
  refine awp_seq ?_
  refine awp_rw rfl ?_
  refine mvO ?_
  refine RW.op rfl rfl (eff_len rfl rfl te32 rfl rfl rfl) ?_
  refine ioT ?_
  refine RW.nil ?_
  refine awp_cond rfl (fun h1 => ?_) (fun h1 => ?_)
  · try simp only [cl] at h1
    refine awp_seq ?_
    refine awp_rw rfl ?_
    refine mvO ?_
    refine asO ?_
    refine RW.nil ?_
    refine awp_ret ?_
    rw [bent_nil (by omega)]
    exact ⟨Or.inr rfl, [_], ⟨.tmp (Res.ownM (xs := l.map encC) rfl (by simp)), trivial⟩, .refl _⟩
  · try simp only [cl] at h1
    refine awp_skip ?_
    refine awp_seq ?_
    refine awp_rw rfl ?_
    have hrg := around_range (n := p) (m := (l.length : Int)) (by omega)
    obtain ⟨k, hk⟩ : ∃ k : Nat, around p (l.length : Int) = (k : Int) := ⟨(around p (l.length : Int)).toNat, by omega⟩
    have hkl : k < l.length := by omega
    refine mvT ?_
    refine mvO ?_
    refine RW.op rfl rfl (eff_len rfl rfl te32 rfl rfl rfl) ?_
    refine RW.op rfl rfl (eff_callT (aroundK hp (by omega) hk) co13 rfl rfl rfl rfl) ?_
    refine asT ?_
    refine RW.nil ?_
    refine awp_seq ?_
    refine awp_seq ?_
    refine awp_rw rfl ?_
    refine mvT ?_
    refine RW.op rfl rfl (eff_callT (around_ret h 7 hh (by decide)) co13 rfl rfl rfl rfl) ?_
    refine RW.nil ?_
    refine awp_block ?_
    refine awp_seq ?_
    refine awp_rw rfl ?_
    refine ioT ?_
    refine asT ?_
    refine RW.nil ?_
    refine awp_cond rfl (fun h2 => ?_) (fun h2 => ?_)
    · try simp only [cl] at h2
      refine awp_rw rfl ?_
      have hb : bentR (around h 7) n (l[k]'hkl) = ⟨n, (l[k]'hkl).kind, (l[k]'hkl).frame, (l[k]'hkl).rep, (l[k]'hkl).dec⟩ := by unfold bentR; rw [if_pos (by omega)]
      refine mvO ?_
      refine mvT ?_
      refine mvT ?_
      refine RW.op rfl rfl (eff_indexAddr (i := k) rfl rfl te32 rfl rfl rfl rfl rfl rfl (by omega)) ?_
      refine faT tf47_0 ?_
      refine RW.store rfl rfl (eff_storeS (v := .t _) (el := .t (encC (l[k]'hkl))) (ys := [encI n, encI (l[k]'hkl).kind, encI (l[k]'hkl).frame.seq, encI (l[k]'hkl).frame.key, .bool (l[k]'hkl).frame.unlock, .sl ((l[k]'hkl).frame.body.map encBy) false, .int .u64 (l[k]'hkl).frame.tag, encI (l[k]'hkl).rep.next, encI (l[k]'hkl).rep.have_, encI (l[k]'hkl).rep.key, .bool (l[k]'hkl).rep.locked, encI (l[k]'hkl).dec.tick, encI (l[k]'hkl).dec.op, encI (l[k]'hkl).dec.kind, encI (l[k]'hkl).dec.seq]) (els := (l.map encC).map .t) (els' := ((l.set k (bentR (around h 7) n (l[k]'hkl))).map encC).map .t) rfl rfl ti3 rfl rfl rfl rfl rfl rfl (by first | exact elC hkl | (rw [Nat.zero_add]; exact elC hkl)) (Nat.le_of_ble_eq_true rfl) rfl (by first | exact setC_eq (by rw [hb]; rfl) | (rw [Nat.zero_add]; exact setC_eq (by rw [hb]; rfl)))) ?_
      refine RW.nil ?_
      refine awp_seq ?_
      refine awp_rw rfl ?_
      refine mvO ?_
      refine asO ?_
      refine RW.nil ?_
      refine awp_ret ?_
      rw [bent_at hk hkl rfl]
      exact ⟨Or.inr rfl, [_], ⟨.tmp (Res.ownT (xs := (l.set k (bentR (around h 7) n (l[k]'hkl))).map encC) rfl rfl rfl (by simp)), trivial⟩, .refl _⟩
    · try simp only [cl] at h2
      refine awp_seq ?_
      refine awp_rw rfl ?_
      refine ioT ?_
      refine asT ?_
      refine RW.nil ?_
      refine awp_cond rfl (fun h3 => ?_) (fun h3 => ?_)
      · try simp only [cl] at h3
        refine awp_rw rfl ?_
        have hb : bentR (around h 7) n (l[k]'hkl) = ⟨(l[k]'hkl).tick, n, (l[k]'hkl).frame, (l[k]'hkl).rep, (l[k]'hkl).dec⟩ := by unfold bentR; rw [if_neg (by omega), if_pos (by omega)]
        refine mvO ?_
        refine mvT ?_
        refine mvT ?_
        refine RW.op rfl rfl (eff_indexAddr (i := k) rfl rfl te32 rfl rfl rfl rfl rfl rfl (by omega)) ?_
        refine faT tf47_1 ?_
        refine RW.store rfl rfl (eff_storeS (v := .t _) (el := .t (encC (l[k]'hkl))) (ys := [encI (l[k]'hkl).tick, encI n, encI (l[k]'hkl).frame.seq, encI (l[k]'hkl).frame.key, .bool (l[k]'hkl).frame.unlock, .sl ((l[k]'hkl).frame.body.map encBy) false, .int .u64 (l[k]'hkl).frame.tag, encI (l[k]'hkl).rep.next, encI (l[k]'hkl).rep.have_, encI (l[k]'hkl).rep.key, .bool (l[k]'hkl).rep.locked, encI (l[k]'hkl).dec.tick, encI (l[k]'hkl).dec.op, encI (l[k]'hkl).dec.kind, encI (l[k]'hkl).dec.seq]) (els := (l.map encC).map .t) (els' := ((l.set k (bentR (around h 7) n (l[k]'hkl))).map encC).map .t) rfl rfl ti3 rfl rfl rfl rfl rfl rfl (by first | exact elC hkl | (rw [Nat.zero_add]; exact elC hkl)) (Nat.le_of_ble_eq_true rfl) rfl (by first | exact setC_eq (by rw [hb]; rfl) | (rw [Nat.zero_add]; exact setC_eq (by rw [hb]; rfl)))) ?_
        refine RW.nil ?_
        refine awp_seq ?_
        refine awp_rw rfl ?_
        refine mvO ?_
        refine asO ?_
        refine RW.nil ?_
        refine awp_ret ?_
        rw [bent_at hk hkl rfl]
        exact ⟨Or.inr rfl, [_], ⟨.tmp (Res.ownT (xs := (l.set k (bentR (around h 7) n (l[k]'hkl))).map encC) rfl rfl rfl (by simp)), trivial⟩, .refl _⟩
      · try simp only [cl] at h3
        refine awp_seq ?_
        refine awp_rw rfl ?_
        refine ioT ?_
        refine asT ?_
        refine RW.nil ?_
        refine awp_cond rfl (fun h4 => ?_) (fun h4 => ?_)
        · try simp only [cl] at h4
          refine awp_rw rfl ?_
          have hb : bentR (around h 7) n (l[k]'hkl) = ⟨(l[k]'hkl).tick, (l[k]'hkl).kind, (l[k]'hkl).frame, (l[k]'hkl).rep, ⟨n, (l[k]'hkl).dec.op, (l[k]'hkl).dec.kind, (l[k]'hkl).dec.seq⟩⟩ := by unfold bentR; rw [if_neg (by omega), if_neg (by omega), if_pos (by omega)]
          refine mvO ?_
          refine mvT ?_
          refine mvT ?_
          refine RW.op rfl rfl (eff_indexAddr (i := k) rfl rfl te32 rfl rfl rfl rfl rfl rfl (by omega)) ?_
          refine faT tf47_4 ?_
          refine faT tf28_0 ?_
          refine RW.store rfl rfl (eff_storeS (v := .t _) (el := .t (encC (l[k]'hkl))) (ys := [encI (l[k]'hkl).tick, encI (l[k]'hkl).kind, encI (l[k]'hkl).frame.seq, encI (l[k]'hkl).frame.key, .bool (l[k]'hkl).frame.unlock, .sl ((l[k]'hkl).frame.body.map encBy) false, .int .u64 (l[k]'hkl).frame.tag, encI (l[k]'hkl).rep.next, encI (l[k]'hkl).rep.have_, encI (l[k]'hkl).rep.key, .bool (l[k]'hkl).rep.locked, encI n, encI (l[k]'hkl).dec.op, encI (l[k]'hkl).dec.kind, encI (l[k]'hkl).dec.seq]) (els := (l.map encC).map .t) (els' := ((l.set k (bentR (around h 7) n (l[k]'hkl))).map encC).map .t) rfl rfl ti3 rfl rfl rfl rfl rfl rfl (by first | exact elC hkl | (rw [Nat.zero_add]; exact elC hkl)) (Nat.le_of_ble_eq_true rfl) rfl (by first | exact setC_eq (by rw [hb]; rfl) | (rw [Nat.zero_add]; exact setC_eq (by rw [hb]; rfl)))) ?_
          refine RW.nil ?_
          refine awp_seq ?_
          refine awp_rw rfl ?_
          refine mvO ?_
          refine asO ?_
          refine RW.nil ?_
          refine awp_ret ?_
          rw [bent_at hk hkl rfl]
          exact ⟨Or.inr rfl, [_], ⟨.tmp (Res.ownT (xs := (l.set k (bentR (around h 7) n (l[k]'hkl))).map encC) rfl rfl rfl (by simp)), trivial⟩, .refl _⟩
        · try simp only [cl] at h4
          refine awp_seq ?_
          refine awp_rw rfl ?_
          refine ioT ?_
          refine asT ?_
          refine RW.nil ?_
          refine awp_cond rfl (fun h5 => ?_) (fun h5 => ?_)
          · try simp only [cl] at h5
            refine awp_rw rfl ?_
            have hb : bentR (around h 7) n (l[k]'hkl) = ⟨(l[k]'hkl).tick, (l[k]'hkl).kind, (l[k]'hkl).frame, (l[k]'hkl).rep, ⟨(l[k]'hkl).dec.tick, (l[k]'hkl).dec.op, n, (l[k]'hkl).dec.seq⟩⟩ := by unfold bentR; rw [if_neg (by omega), if_neg (by omega), if_neg (by omega), if_pos (by omega)]
            refine mvO ?_
            refine mvT ?_
            refine mvT ?_
            refine RW.op rfl rfl (eff_indexAddr (i := k) rfl rfl te32 rfl rfl rfl rfl rfl rfl (by omega)) ?_
            refine faT tf47_4 ?_
            refine faT tf28_2 ?_
            refine RW.store rfl rfl (eff_storeS (v := .t _) (el := .t (encC (l[k]'hkl))) (ys := [encI (l[k]'hkl).tick, encI (l[k]'hkl).kind, encI (l[k]'hkl).frame.seq, encI (l[k]'hkl).frame.key, .bool (l[k]'hkl).frame.unlock, .sl ((l[k]'hkl).frame.body.map encBy) false, .int .u64 (l[k]'hkl).frame.tag, encI (l[k]'hkl).rep.next, encI (l[k]'hkl).rep.have_, encI (l[k]'hkl).rep.key, .bool (l[k]'hkl).rep.locked, encI (l[k]'hkl).dec.tick, encI (l[k]'hkl).dec.op, encI n, encI (l[k]'hkl).dec.seq]) (els := (l.map encC).map .t) (els' := ((l.set k (bentR (around h 7) n (l[k]'hkl))).map encC).map .t) rfl rfl ti3 rfl rfl rfl rfl rfl rfl (by first | exact elC hkl | (rw [Nat.zero_add]; exact elC hkl)) (Nat.le_of_ble_eq_true rfl) rfl (by first | exact setC_eq (by rw [hb]; rfl) | (rw [Nat.zero_add]; exact setC_eq (by rw [hb]; rfl)))) ?_
            refine RW.nil ?_
            refine awp_seq ?_
            refine awp_rw rfl ?_
            refine mvO ?_
            refine asO ?_
            refine RW.nil ?_
            refine awp_ret ?_
            rw [bent_at hk hkl rfl]
            exact ⟨Or.inr rfl, [_], ⟨.tmp (Res.ownT (xs := (l.set k (bentR (around h 7) n (l[k]'hkl))).map encC) rfl rfl rfl (by simp)), trivial⟩, .refl _⟩
          · try simp only [cl] at h5
            refine awp_seq ?_
            refine awp_rw rfl ?_
            refine ioT ?_
            refine asT ?_
            refine RW.nil ?_
            refine awp_cond rfl (fun h6 => ?_) (fun h6 => ?_)
            · try simp only [cl] at h6
              refine awp_rw rfl ?_
              have hb : bentR (around h 7) n (l[k]'hkl) = ⟨(l[k]'hkl).tick, (l[k]'hkl).kind, (l[k]'hkl).frame, (l[k]'hkl).rep, ⟨(l[k]'hkl).dec.tick, (l[k]'hkl).dec.op, (l[k]'hkl).dec.kind, n⟩⟩ := by unfold bentR; rw [if_neg (by omega), if_neg (by omega), if_neg (by omega), if_neg (by omega), if_pos (by omega)]
              refine mvO ?_
              refine mvT ?_
              refine mvT ?_
              refine RW.op rfl rfl (eff_indexAddr (i := k) rfl rfl te32 rfl rfl rfl rfl rfl rfl (by omega)) ?_
              refine faT tf47_4 ?_
              refine faT tf28_3 ?_
              refine RW.store rfl rfl (eff_storeS (v := .t _) (el := .t (encC (l[k]'hkl))) (ys := [encI (l[k]'hkl).tick, encI (l[k]'hkl).kind, encI (l[k]'hkl).frame.seq, encI (l[k]'hkl).frame.key, .bool (l[k]'hkl).frame.unlock, .sl ((l[k]'hkl).frame.body.map encBy) false, .int .u64 (l[k]'hkl).frame.tag, encI (l[k]'hkl).rep.next, encI (l[k]'hkl).rep.have_, encI (l[k]'hkl).rep.key, .bool (l[k]'hkl).rep.locked, encI (l[k]'hkl).dec.tick, encI (l[k]'hkl).dec.op, encI (l[k]'hkl).dec.kind, encI n]) (els := (l.map encC).map .t) (els' := ((l.set k (bentR (around h 7) n (l[k]'hkl))).map encC).map .t) rfl rfl ti3 rfl rfl rfl rfl rfl rfl (by first | exact elC hkl | (rw [Nat.zero_add]; exact elC hkl)) (Nat.le_of_ble_eq_true rfl) rfl (by first | exact setC_eq (by rw [hb]; rfl) | (rw [Nat.zero_add]; exact setC_eq (by rw [hb]; rfl)))) ?_
              refine RW.nil ?_
              refine awp_seq ?_
              refine awp_rw rfl ?_
              refine mvO ?_
              refine asO ?_
              refine RW.nil ?_
              refine awp_ret ?_
              rw [bent_at hk hkl rfl]
              exact ⟨Or.inr rfl, [_], ⟨.tmp (Res.ownT (xs := (l.set k (bentR (around h 7) n (l[k]'hkl))).map encC) rfl rfl rfl (by simp)), trivial⟩, .refl _⟩
            · try simp only [cl] at h6
              refine awp_seq ?_
              refine awp_rw rfl ?_
              refine ioT ?_
              refine asT ?_
              refine RW.nil ?_
              refine awp_cond rfl (fun h7 => ?_) (fun h7 => ?_)
              · try simp only [cl] at h7
                refine awp_rw rfl ?_
                have hb : bentR (around h 7) n (l[k]'hkl) = ⟨(l[k]'hkl).tick, (l[k]'hkl).kind, ⟨(l[k]'hkl).frame.seq, around n 20, (l[k]'hkl).frame.unlock, (l[k]'hkl).frame.body, (l[k]'hkl).frame.tag⟩, (l[k]'hkl).rep, (l[k]'hkl).dec⟩ := by unfold bentR; rw [if_neg (by omega), if_neg (by omega), if_neg (by omega), if_neg (by omega), if_neg (by omega), if_pos (by omega)]
                refine mvO ?_
                refine mvT ?_
                refine mvT ?_
                refine RW.op rfl rfl (eff_callT (around_ret n 20 hn (by decide)) co13 rfl rfl rfl rfl) ?_
                refine RW.op rfl rfl (eff_indexAddr (i := k) rfl rfl te32 rfl rfl rfl rfl rfl rfl (by omega)) ?_
                refine faT tf47_2 ?_
                refine faT tf45_1 ?_
                refine RW.store rfl rfl (eff_storeS (v := .t _) (el := .t (encC (l[k]'hkl))) (ys := [encI (l[k]'hkl).tick, encI (l[k]'hkl).kind, encI (l[k]'hkl).frame.seq, encI (around n 20), .bool (l[k]'hkl).frame.unlock, .sl ((l[k]'hkl).frame.body.map encBy) false, .int .u64 (l[k]'hkl).frame.tag, encI (l[k]'hkl).rep.next, encI (l[k]'hkl).rep.have_, encI (l[k]'hkl).rep.key, .bool (l[k]'hkl).rep.locked, encI (l[k]'hkl).dec.tick, encI (l[k]'hkl).dec.op, encI (l[k]'hkl).dec.kind, encI (l[k]'hkl).dec.seq]) (els := (l.map encC).map .t) (els' := ((l.set k (bentR (around h 7) n (l[k]'hkl))).map encC).map .t) rfl rfl ti3 rfl rfl rfl rfl rfl rfl (by first | exact elC hkl | (rw [Nat.zero_add]; exact elC hkl)) (Nat.le_of_ble_eq_true rfl) rfl (by first | exact setC_eq (by rw [hb]; rfl) | (rw [Nat.zero_add]; exact setC_eq (by rw [hb]; rfl)))) ?_
                refine RW.nil ?_
                refine awp_seq ?_
                refine awp_rw rfl ?_
                refine mvO ?_
                refine asO ?_
                refine RW.nil ?_
                refine awp_ret ?_
                rw [bent_at hk hkl rfl]
                exact ⟨Or.inr rfl, [_], ⟨.tmp (Res.ownT (xs := (l.set k (bentR (around h 7) n (l[k]'hkl))).map encC) rfl rfl rfl (by simp)), trivial⟩, .refl _⟩
              · try simp only [cl] at h7
                refine awp_rw rfl ?_
                have hb : bentR (around h 7) n (l[k]'hkl) = ⟨(l[k]'hkl).tick, (l[k]'hkl).kind, (l[k]'hkl).frame, ⟨around n 20, (l[k]'hkl).rep.have_, (l[k]'hkl).rep.key, (l[k]'hkl).rep.locked⟩, (l[k]'hkl).dec⟩ := by unfold bentR; rw [if_neg (by omega), if_neg (by omega), if_neg (by omega), if_neg (by omega), if_neg (by omega), if_neg (by omega)]
                refine mvO ?_
                refine mvT ?_
                refine mvT ?_
                refine RW.op rfl rfl (eff_callT (around_ret n 20 hn (by decide)) co13 rfl rfl rfl rfl) ?_
                refine RW.op rfl rfl (eff_indexAddr (i := k) rfl rfl te32 rfl rfl rfl rfl rfl rfl (by omega)) ?_
                refine faT tf47_3 ?_
                refine faT tf23_0 ?_
                refine RW.store rfl rfl (eff_storeS (v := .t _) (el := .t (encC (l[k]'hkl))) (ys := [encI (l[k]'hkl).tick, encI (l[k]'hkl).kind, encI (l[k]'hkl).frame.seq, encI (l[k]'hkl).frame.key, .bool (l[k]'hkl).frame.unlock, .sl ((l[k]'hkl).frame.body.map encBy) false, .int .u64 (l[k]'hkl).frame.tag, encI (around n 20), encI (l[k]'hkl).rep.have_, encI (l[k]'hkl).rep.key, .bool (l[k]'hkl).rep.locked, encI (l[k]'hkl).dec.tick, encI (l[k]'hkl).dec.op, encI (l[k]'hkl).dec.kind, encI (l[k]'hkl).dec.seq]) (els := (l.map encC).map .t) (els' := ((l.set k (bentR (around h 7) n (l[k]'hkl))).map encC).map .t) rfl rfl ti3 rfl rfl rfl rfl rfl rfl (by first | exact elC hkl | (rw [Nat.zero_add]; exact elC hkl)) (Nat.le_of_ble_eq_true rfl) rfl (by first | exact setC_eq (by rw [hb]; rfl) | (rw [Nat.zero_add]; exact setC_eq (by rw [hb]; rfl)))) ?_
                refine RW.nil ?_
                refine awp_seq ?_
                refine awp_rw rfl ?_
                refine mvO ?_
                refine asO ?_
                refine RW.nil ?_
                refine awp_ret ?_
                rw [bent_at hk hkl rfl]
                exact ⟨Or.inr rfl, [_], ⟨.tmp (Res.ownT (xs := (l.set k (bentR (around h 7) n (l[k]'hkl))).map encC) rfl rfl rfl (by simp)), trivial⟩, .refl _⟩

theorem lives1 : RetT Tryd.prog 22 [(1, deT)] [.sl (late4.map encC) false, encD dAg] (.tup [encV zv, encI 0]) := by have h := judge_ret late4 dAg okLate; rw [livA] at h; exact h
theorem lives2 : RetT Tryd.prog 22 [(1, deT)] [.sl (late4.map encC) false, encD dTo] (.tup [encV ⟨false, ⟨1, 0, 1, false⟩⟩, encI 0]) := by have h := judge_ret late4 dTo okLate; rw [livB] at h; exact h
theorem lives3 : RetT Tryd.prog 22 [(1, deT)] [.sl (early4.map encC) false, encD dAg] (.tup [encV ⟨true, zr⟩, encI 0]) := by have h := judge_ret early4 dAg okEarly; rw [livC] at h; exact h
theorem lives4 : RetT Tryd.prog 19 [(1, deT)] [.sl (early4.map encC) false] (.tup [.sl ([2].map encN) false, encI 0]) := by have h := held_ret early4 okEarly; rw [livD] at h; exact h
theorem lives5 : Ret Tryd.prog 21 [.sl ([2].map encN) false, .sl ([2].map encN) false] (.bool true) := sameN_ret [2] (by decide)

theorem lives_ret  : RetT Tryd.prog 16 [(1, deT)] [] (.bool true) := by
  refine retT_of_awp Tryd.func16 rfl (Nat.le_of_ble_eq_true rfl) ?_
  refine awp_seq ?_
  refine awp_rw rfl ?_
  refine asT ?_
  refine RW.nil ?_
  refine awp_seq ?_
  refine awp_rw rfl ?_
  refine RW.op rfl rfl (eff_buildT (ys := [_, _, _, _, _, _, _, _, _, _, _, _, _, _, _]) rfl rfl tz47 tg47 rfl) ?_
  refine RW.new rfl rfl (eff_allocK (k := 15) (id := 1) rfl rfl tz47 rfl rfl) ?_
  refine RW.store rfl rfl (eff_storeW (v := .t _) (els := [_]) (els' := [_]) rfl rfl ti47 rfl rfl rfl rfl rfl rfl rfl rfl rfl) ?_
  refine RW.nil ?_
  refine awp_seq ?_
  refine awp_rw rfl ?_
  refine RW.op rfl rfl (eff_buildT (ys := [_, _, _, _]) rfl rfl tz23 tg23 rfl) ?_
  refine RW.op rfl rfl (eff_buildT (ys := [_, _, _, _, _, _, _, _, _, _, _, _, _, _, _]) rfl rfl tz47 tg47 rfl) ?_
  refine RW.new rfl rfl (eff_allocK (k := 15) (id := 2) rfl rfl tz47 rfl rfl) ?_
  refine RW.store rfl rfl (eff_storeW (v := .t _) (els := [_]) (els' := [_]) rfl rfl ti47 rfl rfl rfl rfl rfl rfl rfl rfl rfl) ?_
  refine RW.nil ?_
  refine awp_seq ?_
  refine awp_rw rfl ?_
  refine RW.op rfl rfl (eff_buildT (ys := [_, _, _, _]) rfl rfl tz28 tg28 rfl) ?_
  refine RW.new rfl rfl (eff_allocK (k := 4) (id := 3) rfl rfl tz28 rfl rfl) ?_
  refine RW.store rfl rfl (eff_storeW (v := .t _) (els := [_]) (els' := [_]) rfl rfl ti28 rfl rfl rfl rfl rfl rfl rfl rfl rfl) ?_
  refine RW.nil ?_
  refine awp_seq ?_
  refine awp_rw rfl ?_
  refine RW.op rfl rfl (eff_buildT (ys := [_, _, _, _]) rfl rfl tz28 tg28 rfl) ?_
  refine RW.new rfl rfl (eff_allocK (k := 4) (id := 4) rfl rfl tz28 rfl rfl) ?_
  refine RW.store rfl rfl (eff_storeW (v := .t _) (els := [_]) (els' := [_]) rfl rfl ti28 rfl rfl rfl rfl rfl rfl rfl rfl rfl) ?_
  refine RW.nil ?_
  refine awp_seq ?_
  refine awp_rw rfl ?_
  refine RW.op rfl rfl (eff_load rfl rfl ti28 rfl (.whole rfl rfl rfl rfl rfl rfl)) ?_
  refine RW.op rfl rfl (eff_buildT (ys := [_, _, _, _, _, _, _, _, _, _, _, _, _, _, _]) rfl rfl tz47 tg47 rfl) ?_
  refine RW.new rfl rfl (eff_allocK (k := 15) (id := 5) rfl rfl tz47 rfl rfl) ?_
  refine RW.store rfl rfl (eff_storeW (v := .t _) (els := [_]) (els' := [_]) rfl rfl ti47 rfl rfl rfl rfl rfl rfl rfl rfl rfl) ?_
  refine RW.nil ?_
  refine awp_seq ?_
  refine awp_rw rfl ?_
  refine RW.op rfl rfl (eff_load rfl rfl ti28 rfl (.whole rfl rfl rfl rfl rfl rfl)) ?_
  refine RW.op rfl rfl (eff_buildT (ys := [_, _, _, _, _, _, _, _, _, _, _, _, _, _, _]) rfl rfl tz47 tg47 rfl) ?_
  refine RW.new rfl rfl (eff_allocK (k := 15) (id := 6) rfl rfl tz47 rfl rfl) ?_
  refine RW.store rfl rfl (eff_storeW (v := .t _) (els := [_]) (els' := [_]) rfl rfl ti47 rfl rfl rfl rfl rfl rfl rfl rfl rfl) ?_
  refine RW.nil ?_
  refine awp_seq ?_
  refine awp_rw rfl ?_
  refine RW.op rfl rfl (eff_load rfl rfl ti47 rfl (.whole rfl rfl rfl rfl rfl rfl)) ?_
  refine RW.op rfl rfl (eff_load rfl rfl ti47 rfl (.whole rfl rfl rfl rfl rfl rfl)) ?_
  refine RW.op rfl rfl (eff_load rfl rfl ti47 rfl (.whole rfl rfl rfl rfl rfl rfl)) ?_
  refine RW.op rfl rfl (eff_load rfl rfl ti47 rfl (.whole rfl rfl rfl rfl rfl rfl)) ?_
  refine RW.weak (weak_slot 26 (y := encC rSe) rfl (by first | ((repeat' (first | exact trivial | exact Wk.refl _ | exact Wk.sl _ | refine And.intro ?_ ?_ | refine Wk.tupP ?_ | refine Wk.aggP ?_)); done) | fail)) rfl ?_
  refine RW.weak (weak_slot 27 (y := encC rX) rfl (by first | ((repeat' (first | exact trivial | exact Wk.refl _ | exact Wk.sl _ | refine And.intro ?_ ?_ | refine Wk.tupP ?_ | refine Wk.aggP ?_)); done) | fail)) rfl ?_
  refine RW.weak (weak_slot 28 (y := encC rY) rfl (by first | ((repeat' (first | exact trivial | exact Wk.refl _ | exact Wk.sl _ | refine And.intro ?_ ?_ | refine Wk.tupP ?_ | refine Wk.aggP ?_)); done) | fail)) rfl ?_
  refine RW.weak (weak_slot 29 (y := encC rHe) rfl (by first | ((repeat' (first | exact trivial | exact Wk.refl _ | exact Wk.sl _ | refine And.intro ?_ ?_ | refine Wk.tupP ?_ | refine Wk.aggP ?_)); done) | fail)) rfl ?_
  refine RW.new rfl rfl (eff_buildSliceL (id := 30) (els := [.t (.agg [_, _, _, _, _, _, _, _, _, _, _, _, _, _, _]), .t (.agg [_, _, _, _, _, _, _, _, _, _, _, _, _, _, _]), .t (.agg [_, _, _, _, _, _, _, _, _, _, _, _, _, _, _]), .t (.agg [_, _, _, _, _, _, _, _, _, _, _, _, _, _, _])]) rfl rfl te32 tz47 rfl (by decide) (by decide) rfl rfl rfl rfl) ?_
  refine asO ?_
  refine RW.nil ?_
  refine awp_seq ?_
  refine awp_rw rfl ?_
  refine RW.op rfl rfl (eff_load rfl rfl ti47 rfl (.whole rfl rfl rfl rfl rfl rfl)) ?_
  refine RW.op rfl rfl (eff_load rfl rfl ti47 rfl (.whole rfl rfl rfl rfl rfl rfl)) ?_
  refine RW.op rfl rfl (eff_load rfl rfl ti47 rfl (.whole rfl rfl rfl rfl rfl rfl)) ?_
  refine RW.op rfl rfl (eff_load rfl rfl ti47 rfl (.whole rfl rfl rfl rfl rfl rfl)) ?_
  refine RW.weak (weak_slot 31 (y := encC rSe) rfl (by first | ((repeat' (first | exact trivial | exact Wk.refl _ | exact Wk.sl _ | refine And.intro ?_ ?_ | refine Wk.tupP ?_ | refine Wk.aggP ?_)); done) | fail)) rfl ?_
  refine RW.weak (weak_slot 32 (y := encC rHe) rfl (by first | ((repeat' (first | exact trivial | exact Wk.refl _ | exact Wk.sl _ | refine And.intro ?_ ?_ | refine Wk.tupP ?_ | refine Wk.aggP ?_)); done) | fail)) rfl ?_
  refine RW.weak (weak_slot 33 (y := encC rX) rfl (by first | ((repeat' (first | exact trivial | exact Wk.refl _ | exact Wk.sl _ | refine And.intro ?_ ?_ | refine Wk.tupP ?_ | refine Wk.aggP ?_)); done) | fail)) rfl ?_
  refine RW.weak (weak_slot 34 (y := encC rY) rfl (by first | ((repeat' (first | exact trivial | exact Wk.refl _ | exact Wk.sl _ | refine And.intro ?_ ?_ | refine Wk.tupP ?_ | refine Wk.aggP ?_)); done) | fail)) rfl ?_
  refine RW.new rfl rfl (eff_buildSliceL (id := 35) (els := [.t (.agg [_, _, _, _, _, _, _, _, _, _, _, _, _, _, _]), .t (.agg [_, _, _, _, _, _, _, _, _, _, _, _, _, _, _]), .t (.agg [_, _, _, _, _, _, _, _, _, _, _, _, _, _, _]), .t (.agg [_, _, _, _, _, _, _, _, _, _, _, _, _, _, _])]) rfl rfl te32 tz47 rfl (by decide) (by decide) rfl rfl rfl rfl) ?_
  refine asO ?_
  refine RW.nil ?_
  refine awp_seq ?_
  refine awp_weak (weak_frz (n := 93) (fr' := [(3, .ptr 3 0 0 0), (4, .ptr 4 0 0 0), (7, .t (.sl (late4.map encC) false)), (8, .t (.sl (early4.map encC) false)), (94, .t deT)]) (st' := [(3, some ⟨4, 28, 0, [.t (encD dAg)]⟩), (4, some ⟨4, 28, 0, [.t (encD dTo)]⟩)]) [(30, some ⟨15, 47, 0, (late4.map encC).map .t⟩), (35, some ⟨15, 47, 0, (early4.map encC).map .t⟩)] ⟨rfl, rfl, trivial⟩ ⟨rfl, rfl, trivial⟩ ⟨wa_eq rfl rfl, wa_eq rfl rfl, .res (Res.ownT (xs := late4.map encC) rfl rfl rfl rfl) (.refl _), .res (Res.ownT (xs := early4.map encC) rfl rfl rfl rfl) (.refl _), wa_eq rfl rfl, trivial⟩ ⟨rfl, okE_one rfl, rfl, okE_one rfl, trivial⟩) ?_
  refine awp_rw rfl ?_
  refine mvT ?_
  refine RW.op rfl rfl (eff_load rfl rfl ti28 rfl (.whole rfl rfl rfl rfl rfl rfl)) ?_
  refine RW.op rfl rfl (eff_callXT (lives1) co22 rfl rfl rfl ⟨rfl, trivial⟩ rfl) ?_
  refine mvT ?_
  refine RW.op rfl rfl (eff_extract rfl rfl rfl rfl) ?_
  refine RW.op rfl rfl (eff_extract rfl rfl rfl rfl) ?_
  refine RW.new rfl rfl (eff_allocK (k := 5) (id := 9) rfl rfl tz49 rfl rfl) ?_
  refine RW.store rfl rfl (eff_storeW (v := .t _) (els := [_]) (els' := [_]) rfl rfl ti49 rfl rfl rfl rfl rfl rfl rfl rfl rfl) ?_
  refine asT ?_
  refine RW.nil ?_
  refine awp_seq ?_
  refine awp_rw rfl ?_
  refine mvT ?_
  refine RW.op rfl rfl (eff_load rfl rfl ti28 rfl (.whole rfl rfl rfl rfl rfl rfl)) ?_
  refine RW.op rfl rfl (eff_callXT (lives2) co22 rfl rfl rfl ⟨rfl, trivial⟩ rfl) ?_
  refine mvT ?_
  refine RW.op rfl rfl (eff_extract rfl rfl rfl rfl) ?_
  refine RW.op rfl rfl (eff_extract rfl rfl rfl rfl) ?_
  refine RW.new rfl rfl (eff_allocK (k := 5) (id := 11) rfl rfl tz49 rfl rfl) ?_
  refine RW.store rfl rfl (eff_storeW (v := .t _) (els := [_]) (els' := [_]) rfl rfl ti49 rfl rfl rfl rfl rfl rfl rfl rfl rfl) ?_
  refine asT ?_
  refine RW.nil ?_
  refine awp_seq ?_
  refine awp_rw rfl ?_
  refine mvT ?_
  refine RW.op rfl rfl (eff_load rfl rfl ti28 rfl (.whole rfl rfl rfl rfl rfl rfl)) ?_
  refine RW.op rfl rfl (eff_callXT (lives3) co22 rfl rfl rfl ⟨rfl, trivial⟩ rfl) ?_
  refine mvT ?_
  refine RW.op rfl rfl (eff_extract rfl rfl rfl rfl) ?_
  refine RW.op rfl rfl (eff_extract rfl rfl rfl rfl) ?_
  refine RW.new rfl rfl (eff_allocK (k := 5) (id := 13) rfl rfl tz49 rfl rfl) ?_
  refine RW.store rfl rfl (eff_storeW (v := .t _) (els := [_]) (els' := [_]) rfl rfl ti49 rfl rfl rfl rfl rfl rfl rfl rfl rfl) ?_
  refine asT ?_
  refine RW.nil ?_
  refine awp_seq ?_
  refine awp_rw rfl ?_
  refine mvT ?_
  refine RW.op rfl rfl (eff_callXT (lives4) co19 rfl rfl rfl ⟨rfl, trivial⟩ rfl) ?_
  refine mvT ?_
  refine RW.op rfl rfl (eff_extract rfl rfl rfl rfl) ?_
  refine RW.op rfl rfl (eff_extract rfl rfl rfl rfl) ?_
  refine asT ?_
  refine asT ?_
  refine RW.nil ?_
  refine awp_seq ?_
  refine awp_seq ?_
  refine awp_rw rfl ?_
  refine mvT ?_
  refine RW.op rfl rfl (eff_iop (r := .bool false) rfl rfl rfl rfl (by rfl)) ?_
  refine mvT ?_
  refine RW.gop rfl rfl rfl rfl rfl rfl (eff_move (v := .t _) rfl rfl rfl) ?_
  refine RW.gop rfl rfl rfl rfl rfl rfl (eff_iop (r := .bool false) rfl rfl rfl rfl (by rfl)) ?_
  refine pkT ?_
  refine mvT ?_
  refine RW.gop rfl rfl rfl rfl rfl rfl (eff_move (v := .t _) rfl rfl rfl) ?_
  refine RW.gop rfl rfl rfl rfl rfl rfl (eff_iop (r := .bool false) rfl rfl rfl rfl (by rfl)) ?_
  refine pkT ?_
  refine mvT ?_
  refine RW.gop rfl rfl rfl rfl rfl rfl (eff_move (v := .t _) rfl rfl rfl) ?_
  refine RW.gop rfl rfl rfl rfl rfl rfl (eff_iop (r := .bool false) rfl rfl rfl rfl (by rfl)) ?_
  refine pkT ?_
  refine mvT ?_
  refine RW.gop rfl rfl rfl rfl rfl rfl (eff_move (v := .t _) rfl rfl rfl) ?_
  refine RW.gop rfl rfl rfl rfl rfl rfl (eff_buildSliceT (xs := [2].map encN) rfl rfl te26 tz3 rfl (by decide) rfl rfl rfl (by decide)) ?_
  refine RW.gop rfl rfl rfl rfl rfl rfl (eff_callW (xs := [_, _]) (lives5) co21 rfl rfl rfl rfl (by repeat' first | exact trivial | exact Wk.refl _ | exact Wk.sl _ | refine And.intro ?_ ?_ | refine Wk.aggP ?_)) ?_
  refine RW.gop rfl rfl rfl rfl rfl rfl (eff_unop rfl rfl rfl rfl) ?_
  refine pkT ?_
  refine RW.nil ?_
  refine awp_cond rfl (fun h => nomatch h) (fun _ => ?_)
  refine awp_skip ?_
  refine awp_seq ?_
  refine awp_rw rfl ?_
  refine RW.op rfl rfl (eff_load rfl rfl ti49 rfl (.whole rfl rfl rfl rfl rfl rfl)) ?_
  refine RW.op rfl rfl (eff_buildT (ys := [_, _, _, _, _]) rfl rfl tz49 tg49 rfl) ?_
  refine RW.op rfl rfl (eff_structEqlAB (cells := cellsV) (a := zv) (b := zv) (r := true) rfl rfl ts49s ti49 th49 cellsV_inj cellsV_kind rfl rfl (by decide)) ?_
  refine mvT ?_
  refine RW.gop rfl rfl rfl rfl rfl rfl (eff_load rfl rfl ti49 rfl (.whole rfl rfl rfl rfl rfl rfl)) ?_
  refine RW.gop rfl rfl rfl rfl rfl rfl (eff_buildT (ys := [_, _, _, _]) rfl rfl tz23 tg23 rfl) ?_
  refine RW.gop rfl rfl rfl rfl rfl rfl (eff_buildT (ys := [_, _, _, _, _]) rfl rfl tz49 tg49 rfl) ?_
  refine RW.gop rfl rfl rfl rfl rfl rfl (eff_structEqlAB (cells := cellsV) (a := ⟨false, ⟨1, 0, 1, false⟩⟩) (b := ⟨false, ⟨1, 0, 1, false⟩⟩) (r := true) rfl rfl ts49s ti49 th49 cellsV_inj cellsV_kind rfl rfl (by decide)) ?_
  refine pkT ?_
  refine mvT ?_
  refine RW.gop rfl rfl rfl rfl rfl rfl (eff_load rfl rfl ti49 rfl (.whole rfl rfl rfl rfl rfl rfl)) ?_
  refine RW.gop rfl rfl rfl rfl rfl rfl (eff_buildT (ys := [_, _, _, _, _]) rfl rfl tz49 tg49 rfl) ?_
  refine RW.gop rfl rfl rfl rfl rfl rfl (eff_structEqlAB (cells := cellsV) (a := ⟨true, zr⟩) (b := ⟨true, zr⟩) (r := true) rfl rfl ts49s ti49 th49 cellsV_inj cellsV_kind rfl rfl (by decide)) ?_
  refine pkT ?_
  refine asT ?_
  refine RW.nil ?_
  refine awp_ret ?_
  exact ⟨Or.inr rfl, [_], ⟨.tmp (.t _), trivial⟩, .refl _⟩

end Go.Tv.C36

end
section
open Go Go.Tv Go.Proofs
namespace Go.Tv.C36
set_option maxRecDepth 20000
set_option maxHeartbeats 2000000
set_option linter.unusedSimpArgs false
set_option linter.unusedVariables false
abbrev encL (l : List Rcd) : Tr := .sl (l.map encC) false
theorem atOf_2 (l : List Rcd) : (atOf l).2 = (allOf l).2 := by
  by_cases h : (allOf l).2 = 0
  · rw [atOf_ok h, h]
  · rw [atOf_bad (all_zt h) h]
theorem two_mem {α : Type} {p : α → Prop} {a b : α} (ha : p a) (hb : p b) : ∀ x, x ∈ [a, b] → p x := by
  intro x hx
  rcases List.mem_cons.1 hx with rfl | hx
  · exact ha
  · rw [List.mem_singleton.1 hx]; exact hb

end Go.Tv.C36

end
section
open Go Go.Tv Go.Proofs
namespace Go.Tv.C36

/-! ### Fair judgement -/
/-! ### Confirming -/
/-! ### Prefixes -/
structure Pre (A B : List Nat) (k : Nat) : Prop where
  le : B.length ≤ A.length
  eq : ∀ i (ha : i < A.length) (hb : i < B.length), B[i] = A[i]
  lt : ∀ i (ha : i < A.length), A[i] < k ↔ i < B.length
end Go.Tv.C36

end
section
open Go Go.Tv Go.Proofs
namespace Go.Tv.C36
set_option maxRecDepth 20000
set_option maxHeartbeats 2000000
set_option linter.unusedSimpArgs false
set_option linter.unusedVariables false
def recD (j : Nat) : Rcd := ⟨(j : Int), 3, zf, zr, ⟨(j : Int), 0, 0, 0⟩⟩
def longL (k : Nat) : List Rcd := (List.range k).map recD
def longT (i k : Nat) : List Tr := ((longL i).map encC) ++ List.replicate (k - i) z47
theorem longT_set {i k : Nat} (h : i < k) : ((longT i k).map AV.t).set i (.t (encC (recD i))) = (longT (i + 1) k).map .t := by
  unfold longT longL
  rw [← List.map_set, show k - i = (k - (i + 1)) + 1 from by omega, List.replicate_succ, List.set_append_right _ _ (by simp)]
  simp [List.range_succ]
theorem longT_get {i k : Nat} (h : i < k) : ((longT i k).map AV.t)[i]? = some (.t z47) := by
  unfold longT longL
  rw [List.getElem?_map, List.getElem?_append_right (by simp)]
  simp only [List.length_map, List.length_range, Nat.sub_self, List.getElem?_replicate]
  rw [if_pos (by omega)]; rfl
theorem longT_full (k : Nat) : longT k k = (longL k).map encC := by unfold longT; simp
theorem longL_okl {k : Nat} (h : k ≤ 1000) : OKL (longL k) where
  len := by unfold longL; simp; omega
  few := by
    have : (longL k).filter (fun r => decide (r.kind = 1)) = [] := by
      rw [List.filter_eq_nil_iff]
      intro r hr
      obtain ⟨j, _, rfl⟩ := List.mem_map.1 hr
      show ¬ decide ((3 : Int) = 1) = true
      decide
    rw [this]; exact Nat.zero_le _
  hp := by intro r hr; obtain ⟨j, _, rfl⟩ := List.mem_map.1 hr; exact hpzr
  bod := by intro r hr; obtain ⟨j, _, rfl⟩ := List.mem_map.1 hr; exact Nat.zero_le _
  seq := by intro r hr; obtain ⟨j, _, rfl⟩ := List.mem_map.1 hr; exact ⟨Int.le_refl _, by show (0 : Int) ≤ 1000000; decide⟩
theorem three_mem {α : Type} {p : α → Prop} {a b c : α} (ha : p a) (hb : p b) (hc : p c) : ∀ x, x ∈ [a, b, c] → p x := by
  intro x hx
  rcases List.mem_cons.1 hx with rfl | hx
  · exact ha
  · exact two_mem hb hc x hx

theorem law7 (l what : List Int) (p h n many : Int) (hI : ∀ x, x ∈ l → I64 x) (hl : l.length ≤ 9223372036854775807) (hJ : ∀ x, x ∈ what → I64 x) (hwl : what.length ≤ 9223372036854775807) (hp : I64 p) (hh : I64 h) (hn : I64 n) (hm : I64 many) : RetT Tryd.prog 7 [(1, deT)] [.sl (l.map encI) false, .sl (what.map encI) false, encI p, encI h, encI n, encI many] (.bool true) := by
  refine retT_of_awp Tryd.func7 rfl (Nat.le_of_ble_eq_true rfl) ?_
  refine awp_seq ?_
  refine awp_rw rfl ?_
  refine asT ?_
  refine RW.nil ?_
  refine awp_seq ?_
  refine awp_rw rfl ?_
  refine mvT ?_
  refine mvT ?_
  refine RW.op rfl rfl (eff_callT (ledger_ret l what hI hl hJ hwl) co17 rfl rfl rfl rfl) ?_
  refine mvT ?_
  refine RW.op rfl rfl (eff_extract rfl rfl rfl rfl) ?_
  refine RW.op rfl rfl (eff_extract rfl rfl rfl rfl) ?_
  refine asT ?_
  refine asT ?_
  refine RW.nil ?_
  refine awp_seq ?_
  refine awp_rw rfl ?_
  have hrm := around_range (n := many) (m := 10) (by decide)
  obtain ⟨k, hk, hk5⟩ : ∃ k : Nat, 495 + around many 10 = (k : Int) ∧ k ≤ 504 := ⟨(495 + around many 10).toNat, by omega, by omega⟩
  refine mvT ?_
  refine RW.op rfl rfl (eff_callT (around_ret many 10 hm (by decide)) co13 rfl rfl rfl rfl) ?_
  refine RW.op rfl rfl (eff_iop (r := encI (k : Nat)) rfl rfl rfl rfl (by rw [← hk]; exact iadd (by omega))) ?_
  refine asT ?_
  refine RW.nil ?_
  refine awp_seq ?_
  refine awp_rw rfl ?_
  refine mvT ?_
  refine RW.new rfl rfl (eff_makeSliceM (id := 32) (l := k) rfl rfl te32 tz47 rfl (by decide) tb47 rfl rfl rfl rfl (by omega) (by omega) rfl (show List.replicate k (AV.t z47) = (longT 0 k).map .t by unfold longT longL; simp)) ?_
  refine asO ?_
  refine RW.nil ?_
  refine awp_seq ?_
  refine awp_seq ?_
  refine awp_rw rfl ?_
  refine asT ?_
  refine RW.nil ?_
  refine awp_block ?_
  refine awp_loopW (fun m s => ∃ (i : Nat), (i ≤ k) ∧ m = k - i ∧ s = ⟨73, [(2, .t (encI p)), (3, .t (encI h)), (4, .t (encI n)), (13, .t (.sl ((ledger l what).1.map encC) false)), (15, .t (encI (k : Nat))), (16, .own 32 0 0 k), (17, .t (encI (i : Nat))), (74, .t deT)], [(32, some ⟨15, 47, 0, (longT i k).map .t⟩)]⟩) (_) (⟨_, weak_keep (n := 73) (fr' := [(2, .t (encI p)), (3, .t (encI h)), (4, .t (encI n)), (13, .t (.sl ((ledger l what).1.map encC) false)), (15, .t (encI (k : Nat))), (16, .own 32 0 0 k), (17, .t (encI (0 : Nat))), (74, .t deT)]) (st' := [(32, some ⟨15, 47, 0, (longT 0 k).map .t⟩)]) ⟨rfl, rfl, rfl, rfl, rfl, rfl, rfl, rfl, rfl, rfl, rfl, rfl, rfl, rfl, rfl, rfl, trivial⟩ ⟨by first | rfl | (rw [← longT_set (by omega)]; rfl), okE_t, trivial⟩, 0, (by omega), rfl, rfl⟩) ?_
  rintro m s ⟨i, hi, rfl, rfl⟩
  refine awp_seq ?_
  refine awp_seq ?_
  refine awp_rw rfl ?_
  refine mvT ?_
  refine mvT ?_
  refine ioT ?_
  refine RW.nil ?_
  refine awp_cond rfl (fun h1 => ?_) (fun h1 => ?_)
  · try simp only [cl] at h1
    refine awp_skip ?_
    refine awp_seq ?_
    refine awp_block ?_
    refine awp_rw rfl ?_
    refine mvO ?_
    refine mvT ?_
    refine mvT ?_
    refine mvT ?_
    refine RW.op rfl rfl (eff_buildT (ys := [_, _, _, _]) rfl rfl tz28 tg28 rfl) ?_
    have hik : i < k := by omega
    refine RW.op rfl rfl (eff_buildT (ys := [_, _, _, _, _, _, _, _, _, _, _, _, _, _, _]) rfl rfl tz47 tg47 rfl) ?_
    refine RW.weak (weak_slot 43 (y := encC (recD i)) rfl (by first | ((repeat' (first | exact trivial | exact Wk.refl _ | exact Wk.sl _ | refine And.intro ?_ ?_ | refine Wk.tupP ?_ | refine Wk.aggP ?_)); done) | fail)) rfl ?_
    refine RW.op rfl rfl (eff_indexAddr rfl rfl te32 rfl rfl rfl rfl rfl rfl (by omega)) ?_
    refine RW.store rfl rfl (eff_storeW (v := .t _) (el := .t z47) (els := (longT i k).map .t) (els' := (longT (i + 1) k).map .t) rfl rfl ti47 rfl rfl rfl rfl rfl rfl (by first | exact longT_get hik | (rw [Nat.zero_add]; exact longT_get hik)) rfl (by first | exact longT_set hik | (rw [Nat.zero_add]; exact longT_set hik))) ?_
    refine RW.nil ?_
    refine awp_rw rfl ?_
    refine mvT ?_
    refine RW.op rfl rfl (eff_iop rfl rfl rfl rfl (iadd (by omega))) ?_
    refine asT ?_
    refine RW.nil ?_
    refine ⟨_, ?_, _, weak_keep (n := 73) (fr' := [(2, .t (encI p)), (3, .t (encI h)), (4, .t (encI n)), (13, .t (.sl ((ledger l what).1.map encC) false)), (15, .t (encI (k : Nat))), (16, .own 32 0 0 k), (17, .t (encI ((i + 1) : Nat))), (74, .t deT)]) (st' := [(32, some ⟨15, 47, 0, (longT (i + 1) k).map .t⟩)]) ⟨rfl, rfl, rfl, rfl, rfl, rfl, rfl, rfl, rfl, rfl, rfl, rfl, rfl, rfl, rfl, rfl, trivial⟩ ⟨by first | rfl | (rw [← longT_set (by omega)]; rfl), okE_t, trivial⟩, i + 1, (by omega), rfl, rfl⟩
    omega
  · try simp only [cl] at h1
    refine awp_exit ?_
    refine awp_seq ?_
    obtain rfl : i = k := by omega
    refine awp_weak (weak_frz (n := 73) (fr' := [(2, .t (encI p)), (3, .t (encI h)), (4, .t (encI n)), (13, .t (.sl ((ledger l what).1.map encC) false)), (16, .t (.sl ((longL i).map encC) false)), (74, .t deT)]) (st' := []) [(32, some ⟨15, 47, 0, (longT i i).map .t⟩)] ⟨rfl, trivial⟩ trivial ⟨wa_eq rfl rfl, wa_eq rfl rfl, wa_eq rfl rfl, wa_eq rfl rfl, .res (Res.ownT (xs := (longL i).map encC) rfl rfl (by rw [longT_full]) (by simp [longL])) (.refl _), wa_eq rfl rfl, trivial⟩ trivial) ?_
    have hled := ledger_led l what
    have hfew := ledger_few l what
    have hsh := hled.short
    have hG3 : ∀ x, x ∈ [(ledger l what).1, bent (ledger l what).1 p h n, longL i] → OKL x := three_mem hled.okl (hled.bentO hfew p h n) (longL_okl (by omega))
    generalize hke : i = k at *
    refine awp_rw rfl ?_
    refine mvT ?_
    refine mvT ?_
    refine mvT ?_
    refine mvT ?_
    refine mvT ?_
    refine RW.op rfl rfl (eff_callT (bent_ret (ledger l what).1 p h n (by omega) hp hh hn) co18 rfl rfl rfl rfl) ?_
    refine mvT ?_
    refine RW.op rfl rfl (eff_buildSliceT (xs := [(ledger l what).1, bent (ledger l what).1 p h n, longL k].map encL) rfl rfl te37 tz32 rfl (by decide) rfl rfl rfl (by decide)) ?_
    refine asT ?_
    refine RW.nil ?_
    refine awp_seq ?_
    refine awp_seq ?_
    refine awp_rw rfl ?_
    refine asT ?_
    refine RW.nil ?_
    refine awp_block ?_
    refine awp_loopW (fun m s => ∃ (j : Nat), (j ≤ 3) ∧ m = 3 - j ∧ s = ⟨73, [(18, .t (.sl ([(ledger l what).1, bent (ledger l what).1 p h n, longL k].map encL) true)), (19, .t (encI (j : Nat))), (74, .t deT)], []⟩) (_) (⟨_, weak_keep (n := 73) (fr' := [(18, .t (.sl ([(ledger l what).1, bent (ledger l what).1 p h n, longL k].map encL) true)), (19, .t (encI (0 : Nat))), (74, .t deT)]) (st' := []) ⟨rfl, rfl, rfl, rfl, rfl, rfl, trivial⟩ trivial, 0, (by omega), rfl, rfl⟩) ?_
    rintro m s ⟨j, hj, rfl, rfl⟩
    refine awp_seq ?_
    refine awp_seq ?_
    refine awp_rw rfl ?_
    refine mvT ?_
    refine ioT ?_
    refine RW.nil ?_
    refine awp_cond rfl (fun h2 => ?_) (fun h2 => ?_)
    · try simp only [cl] at h2
      refine awp_skip ?_
      refine awp_seq ?_
      refine awp_block ?_
      refine awp_seq ?_
      refine awp_rw rfl ?_
      have hOj := hG3 _ (List.getElem_mem (show j < [(ledger l what).1, bent (ledger l what).1 p h n, longL k].length by show j < 3; omega))
      refine mvT ?_
      refine mvT ?_
      refine RW.op rfl rfl (eff_indexM (i := j) rfl rfl te37 rfl rfl (by first | rfl | omega) (by exact List.getElem?_eq_getElem (show j < [(ledger l what).1, bent (ledger l what).1 p h n, longL k].length by show j < 3; omega)) rfl (by decide)) ?_
      refine RW.op rfl rfl (eff_loadW1 rfl rfl ti32 rfl rfl) ?_
      refine RW.op rfl rfl (eff_callT (at_ret ([(ledger l what).1, bent (ledger l what).1 p h n, longL k][j]'(by show j < 3; omega)) hOj) co26 rfl rfl rfl rfl) ?_
      refine mvT ?_
      refine RW.op rfl rfl (eff_extract rfl rfl rfl rfl) ?_
      refine RW.op rfl rfl (eff_extract rfl rfl rfl rfl) ?_
      refine asT ?_
      refine asT ?_
      refine RW.nil ?_
      refine awp_seq ?_
      refine awp_rw rfl ?_
      refine mvT ?_
      refine mvT ?_
      refine RW.op rfl rfl (eff_indexM (i := j) rfl rfl te37 rfl rfl (by first | rfl | omega) (by exact List.getElem?_eq_getElem (show j < [(ledger l what).1, bent (ledger l what).1 p h n, longL k].length by show j < 3; omega)) rfl (by decide)) ?_
      refine RW.op rfl rfl (eff_loadW1 rfl rfl ti32 rfl rfl) ?_
      refine RW.op rfl rfl (eff_callXT (check_ret ([(ledger l what).1, bent (ledger l what).1 p h n, longL k][j]'(by show j < 3; omega)) hOj) co27 rfl rfl rfl ⟨rfl, trivial⟩ rfl) ?_
      refine mvT ?_
      refine RW.op rfl rfl (eff_iop (r := .bool false) rfl rfl rfl rfl (by simp [iop, atOf_2])) ?_
      refine RW.nil ?_
      refine awp_cond rfl (fun h => nomatch h) (fun _ => ?_)
      refine awp_skip ?_
      refine awp_rw rfl ?_
      refine mvT ?_
      refine RW.op rfl rfl (eff_iop rfl rfl rfl rfl (iadd (by omega))) ?_
      refine asT ?_
      refine RW.nil ?_
      refine ⟨_, ?_, _, weak_keep (n := 73) (fr' := [(18, .t (.sl ([(ledger l what).1, bent (ledger l what).1 p h n, longL k].map encL) true)), (19, .t (encI ((j + 1) : Nat))), (74, .t deT)]) (st' := []) ⟨rfl, rfl, rfl, rfl, rfl, rfl, trivial⟩ trivial, j + 1, (by omega), rfl, rfl⟩
      omega
    · try simp only [cl] at h2
      refine awp_exit ?_
      refine awp_seq ?_
      refine awp_rw rfl ?_
      refine RW.op rfl rfl (eff_callXT (lives_ret) co16 rfl rfl rfl ⟨rfl, trivial⟩ rfl) ?_
      refine asT ?_
      refine RW.nil ?_
      refine awp_ret ?_
      exact ⟨Or.inr rfl, [_], ⟨.tmp (.t _), trivial⟩, .refl _⟩

end Go.Tv.C36

end
section
open Go Go.Tv Go.Proofs Go.ChangeShapes Go.WideShapes Go.ChangeAt Go.RowKit
namespace Go.Tv.C36
set_option maxRecDepth 100000

theorem wfI64 {n : Int} (h : (Lit.int .i64 n).wf = true) : I64 n := by
  unfold I64
  simp [Lit.wf, IntKind.min, IntKind.max, IntKind.signed, IntKind.bits] at h; omega
theorem map_of {α : Type} {f : α → Tr} {p : α → Prop} : ∀ {els : List Tr}, (∀ x, x ∈ els → ∃ n, p n ∧ x = f n) → ∃ l : List α, els = l.map f ∧ ∀ n, n ∈ l → p n
  | [], _ => ⟨[], rfl, fun n h => by simp at h⟩
  | x :: els, h => by
    obtain ⟨n, hp, rfl⟩ := h x List.mem_cons_self
    obtain ⟨l, rfl, hl⟩ := map_of (els := els) (fun y hy => h y (List.mem_cons_of_mem _ hy))
    exact ⟨n :: l, rfl, fun m hm => (List.mem_cons.1 hm).elim (fun e => e ▸ hp) (hl m)⟩
theorem rd3 : Reads Tryd.prog 3 1 (fun ts => ∃ n, ts = [encI n] ∧ I64 n) := (reads_int Tryd.underlying3 (by kernel_rfl)).mono (fun ts ⟨n, h, hw⟩ => ⟨n, h, wfI64 hw⟩)
theorem rd26 : Reads Tryd.prog 26 1 (fun ts => ∃ l : List Int, ts = [.sl (l.map encI) false] ∧ l.length ≤ maxLen ∧ ∀ n, n ∈ l → I64 n) :=
  (reads_slice Tryd.underlying26 (by kernel_rfl) (by decide) (.inr rfl) rd3 (g := false)).mono (by
    rintro ts ⟨els, rfl, hm, h⟩
    obtain ⟨l, rfl, hl⟩ := map_of (f := encI) (p := I64) (fun x hx => by obtain ⟨_, ⟨n, rfl, hn⟩, rfl⟩ := h x hx; exact ⟨n, hn, rfl⟩)
    exact ⟨l, rfl, by simpa using hm, hl⟩)
def laid1 : List (String × DataW Unit) := [("math/bits.deBruijn32tab", Go.Proofs.YtiphgohbnhinnaaDoor.Rows.laid_math_bits_deBruijn32tab), ("math/bits.deBruijn64tab", Go.Proofs.YtiphgohbnhinnaaDoor.Rows.laid_math_bits_deBruijn64tab)]
theorem gDe : Tryd.prog.globalNamed "math/bits.deBruijn64tab" = some 1 := by kernel_rfl
theorem tDe : (Tryd.prog.globals[1]?).map (·.type) = some 125 := by kernel_rfl
theorem door_met (os : Os) (args : Array Value) : laidMetH Tryd.prog laid1 ((World.doorLaid Tryd.prog 400 os).forCall (fun _ _ => 0) ⟨#[], args, []⟩).memory :=
  laidMetH_of_parts3 (fuel := 8) (laidMet_of_run' 8 (by kernel_rfl) (by kernel_rfl)) (by kernel_rfl) (by kernel_rfl)
theorem tabs_of_laid {W : World} (h : laidMetH Tryd.prog laid1 W) : TabOK W (fun _ => False) [(1, deT)] := by
  intro g x hm
  simp only [List.mem_singleton, Prod.mk.injEq] at hm
  obtain ⟨rfl, rfl⟩ := hm
  exact tab_of_laid (l := deB) (k := .u8) h rfl (List.mem_cons_of_mem _ (List.mem_singleton.2 rfl)) (by intro e; cases e) gDe tDe Tryd.underlying125 Tryd.underlying5 (by kernel_rfl)
end Go.Tv.C36

end
