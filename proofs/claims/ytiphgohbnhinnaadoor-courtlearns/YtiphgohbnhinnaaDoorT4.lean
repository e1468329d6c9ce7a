/- CourtLearns: for every input that reads as data, the call returns true and leaves its arguments as they were. No condition. -/
import Derived.Test.YtiphgohbnhinnaaDoorT3
import Derived.Test.YtiphgohbnhinnaaDoorT2
import Derived.Test.YtiphgohbnhinnaaDoorT1
import Derived.Test.YtiphgohbnhinnaaDoorRows
import Derived.ProofKit
import Derived.Test.YtiphgohbnhinnaaDoorTie
import Derived.Test.YtiphgohbnhinnaaDoorCards
import Derived.SevenTiedAt
set_option linter.unnecessarySimpa false
set_option linter.unusedVariables false
set_option linter.unusedSimpArgs false
section
open Go Go.Tv Go.Proofs
namespace Go.Tv.C36
set_option maxRecDepth 20000
set_option maxHeartbeats 2000000
set_option linter.unusedSimpArgs false
set_option linter.unusedVariables false
theorem ledger_ret (l what : List Int) (hI : ∀ x, x ∈ l → I64 x) (hl : l.length ≤ 9223372036854775807) (hJ : ∀ x, x ∈ what → I64 x) (hwl : what.length ≤ 9223372036854775807) : Ret Tryd.prog 17 [.sl (l.map encI) false, .sl (what.map encI) false] (.tup [.sl ((ledger l what).1.map encC) false, .sl ((ledger l what).2.map encR) false]) := by
  refine ret_of_awp Tryd.func17 rfl (Nat.le_of_ble_eq_true rfl) ?_
  refine awp_seq ?_
  refine awp_rw rfl ?_
  refine asT ?_
  refine asT ?_
  refine RW.nil ?_
  refine awp_seq ?_
  refine awp_rw rfl ?_
  refine mvT ?_
  refine RW.op rfl rfl (eff_callT (frames_ret l 7 hI hl (by decide)) co36 rfl rfl rfl rfl) ?_
  refine asT ?_
  refine RW.nil ?_
  refine awp_seq ?_
  refine awp_rw rfl ?_
  refine asT ?_
  refine RW.nil ?_
  show AWP _ _ _ _
  refine awp_weak (weak_adopt (d := 7) (id := 7) (k := 15) (ty := 47) rfl rfl) ?_
  refine awp_seq ?_
  refine awp_rw rfl ?_
  refine asT ?_
  refine RW.nil ?_
  show AWP _ _ _ _
  refine awp_weak (weak_adopt (d := 8) (id := 8) (k := 4) (ty := 23) rfl rfl) ?_
  refine awp_seq ?_
  refine awp_rw rfl ?_
  refine RW.op rfl rfl (eff_buildT (ys := [_, _, _, _]) rfl rfl tz23 tg23 rfl) ?_
  refine RW.new rfl rfl (eff_allocK (k := 4) (id := 9) rfl rfl tz23 rfl rfl) ?_
  refine RW.store rfl rfl (eff_storeW (v := .t _) (els := [_]) (els' := [_]) rfl rfl ti23 rfl rfl rfl rfl rfl rfl rfl rfl rfl) ?_
  refine RW.nil ?_
  refine awp_seq ?_
  refine awp_rw rfl ?_
  refine RW.op rfl rfl (eff_load rfl rfl ti23 rfl (.whole rfl rfl rfl rfl rfl rfl)) ?_
  refine RW.new rfl rfl (eff_buildSliceL (id := 20) (els := [.t (.agg [_, _, _, _])]) rfl rfl te33 tz23 rfl (by decide) (by decide) rfl rfl rfl rfl) ?_
  refine asO ?_
  refine RW.nil ?_
  refine awp_seq ?_
  refine awp_rw rfl ?_
  refine asT ?_
  refine RW.nil ?_
  refine awp_seq ?_
  refine awp_rw rfl ?_
  refine asT ?_
  refine RW.nil ?_
  refine awp_seq ?_
  refine awp_seq ?_
  refine awp_rw rfl ?_
  refine asT ?_
  refine RW.nil ?_
  refine awp_block ?_
  refine awp_loopW (fun m s => ∃ (i : Nat) (g7 : Nat) (g8 : Nat) (g0 : Nat) (n7 : Nat) (n8 : Nat) (n0 : Nat) (e7 : List AV) (e8 : List AV) (e0 : List AV) (cs : Rep) (sn : Nat) (tk : Int), (i ≤ what.length) ∧ (i ≤ 30) ∧ (n7 = (gall (frames l 7) what i).recs.length) ∧ (n8 = (gall (frames l 7) what i).sts.length) ∧ (n0 = (gall (frames l 7) what i).reps.length) ∧ (e7 = ((gall (frames l 7) what i).recs.map encC).map .t) ∧ (e8 = ((gall (frames l 7) what i).sts.map encR).map .t) ∧ (e0 = ((gall (frames l 7) what i).reps.map encR).map .t) ∧ (cs = (gall (frames l 7) what i).s) ∧ (sn = (gall (frames l 7) what i).sn) ∧ (tk = (gall (frames l 7) what i).tick) ∧ m = what.length - i ∧ s = ⟨129, [(1, .t (.sl (what.map encI) false)), (6, .t (.sl ((frames l 7).map encF) false)), (7, .own 7 g7 0 n7), (8, .own 8 g8 0 n8), (9, .ptr 9 0 0 0), (10, .own 20 g0 0 n0), (11, .t (encI (sn : Nat))), (12, .t (encI tk)), (13, .t (encI (i : Nat)))], [(7, some ⟨15, 47, g7, e7⟩), (8, some ⟨4, 23, g8, e8⟩), (9, some ⟨4, 23, 0, [.t (encR cs)]⟩), (20, some ⟨4, 23, g0, e0⟩)]⟩) (_) (⟨_, weak_keep (n := 129) (fr' := [(1, .t (.sl (what.map encI) false)), (6, .t (.sl ((frames l 7).map encF) false)), (7, .own 7 0 0 0), (8, .own 8 0 0 0), (9, .ptr 9 0 0 0), (10, .own 20 0 0 1), (11, .t (encI (0 : Nat))), (12, .t (encI 0)), (13, .t (encI (0 : Nat)))]) (st' := [(7, some ⟨15, 47, 0, ([])⟩), (8, some ⟨4, 23, 0, ([])⟩), (9, some ⟨4, 23, 0, [.t (encR zr)]⟩), (20, some ⟨4, 23, 0, _⟩)]) ⟨rfl, rfl, rfl, rfl, rfl, rfl, rfl, rfl, rfl, rfl, rfl, rfl, rfl, rfl, rfl, rfl, rfl, rfl, trivial⟩ ⟨rfl, (by first | exact okE_nil | exact okE_one rfl | (rw [he7]; exact okE_t) | (rw [he7]; intro x hx; simp only [List.mem_append, List.mem_map, List.mem_singleton] at hx; rcases hx with ⟨y, _, rfl⟩ | rfl <;> rfl)), rfl, (by first | exact okE_nil | exact okE_one rfl | (rw [he8]; exact okE_t) | (rw [he8]; intro x hx; simp only [List.mem_append, List.mem_map, List.mem_singleton] at hx; rcases hx with ⟨y, _, rfl⟩ | rfl <;> rfl)), rfl, okE_one rfl, rfl, (by first | exact okE_nil | exact okE_one rfl | (rw [he0]; exact okE_t) | (rw [he0]; intro x hx; simp only [List.mem_append, List.mem_map, List.mem_singleton] at hx; rcases hx with ⟨y, _, rfl⟩ | rfl <;> rfl)), trivial⟩, 0, 0, 0, 0, 0, 0, 1, [], [], _, zr, 0, 0, (by omega), (by omega), (by rfl), (by rfl), (by rfl), (by rfl), (by rfl), (by rfl), (by rfl), (by rfl), (by rfl), rfl, rfl⟩) ?_
  rintro m s ⟨i, g7, g8, g0, n7, n8, n0, e7, e8, e0, cs, sn, tk, hi, h30, hn7, hn8, hn0, he7, he8, he0, hcs, hsn, htk, rfl, rfl⟩
  have hgi := gi_all (frames_ok l) what i hi (by omega)
  have hg1 := hgi.sn
  have hg2 := hgi.tick
  have hg3 := hgi.rlen
  have hg4 := hgi.rne
  have hg5 := hgi.len
  have hg6 := hgi.short
  have hg7 : HP cs := by rw [hcs]; exact hgi.chp
  have hfl : (frames l 7).length ≤ 7 := by rw [frames_len]; omega
  refine awp_seq ?_
  refine awp_seq ?_
  refine awp_rw rfl ?_
  refine mvT ?_
  refine mvT ?_
  refine RW.op rfl rfl (eff_lenM rfl rfl te26 rfl) ?_
  refine ioT ?_
  refine mvT ?_
  refine RW.split 25 rfl (fun h1 => ?_) (fun h1 => ?_)
  · try simp only [cl] at h1
    refine RW.gop rfl rfl rfl rfl rfl rfl (eff_move (v := .own _ _ _ _) rfl rfl rfl) ?_
    refine RW.gop rfl rfl rfl rfl rfl rfl (eff_len rfl rfl te32 rfl rfl rfl) ?_
    refine RW.gop rfl rfl rfl rfl rfl rfl (eff_iop rfl rfl rfl rfl rfl) ?_
    refine pkT ?_
    refine mvT ?_
    refine RW.split 30 rfl (fun h2 => ?_) (fun h2 => ?_)
    · try simp only [cl] at h2
      refine RW.gop rfl rfl rfl rfl rfl rfl (eff_move (v := .t _) rfl rfl rfl) ?_
      refine RW.gop rfl rfl rfl rfl rfl rfl (eff_iop rfl rfl rfl rfl rfl) ?_
      refine pkT ?_
      refine RW.nil ?_
      refine awp_cond rfl (fun h3 => ?_) (fun h3 => ?_)
      · try simp only [cl] at h3
        refine awp_skip ?_
        refine awp_seq ?_
        refine awp_block ?_
        refine awp_seq ?_
        refine awp_rw rfl ?_
        have hil : i < what.length := by omega
        refine mvT ?_
        refine mvT ?_
        refine RW.op rfl rfl (eff_indexM rfl rfl te26 rfl rfl rfl (by first | assumption | exact List.getElem?_eq_getElem (by omega)) rfl (by decide)) ?_
        refine RW.op rfl rfl (eff_loadW1 rfl rfl ti3 rfl rfl) ?_
        refine RW.op rfl rfl (eff_callT (around_ret _ _ (hJ _ (List.getElem_mem _)) (by omega)) co13 rfl rfl rfl rfl) ?_
        refine asT ?_
        refine RW.nil ?_
        refine awp_seq ?_
        refine awp_rw rfl ?_
        have har := around_range (n := what[i]'hil) (m := 1000000) (by decide)
        refine mvT ?_
        refine mvT ?_
        refine RW.op rfl rfl (eff_remE (r := (around (what[i]'hil) 1000000) % 3) rfl rfl rfl rfl (by decide) (tmod_pos (by omega))) ?_
        refine RW.op rfl rfl (eff_iop (r := encI (tk + (around (what[i]'hil) 1000000) % 3)) rfl rfl rfl rfl (iadd (by omega))) ?_
        refine asT ?_
        refine RW.nil ?_
        refine awp_seq ?_
        refine awp_rw rfl ?_
        refine mvT ?_
        refine RW.op rfl rfl (eff_buildT (ys := [_, _, _, _, _, _, _, _, _, _, _, _, _, _, _]) rfl rfl tz47 tg47 rfl) ?_
        refine RW.new rfl rfl (eff_allocK (k := 15) (id := 15) rfl rfl tz47 rfl rfl) ?_
        refine RW.store rfl rfl (eff_storeW (v := .t _) (els := [_]) (els' := [_]) rfl rfl ti47 rfl rfl rfl rfl rfl rfl rfl rfl rfl) ?_
        refine RW.nil ?_
        refine awp_seq ?_
        refine awp_block ?_
        refine awp_seq ?_
        refine awp_rw rfl ?_
        refine mvT ?_
        refine RW.op rfl rfl (eff_quoE (r := (around (what[i]'hil) 1000000) / 3) rfl rfl rfl rfl (by decide) (quoN (by omega) (by decide))) ?_
        refine RW.op rfl rfl (eff_remE (r := ((around (what[i]'hil) 1000000) / 3) % 5) rfl rfl rfl rfl (by decide) (tmod_pos (by omega))) ?_
        refine ioT ?_
        refine mvT ?_
        refine RW.split 65 rfl (fun h4 => ?_) (fun h4 => ?_)
        · try simp only [cl] at h4
          refine RW.gop rfl rfl rfl rfl rfl rfl (eff_move (v := .t _) rfl rfl rfl) ?_
          refine RW.gop rfl rfl rfl rfl rfl rfl (eff_move (v := .t _) rfl rfl rfl) ?_
          refine RW.gop rfl rfl rfl rfl rfl rfl (eff_lenM rfl rfl te62 rfl) ?_
          refine RW.gop rfl rfl rfl rfl rfl rfl (eff_iop rfl rfl rfl rfl rfl) ?_
          refine pkT ?_
          refine asT ?_
          refine RW.nil ?_
          refine awp_cond rfl (fun h5 => ?_) (fun h5 => ?_)
          · try simp only [cl] at h5
            refine awp_seq ?_
            refine awp_rw rfl ?_
            refine faT tf47_1 ?_
            refine RW.store rfl rfl (eff_storeS (v := .t _) (ys := [_, _, _, _, _, _, _, _, _, _, _, _, _, _, _]) (els := [_]) (els' := [_]) rfl rfl ti3 rfl rfl rfl rfl rfl rfl rfl (Nat.le_of_ble_eq_true rfl) rfl rfl) ?_
            refine RW.nil ?_
            refine awp_seq ?_
            refine awp_rw rfl ?_
            refine mvT ?_
            refine mvT ?_
            refine RW.op rfl rfl (eff_indexM rfl rfl te62 rfl rfl rfl (by first | assumption | exact List.getElem?_eq_getElem (by omega)) rfl (by decide)) ?_
            refine RW.op rfl rfl (eff_loadW rfl rfl ti45 rfl rfl rfl) ?_
            refine faT tf47_2 ?_
            refine RW.store rfl rfl (eff_storeS (v := .t _) (ys := [_, _, _, _, _, _, _, _, _, _, _, _, _, _, _]) (els := [_]) (els' := [_]) rfl rfl ti45 rfl rfl rfl rfl rfl rfl rfl (Nat.le_of_ble_eq_true rfl) rfl rfl) ?_
            refine RW.nil ?_
            refine awp_rw rfl ?_
            refine mvT ?_
            refine RW.op rfl rfl (eff_iop rfl rfl rfl rfl (iadd (by omega))) ?_
            refine asT ?_
            refine RW.nil ?_
            refine awp_seq ?_
            refine awp_rw rfl ?_
            refine mvO ?_
            refine RW.op rfl rfl (eff_load rfl rfl ti47 rfl (.whole rfl rfl rfl rfl rfl rfl)) ?_
            (refine RW.weak (weak_slot 120 (y := encC ⟨tk + (around (what[i]'hil) 1000000) % 3, 1, (frames l 7)[sn]'(by omega), zr, zd⟩) rfl (by first | ((repeat' (first | exact trivial | exact Wk.refl _ | exact Wk.sl _ | refine And.intro ?_ ?_ | refine Wk.tupP ?_ | refine Wk.aggP ?_)); done) | fail)) rfl ?_)
            refine RW.new rfl rfl (eff_buildSliceL (id := 121) (els := [.t (.agg [_, _, _, _, _, _, _, _, _, _, _, _, _, _, _])]) rfl rfl te32 tz47 rfl (by decide) (by decide) rfl rfl rfl rfl) ?_
            refine RW.new rfl rfl (eff_append (id := 7) (ys := [_]) rfl rfl ta32 rfl rfl rfl (by rw [he7, hn7]; simp) rfl rfl (srcOwn rfl rfl rfl rfl rfl rfl) (by simp) (by simp; omega) (by simp; omega)) ?_
            refine asO ?_
            refine RW.nil ?_
            refine awp_rw rfl ?_
            refine mvO ?_
            refine RW.op rfl rfl (eff_load rfl rfl ti23 rfl (.whole rfl rfl rfl rfl rfl rfl)) ?_
            refine RW.new rfl rfl (eff_buildSliceL (id := 125) (els := [.t (.agg [_, _, _, _])]) rfl rfl te33 tz23 rfl (by decide) (by decide) rfl rfl rfl rfl) ?_
            refine RW.new rfl rfl (eff_append (id := 8) (ys := [_]) rfl rfl ta33 rfl rfl rfl (by rw [he8, hn8]; simp) rfl rfl (srcOwn rfl rfl rfl rfl rfl rfl) (by simp) (by simp; omega) (by simp; omega)) ?_
            refine asO ?_
            refine RW.nil ?_
            refine awp_rw rfl ?_
            refine mvT ?_
            refine RW.op rfl rfl (eff_iop rfl rfl rfl rfl (iadd (by omega))) ?_
            refine asT ?_
            refine RW.nil ?_
            have hG := gall_send (F := (frames l 7)) hil rfl (by omega) hsn (by omega) (by omega)
            refine ⟨_, ?_, _, weak_keep (n := 129) (fr' := [(1, .t (.sl (what.map encI) false)), (6, .t (.sl ((frames l 7).map encF) false)), (7, .own 7 _ 0 _), (8, .own 8 _ 0 _), (9, .ptr 9 0 0 0), (10, .own 20 _ 0 _), (11, .t (encI (_ : Nat))), (12, .t (encI _)), (13, .t (encI ((i + 1) : Nat)))]) (st' := [(7, some ⟨15, 47, _, _⟩), (8, some ⟨4, 23, _, _⟩), (9, some ⟨4, 23, 0, [.t (encR _)]⟩), (20, some ⟨4, 23, _, _⟩)]) ⟨rfl, rfl, rfl, rfl, rfl, rfl, rfl, rfl, rfl, rfl, rfl, rfl, rfl, rfl, rfl, rfl, rfl, rfl, trivial⟩ ⟨rfl, (by first | exact okE_nil | exact okE_one rfl | (rw [he7]; exact okE_t) | (rw [he7]; intro x hx; simp only [List.mem_append, List.mem_map, List.mem_singleton] at hx; rcases hx with ⟨y, _, rfl⟩ | rfl <;> rfl)), rfl, (by first | exact okE_nil | exact okE_one rfl | (rw [he8]; exact okE_t) | (rw [he8]; intro x hx; simp only [List.mem_append, List.mem_map, List.mem_singleton] at hx; rcases hx with ⟨y, _, rfl⟩ | rfl <;> rfl)), rfl, okE_one rfl, rfl, (by first | exact okE_nil | exact okE_one rfl | (rw [he0]; exact okE_t) | (rw [he0]; intro x hx; simp only [List.mem_append, List.mem_map, List.mem_singleton] at hx; rcases hx with ⟨y, _, rfl⟩ | rfl <;> rfl)), trivial⟩, i + 1, _, _, _, _, _, _, _, _, _, _, _, _, (by omega), (by omega), (by first | (exfalso; omega) | (rw [hG]; simp [gput, garr, hn7])), (by first | (exfalso; omega) | (rw [hG]; simp [gput, garr, hn8])), (by first | (exfalso; omega) | (rw [hG]; simp [gput, garr, hn0])), (by first | (exfalso; omega) | (first | (rw [hG]; exact he7) | (rw [hG, he7]; exact mapT_snoc (by subst htk; rfl)))), (by first | (exfalso; omega) | (first | (rw [hG]; exact he8) | (rw [hG, he8]; exact mapT_snoc (by subst hcs; rfl)))), (by first | (exfalso; omega) | (first | (rw [hG]; exact he0) | (rw [hG, he0]; exact mapT_snoc (by subst hcs; rfl)))), (by first | (exfalso; omega) | (first | (rw [hG]; exact hcs) | (rw [hG, hcs]; rfl))), (by first | (exfalso; omega) | (first | (rw [hG]; rfl) | (rw [hG]; exact hsn))), (by first | (exfalso; omega) | (rw [hG, htk]; rfl)), rfl, rfl⟩
            omega
          · try simp only [cl] at h5
            refine awp_seq ?_
            refine awp_rw rfl ?_
            refine mvT ?_
            refine RW.op rfl rfl (eff_quoE (r := (around (what[i]'hil) 1000000) / 3) rfl rfl rfl rfl (by decide) (quoN (by omega) (by decide))) ?_
            refine RW.op rfl rfl (eff_remE (r := ((around (what[i]'hil) 1000000) / 3) % 5) rfl rfl rfl rfl (by decide) (tmod_pos (by omega))) ?_
            refine ioT ?_
            refine mvT ?_
            refine RW.split 84 rfl (fun h6 => ?_) (fun h6 => ?_)
            · try simp only [cl] at h6
              refine RW.gop rfl rfl rfl rfl rfl rfl (eff_move (v := .t _) rfl rfl rfl) ?_
              refine RW.gop rfl rfl rfl rfl rfl rfl (eff_iop rfl rfl rfl rfl rfl) ?_
              refine pkT ?_
              refine asT ?_
              refine RW.nil ?_
              refine awp_cond rfl (fun h7 => ?_) (fun h7 => ?_)
              · try simp only [cl] at h7
                refine awp_seq ?_
                obtain ⟨q, hq, hqn⟩ : ∃ q : Nat, (around (what[i]'hil) 1000000) / 15 % (sn : Int) = (q : Int) ∧ q < sn := ⟨((around (what[i]'hil) 1000000) / 15 % (sn : Int)).toNat, by have := Int.emod_nonneg ((around (what[i]'hil) 1000000) / 15) (show (sn : Int) ≠ 0 by omega); omega, by have := Int.emod_lt_of_pos ((around (what[i]'hil) 1000000) / 15) (show (0 : Int) < sn by omega); have := Int.emod_nonneg ((around (what[i]'hil) 1000000) / 15) (show (sn : Int) ≠ 0 by omega); omega⟩
                have hqf : q < (frames l 7).length := by omega
                refine awp_rd [(some 88, []), (some 89, []), (some 90, []), (some 91, []), (some 92, []), (some 93, []), (some 94, []), (some 95, []), (some 96, []), (none, [9])] [[], [], [], [2], [], [2, 3, 4], [1, 2, 3, 4, 5], [1, 2, 3, 4, 5, 6], [0, 1, 2, 3, 4, 5, 6, 7], [0, 1, 2, 3, 4, 5, 6, 7, 8]] tm rfl rfl rfl rfl ?_
                refine RD.op rfl rfl rfl (eff_load rfl rfl ti23 rfl (.whole rfl rfl rfl rfl rfl rfl)) ?_
                refine mvD ?_
                refine mvD ?_
                refine RD.op rfl rfl rfl (eff_quoE (r := (around (what[i]'hil) 1000000) / 15) rfl rfl rfl rfl (by decide) (quoN (by omega) (by decide))) ?_
                refine mvD ?_
                refine RD.op rfl rfl rfl (eff_remE (r := ((q : Nat) : Int)) rfl rfl rfl rfl (by omega) (by rw [tmod_pos (by omega), hq])) ?_
                refine RD.op rfl rfl rfl (eff_indexM (i := q) rfl rfl te62 rfl rfl (by first | rfl | omega) (by first | assumption | exact List.getElem?_eq_getElem (by omega)) rfl (by decide)) ?_
                refine RD.op rfl rfl rfl (eff_loadW rfl rfl ti45 rfl rfl rfl) ?_
                refine RD.op rfl rfl rfl (eff_callT (rapply_ret cs _ hg7) co37 rfl rfl rfl rfl) ?_
                refine RD.store rfl rfl rfl (eff_storeW (v := .t _) (els := [_]) (els' := [_]) rfl rfl ti23 rfl rfl rfl rfl rfl rfl rfl rfl rfl) ?_
                refine RD.nil ?_
                refine awp_seq ?_
                refine awp_rw rfl ?_
                refine mvO ?_
                refine RW.op rfl rfl (eff_load rfl rfl ti23 rfl (.whole rfl rfl rfl rfl rfl rfl)) ?_
                refine RW.new rfl rfl (eff_buildSliceL (id := 99) (els := [.t (.agg [_, _, _, _])]) rfl rfl te33 tz23 rfl (by decide) (by decide) rfl rfl rfl rfl) ?_
                refine RW.new rfl rfl (eff_append (id := 20) (ys := [_]) rfl rfl ta33 rfl rfl rfl (by rw [he0, hn0]; simp) rfl rfl (srcOwn rfl rfl rfl rfl rfl rfl) (by simp) (by simp; omega) (by simp; omega)) ?_
                refine asO ?_
                refine RW.nil ?_
                refine awp_exit ?_
                refine awp_rw rfl ?_
                refine mvT ?_
                refine RW.op rfl rfl (eff_iop rfl rfl rfl rfl (iadd (by omega))) ?_
                refine asT ?_
                refine RW.nil ?_
                have hG := gall_send (F := (frames l 7)) hil rfl (by omega) hsn (by omega) (by omega)
                refine ⟨_, ?_, _, weak_keep (n := 129) (fr' := [(1, .t (.sl (what.map encI) false)), (6, .t (.sl ((frames l 7).map encF) false)), (7, .own 7 _ 0 _), (8, .own 8 _ 0 _), (9, .ptr 9 0 0 0), (10, .own 20 _ 0 _), (11, .t (encI (_ : Nat))), (12, .t (encI _)), (13, .t (encI ((i + 1) : Nat)))]) (st' := [(7, some ⟨15, 47, _, _⟩), (8, some ⟨4, 23, _, _⟩), (9, some ⟨4, 23, 0, [.t (encR _)]⟩), (20, some ⟨4, 23, _, _⟩)]) ⟨rfl, rfl, rfl, rfl, rfl, rfl, rfl, rfl, rfl, rfl, rfl, rfl, rfl, rfl, rfl, rfl, rfl, rfl, trivial⟩ ⟨rfl, (by first | exact okE_nil | exact okE_one rfl | (rw [he7]; exact okE_t) | (rw [he7]; intro x hx; simp only [List.mem_append, List.mem_map, List.mem_singleton] at hx; rcases hx with ⟨y, _, rfl⟩ | rfl <;> rfl)), rfl, (by first | exact okE_nil | exact okE_one rfl | (rw [he8]; exact okE_t) | (rw [he8]; intro x hx; simp only [List.mem_append, List.mem_map, List.mem_singleton] at hx; rcases hx with ⟨y, _, rfl⟩ | rfl <;> rfl)), rfl, okE_one rfl, rfl, (by first | exact okE_nil | exact okE_one rfl | (rw [he0]; exact okE_t) | (rw [he0]; intro x hx; simp only [List.mem_append, List.mem_map, List.mem_singleton] at hx; rcases hx with ⟨y, _, rfl⟩ | rfl <;> rfl)), trivial⟩, i + 1, _, _, _, _, _, _, _, _, _, _, _, _, (by omega), (by omega), (by first | (exfalso; omega) | (rw [hG]; simp [gput, garr, hn7])), (by first | (exfalso; omega) | (rw [hG]; simp [gput, garr, hn8])), (by first | (exfalso; omega) | (rw [hG]; simp [gput, garr, hn0])), (by first | (exfalso; omega) | (first | (rw [hG]; exact he7) | (rw [hG, he7]; exact mapT_snoc (by subst htk; rfl)))), (by first | (exfalso; omega) | (first | (rw [hG]; exact he8) | (rw [hG, he8]; exact mapT_snoc (by subst hcs; rfl)))), (by first | (exfalso; omega) | (first | (rw [hG]; exact he0) | (rw [hG, he0]; exact mapT_snoc (by subst hcs; rfl)))), (by first | (exfalso; omega) | (first | (rw [hG]; exact hcs) | (rw [hG, hcs]; rfl))), (by first | (exfalso; omega) | (first | (rw [hG]; rfl) | (rw [hG]; exact hsn))), (by first | (exfalso; omega) | (rw [hG, htk]; rfl)), rfl, rfl⟩
                omega
              · try simp only [cl] at h7
                refine awp_seq ?_
                refine awp_rw rfl ?_
                refine mvT ?_
                refine RW.op rfl rfl (eff_quoE (r := (around (what[i]'hil) 1000000) / 3) rfl rfl rfl rfl (by decide) (quoN (by omega) (by decide))) ?_
                refine RW.op rfl rfl (eff_remE (r := ((around (what[i]'hil) 1000000) / 3) % 5) rfl rfl rfl rfl (by decide) (tmod_pos (by omega))) ?_
                refine ioT ?_
                refine asT ?_
                refine RW.nil ?_
                refine awp_cond rfl (fun h8 => ?_) (fun h8 => ?_)
                · try simp only [cl] at h8
                  refine awp_seq ?_
                  refine awp_rw rfl ?_
                  refine faT tf47_1 ?_
                  refine RW.store rfl rfl (eff_storeS (v := .t _) (ys := [_, _, _, _, _, _, _, _, _, _, _, _, _, _, _]) (els := [_]) (els' := [_]) rfl rfl ti3 rfl rfl rfl rfl rfl rfl rfl (Nat.le_of_ble_eq_true rfl) rfl rfl) ?_
                  refine RW.nil ?_
                  refine awp_rw rfl ?_
                  obtain ⟨q2, hq2⟩ : ∃ q : Nat, imax 0 (((gall (frames l 7) what i).reps.length : Int) - 1 - (around (what[i]'hil) 1000000) / 15 % 3) = (q : Int) := ⟨(imax 0 (((gall (frames l 7) what i).reps.length : Int) - 1 - (around (what[i]'hil) 1000000) / 15 % 3)).toNat, by unfold imax; split <;> omega⟩
                  have hql : q2 < (gall (frames l 7) what i).reps.length := by unfold imax at hq2; split at hq2 <;> omega
                  refine mvO ?_
                  refine mvO ?_
                  refine RW.op rfl rfl (eff_len rfl rfl te33 rfl rfl rfl) ?_
                  refine RW.op rfl rfl (eff_iop (r := encI ((n0 : Int) - 1)) rfl rfl rfl rfl (isub (by omega))) ?_
                  refine mvT ?_
                  refine RW.op rfl rfl (eff_quoE (r := (around (what[i]'hil) 1000000) / 15) rfl rfl rfl rfl (by decide) (quoN (by omega) (by decide))) ?_
                  refine RW.op rfl rfl (eff_remE (r := ((around (what[i]'hil) 1000000) / 15) % 3) rfl rfl rfl rfl (by decide) (tmod_pos (by omega))) ?_
                  refine RW.op rfl rfl (eff_iop (r := encI ((n0 : Int) - 1 - (around (what[i]'hil) 1000000) / 15 % 3)) rfl rfl rfl rfl (isub (by omega))) ?_
                  refine RW.op rfl rfl (eff_maxE (r := ((q2 : Nat) : Int)) rfl rfl rfl rfl (by rw [hn0]; exact hq2)) ?_
                  refine RW.op rfl rfl (eff_indexAddr (i := q2) rfl rfl te33 rfl rfl rfl rfl rfl rfl (by omega)) ?_
                  refine RW.op rfl rfl (eff_load (y := .t (encR ((gall (frames l 7) what i).reps[q2]'hql))) rfl rfl ti23 rfl (.whole rfl rfl (by rw [Nat.zero_add, he0]; exact elR hql) rfl rfl rfl)) ?_
                  refine faT tf47_3 ?_
                  refine RW.store rfl rfl (eff_storeS (v := .t _) (ys := [_, _, _, _, _, _, _, _, _, _, _, _, _, _, _]) (els := [_]) (els' := [_]) rfl rfl ti23 rfl rfl rfl rfl rfl rfl rfl (Nat.le_of_ble_eq_true rfl) rfl rfl) ?_
                  refine RW.nil ?_
                  refine awp_seq ?_
                  refine awp_rw rfl ?_
                  refine mvO ?_
                  refine RW.op rfl rfl (eff_load rfl rfl ti47 rfl (.whole rfl rfl rfl rfl rfl rfl)) ?_
                  (refine RW.weak (weak_slot 120 (y := encC ⟨tk + (around (what[i]'hil) 1000000) % 3, 2, zf, (gall (frames l 7) what i).reps[q2]'hql, zd⟩) rfl (by first | ((repeat' (first | exact trivial | exact Wk.refl _ | exact Wk.sl _ | refine And.intro ?_ ?_ | refine Wk.tupP ?_ | refine Wk.aggP ?_)); done) | fail)) rfl ?_)
                  refine RW.new rfl rfl (eff_buildSliceL (id := 121) (els := [.t (.agg [_, _, _, _, _, _, _, _, _, _, _, _, _, _, _])]) rfl rfl te32 tz47 rfl (by decide) (by decide) rfl rfl rfl rfl) ?_
                  refine RW.new rfl rfl (eff_append (id := 7) (ys := [_]) rfl rfl ta32 rfl rfl rfl (by rw [he7, hn7]; simp) rfl rfl (srcOwn rfl rfl rfl rfl rfl rfl) (by simp) (by simp; omega) (by simp; omega)) ?_
                  refine asO ?_
                  refine RW.nil ?_
                  refine awp_rw rfl ?_
                  refine mvO ?_
                  refine RW.op rfl rfl (eff_load rfl rfl ti23 rfl (.whole rfl rfl rfl rfl rfl rfl)) ?_
                  refine RW.new rfl rfl (eff_buildSliceL (id := 125) (els := [.t (.agg [_, _, _, _])]) rfl rfl te33 tz23 rfl (by decide) (by decide) rfl rfl rfl rfl) ?_
                  refine RW.new rfl rfl (eff_append (id := 8) (ys := [_]) rfl rfl ta33 rfl rfl rfl (by rw [he8, hn8]; simp) rfl rfl (srcOwn rfl rfl rfl rfl rfl rfl) (by simp) (by simp; omega) (by simp; omega)) ?_
                  refine asO ?_
                  refine RW.nil ?_
                  refine awp_rw rfl ?_
                  refine mvT ?_
                  refine RW.op rfl rfl (eff_iop rfl rfl rfl rfl (iadd (by omega))) ?_
                  refine asT ?_
                  refine RW.nil ?_
                  have hG := gall_send (F := (frames l 7)) hil rfl (by omega) hsn (by omega) (by omega)
                  refine ⟨_, ?_, _, weak_keep (n := 129) (fr' := [(1, .t (.sl (what.map encI) false)), (6, .t (.sl ((frames l 7).map encF) false)), (7, .own 7 _ 0 _), (8, .own 8 _ 0 _), (9, .ptr 9 0 0 0), (10, .own 20 _ 0 _), (11, .t (encI (_ : Nat))), (12, .t (encI _)), (13, .t (encI ((i + 1) : Nat)))]) (st' := [(7, some ⟨15, 47, _, _⟩), (8, some ⟨4, 23, _, _⟩), (9, some ⟨4, 23, 0, [.t (encR _)]⟩), (20, some ⟨4, 23, _, _⟩)]) ⟨rfl, rfl, rfl, rfl, rfl, rfl, rfl, rfl, rfl, rfl, rfl, rfl, rfl, rfl, rfl, rfl, rfl, rfl, trivial⟩ ⟨rfl, (by first | exact okE_nil | exact okE_one rfl | (rw [he7]; exact okE_t) | (rw [he7]; intro x hx; simp only [List.mem_append, List.mem_map, List.mem_singleton] at hx; rcases hx with ⟨y, _, rfl⟩ | rfl <;> rfl)), rfl, (by first | exact okE_nil | exact okE_one rfl | (rw [he8]; exact okE_t) | (rw [he8]; intro x hx; simp only [List.mem_append, List.mem_map, List.mem_singleton] at hx; rcases hx with ⟨y, _, rfl⟩ | rfl <;> rfl)), rfl, okE_one rfl, rfl, (by first | exact okE_nil | exact okE_one rfl | (rw [he0]; exact okE_t) | (rw [he0]; intro x hx; simp only [List.mem_append, List.mem_map, List.mem_singleton] at hx; rcases hx with ⟨y, _, rfl⟩ | rfl <;> rfl)), trivial⟩, i + 1, _, _, _, _, _, _, _, _, _, _, _, _, (by omega), (by omega), (by first | (exfalso; omega) | (rw [hG]; simp [gput, garr, hn7])), (by first | (exfalso; omega) | (rw [hG]; simp [gput, garr, hn8])), (by first | (exfalso; omega) | (rw [hG]; simp [gput, garr, hn0])), (by first | (exfalso; omega) | (first | (rw [hG]; exact he7) | (rw [hG, he7]; exact mapT_snoc (by subst htk; rfl)))), (by first | (exfalso; omega) | (first | (rw [hG]; exact he8) | (rw [hG, he8]; exact mapT_snoc (by subst hcs; rfl)))), (by first | (exfalso; omega) | (first | (rw [hG]; exact he0) | (rw [hG, he0]; exact mapT_snoc (by subst hcs; rfl)))), (by first | (exfalso; omega) | (first | (rw [hG]; exact hcs) | (rw [hG, hcs]; rfl))), (by first | (exfalso; omega) | (first | (rw [hG]; rfl) | (rw [hG]; exact hsn))), (by first | (exfalso; omega) | (rw [hG, htk]; rfl)), rfl, rfl⟩
                  omega
                · try simp only [cl] at h8
                  refine awp_seq ?_
                  refine awp_rw rfl ?_
                  refine faT tf47_1 ?_
                  refine RW.store rfl rfl (eff_storeS (v := .t _) (ys := [_, _, _, _, _, _, _, _, _, _, _, _, _, _, _]) (els := [_]) (els' := [_]) rfl rfl ti3 rfl rfl rfl rfl rfl rfl rfl (Nat.le_of_ble_eq_true rfl) rfl rfl) ?_
                  refine RW.nil ?_
                  refine awp_rw rfl ?_
                  refine mvT ?_
                  refine mvT ?_
                  refine RW.op rfl rfl (eff_quoE (r := (around (what[i]'hil) 1000000) / 15) rfl rfl rfl rfl (by decide) (quoN (by omega) (by decide))) ?_
                  refine RW.op rfl rfl (eff_remE (r := ((around (what[i]'hil) 1000000) / 15) % 3) rfl rfl rfl rfl (by decide) (tmod_pos (by omega))) ?_
                  refine mvT ?_
                  refine RW.op rfl rfl (eff_quoE (r := (around (what[i]'hil) 1000000) / 45) rfl rfl rfl rfl (by decide) (quoN (by omega) (by decide))) ?_
                  refine RW.op rfl rfl (eff_remE (r := ((around (what[i]'hil) 1000000) / 45) % 4) rfl rfl rfl rfl (by decide) (tmod_pos (by omega))) ?_
                  refine mvT ?_
                  refine RW.op rfl rfl (eff_quoE (r := (around (what[i]'hil) 1000000) / 180) rfl rfl rfl rfl (by decide) (quoN (by omega) (by decide))) ?_
                  refine RW.op rfl rfl (eff_remE (r := ((around (what[i]'hil) 1000000) / 180) % 8) rfl rfl rfl rfl (by decide) (tmod_pos (by omega))) ?_
                  refine RW.op rfl rfl (eff_buildT (ys := [_, _, _, _]) rfl rfl tz28 tg28 rfl) ?_
                  refine faT tf47_4 ?_
                  refine RW.store rfl rfl (eff_storeS (v := .t _) (ys := [_, _, _, _, _, _, _, _, _, _, _, _, _, _, _]) (els := [_]) (els' := [_]) rfl rfl ti28 rfl rfl rfl rfl rfl rfl rfl (Nat.le_of_ble_eq_true rfl) rfl rfl) ?_
                  refine RW.nil ?_
                  refine awp_seq ?_
                  refine awp_rw rfl ?_
                  refine mvO ?_
                  refine RW.op rfl rfl (eff_load rfl rfl ti47 rfl (.whole rfl rfl rfl rfl rfl rfl)) ?_
                  (refine RW.weak (weak_slot 120 (y := encC ⟨tk + (around (what[i]'hil) 1000000) % 3, 3, zf, zr, ⟨tk + (around (what[i]'hil) 1000000) % 3, (around (what[i]'hil) 1000000) / 15 % 3, (around (what[i]'hil) 1000000) / 45 % 4, (around (what[i]'hil) 1000000) / 180 % 8⟩⟩) rfl (by first | ((repeat' (first | exact trivial | exact Wk.refl _ | exact Wk.sl _ | refine And.intro ?_ ?_ | refine Wk.tupP ?_ | refine Wk.aggP ?_)); done) | fail)) rfl ?_)
                  refine RW.new rfl rfl (eff_buildSliceL (id := 121) (els := [.t (.agg [_, _, _, _, _, _, _, _, _, _, _, _, _, _, _])]) rfl rfl te32 tz47 rfl (by decide) (by decide) rfl rfl rfl rfl) ?_
                  refine RW.new rfl rfl (eff_append (id := 7) (ys := [_]) rfl rfl ta32 rfl rfl rfl (by rw [he7, hn7]; simp) rfl rfl (srcOwn rfl rfl rfl rfl rfl rfl) (by simp) (by simp; omega) (by simp; omega)) ?_
                  refine asO ?_
                  refine RW.nil ?_
                  refine awp_rw rfl ?_
                  refine mvO ?_
                  refine RW.op rfl rfl (eff_load rfl rfl ti23 rfl (.whole rfl rfl rfl rfl rfl rfl)) ?_
                  refine RW.new rfl rfl (eff_buildSliceL (id := 125) (els := [.t (.agg [_, _, _, _])]) rfl rfl te33 tz23 rfl (by decide) (by decide) rfl rfl rfl rfl) ?_
                  refine RW.new rfl rfl (eff_append (id := 8) (ys := [_]) rfl rfl ta33 rfl rfl rfl (by rw [he8, hn8]; simp) rfl rfl (srcOwn rfl rfl rfl rfl rfl rfl) (by simp) (by simp; omega) (by simp; omega)) ?_
                  refine asO ?_
                  refine RW.nil ?_
                  refine awp_rw rfl ?_
                  refine mvT ?_
                  refine RW.op rfl rfl (eff_iop rfl rfl rfl rfl (iadd (by omega))) ?_
                  refine asT ?_
                  refine RW.nil ?_
                  have hG := gall_send (F := (frames l 7)) hil rfl (by omega) hsn (by omega) (by omega)
                  refine ⟨_, ?_, _, weak_keep (n := 129) (fr' := [(1, .t (.sl (what.map encI) false)), (6, .t (.sl ((frames l 7).map encF) false)), (7, .own 7 _ 0 _), (8, .own 8 _ 0 _), (9, .ptr 9 0 0 0), (10, .own 20 _ 0 _), (11, .t (encI (_ : Nat))), (12, .t (encI _)), (13, .t (encI ((i + 1) : Nat)))]) (st' := [(7, some ⟨15, 47, _, _⟩), (8, some ⟨4, 23, _, _⟩), (9, some ⟨4, 23, 0, [.t (encR _)]⟩), (20, some ⟨4, 23, _, _⟩)]) ⟨rfl, rfl, rfl, rfl, rfl, rfl, rfl, rfl, rfl, rfl, rfl, rfl, rfl, rfl, rfl, rfl, rfl, rfl, trivial⟩ ⟨rfl, (by first | exact okE_nil | exact okE_one rfl | (rw [he7]; exact okE_t) | (rw [he7]; intro x hx; simp only [List.mem_append, List.mem_map, List.mem_singleton] at hx; rcases hx with ⟨y, _, rfl⟩ | rfl <;> rfl)), rfl, (by first | exact okE_nil | exact okE_one rfl | (rw [he8]; exact okE_t) | (rw [he8]; intro x hx; simp only [List.mem_append, List.mem_map, List.mem_singleton] at hx; rcases hx with ⟨y, _, rfl⟩ | rfl <;> rfl)), rfl, okE_one rfl, rfl, (by first | exact okE_nil | exact okE_one rfl | (rw [he0]; exact okE_t) | (rw [he0]; intro x hx; simp only [List.mem_append, List.mem_map, List.mem_singleton] at hx; rcases hx with ⟨y, _, rfl⟩ | rfl <;> rfl)), trivial⟩, i + 1, _, _, _, _, _, _, _, _, _, _, _, _, (by omega), (by omega), (by first | (exfalso; omega) | (rw [hG]; simp [gput, garr, hn7])), (by first | (exfalso; omega) | (rw [hG]; simp [gput, garr, hn8])), (by first | (exfalso; omega) | (rw [hG]; simp [gput, garr, hn0])), (by first | (exfalso; omega) | (first | (rw [hG]; exact he7) | (rw [hG, he7]; exact mapT_snoc (by subst htk; rfl)))), (by first | (exfalso; omega) | (first | (rw [hG]; exact he8) | (rw [hG, he8]; exact mapT_snoc (by subst hcs; rfl)))), (by first | (exfalso; omega) | (first | (rw [hG]; exact he0) | (rw [hG, he0]; exact mapT_snoc (by subst hcs; rfl)))), (by first | (exfalso; omega) | (first | (rw [hG]; exact hcs) | (rw [hG, hcs]; rfl))), (by first | (exfalso; omega) | (first | (rw [hG]; rfl) | (rw [hG]; exact hsn))), (by first | (exfalso; omega) | (rw [hG, htk]; rfl)), rfl, rfl⟩
                  omega
            · try simp only [cl] at h6
              refine gkT ?_
              refine gkT ?_
              refine pkT ?_
              refine asT ?_
              refine RW.nil ?_
              refine awp_cond rfl (fun h => nomatch h) (fun _ => ?_)
              refine awp_seq ?_
              refine awp_rw rfl ?_
              refine mvT ?_
              refine RW.op rfl rfl (eff_quoE (r := (around (what[i]'hil) 1000000) / 3) rfl rfl rfl rfl (by decide) (quoN (by omega) (by decide))) ?_
              refine RW.op rfl rfl (eff_remE (r := ((around (what[i]'hil) 1000000) / 3) % 5) rfl rfl rfl rfl (by decide) (tmod_pos (by omega))) ?_
              refine ioT ?_
              refine asT ?_
              refine RW.nil ?_
              refine awp_cond rfl (fun h9 => ?_) (fun h9 => ?_)
              · try simp only [cl] at h9
                refine awp_seq ?_
                refine awp_rw rfl ?_
                refine faT tf47_1 ?_
                refine RW.store rfl rfl (eff_storeS (v := .t _) (ys := [_, _, _, _, _, _, _, _, _, _, _, _, _, _, _]) (els := [_]) (els' := [_]) rfl rfl ti3 rfl rfl rfl rfl rfl rfl rfl (Nat.le_of_ble_eq_true rfl) rfl rfl) ?_
                refine RW.nil ?_
                refine awp_rw rfl ?_
                obtain ⟨q2, hq2⟩ : ∃ q : Nat, imax 0 (((gall (frames l 7) what i).reps.length : Int) - 1 - (around (what[i]'hil) 1000000) / 15 % 3) = (q : Int) := ⟨(imax 0 (((gall (frames l 7) what i).reps.length : Int) - 1 - (around (what[i]'hil) 1000000) / 15 % 3)).toNat, by unfold imax; split <;> omega⟩
                have hql : q2 < (gall (frames l 7) what i).reps.length := by unfold imax at hq2; split at hq2 <;> omega
                refine mvO ?_
                refine mvO ?_
                refine RW.op rfl rfl (eff_len rfl rfl te33 rfl rfl rfl) ?_
                refine RW.op rfl rfl (eff_iop (r := encI ((n0 : Int) - 1)) rfl rfl rfl rfl (isub (by omega))) ?_
                refine mvT ?_
                refine RW.op rfl rfl (eff_quoE (r := (around (what[i]'hil) 1000000) / 15) rfl rfl rfl rfl (by decide) (quoN (by omega) (by decide))) ?_
                refine RW.op rfl rfl (eff_remE (r := ((around (what[i]'hil) 1000000) / 15) % 3) rfl rfl rfl rfl (by decide) (tmod_pos (by omega))) ?_
                refine RW.op rfl rfl (eff_iop (r := encI ((n0 : Int) - 1 - (around (what[i]'hil) 1000000) / 15 % 3)) rfl rfl rfl rfl (isub (by omega))) ?_
                refine RW.op rfl rfl (eff_maxE (r := ((q2 : Nat) : Int)) rfl rfl rfl rfl (by rw [hn0]; exact hq2)) ?_
                refine RW.op rfl rfl (eff_indexAddr (i := q2) rfl rfl te33 rfl rfl rfl rfl rfl rfl (by omega)) ?_
                refine RW.op rfl rfl (eff_load (y := .t (encR ((gall (frames l 7) what i).reps[q2]'hql))) rfl rfl ti23 rfl (.whole rfl rfl (by rw [Nat.zero_add, he0]; exact elR hql) rfl rfl rfl)) ?_
                refine faT tf47_3 ?_
                refine RW.store rfl rfl (eff_storeS (v := .t _) (ys := [_, _, _, _, _, _, _, _, _, _, _, _, _, _, _]) (els := [_]) (els' := [_]) rfl rfl ti23 rfl rfl rfl rfl rfl rfl rfl (Nat.le_of_ble_eq_true rfl) rfl rfl) ?_
                refine RW.nil ?_
                refine awp_seq ?_
                refine awp_rw rfl ?_
                refine mvO ?_
                refine RW.op rfl rfl (eff_load rfl rfl ti47 rfl (.whole rfl rfl rfl rfl rfl rfl)) ?_
                (refine RW.weak (weak_slot 120 (y := encC ⟨tk + (around (what[i]'hil) 1000000) % 3, 2, zf, (gall (frames l 7) what i).reps[q2]'hql, zd⟩) rfl (by first | ((repeat' (first | exact trivial | exact Wk.refl _ | exact Wk.sl _ | refine And.intro ?_ ?_ | refine Wk.tupP ?_ | refine Wk.aggP ?_)); done) | fail)) rfl ?_)
                refine RW.new rfl rfl (eff_buildSliceL (id := 121) (els := [.t (.agg [_, _, _, _, _, _, _, _, _, _, _, _, _, _, _])]) rfl rfl te32 tz47 rfl (by decide) (by decide) rfl rfl rfl rfl) ?_
                refine RW.new rfl rfl (eff_append (id := 7) (ys := [_]) rfl rfl ta32 rfl rfl rfl (by rw [he7, hn7]; simp) rfl rfl (srcOwn rfl rfl rfl rfl rfl rfl) (by simp) (by simp; omega) (by simp; omega)) ?_
                refine asO ?_
                refine RW.nil ?_
                refine awp_rw rfl ?_
                refine mvO ?_
                refine RW.op rfl rfl (eff_load rfl rfl ti23 rfl (.whole rfl rfl rfl rfl rfl rfl)) ?_
                refine RW.new rfl rfl (eff_buildSliceL (id := 125) (els := [.t (.agg [_, _, _, _])]) rfl rfl te33 tz23 rfl (by decide) (by decide) rfl rfl rfl rfl) ?_
                refine RW.new rfl rfl (eff_append (id := 8) (ys := [_]) rfl rfl ta33 rfl rfl rfl (by rw [he8, hn8]; simp) rfl rfl (srcOwn rfl rfl rfl rfl rfl rfl) (by simp) (by simp; omega) (by simp; omega)) ?_
                refine asO ?_
                refine RW.nil ?_
                refine awp_rw rfl ?_
                refine mvT ?_
                refine RW.op rfl rfl (eff_iop rfl rfl rfl rfl (iadd (by omega))) ?_
                refine asT ?_
                refine RW.nil ?_
                have hG := gall_send (F := (frames l 7)) hil rfl (by omega) hsn (by omega) (by omega)
                refine ⟨_, ?_, _, weak_keep (n := 129) (fr' := [(1, .t (.sl (what.map encI) false)), (6, .t (.sl ((frames l 7).map encF) false)), (7, .own 7 _ 0 _), (8, .own 8 _ 0 _), (9, .ptr 9 0 0 0), (10, .own 20 _ 0 _), (11, .t (encI (_ : Nat))), (12, .t (encI _)), (13, .t (encI ((i + 1) : Nat)))]) (st' := [(7, some ⟨15, 47, _, _⟩), (8, some ⟨4, 23, _, _⟩), (9, some ⟨4, 23, 0, [.t (encR _)]⟩), (20, some ⟨4, 23, _, _⟩)]) ⟨rfl, rfl, rfl, rfl, rfl, rfl, rfl, rfl, rfl, rfl, rfl, rfl, rfl, rfl, rfl, rfl, rfl, rfl, trivial⟩ ⟨rfl, (by first | exact okE_nil | exact okE_one rfl | (rw [he7]; exact okE_t) | (rw [he7]; intro x hx; simp only [List.mem_append, List.mem_map, List.mem_singleton] at hx; rcases hx with ⟨y, _, rfl⟩ | rfl <;> rfl)), rfl, (by first | exact okE_nil | exact okE_one rfl | (rw [he8]; exact okE_t) | (rw [he8]; intro x hx; simp only [List.mem_append, List.mem_map, List.mem_singleton] at hx; rcases hx with ⟨y, _, rfl⟩ | rfl <;> rfl)), rfl, okE_one rfl, rfl, (by first | exact okE_nil | exact okE_one rfl | (rw [he0]; exact okE_t) | (rw [he0]; intro x hx; simp only [List.mem_append, List.mem_map, List.mem_singleton] at hx; rcases hx with ⟨y, _, rfl⟩ | rfl <;> rfl)), trivial⟩, i + 1, _, _, _, _, _, _, _, _, _, _, _, _, (by omega), (by omega), (by first | (exfalso; omega) | (rw [hG]; simp [gput, garr, hn7])), (by first | (exfalso; omega) | (rw [hG]; simp [gput, garr, hn8])), (by first | (exfalso; omega) | (rw [hG]; simp [gput, garr, hn0])), (by first | (exfalso; omega) | (first | (rw [hG]; exact he7) | (rw [hG, he7]; exact mapT_snoc (by subst htk; rfl)))), (by first | (exfalso; omega) | (first | (rw [hG]; exact he8) | (rw [hG, he8]; exact mapT_snoc (by subst hcs; rfl)))), (by first | (exfalso; omega) | (first | (rw [hG]; exact he0) | (rw [hG, he0]; exact mapT_snoc (by subst hcs; rfl)))), (by first | (exfalso; omega) | (first | (rw [hG]; exact hcs) | (rw [hG, hcs]; rfl))), (by first | (exfalso; omega) | (first | (rw [hG]; rfl) | (rw [hG]; exact hsn))), (by first | (exfalso; omega) | (rw [hG, htk]; rfl)), rfl, rfl⟩
                omega
              · try simp only [cl] at h9
                refine awp_seq ?_
                refine awp_rw rfl ?_
                refine faT tf47_1 ?_
                refine RW.store rfl rfl (eff_storeS (v := .t _) (ys := [_, _, _, _, _, _, _, _, _, _, _, _, _, _, _]) (els := [_]) (els' := [_]) rfl rfl ti3 rfl rfl rfl rfl rfl rfl rfl (Nat.le_of_ble_eq_true rfl) rfl rfl) ?_
                refine RW.nil ?_
                refine awp_rw rfl ?_
                refine mvT ?_
                refine mvT ?_
                refine RW.op rfl rfl (eff_quoE (r := (around (what[i]'hil) 1000000) / 15) rfl rfl rfl rfl (by decide) (quoN (by omega) (by decide))) ?_
                refine RW.op rfl rfl (eff_remE (r := ((around (what[i]'hil) 1000000) / 15) % 3) rfl rfl rfl rfl (by decide) (tmod_pos (by omega))) ?_
                refine mvT ?_
                refine RW.op rfl rfl (eff_quoE (r := (around (what[i]'hil) 1000000) / 45) rfl rfl rfl rfl (by decide) (quoN (by omega) (by decide))) ?_
                refine RW.op rfl rfl (eff_remE (r := ((around (what[i]'hil) 1000000) / 45) % 4) rfl rfl rfl rfl (by decide) (tmod_pos (by omega))) ?_
                refine mvT ?_
                refine RW.op rfl rfl (eff_quoE (r := (around (what[i]'hil) 1000000) / 180) rfl rfl rfl rfl (by decide) (quoN (by omega) (by decide))) ?_
                refine RW.op rfl rfl (eff_remE (r := ((around (what[i]'hil) 1000000) / 180) % 8) rfl rfl rfl rfl (by decide) (tmod_pos (by omega))) ?_
                refine RW.op rfl rfl (eff_buildT (ys := [_, _, _, _]) rfl rfl tz28 tg28 rfl) ?_
                refine faT tf47_4 ?_
                refine RW.store rfl rfl (eff_storeS (v := .t _) (ys := [_, _, _, _, _, _, _, _, _, _, _, _, _, _, _]) (els := [_]) (els' := [_]) rfl rfl ti28 rfl rfl rfl rfl rfl rfl rfl (Nat.le_of_ble_eq_true rfl) rfl rfl) ?_
                refine RW.nil ?_
                refine awp_seq ?_
                refine awp_rw rfl ?_
                refine mvO ?_
                refine RW.op rfl rfl (eff_load rfl rfl ti47 rfl (.whole rfl rfl rfl rfl rfl rfl)) ?_
                (refine RW.weak (weak_slot 120 (y := encC ⟨tk + (around (what[i]'hil) 1000000) % 3, 3, zf, zr, ⟨tk + (around (what[i]'hil) 1000000) % 3, (around (what[i]'hil) 1000000) / 15 % 3, (around (what[i]'hil) 1000000) / 45 % 4, (around (what[i]'hil) 1000000) / 180 % 8⟩⟩) rfl (by first | ((repeat' (first | exact trivial | exact Wk.refl _ | exact Wk.sl _ | refine And.intro ?_ ?_ | refine Wk.tupP ?_ | refine Wk.aggP ?_)); done) | fail)) rfl ?_)
                refine RW.new rfl rfl (eff_buildSliceL (id := 121) (els := [.t (.agg [_, _, _, _, _, _, _, _, _, _, _, _, _, _, _])]) rfl rfl te32 tz47 rfl (by decide) (by decide) rfl rfl rfl rfl) ?_
                refine RW.new rfl rfl (eff_append (id := 7) (ys := [_]) rfl rfl ta32 rfl rfl rfl (by rw [he7, hn7]; simp) rfl rfl (srcOwn rfl rfl rfl rfl rfl rfl) (by simp) (by simp; omega) (by simp; omega)) ?_
                refine asO ?_
                refine RW.nil ?_
                refine awp_rw rfl ?_
                refine mvO ?_
                refine RW.op rfl rfl (eff_load rfl rfl ti23 rfl (.whole rfl rfl rfl rfl rfl rfl)) ?_
                refine RW.new rfl rfl (eff_buildSliceL (id := 125) (els := [.t (.agg [_, _, _, _])]) rfl rfl te33 tz23 rfl (by decide) (by decide) rfl rfl rfl rfl) ?_
                refine RW.new rfl rfl (eff_append (id := 8) (ys := [_]) rfl rfl ta33 rfl rfl rfl (by rw [he8, hn8]; simp) rfl rfl (srcOwn rfl rfl rfl rfl rfl rfl) (by simp) (by simp; omega) (by simp; omega)) ?_
                refine asO ?_
                refine RW.nil ?_
                refine awp_rw rfl ?_
                refine mvT ?_
                refine RW.op rfl rfl (eff_iop rfl rfl rfl rfl (iadd (by omega))) ?_
                refine asT ?_
                refine RW.nil ?_
                have hG := gall_dec (F := (frames l 7)) hil rfl (by omega) hsn (by omega) (by omega) (by omega)
                refine ⟨_, ?_, _, weak_keep (n := 129) (fr' := [(1, .t (.sl (what.map encI) false)), (6, .t (.sl ((frames l 7).map encF) false)), (7, .own 7 _ 0 _), (8, .own 8 _ 0 _), (9, .ptr 9 0 0 0), (10, .own 20 _ 0 _), (11, .t (encI (_ : Nat))), (12, .t (encI _)), (13, .t (encI ((i + 1) : Nat)))]) (st' := [(7, some ⟨15, 47, _, _⟩), (8, some ⟨4, 23, _, _⟩), (9, some ⟨4, 23, 0, [.t (encR _)]⟩), (20, some ⟨4, 23, _, _⟩)]) ⟨rfl, rfl, rfl, rfl, rfl, rfl, rfl, rfl, rfl, rfl, rfl, rfl, rfl, rfl, rfl, rfl, rfl, rfl, trivial⟩ ⟨rfl, (by first | exact okE_nil | exact okE_one rfl | (rw [he7]; exact okE_t) | (rw [he7]; intro x hx; simp only [List.mem_append, List.mem_map, List.mem_singleton] at hx; rcases hx with ⟨y, _, rfl⟩ | rfl <;> rfl)), rfl, (by first | exact okE_nil | exact okE_one rfl | (rw [he8]; exact okE_t) | (rw [he8]; intro x hx; simp only [List.mem_append, List.mem_map, List.mem_singleton] at hx; rcases hx with ⟨y, _, rfl⟩ | rfl <;> rfl)), rfl, okE_one rfl, rfl, (by first | exact okE_nil | exact okE_one rfl | (rw [he0]; exact okE_t) | (rw [he0]; intro x hx; simp only [List.mem_append, List.mem_map, List.mem_singleton] at hx; rcases hx with ⟨y, _, rfl⟩ | rfl <;> rfl)), trivial⟩, i + 1, _, _, _, _, _, _, _, _, _, _, _, _, (by omega), (by omega), (by first | (exfalso; omega) | (rw [hG]; simp [gput, garr, hn7])), (by first | (exfalso; omega) | (rw [hG]; simp [gput, garr, hn8])), (by first | (exfalso; omega) | (rw [hG]; simp [gput, garr, hn0])), (by first | (exfalso; omega) | (first | (rw [hG]; exact he7) | (rw [hG, he7]; exact mapT_snoc (by subst htk; rfl)))), (by first | (exfalso; omega) | (first | (rw [hG]; exact he8) | (rw [hG, he8]; exact mapT_snoc (by subst hcs; rfl)))), (by first | (exfalso; omega) | (first | (rw [hG]; exact he0) | (rw [hG, he0]; exact mapT_snoc (by subst hcs; rfl)))), (by first | (exfalso; omega) | (first | (rw [hG]; exact hcs) | (rw [hG, hcs]; rfl))), (by first | (exfalso; omega) | (first | (rw [hG]; rfl) | (rw [hG]; exact hsn))), (by first | (exfalso; omega) | (rw [hG, htk]; rfl)), rfl, rfl⟩
                omega
        · try simp only [cl] at h4
          refine gkT ?_
          refine gkT ?_
          refine gkT ?_
          refine gkT ?_
          refine pkT ?_
          refine asT ?_
          refine RW.nil ?_
          refine awp_cond rfl (fun h => nomatch h) (fun _ => ?_)
          refine awp_seq ?_
          refine awp_rw rfl ?_
          refine mvT ?_
          refine RW.op rfl rfl (eff_quoE (r := (around (what[i]'hil) 1000000) / 3) rfl rfl rfl rfl (by decide) (quoN (by omega) (by decide))) ?_
          refine RW.op rfl rfl (eff_remE (r := ((around (what[i]'hil) 1000000) / 3) % 5) rfl rfl rfl rfl (by decide) (tmod_pos (by omega))) ?_
          refine ioT ?_
          refine mvT ?_
          refine RW.split 84 rfl (fun h10 => ?_) (fun h10 => ?_)
          · try simp only [cl] at h10
            refine RW.gop rfl rfl rfl rfl rfl rfl (eff_move (v := .t _) rfl rfl rfl) ?_
            refine RW.gop rfl rfl rfl rfl rfl rfl (eff_iop rfl rfl rfl rfl rfl) ?_
            refine pkT ?_
            refine asT ?_
            refine RW.nil ?_
            refine awp_cond rfl (fun h11 => ?_) (fun h11 => ?_)
            · try simp only [cl] at h11
              refine awp_seq ?_
              obtain ⟨q, hq, hqn⟩ : ∃ q : Nat, (around (what[i]'hil) 1000000) / 15 % (sn : Int) = (q : Int) ∧ q < sn := ⟨((around (what[i]'hil) 1000000) / 15 % (sn : Int)).toNat, by have := Int.emod_nonneg ((around (what[i]'hil) 1000000) / 15) (show (sn : Int) ≠ 0 by omega); omega, by have := Int.emod_lt_of_pos ((around (what[i]'hil) 1000000) / 15) (show (0 : Int) < sn by omega); have := Int.emod_nonneg ((around (what[i]'hil) 1000000) / 15) (show (sn : Int) ≠ 0 by omega); omega⟩
              have hqf : q < (frames l 7).length := by omega
              refine awp_rd [(some 88, []), (some 89, []), (some 90, []), (some 91, []), (some 92, []), (some 93, []), (some 94, []), (some 95, []), (some 96, []), (none, [9])] [[], [], [], [2], [], [2, 3, 4], [1, 2, 3, 4, 5], [1, 2, 3, 4, 5, 6], [0, 1, 2, 3, 4, 5, 6, 7], [0, 1, 2, 3, 4, 5, 6, 7, 8]] tm rfl rfl rfl rfl ?_
              refine RD.op rfl rfl rfl (eff_load rfl rfl ti23 rfl (.whole rfl rfl rfl rfl rfl rfl)) ?_
              refine mvD ?_
              refine mvD ?_
              refine RD.op rfl rfl rfl (eff_quoE (r := (around (what[i]'hil) 1000000) / 15) rfl rfl rfl rfl (by decide) (quoN (by omega) (by decide))) ?_
              refine mvD ?_
              refine RD.op rfl rfl rfl (eff_remE (r := ((q : Nat) : Int)) rfl rfl rfl rfl (by omega) (by rw [tmod_pos (by omega), hq])) ?_
              refine RD.op rfl rfl rfl (eff_indexM (i := q) rfl rfl te62 rfl rfl (by first | rfl | omega) (by first | assumption | exact List.getElem?_eq_getElem (by omega)) rfl (by decide)) ?_
              refine RD.op rfl rfl rfl (eff_loadW rfl rfl ti45 rfl rfl rfl) ?_
              refine RD.op rfl rfl rfl (eff_callT (rapply_ret cs _ hg7) co37 rfl rfl rfl rfl) ?_
              refine RD.store rfl rfl rfl (eff_storeW (v := .t _) (els := [_]) (els' := [_]) rfl rfl ti23 rfl rfl rfl rfl rfl rfl rfl rfl rfl) ?_
              refine RD.nil ?_
              refine awp_seq ?_
              refine awp_rw rfl ?_
              refine mvO ?_
              refine RW.op rfl rfl (eff_load rfl rfl ti23 rfl (.whole rfl rfl rfl rfl rfl rfl)) ?_
              refine RW.new rfl rfl (eff_buildSliceL (id := 99) (els := [.t (.agg [_, _, _, _])]) rfl rfl te33 tz23 rfl (by decide) (by decide) rfl rfl rfl rfl) ?_
              refine RW.new rfl rfl (eff_append (id := 20) (ys := [_]) rfl rfl ta33 rfl rfl rfl (by rw [he0, hn0]; simp) rfl rfl (srcOwn rfl rfl rfl rfl rfl rfl) (by simp) (by simp; omega) (by simp; omega)) ?_
              refine asO ?_
              refine RW.nil ?_
              refine awp_exit ?_
              refine awp_rw rfl ?_
              refine mvT ?_
              refine RW.op rfl rfl (eff_iop rfl rfl rfl rfl (iadd (by omega))) ?_
              refine asT ?_
              refine RW.nil ?_
              have hG := gall_arr (F := (frames l 7)) hil rfl (by omega) hsn (by omega) (by omega) hq (by omega)
              refine ⟨_, ?_, _, weak_keep (n := 129) (fr' := [(1, .t (.sl (what.map encI) false)), (6, .t (.sl ((frames l 7).map encF) false)), (7, .own 7 _ 0 _), (8, .own 8 _ 0 _), (9, .ptr 9 0 0 0), (10, .own 20 _ 0 _), (11, .t (encI (_ : Nat))), (12, .t (encI _)), (13, .t (encI ((i + 1) : Nat)))]) (st' := [(7, some ⟨15, 47, _, _⟩), (8, some ⟨4, 23, _, _⟩), (9, some ⟨4, 23, 0, [.t (encR _)]⟩), (20, some ⟨4, 23, _, _⟩)]) ⟨rfl, rfl, rfl, rfl, rfl, rfl, rfl, rfl, rfl, rfl, rfl, rfl, rfl, rfl, rfl, rfl, rfl, rfl, trivial⟩ ⟨rfl, (by first | exact okE_nil | exact okE_one rfl | (rw [he7]; exact okE_t) | (rw [he7]; intro x hx; simp only [List.mem_append, List.mem_map, List.mem_singleton] at hx; rcases hx with ⟨y, _, rfl⟩ | rfl <;> rfl)), rfl, (by first | exact okE_nil | exact okE_one rfl | (rw [he8]; exact okE_t) | (rw [he8]; intro x hx; simp only [List.mem_append, List.mem_map, List.mem_singleton] at hx; rcases hx with ⟨y, _, rfl⟩ | rfl <;> rfl)), rfl, okE_one rfl, rfl, (by first | exact okE_nil | exact okE_one rfl | (rw [he0]; exact okE_t) | (rw [he0]; intro x hx; simp only [List.mem_append, List.mem_map, List.mem_singleton] at hx; rcases hx with ⟨y, _, rfl⟩ | rfl <;> rfl)), trivial⟩, i + 1, _, _, _, _, _, _, _, _, _, _, _, _, (by omega), (by omega), (by first | (exfalso; omega) | (rw [hG]; simp [gput, garr, hn7])), (by first | (exfalso; omega) | (rw [hG]; simp [gput, garr, hn8])), (by first | (exfalso; omega) | (rw [hG]; simp [gput, garr, hn0])), (by first | (exfalso; omega) | (first | (rw [hG]; exact he7) | (rw [hG, he7]; exact mapT_snoc (by subst htk; rfl)))), (by first | (exfalso; omega) | (first | (rw [hG]; exact he8) | (rw [hG, he8]; exact mapT_snoc (by subst hcs; rfl)))), (by first | (exfalso; omega) | (first | (rw [hG]; exact he0) | (rw [hG, he0]; exact mapT_snoc (by subst hcs; rfl)))), (by first | (exfalso; omega) | (first | (rw [hG]; exact hcs) | (rw [hG, hcs]; rfl))), (by first | (exfalso; omega) | (first | (rw [hG]; rfl) | (rw [hG]; exact hsn))), (by first | (exfalso; omega) | (rw [hG, htk]; rfl)), rfl, rfl⟩
              omega
            · try simp only [cl] at h11
              refine awp_seq ?_
              refine awp_rw rfl ?_
              refine mvT ?_
              refine RW.op rfl rfl (eff_quoE (r := (around (what[i]'hil) 1000000) / 3) rfl rfl rfl rfl (by decide) (quoN (by omega) (by decide))) ?_
              refine RW.op rfl rfl (eff_remE (r := ((around (what[i]'hil) 1000000) / 3) % 5) rfl rfl rfl rfl (by decide) (tmod_pos (by omega))) ?_
              refine ioT ?_
              refine asT ?_
              refine RW.nil ?_
              refine awp_cond rfl (fun h12 => ?_) (fun h12 => ?_)
              · try simp only [cl] at h12
                refine awp_seq ?_
                refine awp_rw rfl ?_
                refine faT tf47_1 ?_
                refine RW.store rfl rfl (eff_storeS (v := .t _) (ys := [_, _, _, _, _, _, _, _, _, _, _, _, _, _, _]) (els := [_]) (els' := [_]) rfl rfl ti3 rfl rfl rfl rfl rfl rfl rfl (Nat.le_of_ble_eq_true rfl) rfl rfl) ?_
                refine RW.nil ?_
                refine awp_rw rfl ?_
                obtain ⟨q2, hq2⟩ : ∃ q : Nat, imax 0 (((gall (frames l 7) what i).reps.length : Int) - 1 - (around (what[i]'hil) 1000000) / 15 % 3) = (q : Int) := ⟨(imax 0 (((gall (frames l 7) what i).reps.length : Int) - 1 - (around (what[i]'hil) 1000000) / 15 % 3)).toNat, by unfold imax; split <;> omega⟩
                have hql : q2 < (gall (frames l 7) what i).reps.length := by unfold imax at hq2; split at hq2 <;> omega
                refine mvO ?_
                refine mvO ?_
                refine RW.op rfl rfl (eff_len rfl rfl te33 rfl rfl rfl) ?_
                refine RW.op rfl rfl (eff_iop (r := encI ((n0 : Int) - 1)) rfl rfl rfl rfl (isub (by omega))) ?_
                refine mvT ?_
                refine RW.op rfl rfl (eff_quoE (r := (around (what[i]'hil) 1000000) / 15) rfl rfl rfl rfl (by decide) (quoN (by omega) (by decide))) ?_
                refine RW.op rfl rfl (eff_remE (r := ((around (what[i]'hil) 1000000) / 15) % 3) rfl rfl rfl rfl (by decide) (tmod_pos (by omega))) ?_
                refine RW.op rfl rfl (eff_iop (r := encI ((n0 : Int) - 1 - (around (what[i]'hil) 1000000) / 15 % 3)) rfl rfl rfl rfl (isub (by omega))) ?_
                refine RW.op rfl rfl (eff_maxE (r := ((q2 : Nat) : Int)) rfl rfl rfl rfl (by rw [hn0]; exact hq2)) ?_
                refine RW.op rfl rfl (eff_indexAddr (i := q2) rfl rfl te33 rfl rfl rfl rfl rfl rfl (by omega)) ?_
                refine RW.op rfl rfl (eff_load (y := .t (encR ((gall (frames l 7) what i).reps[q2]'hql))) rfl rfl ti23 rfl (.whole rfl rfl (by rw [Nat.zero_add, he0]; exact elR hql) rfl rfl rfl)) ?_
                refine faT tf47_3 ?_
                refine RW.store rfl rfl (eff_storeS (v := .t _) (ys := [_, _, _, _, _, _, _, _, _, _, _, _, _, _, _]) (els := [_]) (els' := [_]) rfl rfl ti23 rfl rfl rfl rfl rfl rfl rfl (Nat.le_of_ble_eq_true rfl) rfl rfl) ?_
                refine RW.nil ?_
                refine awp_seq ?_
                refine awp_rw rfl ?_
                refine mvO ?_
                refine RW.op rfl rfl (eff_load rfl rfl ti47 rfl (.whole rfl rfl rfl rfl rfl rfl)) ?_
                (refine RW.weak (weak_slot 120 (y := encC ⟨tk + (around (what[i]'hil) 1000000) % 3, 2, zf, (gall (frames l 7) what i).reps[q2]'hql, zd⟩) rfl (by first | ((repeat' (first | exact trivial | exact Wk.refl _ | exact Wk.sl _ | refine And.intro ?_ ?_ | refine Wk.tupP ?_ | refine Wk.aggP ?_)); done) | fail)) rfl ?_)
                refine RW.new rfl rfl (eff_buildSliceL (id := 121) (els := [.t (.agg [_, _, _, _, _, _, _, _, _, _, _, _, _, _, _])]) rfl rfl te32 tz47 rfl (by decide) (by decide) rfl rfl rfl rfl) ?_
                refine RW.new rfl rfl (eff_append (id := 7) (ys := [_]) rfl rfl ta32 rfl rfl rfl (by rw [he7, hn7]; simp) rfl rfl (srcOwn rfl rfl rfl rfl rfl rfl) (by simp) (by simp; omega) (by simp; omega)) ?_
                refine asO ?_
                refine RW.nil ?_
                refine awp_rw rfl ?_
                refine mvO ?_
                refine RW.op rfl rfl (eff_load rfl rfl ti23 rfl (.whole rfl rfl rfl rfl rfl rfl)) ?_
                refine RW.new rfl rfl (eff_buildSliceL (id := 125) (els := [.t (.agg [_, _, _, _])]) rfl rfl te33 tz23 rfl (by decide) (by decide) rfl rfl rfl rfl) ?_
                refine RW.new rfl rfl (eff_append (id := 8) (ys := [_]) rfl rfl ta33 rfl rfl rfl (by rw [he8, hn8]; simp) rfl rfl (srcOwn rfl rfl rfl rfl rfl rfl) (by simp) (by simp; omega) (by simp; omega)) ?_
                refine asO ?_
                refine RW.nil ?_
                refine awp_rw rfl ?_
                refine mvT ?_
                refine RW.op rfl rfl (eff_iop rfl rfl rfl rfl (iadd (by omega))) ?_
                refine asT ?_
                refine RW.nil ?_
                have hG := gall_send (F := (frames l 7)) hil rfl (by omega) hsn (by omega) (by omega)
                refine ⟨_, ?_, _, weak_keep (n := 129) (fr' := [(1, .t (.sl (what.map encI) false)), (6, .t (.sl ((frames l 7).map encF) false)), (7, .own 7 _ 0 _), (8, .own 8 _ 0 _), (9, .ptr 9 0 0 0), (10, .own 20 _ 0 _), (11, .t (encI (_ : Nat))), (12, .t (encI _)), (13, .t (encI ((i + 1) : Nat)))]) (st' := [(7, some ⟨15, 47, _, _⟩), (8, some ⟨4, 23, _, _⟩), (9, some ⟨4, 23, 0, [.t (encR _)]⟩), (20, some ⟨4, 23, _, _⟩)]) ⟨rfl, rfl, rfl, rfl, rfl, rfl, rfl, rfl, rfl, rfl, rfl, rfl, rfl, rfl, rfl, rfl, rfl, rfl, trivial⟩ ⟨rfl, (by first | exact okE_nil | exact okE_one rfl | (rw [he7]; exact okE_t) | (rw [he7]; intro x hx; simp only [List.mem_append, List.mem_map, List.mem_singleton] at hx; rcases hx with ⟨y, _, rfl⟩ | rfl <;> rfl)), rfl, (by first | exact okE_nil | exact okE_one rfl | (rw [he8]; exact okE_t) | (rw [he8]; intro x hx; simp only [List.mem_append, List.mem_map, List.mem_singleton] at hx; rcases hx with ⟨y, _, rfl⟩ | rfl <;> rfl)), rfl, okE_one rfl, rfl, (by first | exact okE_nil | exact okE_one rfl | (rw [he0]; exact okE_t) | (rw [he0]; intro x hx; simp only [List.mem_append, List.mem_map, List.mem_singleton] at hx; rcases hx with ⟨y, _, rfl⟩ | rfl <;> rfl)), trivial⟩, i + 1, _, _, _, _, _, _, _, _, _, _, _, _, (by omega), (by omega), (by first | (exfalso; omega) | (rw [hG]; simp [gput, garr, hn7])), (by first | (exfalso; omega) | (rw [hG]; simp [gput, garr, hn8])), (by first | (exfalso; omega) | (rw [hG]; simp [gput, garr, hn0])), (by first | (exfalso; omega) | (first | (rw [hG]; exact he7) | (rw [hG, he7]; exact mapT_snoc (by subst htk; rfl)))), (by first | (exfalso; omega) | (first | (rw [hG]; exact he8) | (rw [hG, he8]; exact mapT_snoc (by subst hcs; rfl)))), (by first | (exfalso; omega) | (first | (rw [hG]; exact he0) | (rw [hG, he0]; exact mapT_snoc (by subst hcs; rfl)))), (by first | (exfalso; omega) | (first | (rw [hG]; exact hcs) | (rw [hG, hcs]; rfl))), (by first | (exfalso; omega) | (first | (rw [hG]; rfl) | (rw [hG]; exact hsn))), (by first | (exfalso; omega) | (rw [hG, htk]; rfl)), rfl, rfl⟩
                omega
              · try simp only [cl] at h12
                refine awp_seq ?_
                refine awp_rw rfl ?_
                refine faT tf47_1 ?_
                refine RW.store rfl rfl (eff_storeS (v := .t _) (ys := [_, _, _, _, _, _, _, _, _, _, _, _, _, _, _]) (els := [_]) (els' := [_]) rfl rfl ti3 rfl rfl rfl rfl rfl rfl rfl (Nat.le_of_ble_eq_true rfl) rfl rfl) ?_
                refine RW.nil ?_
                refine awp_rw rfl ?_
                refine mvT ?_
                refine mvT ?_
                refine RW.op rfl rfl (eff_quoE (r := (around (what[i]'hil) 1000000) / 15) rfl rfl rfl rfl (by decide) (quoN (by omega) (by decide))) ?_
                refine RW.op rfl rfl (eff_remE (r := ((around (what[i]'hil) 1000000) / 15) % 3) rfl rfl rfl rfl (by decide) (tmod_pos (by omega))) ?_
                refine mvT ?_
                refine RW.op rfl rfl (eff_quoE (r := (around (what[i]'hil) 1000000) / 45) rfl rfl rfl rfl (by decide) (quoN (by omega) (by decide))) ?_
                refine RW.op rfl rfl (eff_remE (r := ((around (what[i]'hil) 1000000) / 45) % 4) rfl rfl rfl rfl (by decide) (tmod_pos (by omega))) ?_
                refine mvT ?_
                refine RW.op rfl rfl (eff_quoE (r := (around (what[i]'hil) 1000000) / 180) rfl rfl rfl rfl (by decide) (quoN (by omega) (by decide))) ?_
                refine RW.op rfl rfl (eff_remE (r := ((around (what[i]'hil) 1000000) / 180) % 8) rfl rfl rfl rfl (by decide) (tmod_pos (by omega))) ?_
                refine RW.op rfl rfl (eff_buildT (ys := [_, _, _, _]) rfl rfl tz28 tg28 rfl) ?_
                refine faT tf47_4 ?_
                refine RW.store rfl rfl (eff_storeS (v := .t _) (ys := [_, _, _, _, _, _, _, _, _, _, _, _, _, _, _]) (els := [_]) (els' := [_]) rfl rfl ti28 rfl rfl rfl rfl rfl rfl rfl (Nat.le_of_ble_eq_true rfl) rfl rfl) ?_
                refine RW.nil ?_
                refine awp_seq ?_
                refine awp_rw rfl ?_
                refine mvO ?_
                refine RW.op rfl rfl (eff_load rfl rfl ti47 rfl (.whole rfl rfl rfl rfl rfl rfl)) ?_
                (refine RW.weak (weak_slot 120 (y := encC ⟨tk + (around (what[i]'hil) 1000000) % 3, 3, zf, zr, ⟨tk + (around (what[i]'hil) 1000000) % 3, (around (what[i]'hil) 1000000) / 15 % 3, (around (what[i]'hil) 1000000) / 45 % 4, (around (what[i]'hil) 1000000) / 180 % 8⟩⟩) rfl (by first | ((repeat' (first | exact trivial | exact Wk.refl _ | exact Wk.sl _ | refine And.intro ?_ ?_ | refine Wk.tupP ?_ | refine Wk.aggP ?_)); done) | fail)) rfl ?_)
                refine RW.new rfl rfl (eff_buildSliceL (id := 121) (els := [.t (.agg [_, _, _, _, _, _, _, _, _, _, _, _, _, _, _])]) rfl rfl te32 tz47 rfl (by decide) (by decide) rfl rfl rfl rfl) ?_
                refine RW.new rfl rfl (eff_append (id := 7) (ys := [_]) rfl rfl ta32 rfl rfl rfl (by rw [he7, hn7]; simp) rfl rfl (srcOwn rfl rfl rfl rfl rfl rfl) (by simp) (by simp; omega) (by simp; omega)) ?_
                refine asO ?_
                refine RW.nil ?_
                refine awp_rw rfl ?_
                refine mvO ?_
                refine RW.op rfl rfl (eff_load rfl rfl ti23 rfl (.whole rfl rfl rfl rfl rfl rfl)) ?_
                refine RW.new rfl rfl (eff_buildSliceL (id := 125) (els := [.t (.agg [_, _, _, _])]) rfl rfl te33 tz23 rfl (by decide) (by decide) rfl rfl rfl rfl) ?_
                refine RW.new rfl rfl (eff_append (id := 8) (ys := [_]) rfl rfl ta33 rfl rfl rfl (by rw [he8, hn8]; simp) rfl rfl (srcOwn rfl rfl rfl rfl rfl rfl) (by simp) (by simp; omega) (by simp; omega)) ?_
                refine asO ?_
                refine RW.nil ?_
                refine awp_rw rfl ?_
                refine mvT ?_
                refine RW.op rfl rfl (eff_iop rfl rfl rfl rfl (iadd (by omega))) ?_
                refine asT ?_
                refine RW.nil ?_
                have hG := gall_dec (F := (frames l 7)) hil rfl (by omega) hsn (by omega) (by omega) (by omega)
                refine ⟨_, ?_, _, weak_keep (n := 129) (fr' := [(1, .t (.sl (what.map encI) false)), (6, .t (.sl ((frames l 7).map encF) false)), (7, .own 7 _ 0 _), (8, .own 8 _ 0 _), (9, .ptr 9 0 0 0), (10, .own 20 _ 0 _), (11, .t (encI (_ : Nat))), (12, .t (encI _)), (13, .t (encI ((i + 1) : Nat)))]) (st' := [(7, some ⟨15, 47, _, _⟩), (8, some ⟨4, 23, _, _⟩), (9, some ⟨4, 23, 0, [.t (encR _)]⟩), (20, some ⟨4, 23, _, _⟩)]) ⟨rfl, rfl, rfl, rfl, rfl, rfl, rfl, rfl, rfl, rfl, rfl, rfl, rfl, rfl, rfl, rfl, rfl, rfl, trivial⟩ ⟨rfl, (by first | exact okE_nil | exact okE_one rfl | (rw [he7]; exact okE_t) | (rw [he7]; intro x hx; simp only [List.mem_append, List.mem_map, List.mem_singleton] at hx; rcases hx with ⟨y, _, rfl⟩ | rfl <;> rfl)), rfl, (by first | exact okE_nil | exact okE_one rfl | (rw [he8]; exact okE_t) | (rw [he8]; intro x hx; simp only [List.mem_append, List.mem_map, List.mem_singleton] at hx; rcases hx with ⟨y, _, rfl⟩ | rfl <;> rfl)), rfl, okE_one rfl, rfl, (by first | exact okE_nil | exact okE_one rfl | (rw [he0]; exact okE_t) | (rw [he0]; intro x hx; simp only [List.mem_append, List.mem_map, List.mem_singleton] at hx; rcases hx with ⟨y, _, rfl⟩ | rfl <;> rfl)), trivial⟩, i + 1, _, _, _, _, _, _, _, _, _, _, _, _, (by omega), (by omega), (by first | (exfalso; omega) | (rw [hG]; simp [gput, garr, hn7])), (by first | (exfalso; omega) | (rw [hG]; simp [gput, garr, hn8])), (by first | (exfalso; omega) | (rw [hG]; simp [gput, garr, hn0])), (by first | (exfalso; omega) | (first | (rw [hG]; exact he7) | (rw [hG, he7]; exact mapT_snoc (by subst htk; rfl)))), (by first | (exfalso; omega) | (first | (rw [hG]; exact he8) | (rw [hG, he8]; exact mapT_snoc (by subst hcs; rfl)))), (by first | (exfalso; omega) | (first | (rw [hG]; exact he0) | (rw [hG, he0]; exact mapT_snoc (by subst hcs; rfl)))), (by first | (exfalso; omega) | (first | (rw [hG]; exact hcs) | (rw [hG, hcs]; rfl))), (by first | (exfalso; omega) | (first | (rw [hG]; rfl) | (rw [hG]; exact hsn))), (by first | (exfalso; omega) | (rw [hG, htk]; rfl)), rfl, rfl⟩
                omega
          · try simp only [cl] at h10
            refine gkT ?_
            refine gkT ?_
            refine pkT ?_
            refine asT ?_
            refine RW.nil ?_
            refine awp_cond rfl (fun h => nomatch h) (fun _ => ?_)
            refine awp_seq ?_
            refine awp_rw rfl ?_
            refine mvT ?_
            refine RW.op rfl rfl (eff_quoE (r := (around (what[i]'hil) 1000000) / 3) rfl rfl rfl rfl (by decide) (quoN (by omega) (by decide))) ?_
            refine RW.op rfl rfl (eff_remE (r := ((around (what[i]'hil) 1000000) / 3) % 5) rfl rfl rfl rfl (by decide) (tmod_pos (by omega))) ?_
            refine ioT ?_
            refine asT ?_
            refine RW.nil ?_
            refine awp_cond rfl (fun h13 => ?_) (fun h13 => ?_)
            · try simp only [cl] at h13
              refine awp_seq ?_
              refine awp_rw rfl ?_
              refine faT tf47_1 ?_
              refine RW.store rfl rfl (eff_storeS (v := .t _) (ys := [_, _, _, _, _, _, _, _, _, _, _, _, _, _, _]) (els := [_]) (els' := [_]) rfl rfl ti3 rfl rfl rfl rfl rfl rfl rfl (Nat.le_of_ble_eq_true rfl) rfl rfl) ?_
              refine RW.nil ?_
              refine awp_rw rfl ?_
              obtain ⟨q2, hq2⟩ : ∃ q : Nat, imax 0 (((gall (frames l 7) what i).reps.length : Int) - 1 - (around (what[i]'hil) 1000000) / 15 % 3) = (q : Int) := ⟨(imax 0 (((gall (frames l 7) what i).reps.length : Int) - 1 - (around (what[i]'hil) 1000000) / 15 % 3)).toNat, by unfold imax; split <;> omega⟩
              have hql : q2 < (gall (frames l 7) what i).reps.length := by unfold imax at hq2; split at hq2 <;> omega
              refine mvO ?_
              refine mvO ?_
              refine RW.op rfl rfl (eff_len rfl rfl te33 rfl rfl rfl) ?_
              refine RW.op rfl rfl (eff_iop (r := encI ((n0 : Int) - 1)) rfl rfl rfl rfl (isub (by omega))) ?_
              refine mvT ?_
              refine RW.op rfl rfl (eff_quoE (r := (around (what[i]'hil) 1000000) / 15) rfl rfl rfl rfl (by decide) (quoN (by omega) (by decide))) ?_
              refine RW.op rfl rfl (eff_remE (r := ((around (what[i]'hil) 1000000) / 15) % 3) rfl rfl rfl rfl (by decide) (tmod_pos (by omega))) ?_
              refine RW.op rfl rfl (eff_iop (r := encI ((n0 : Int) - 1 - (around (what[i]'hil) 1000000) / 15 % 3)) rfl rfl rfl rfl (isub (by omega))) ?_
              refine RW.op rfl rfl (eff_maxE (r := ((q2 : Nat) : Int)) rfl rfl rfl rfl (by rw [hn0]; exact hq2)) ?_
              refine RW.op rfl rfl (eff_indexAddr (i := q2) rfl rfl te33 rfl rfl rfl rfl rfl rfl (by omega)) ?_
              refine RW.op rfl rfl (eff_load (y := .t (encR ((gall (frames l 7) what i).reps[q2]'hql))) rfl rfl ti23 rfl (.whole rfl rfl (by rw [Nat.zero_add, he0]; exact elR hql) rfl rfl rfl)) ?_
              refine faT tf47_3 ?_
              refine RW.store rfl rfl (eff_storeS (v := .t _) (ys := [_, _, _, _, _, _, _, _, _, _, _, _, _, _, _]) (els := [_]) (els' := [_]) rfl rfl ti23 rfl rfl rfl rfl rfl rfl rfl (Nat.le_of_ble_eq_true rfl) rfl rfl) ?_
              refine RW.nil ?_
              refine awp_seq ?_
              refine awp_rw rfl ?_
              refine mvO ?_
              refine RW.op rfl rfl (eff_load rfl rfl ti47 rfl (.whole rfl rfl rfl rfl rfl rfl)) ?_
              (refine RW.weak (weak_slot 120 (y := encC ⟨tk + (around (what[i]'hil) 1000000) % 3, 2, zf, (gall (frames l 7) what i).reps[q2]'hql, zd⟩) rfl (by first | ((repeat' (first | exact trivial | exact Wk.refl _ | exact Wk.sl _ | refine And.intro ?_ ?_ | refine Wk.tupP ?_ | refine Wk.aggP ?_)); done) | fail)) rfl ?_)
              refine RW.new rfl rfl (eff_buildSliceL (id := 121) (els := [.t (.agg [_, _, _, _, _, _, _, _, _, _, _, _, _, _, _])]) rfl rfl te32 tz47 rfl (by decide) (by decide) rfl rfl rfl rfl) ?_
              refine RW.new rfl rfl (eff_append (id := 7) (ys := [_]) rfl rfl ta32 rfl rfl rfl (by rw [he7, hn7]; simp) rfl rfl (srcOwn rfl rfl rfl rfl rfl rfl) (by simp) (by simp; omega) (by simp; omega)) ?_
              refine asO ?_
              refine RW.nil ?_
              refine awp_rw rfl ?_
              refine mvO ?_
              refine RW.op rfl rfl (eff_load rfl rfl ti23 rfl (.whole rfl rfl rfl rfl rfl rfl)) ?_
              refine RW.new rfl rfl (eff_buildSliceL (id := 125) (els := [.t (.agg [_, _, _, _])]) rfl rfl te33 tz23 rfl (by decide) (by decide) rfl rfl rfl rfl) ?_
              refine RW.new rfl rfl (eff_append (id := 8) (ys := [_]) rfl rfl ta33 rfl rfl rfl (by rw [he8, hn8]; simp) rfl rfl (srcOwn rfl rfl rfl rfl rfl rfl) (by simp) (by simp; omega) (by simp; omega)) ?_
              refine asO ?_
              refine RW.nil ?_
              refine awp_rw rfl ?_
              refine mvT ?_
              refine RW.op rfl rfl (eff_iop rfl rfl rfl rfl (iadd (by omega))) ?_
              refine asT ?_
              refine RW.nil ?_
              have hG := gall_hear (F := (frames l 7)) hil rfl (by omega) hsn (by omega) hq2 hql
              refine ⟨_, ?_, _, weak_keep (n := 129) (fr' := [(1, .t (.sl (what.map encI) false)), (6, .t (.sl ((frames l 7).map encF) false)), (7, .own 7 _ 0 _), (8, .own 8 _ 0 _), (9, .ptr 9 0 0 0), (10, .own 20 _ 0 _), (11, .t (encI (_ : Nat))), (12, .t (encI _)), (13, .t (encI ((i + 1) : Nat)))]) (st' := [(7, some ⟨15, 47, _, _⟩), (8, some ⟨4, 23, _, _⟩), (9, some ⟨4, 23, 0, [.t (encR _)]⟩), (20, some ⟨4, 23, _, _⟩)]) ⟨rfl, rfl, rfl, rfl, rfl, rfl, rfl, rfl, rfl, rfl, rfl, rfl, rfl, rfl, rfl, rfl, rfl, rfl, trivial⟩ ⟨rfl, (by first | exact okE_nil | exact okE_one rfl | (rw [he7]; exact okE_t) | (rw [he7]; intro x hx; simp only [List.mem_append, List.mem_map, List.mem_singleton] at hx; rcases hx with ⟨y, _, rfl⟩ | rfl <;> rfl)), rfl, (by first | exact okE_nil | exact okE_one rfl | (rw [he8]; exact okE_t) | (rw [he8]; intro x hx; simp only [List.mem_append, List.mem_map, List.mem_singleton] at hx; rcases hx with ⟨y, _, rfl⟩ | rfl <;> rfl)), rfl, okE_one rfl, rfl, (by first | exact okE_nil | exact okE_one rfl | (rw [he0]; exact okE_t) | (rw [he0]; intro x hx; simp only [List.mem_append, List.mem_map, List.mem_singleton] at hx; rcases hx with ⟨y, _, rfl⟩ | rfl <;> rfl)), trivial⟩, i + 1, _, _, _, _, _, _, _, _, _, _, _, _, (by omega), (by omega), (by first | (exfalso; omega) | (rw [hG]; simp [gput, garr, hn7])), (by first | (exfalso; omega) | (rw [hG]; simp [gput, garr, hn8])), (by first | (exfalso; omega) | (rw [hG]; simp [gput, garr, hn0])), (by first | (exfalso; omega) | (first | (rw [hG]; exact he7) | (rw [hG, he7]; exact mapT_snoc (by subst htk; rfl)))), (by first | (exfalso; omega) | (first | (rw [hG]; exact he8) | (rw [hG, he8]; exact mapT_snoc (by subst hcs; rfl)))), (by first | (exfalso; omega) | (first | (rw [hG]; exact he0) | (rw [hG, he0]; exact mapT_snoc (by subst hcs; rfl)))), (by first | (exfalso; omega) | (first | (rw [hG]; exact hcs) | (rw [hG, hcs]; rfl))), (by first | (exfalso; omega) | (first | (rw [hG]; rfl) | (rw [hG]; exact hsn))), (by first | (exfalso; omega) | (rw [hG, htk]; rfl)), rfl, rfl⟩
              omega
            · try simp only [cl] at h13
              refine awp_seq ?_
              refine awp_rw rfl ?_
              refine faT tf47_1 ?_
              refine RW.store rfl rfl (eff_storeS (v := .t _) (ys := [_, _, _, _, _, _, _, _, _, _, _, _, _, _, _]) (els := [_]) (els' := [_]) rfl rfl ti3 rfl rfl rfl rfl rfl rfl rfl (Nat.le_of_ble_eq_true rfl) rfl rfl) ?_
              refine RW.nil ?_
              refine awp_rw rfl ?_
              refine mvT ?_
              refine mvT ?_
              refine RW.op rfl rfl (eff_quoE (r := (around (what[i]'hil) 1000000) / 15) rfl rfl rfl rfl (by decide) (quoN (by omega) (by decide))) ?_
              refine RW.op rfl rfl (eff_remE (r := ((around (what[i]'hil) 1000000) / 15) % 3) rfl rfl rfl rfl (by decide) (tmod_pos (by omega))) ?_
              refine mvT ?_
              refine RW.op rfl rfl (eff_quoE (r := (around (what[i]'hil) 1000000) / 45) rfl rfl rfl rfl (by decide) (quoN (by omega) (by decide))) ?_
              refine RW.op rfl rfl (eff_remE (r := ((around (what[i]'hil) 1000000) / 45) % 4) rfl rfl rfl rfl (by decide) (tmod_pos (by omega))) ?_
              refine mvT ?_
              refine RW.op rfl rfl (eff_quoE (r := (around (what[i]'hil) 1000000) / 180) rfl rfl rfl rfl (by decide) (quoN (by omega) (by decide))) ?_
              refine RW.op rfl rfl (eff_remE (r := ((around (what[i]'hil) 1000000) / 180) % 8) rfl rfl rfl rfl (by decide) (tmod_pos (by omega))) ?_
              refine RW.op rfl rfl (eff_buildT (ys := [_, _, _, _]) rfl rfl tz28 tg28 rfl) ?_
              refine faT tf47_4 ?_
              refine RW.store rfl rfl (eff_storeS (v := .t _) (ys := [_, _, _, _, _, _, _, _, _, _, _, _, _, _, _]) (els := [_]) (els' := [_]) rfl rfl ti28 rfl rfl rfl rfl rfl rfl rfl (Nat.le_of_ble_eq_true rfl) rfl rfl) ?_
              refine RW.nil ?_
              refine awp_seq ?_
              refine awp_rw rfl ?_
              refine mvO ?_
              refine RW.op rfl rfl (eff_load rfl rfl ti47 rfl (.whole rfl rfl rfl rfl rfl rfl)) ?_
              (refine RW.weak (weak_slot 120 (y := encC ⟨tk + (around (what[i]'hil) 1000000) % 3, 3, zf, zr, ⟨tk + (around (what[i]'hil) 1000000) % 3, (around (what[i]'hil) 1000000) / 15 % 3, (around (what[i]'hil) 1000000) / 45 % 4, (around (what[i]'hil) 1000000) / 180 % 8⟩⟩) rfl (by first | ((repeat' (first | exact trivial | exact Wk.refl _ | exact Wk.sl _ | refine And.intro ?_ ?_ | refine Wk.tupP ?_ | refine Wk.aggP ?_)); done) | fail)) rfl ?_)
              refine RW.new rfl rfl (eff_buildSliceL (id := 121) (els := [.t (.agg [_, _, _, _, _, _, _, _, _, _, _, _, _, _, _])]) rfl rfl te32 tz47 rfl (by decide) (by decide) rfl rfl rfl rfl) ?_
              refine RW.new rfl rfl (eff_append (id := 7) (ys := [_]) rfl rfl ta32 rfl rfl rfl (by rw [he7, hn7]; simp) rfl rfl (srcOwn rfl rfl rfl rfl rfl rfl) (by simp) (by simp; omega) (by simp; omega)) ?_
              refine asO ?_
              refine RW.nil ?_
              refine awp_rw rfl ?_
              refine mvO ?_
              refine RW.op rfl rfl (eff_load rfl rfl ti23 rfl (.whole rfl rfl rfl rfl rfl rfl)) ?_
              refine RW.new rfl rfl (eff_buildSliceL (id := 125) (els := [.t (.agg [_, _, _, _])]) rfl rfl te33 tz23 rfl (by decide) (by decide) rfl rfl rfl rfl) ?_
              refine RW.new rfl rfl (eff_append (id := 8) (ys := [_]) rfl rfl ta33 rfl rfl rfl (by rw [he8, hn8]; simp) rfl rfl (srcOwn rfl rfl rfl rfl rfl rfl) (by simp) (by simp; omega) (by simp; omega)) ?_
              refine asO ?_
              refine RW.nil ?_
              refine awp_rw rfl ?_
              refine mvT ?_
              refine RW.op rfl rfl (eff_iop rfl rfl rfl rfl (iadd (by omega))) ?_
              refine asT ?_
              refine RW.nil ?_
              have hG := gall_dec (F := (frames l 7)) hil rfl (by omega) hsn (by omega) (by omega) (by omega)
              refine ⟨_, ?_, _, weak_keep (n := 129) (fr' := [(1, .t (.sl (what.map encI) false)), (6, .t (.sl ((frames l 7).map encF) false)), (7, .own 7 _ 0 _), (8, .own 8 _ 0 _), (9, .ptr 9 0 0 0), (10, .own 20 _ 0 _), (11, .t (encI (_ : Nat))), (12, .t (encI _)), (13, .t (encI ((i + 1) : Nat)))]) (st' := [(7, some ⟨15, 47, _, _⟩), (8, some ⟨4, 23, _, _⟩), (9, some ⟨4, 23, 0, [.t (encR _)]⟩), (20, some ⟨4, 23, _, _⟩)]) ⟨rfl, rfl, rfl, rfl, rfl, rfl, rfl, rfl, rfl, rfl, rfl, rfl, rfl, rfl, rfl, rfl, rfl, rfl, trivial⟩ ⟨rfl, (by first | exact okE_nil | exact okE_one rfl | (rw [he7]; exact okE_t) | (rw [he7]; intro x hx; simp only [List.mem_append, List.mem_map, List.mem_singleton] at hx; rcases hx with ⟨y, _, rfl⟩ | rfl <;> rfl)), rfl, (by first | exact okE_nil | exact okE_one rfl | (rw [he8]; exact okE_t) | (rw [he8]; intro x hx; simp only [List.mem_append, List.mem_map, List.mem_singleton] at hx; rcases hx with ⟨y, _, rfl⟩ | rfl <;> rfl)), rfl, okE_one rfl, rfl, (by first | exact okE_nil | exact okE_one rfl | (rw [he0]; exact okE_t) | (rw [he0]; intro x hx; simp only [List.mem_append, List.mem_map, List.mem_singleton] at hx; rcases hx with ⟨y, _, rfl⟩ | rfl <;> rfl)), trivial⟩, i + 1, _, _, _, _, _, _, _, _, _, _, _, _, (by omega), (by omega), (by first | (exfalso; omega) | (rw [hG]; simp [gput, garr, hn7])), (by first | (exfalso; omega) | (rw [hG]; simp [gput, garr, hn8])), (by first | (exfalso; omega) | (rw [hG]; simp [gput, garr, hn0])), (by first | (exfalso; omega) | (first | (rw [hG]; exact he7) | (rw [hG, he7]; exact mapT_snoc (by subst htk; rfl)))), (by first | (exfalso; omega) | (first | (rw [hG]; exact he8) | (rw [hG, he8]; exact mapT_snoc (by subst hcs; rfl)))), (by first | (exfalso; omega) | (first | (rw [hG]; exact he0) | (rw [hG, he0]; exact mapT_snoc (by subst hcs; rfl)))), (by first | (exfalso; omega) | (first | (rw [hG]; exact hcs) | (rw [hG, hcs]; rfl))), (by first | (exfalso; omega) | (first | (rw [hG]; rfl) | (rw [hG]; exact hsn))), (by first | (exfalso; omega) | (rw [hG, htk]; rfl)), rfl, rfl⟩
              omega
      · try simp only [cl] at h3
        refine awp_exit ?_
        refine awp_seq ?_
        refine awp_rw rfl ?_
        refine mvO ?_
        refine mvO ?_
        refine asO ?_
        refine asO ?_
        refine RW.nil ?_
        refine awp_ret ?_
        have hst := gall_stop (F := (frames l 7)) hi h30 (by rintro ⟨a1, a2, a3⟩; omega)
        unfold ledger
        rw [hst]
        exact ⟨Or.inr rfl, [_, _], ⟨.tmp (Res.ownT (xs := (gall (frames l 7) what i).recs.map encC) rfl rfl he7 (by rw [hn7]; simp)), .tmp (Res.ownT (xs := (gall (frames l 7) what i).sts.map encR) rfl rfl he8 (by rw [hn8]; simp)), trivial⟩, .refl _⟩
    · try simp only [cl] at h2
      refine gkT ?_
      refine gkT ?_
      refine pkT ?_
      refine RW.nil ?_
      refine awp_cond rfl (fun h => nomatch h) (fun _ => ?_)
      refine awp_exit ?_
      refine awp_seq ?_
      refine awp_rw rfl ?_
      refine mvO ?_
      refine mvO ?_
      refine asO ?_
      refine asO ?_
      refine RW.nil ?_
      refine awp_ret ?_
      have hst := gall_stop (F := (frames l 7)) hi h30 (by rintro ⟨a1, a2, a3⟩; omega)
      unfold ledger
      rw [hst]
      exact ⟨Or.inr rfl, [_, _], ⟨.tmp (Res.ownT (xs := (gall (frames l 7) what i).recs.map encC) rfl rfl he7 (by rw [hn7]; simp)), .tmp (Res.ownT (xs := (gall (frames l 7) what i).sts.map encR) rfl rfl he8 (by rw [hn8]; simp)), trivial⟩, .refl _⟩
  · try simp only [cl] at h1
    refine gkT ?_
    refine gkT ?_
    refine gkT ?_
    refine pkT ?_
    refine mvT ?_
    refine gkT ?_
    refine gkT ?_
    refine pkT ?_
    refine RW.nil ?_
    refine awp_cond rfl (fun h => nomatch h) (fun _ => ?_)
    refine awp_exit ?_
    refine awp_seq ?_
    refine awp_rw rfl ?_
    refine mvO ?_
    refine mvO ?_
    refine asO ?_
    refine asO ?_
    refine RW.nil ?_
    refine awp_ret ?_
    have hst := gall_stop (F := (frames l 7)) hi h30 (by rintro ⟨a1, a2, a3⟩; omega)
    unfold ledger
    rw [hst]
    exact ⟨Or.inr rfl, [_, _], ⟨.tmp (Res.ownT (xs := (gall (frames l 7) what i).recs.map encC) rfl rfl he7 (by rw [hn7]; simp)), .tmp (Res.ownT (xs := (gall (frames l 7) what i).sts.map encR) rfl rfl he8 (by rw [hn8]; simp)), trivial⟩, .refl _⟩

end Go.Tv.C36

end
section
open Go Go.Tv Go.Proofs
namespace Go.Tv.C36
set_option maxRecDepth 20000
set_option maxHeartbeats 2000000
set_option linter.unusedSimpArgs false
set_option linter.unusedVariables false
theorem aroundK {n m : Int} {k : Nat} (hn : I64 n) (hm : 0 < m ∧ m ≤ 9223372036854775807) (h : around n m = (k : Int)) : Ret Tryd.prog 13 [encI n, encI m] (encI (k : Nat)) := by
  have := around_ret n m hn hm
  rwa [h] at this

theorem lives1 : RetT Tryd.prog 22 [(1, deT)] [.sl (late4.map encC) false, encD dAg] (.tup [encV zv, encI 0]) := by have h := judge_ret late4 dAg okLate; rw [livA] at h; exact h
theorem lives2 : RetT Tryd.prog 22 [(1, deT)] [.sl (late4.map encC) false, encD dTo] (.tup [encV ⟨false, ⟨1, 0, 1, false⟩⟩, encI 0]) := by have h := judge_ret late4 dTo okLate; rw [livB] at h; exact h
theorem lives3 : RetT Tryd.prog 22 [(1, deT)] [.sl (early4.map encC) false, encD dAg] (.tup [encV ⟨true, zr⟩, encI 0]) := by have h := judge_ret early4 dAg okEarly; rw [livC] at h; exact h
theorem lives4 : RetT Tryd.prog 19 [(1, deT)] [.sl (early4.map encC) false] (.tup [.sl ([2].map encN) false, encI 0]) := by have h := held_ret early4 okEarly; rw [livD] at h; exact h
theorem lives5 : Ret Tryd.prog 21 [.sl ([2].map encN) false, .sl ([2].map encN) false] (.bool true) := sameN_ret [2] (by decide)

theorem lives_ret  : RetT Tryd.prog 16 [(1, deT)] [] (.bool true) := by
  refine retT_of_awp Tryd.func16 rfl (Nat.le_of_ble_eq_true rfl) ?_
  refine awp_seq ?_
  refine awp_rw rfl ?_
  refine asT ?_
  refine RW.nil ?_
  refine awp_seq ?_
  refine awp_rw rfl ?_
  refine RW.op rfl rfl (eff_buildT (ys := [_, _, _, _, _, _, _, _, _, _, _, _, _, _, _]) rfl rfl tz47 tg47 rfl) ?_
  refine RW.new rfl rfl (eff_allocK (k := 15) (id := 1) rfl rfl tz47 rfl rfl) ?_
  refine RW.store rfl rfl (eff_storeW (v := .t _) (els := [_]) (els' := [_]) rfl rfl ti47 rfl rfl rfl rfl rfl rfl rfl rfl rfl) ?_
  refine RW.nil ?_
  refine awp_seq ?_
  refine awp_rw rfl ?_
  refine RW.op rfl rfl (eff_buildT (ys := [_, _, _, _]) rfl rfl tz23 tg23 rfl) ?_
  refine RW.op rfl rfl (eff_buildT (ys := [_, _, _, _, _, _, _, _, _, _, _, _, _, _, _]) rfl rfl tz47 tg47 rfl) ?_
  refine RW.new rfl rfl (eff_allocK (k := 15) (id := 2) rfl rfl tz47 rfl rfl) ?_
  refine RW.store rfl rfl (eff_storeW (v := .t _) (els := [_]) (els' := [_]) rfl rfl ti47 rfl rfl rfl rfl rfl rfl rfl rfl rfl) ?_
  refine RW.nil ?_
  refine awp_seq ?_
  refine awp_rw rfl ?_
  refine RW.op rfl rfl (eff_buildT (ys := [_, _, _, _]) rfl rfl tz28 tg28 rfl) ?_
  refine RW.new rfl rfl (eff_allocK (k := 4) (id := 3) rfl rfl tz28 rfl rfl) ?_
  refine RW.store rfl rfl (eff_storeW (v := .t _) (els := [_]) (els' := [_]) rfl rfl ti28 rfl rfl rfl rfl rfl rfl rfl rfl rfl) ?_
  refine RW.nil ?_
  refine awp_seq ?_
  refine awp_rw rfl ?_
  refine RW.op rfl rfl (eff_buildT (ys := [_, _, _, _]) rfl rfl tz28 tg28 rfl) ?_
  refine RW.new rfl rfl (eff_allocK (k := 4) (id := 4) rfl rfl tz28 rfl rfl) ?_
  refine RW.store rfl rfl (eff_storeW (v := .t _) (els := [_]) (els' := [_]) rfl rfl ti28 rfl rfl rfl rfl rfl rfl rfl rfl rfl) ?_
  refine RW.nil ?_
  refine awp_seq ?_
  refine awp_rw rfl ?_
  refine RW.op rfl rfl (eff_load rfl rfl ti28 rfl (.whole rfl rfl rfl rfl rfl rfl)) ?_
  refine RW.op rfl rfl (eff_buildT (ys := [_, _, _, _, _, _, _, _, _, _, _, _, _, _, _]) rfl rfl tz47 tg47 rfl) ?_
  refine RW.new rfl rfl (eff_allocK (k := 15) (id := 5) rfl rfl tz47 rfl rfl) ?_
  refine RW.store rfl rfl (eff_storeW (v := .t _) (els := [_]) (els' := [_]) rfl rfl ti47 rfl rfl rfl rfl rfl rfl rfl rfl rfl) ?_
  refine RW.nil ?_
  refine awp_seq ?_
  refine awp_rw rfl ?_
  refine RW.op rfl rfl (eff_load rfl rfl ti28 rfl (.whole rfl rfl rfl rfl rfl rfl)) ?_
  refine RW.op rfl rfl (eff_buildT (ys := [_, _, _, _, _, _, _, _, _, _, _, _, _, _, _]) rfl rfl tz47 tg47 rfl) ?_
  refine RW.new rfl rfl (eff_allocK (k := 15) (id := 6) rfl rfl tz47 rfl rfl) ?_
  refine RW.store rfl rfl (eff_storeW (v := .t _) (els := [_]) (els' := [_]) rfl rfl ti47 rfl rfl rfl rfl rfl rfl rfl rfl rfl) ?_
  refine RW.nil ?_
  refine awp_seq ?_
  refine awp_rw rfl ?_
  refine RW.op rfl rfl (eff_load rfl rfl ti47 rfl (.whole rfl rfl rfl rfl rfl rfl)) ?_
  refine RW.op rfl rfl (eff_load rfl rfl ti47 rfl (.whole rfl rfl rfl rfl rfl rfl)) ?_
  refine RW.op rfl rfl (eff_load rfl rfl ti47 rfl (.whole rfl rfl rfl rfl rfl rfl)) ?_
  refine RW.op rfl rfl (eff_load rfl rfl ti47 rfl (.whole rfl rfl rfl rfl rfl rfl)) ?_
  refine RW.weak (weak_slot 26 (y := encC rSe) rfl (by first | ((repeat' (first | exact trivial | exact Wk.refl _ | exact Wk.sl _ | refine And.intro ?_ ?_ | refine Wk.tupP ?_ | refine Wk.aggP ?_)); done) | fail)) rfl ?_
  refine RW.weak (weak_slot 27 (y := encC rX) rfl (by first | ((repeat' (first | exact trivial | exact Wk.refl _ | exact Wk.sl _ | refine And.intro ?_ ?_ | refine Wk.tupP ?_ | refine Wk.aggP ?_)); done) | fail)) rfl ?_
  refine RW.weak (weak_slot 28 (y := encC rY) rfl (by first | ((repeat' (first | exact trivial | exact Wk.refl _ | exact Wk.sl _ | refine And.intro ?_ ?_ | refine Wk.tupP ?_ | refine Wk.aggP ?_)); done) | fail)) rfl ?_
  refine RW.weak (weak_slot 29 (y := encC rHe) rfl (by first | ((repeat' (first | exact trivial | exact Wk.refl _ | exact Wk.sl _ | refine And.intro ?_ ?_ | refine Wk.tupP ?_ | refine Wk.aggP ?_)); done) | fail)) rfl ?_
  refine RW.new rfl rfl (eff_buildSliceL (id := 30) (els := [.t (.agg [_, _, _, _, _, _, _, _, _, _, _, _, _, _, _]), .t (.agg [_, _, _, _, _, _, _, _, _, _, _, _, _, _, _]), .t (.agg [_, _, _, _, _, _, _, _, _, _, _, _, _, _, _]), .t (.agg [_, _, _, _, _, _, _, _, _, _, _, _, _, _, _])]) rfl rfl te32 tz47 rfl (by decide) (by decide) rfl rfl rfl rfl) ?_
  refine asO ?_
  refine RW.nil ?_
  refine awp_seq ?_
  refine awp_rw rfl ?_
  refine RW.op rfl rfl (eff_load rfl rfl ti47 rfl (.whole rfl rfl rfl rfl rfl rfl)) ?_
  refine RW.op rfl rfl (eff_load rfl rfl ti47 rfl (.whole rfl rfl rfl rfl rfl rfl)) ?_
  refine RW.op rfl rfl (eff_load rfl rfl ti47 rfl (.whole rfl rfl rfl rfl rfl rfl)) ?_
  refine RW.op rfl rfl (eff_load rfl rfl ti47 rfl (.whole rfl rfl rfl rfl rfl rfl)) ?_
  refine RW.weak (weak_slot 31 (y := encC rSe) rfl (by first | ((repeat' (first | exact trivial | exact Wk.refl _ | exact Wk.sl _ | refine And.intro ?_ ?_ | refine Wk.tupP ?_ | refine Wk.aggP ?_)); done) | fail)) rfl ?_
  refine RW.weak (weak_slot 32 (y := encC rHe) rfl (by first | ((repeat' (first | exact trivial | exact Wk.refl _ | exact Wk.sl _ | refine And.intro ?_ ?_ | refine Wk.tupP ?_ | refine Wk.aggP ?_)); done) | fail)) rfl ?_
  refine RW.weak (weak_slot 33 (y := encC rX) rfl (by first | ((repeat' (first | exact trivial | exact Wk.refl _ | exact Wk.sl _ | refine And.intro ?_ ?_ | refine Wk.tupP ?_ | refine Wk.aggP ?_)); done) | fail)) rfl ?_
  refine RW.weak (weak_slot 34 (y := encC rY) rfl (by first | ((repeat' (first | exact trivial | exact Wk.refl _ | exact Wk.sl _ | refine And.intro ?_ ?_ | refine Wk.tupP ?_ | refine Wk.aggP ?_)); done) | fail)) rfl ?_
  refine RW.new rfl rfl (eff_buildSliceL (id := 35) (els := [.t (.agg [_, _, _, _, _, _, _, _, _, _, _, _, _, _, _]), .t (.agg [_, _, _, _, _, _, _, _, _, _, _, _, _, _, _]), .t (.agg [_, _, _, _, _, _, _, _, _, _, _, _, _, _, _]), .t (.agg [_, _, _, _, _, _, _, _, _, _, _, _, _, _, _])]) rfl rfl te32 tz47 rfl (by decide) (by decide) rfl rfl rfl rfl) ?_
  refine asO ?_
  refine RW.nil ?_
  refine awp_seq ?_
  refine awp_weak (weak_frz (n := 93) (fr' := [(3, .ptr 3 0 0 0), (4, .ptr 4 0 0 0), (7, .t (.sl (late4.map encC) false)), (8, .t (.sl (early4.map encC) false)), (94, .t deT)]) (st' := [(3, some ⟨4, 28, 0, [.t (encD dAg)]⟩), (4, some ⟨4, 28, 0, [.t (encD dTo)]⟩)]) [(30, some ⟨15, 47, 0, (late4.map encC).map .t⟩), (35, some ⟨15, 47, 0, (early4.map encC).map .t⟩)] ⟨rfl, rfl, trivial⟩ ⟨rfl, rfl, trivial⟩ ⟨wa_eq rfl rfl, wa_eq rfl rfl, .res (Res.ownT (xs := late4.map encC) rfl rfl rfl rfl) (.refl _), .res (Res.ownT (xs := early4.map encC) rfl rfl rfl rfl) (.refl _), wa_eq rfl rfl, trivial⟩ ⟨rfl, okE_one rfl, rfl, okE_one rfl, trivial⟩) ?_
  refine awp_rw rfl ?_
  refine mvT ?_
  refine RW.op rfl rfl (eff_load rfl rfl ti28 rfl (.whole rfl rfl rfl rfl rfl rfl)) ?_
  refine RW.op rfl rfl (eff_callXT (lives1) co22 rfl rfl rfl ⟨rfl, trivial⟩ rfl) ?_
  refine mvT ?_
  refine RW.op rfl rfl (eff_extract rfl rfl rfl rfl) ?_
  refine RW.op rfl rfl (eff_extract rfl rfl rfl rfl) ?_
  refine RW.new rfl rfl (eff_allocK (k := 5) (id := 9) rfl rfl tz49 rfl rfl) ?_
  refine RW.store rfl rfl (eff_storeW (v := .t _) (els := [_]) (els' := [_]) rfl rfl ti49 rfl rfl rfl rfl rfl rfl rfl rfl rfl) ?_
  refine asT ?_
  refine RW.nil ?_
  refine awp_seq ?_
  refine awp_rw rfl ?_
  refine mvT ?_
  refine RW.op rfl rfl (eff_load rfl rfl ti28 rfl (.whole rfl rfl rfl rfl rfl rfl)) ?_
  refine RW.op rfl rfl (eff_callXT (lives2) co22 rfl rfl rfl ⟨rfl, trivial⟩ rfl) ?_
  refine mvT ?_
  refine RW.op rfl rfl (eff_extract rfl rfl rfl rfl) ?_
  refine RW.op rfl rfl (eff_extract rfl rfl rfl rfl) ?_
  refine RW.new rfl rfl (eff_allocK (k := 5) (id := 11) rfl rfl tz49 rfl rfl) ?_
  refine RW.store rfl rfl (eff_storeW (v := .t _) (els := [_]) (els' := [_]) rfl rfl ti49 rfl rfl rfl rfl rfl rfl rfl rfl rfl) ?_
  refine asT ?_
  refine RW.nil ?_
  refine awp_seq ?_
  refine awp_rw rfl ?_
  refine mvT ?_
  refine RW.op rfl rfl (eff_load rfl rfl ti28 rfl (.whole rfl rfl rfl rfl rfl rfl)) ?_
  refine RW.op rfl rfl (eff_callXT (lives3) co22 rfl rfl rfl ⟨rfl, trivial⟩ rfl) ?_
  refine mvT ?_
  refine RW.op rfl rfl (eff_extract rfl rfl rfl rfl) ?_
  refine RW.op rfl rfl (eff_extract rfl rfl rfl rfl) ?_
  refine RW.new rfl rfl (eff_allocK (k := 5) (id := 13) rfl rfl tz49 rfl rfl) ?_
  refine RW.store rfl rfl (eff_storeW (v := .t _) (els := [_]) (els' := [_]) rfl rfl ti49 rfl rfl rfl rfl rfl rfl rfl rfl rfl) ?_
  refine asT ?_
  refine RW.nil ?_
  refine awp_seq ?_
  refine awp_rw rfl ?_
  refine mvT ?_
  refine RW.op rfl rfl (eff_callXT (lives4) co19 rfl rfl rfl ⟨rfl, trivial⟩ rfl) ?_
  refine mvT ?_
  refine RW.op rfl rfl (eff_extract rfl rfl rfl rfl) ?_
  refine RW.op rfl rfl (eff_extract rfl rfl rfl rfl) ?_
  refine asT ?_
  refine asT ?_
  refine RW.nil ?_
  refine awp_seq ?_
  refine awp_seq ?_
  refine awp_rw rfl ?_
  refine mvT ?_
  refine RW.op rfl rfl (eff_iop (r := .bool false) rfl rfl rfl rfl (by rfl)) ?_
  refine mvT ?_
  refine RW.gop rfl rfl rfl rfl rfl rfl (eff_move (v := .t _) rfl rfl rfl) ?_
  refine RW.gop rfl rfl rfl rfl rfl rfl (eff_iop (r := .bool false) rfl rfl rfl rfl (by rfl)) ?_
  refine pkT ?_
  refine mvT ?_
  refine RW.gop rfl rfl rfl rfl rfl rfl (eff_move (v := .t _) rfl rfl rfl) ?_
  refine RW.gop rfl rfl rfl rfl rfl rfl (eff_iop (r := .bool false) rfl rfl rfl rfl (by rfl)) ?_
  refine pkT ?_
  refine mvT ?_
  refine RW.gop rfl rfl rfl rfl rfl rfl (eff_move (v := .t _) rfl rfl rfl) ?_
  refine RW.gop rfl rfl rfl rfl rfl rfl (eff_iop (r := .bool false) rfl rfl rfl rfl (by rfl)) ?_
  refine pkT ?_
  refine mvT ?_
  refine RW.gop rfl rfl rfl rfl rfl rfl (eff_move (v := .t _) rfl rfl rfl) ?_
  refine RW.gop rfl rfl rfl rfl rfl rfl (eff_buildSliceT (xs := [2].map encN) rfl rfl te26 tz3 rfl (by decide) rfl rfl rfl (by decide)) ?_
  refine RW.gop rfl rfl rfl rfl rfl rfl (eff_callW (xs := [_, _]) (lives5) co21 rfl rfl rfl rfl (by repeat' first | exact trivial | exact Wk.refl _ | exact Wk.sl _ | refine And.intro ?_ ?_ | refine Wk.aggP ?_)) ?_
  refine RW.gop rfl rfl rfl rfl rfl rfl (eff_unop rfl rfl rfl rfl) ?_
  refine pkT ?_
  refine RW.nil ?_
  refine awp_cond rfl (fun h => nomatch h) (fun _ => ?_)
  refine awp_skip ?_
  refine awp_seq ?_
  refine awp_rw rfl ?_
  refine RW.op rfl rfl (eff_load rfl rfl ti49 rfl (.whole rfl rfl rfl rfl rfl rfl)) ?_
  refine RW.op rfl rfl (eff_buildT (ys := [_, _, _, _, _]) rfl rfl tz49 tg49 rfl) ?_
  refine RW.op rfl rfl (eff_structEqlAB (cells := cellsV) (a := zv) (b := zv) (r := true) rfl rfl ts49s ti49 th49 cellsV_inj cellsV_kind rfl rfl (by decide)) ?_
  refine mvT ?_
  refine RW.gop rfl rfl rfl rfl rfl rfl (eff_load rfl rfl ti49 rfl (.whole rfl rfl rfl rfl rfl rfl)) ?_
  refine RW.gop rfl rfl rfl rfl rfl rfl (eff_buildT (ys := [_, _, _, _]) rfl rfl tz23 tg23 rfl) ?_
  refine RW.gop rfl rfl rfl rfl rfl rfl (eff_buildT (ys := [_, _, _, _, _]) rfl rfl tz49 tg49 rfl) ?_
  refine RW.gop rfl rfl rfl rfl rfl rfl (eff_structEqlAB (cells := cellsV) (a := ⟨false, ⟨1, 0, 1, false⟩⟩) (b := ⟨false, ⟨1, 0, 1, false⟩⟩) (r := true) rfl rfl ts49s ti49 th49 cellsV_inj cellsV_kind rfl rfl (by decide)) ?_
  refine pkT ?_
  refine mvT ?_
  refine RW.gop rfl rfl rfl rfl rfl rfl (eff_load rfl rfl ti49 rfl (.whole rfl rfl rfl rfl rfl rfl)) ?_
  refine RW.gop rfl rfl rfl rfl rfl rfl (eff_buildT (ys := [_, _, _, _, _]) rfl rfl tz49 tg49 rfl) ?_
  refine RW.gop rfl rfl rfl rfl rfl rfl (eff_structEqlAB (cells := cellsV) (a := ⟨true, zr⟩) (b := ⟨true, zr⟩) (r := true) rfl rfl ts49s ti49 th49 cellsV_inj cellsV_kind rfl rfl (by decide)) ?_
  refine pkT ?_
  refine asT ?_
  refine RW.nil ?_
  refine awp_ret ?_
  exact ⟨Or.inr rfl, [_], ⟨.tmp (.t _), trivial⟩, .refl _⟩

end Go.Tv.C36

end
section
open Go Go.Tv Go.Proofs
namespace Go.Tv.C36
set_option maxRecDepth 20000
set_option maxHeartbeats 2000000
set_option linter.unusedSimpArgs false
set_option linter.unusedVariables false
theorem held_len {l : List Rcd} : (held l).1.length ≤ l.length := by
  by_cases h : (allOf l).2 = 0
  · rw [held_ok h]; exact heldTo_len _ _
  · rw [held_bad (all_zt h) h]; exact Nat.zero_le _
end Go.Tv.C36

end
section
open Go Go.Tv Go.Proofs
namespace Go.Tv.C36

/-! ### Fair judgement -/
theorem held_mem {l : List Rcd} (h : (allOf l).2 = 0) {n : Nat} (hn : n ∈ (held l).1) : n < l.length ∧ heldAt l n = true := by
  rw [held_ok h] at hn
  have := List.mem_filter.1 hn
  exact ⟨List.mem_range.1 this.1, this.2⟩
theorem heldAt_spec {l : List Rcd} {n : Nat} (hn : n < l.length) : heldAt l n = true ↔ (l[n]).kind = 3 ∧ ∀ s, s ∈ (runTo l n).1.poss → rightD (l[n]).dec s (sentN (l.take n)) = false := by
  rw [heldAt_at hn, Bool.and_eq_true, decide_eq_true_eq, List.isEmpty_iff]
  unfold rightsAt rights
  rw [List.filter_eq_nil_iff]
  exact ⟨fun ⟨h1, h2⟩ => ⟨h1, fun s hs => by simpa using h2 s hs⟩, fun ⟨h1, h2⟩ => ⟨h1, fun s hs => by rw [h2 s hs]; decide⟩⟩
/-! ### Confirming -/
/-! ### Prefixes -/
theorem heldAt_take {l : List Rcd} {n k : Nat} (h : n < k) : heldAt (l.take k) n = heldAt l n := by
  unfold heldAt rightsAt
  have e : (l.take k).getD n zc = l.getD n zc := by simp [List.getD_eq_getElem?_getD, h]
  rw [e, runTo_take n (by omega), List.take_take, Nat.min_eq_left (by omega)]
structure Pre (A B : List Nat) (k : Nat) : Prop where
  le : B.length ≤ A.length
  eq : ∀ i (ha : i < A.length) (hb : i < B.length), B[i] = A[i]
  lt : ∀ i (ha : i < A.length), A[i] < k ↔ i < B.length
end Go.Tv.C36

end
section
open Go Go.Tv Go.Proofs
namespace Go.Tv.C36

theorem nodup_sub_len {α : Type} [DecidableEq α] : ∀ (l m : List α), l.Nodup → (∀ x, x ∈ l → x ∈ m) → l.length ≤ m.length
  | [], _, _, _ => Nat.zero_le _
  | a :: l, m, hn, hs => by
    obtain ⟨h1, h2⟩ := List.nodup_cons.1 hn
    have ha := hs a List.mem_cons_self
    have := nodup_sub_len l (m.erase a) h2 (fun x hx => (List.mem_erase_of_ne (fun e => h1 (by rw [← e]; exact hx))).2 (hs x (List.mem_cons_of_mem _ hx)))
    rw [List.length_erase_of_mem ha] at this
    have := List.length_pos_of_mem ha
    simp only [List.length_cons]; omega

theorem sentF_mono {l : List Rcd} {p x : Rep} {i : Nat} : ∀ j, i ≤ j → x ∈ reachF p (sentF (l.take i)) → x ∈ reachF p (sentF (l.take j))
  | 0, h, hx => by obtain rfl : i = 0 := by omega
                   exact hx
  | j + 1, h, hx => by
    rcases Nat.lt_or_ge j i with h1 | h1
    · obtain rfl : i = j + 1 := by omega
      exact hx
    · have ih := sentF_mono j h1 hx
      rcases Nat.lt_or_ge j l.length with h2 | h2
      · rw [sentF_succ h2]
        split
        · exact reach_cases.2 (.inl ih)
        · rw [List.append_nil]; exact ih
      · rw [List.take_of_length_le (by omega)]
        rw [List.take_of_length_le h2] at ih
        exact ih
theorem Led.reach {l sts} (h : Led l sts) {q : Nat} : ∀ k, q ≤ k → k < l.length → sts.getD k zr ∈ reachF (sts.getD q zr) (sentF (l.take k))
  | 0, hq, _ => by obtain rfl : q = 0 := by omega
                   exact reach_self _ _
  | k + 1, hq, hk => by
    rcases Nat.lt_or_ge k q with h1 | h1
    · obtain rfl : q = k + 1 := by omega
      exact reach_self _ _
    · exact reach_trans (h.incT _) (h.kbT _) _ _ _ (sentF_mono (k + 1) (by omega) (h.reach k h1 (by omega))) (h.nxt k hk)

/-- A ledger with one record more. -/
def moreL (l : List Rcd) (k : Nat) (r : Rcd) : List Rcd := l.take k ++ r :: l.drop k
section
variable {l : List Rcd} {k : Nat} {r : Rcd}
theorem more_len (hk : k ≤ l.length) : (moreL l k r).length = l.length + 1 := by unfold moreL; simp; omega
theorem more_lt (hk : k ≤ l.length) {j : Nat} (hj : j < k) : (moreL l k r).getD j zc = l.getD j zc := by
  unfold moreL
  rw [List.getD_eq_getElem?_getD, List.getElem?_append_left (by simp; omega), List.getElem?_take, if_pos hj, List.getD_eq_getElem?_getD]
theorem more_eq (hk : k ≤ l.length) : (moreL l k r).getD k zc = r := by
  unfold moreL
  rw [List.getD_eq_getElem?_getD, List.getElem?_append_right (by simp; omega)]
  simp [Nat.min_eq_left hk]
theorem more_gt (hk : k ≤ l.length) {j : Nat} (hj : k ≤ j) : (moreL l k r).getD (j + 1) zc = l.getD j zc := by
  unfold moreL
  rw [List.getD_eq_getElem?_getD, List.getElem?_append_right (by simp; omega), List.length_take, Nat.min_eq_left hk, show j + 1 - k = (j - k) + 1 from by omega, List.getElem?_cons_succ, List.getElem?_drop, List.getD_eq_getElem?_getD,
    show k + (j - k) = j from by omega]
theorem more_take (hk : k ≤ l.length) : (moreL l k r).take k = l.take k := by
  unfold moreL
  rw [List.take_append_of_le_length (by simp; omega), List.take_of_length_le (by simp; omega)]
theorem more_take2 (hk : k ≤ l.length) {j : Nat} (hj : k ≤ j) : (moreL l k r).take (j + 1) = moreL (l.take j) k r := by
  unfold moreL
  rw [List.take_append, List.take_of_length_le (by simp; omega), List.length_take, Nat.min_eq_left hk, show j + 1 - k = (j - k) + 1 from by omega, List.take_succ_cons, List.take_take, Nat.min_eq_left hj, List.drop_take]
theorem more_run (hk : k ≤ l.length) {j : Nat} (hj : j ≤ k) : runTo (moreL l k r) j = runTo l j := by
  rw [← runTo_take (l := moreL l k r) (n := k) j hj, more_take hk, runTo_take j hj]
theorem sentF_more (hr : r.kind ≠ 1) : sentF (moreL l k r) = sentF l := by
  unfold moreL sentF
  rw [List.filter_append, List.filter_cons, if_neg (by simpa using hr), ← List.filter_append, List.take_append_drop]
theorem sentN_more (hr : r.kind ≠ 1) : sentN (moreL l k r) = sentN l := by
  unfold moreL sentN
  rw [List.foldl_append, List.foldl_cons, show ∀ n, sentS n r = n from fun n => by unfold sentS; rw [if_neg (fun h => hr h.1)], ← List.foldl_append, List.take_append_drop]
end

theorem formR_mono {p p' : Int} {r : Rcd} (h : formR p r = 0) (hp : p' ≤ r.tick) : formR p' r = 0 := by
  unfold formR at h ⊢
  by_cases h1 : r.kind < 1 ∨ 3 < r.kind
  · rw [if_pos h1] at h; exact absurd h (by decide)
  · rw [if_neg h1] at h ⊢
    by_cases h2 : r.tick < 0 ∨ 1000000 < r.tick
    · rw [if_pos h2] at h; exact absurd h (by decide)
    · rw [if_neg h2] at h ⊢
      rw [if_neg (show ¬ r.tick < p' by omega)]
      by_cases h3 : r.tick < p
      · rw [if_pos h3] at h; exact absurd h (by decide)
      · rw [if_neg h3] at h; exact h
theorem formR_le {p : Int} {r : Rcd} (h : formR p r = 0) : p ≤ r.tick ∧ 0 ≤ r.tick ∧ r.tick ≤ 1000000 := by
  unfold formR at h
  by_cases h1 : r.kind < 1 ∨ 3 < r.kind
  · rw [if_pos h1] at h; exact absurd h (by decide)
  · rw [if_neg h1] at h
    by_cases h2 : r.tick < 0 ∨ 1000000 < r.tick
    · rw [if_pos h2] at h; exact absurd h (by decide)
    · rw [if_neg h2] at h
      by_cases h3 : r.tick < p
      · rw [if_pos h3] at h; exact absurd h (by decide)
      · omega

/-- The run with the further report, beside the run without. -/
structure Beside (T' T : Twn) : Prop where
  sent : T'.sent = T.sent
  sub : ∀ x, x ∈ T'.poss → x ∈ T.poss
  srt : Srt T'.poss
theorem beside_send {T' T : Twn} {f : Frm} (h : Beside T' T) (hs : (send T f).2 = 0) : (send T' f).2 = 0 ∧ Beside (send T' f).1 (send T f).1 := by
  have hsub : ∀ x, x ∈ stepF T'.poss f → x ∈ stepF T.poss f := by
    intro x hx
    rcases stepF_mem.1 hx with h1 | ⟨z, hz, rfl⟩
    · exact stepF_mem.2 (.inl (h.sub x h1))
    · exact stepF_mem.2 (.inr ⟨z, h.sub z hz, rfl⟩)
  have hlen := nodup_sub_len _ _ (srt_nodup (srt_stepF (f := f) h.srt)) hsub
  obtain ⟨e1, e2⟩ := send_inv hs
  have h0 : (send T' f).2 = 0 := by
    unfold send at hs ⊢
    rw [h.sent]
    split
    · rename_i hc; rw [if_pos hc] at hs; exact absurd hs (by decide)
    · rename_i hc
      rw [if_neg hc] at hs
      split
      · rename_i hd
        rw [if_pos (by omega)] at hs; exact absurd hs (by decide)
      · rfl
  obtain ⟨e3, e4⟩ := send_inv h0
  exact ⟨h0, ⟨by rw [e1, e3, h.sent], by rw [e2, e4]; exact hsub, by rw [e4]; exact srt_stepF h.srt⟩⟩
theorem beside_hear {T' T : Twn} {r : Rep} (h : Beside T' T) (h0 : (hear T' r).2 = 0) (hs : (hear T r).2 = 0) : Beside (hear T' r).1 (hear T r).1 := by
  obtain ⟨e1, e2⟩ := hear_inv hs
  obtain ⟨e3, e4⟩ := hear_inv h0
  refine ⟨by rw [e1, e3, h.sent], ?_, ?_⟩
  · rw [e2, e4]
    intro x hx
    unfold left_ at hx ⊢
    rw [h.sent] at hx
    obtain ⟨a, b⟩ := List.mem_filter.1 hx
    exact List.mem_filter.2 ⟨h.sub x a, b⟩
  · rw [e4]; exact h.srt.filter _

theorem Led.more {l sts} (h : Led l sts) (hal : (allOf l).2 = 0) {k q : Nat} (hk : k < l.length) (hq : q ≤ k) {r : Rcd} (hrk : r.kind = 2) (hrt : r.tick = (l.getD k zc).tick) (hrr : r.rep = sts.getD q zr) :
    ∀ j, k ≤ j → j ≤ l.length → (runTo (moreL l k r) (j + 1)).2 = 0 ∧ Beside (runTo (moreL l k r) (j + 1)).1 (runTo l j).1 ∧ (j < l.length → Inv (runTo (moreL l k r) (j + 1)).1 (sts.getD j zr)) := by
  have hkl : k ≤ l.length := by omega
  have base : (runTo (moreL l k r) (k + 1)).2 = 0 ∧ Beside (runTo (moreL l k r) (k + 1)).1 (runTo l k).1 ∧ (k < l.length → Inv (runTo (moreL l k r) (k + 1)).1 (sts.getD k zr)) := by
    have hok := run_ok hal hkl
    have hfl := h.form k hk
    have hfm : C36.form (moreL l k r) k = 0 := by
      unfold C36.form at hfl ⊢
      rw [more_eq hkl]
      have hp : prevT (moreL l k r) k = prevT l k := by
        unfold prevT
        split
        · rfl
        · rw [more_lt hkl (by omega)]
      rw [hp]
      obtain ⟨a, b, c⟩ := formR_le hfl
      exact formR_ok (.inr hrk) (by omega) (by omega)
    have hsn := run_sent k hkl hok
    obtain ⟨h0, hi⟩ := inv_hear (r := r.rep) (h.truth k hk hok) (by rw [hsn]; exact h.incT k) (by rw [hsn]; exact h.kbT k) (by rw [hsn, hrr]; exact h.reach k hq hk)
    have e : nextT (runTo (moreL l k r) k).1 ((moreL l k r).getD k zc) = hear (runTo l k).1 r.rep := by
      rw [more_eq hkl, more_run hkl (Nat.le_refl _)]
      unfold nextT; rw [if_neg (by omega), if_pos hrk]
    have hr := run_on (l := moreL l k r) (i := k) (by rw [more_run hkl (Nat.le_refl _)]; exact hok) hfm (by rw [e]; exact h0)
    rw [e] at hr
    rw [hr]
    refine ⟨rfl, ?_, fun _ => hi⟩
    obtain ⟨e1, e2⟩ := hear_inv h0
    have hfit := runTo_fit12 h.okl hkl hok
    refine ⟨e1, ?_, ?_⟩
    · show ∀ x, x ∈ (hear _ _).1.poss → _
      rw [e2]; exact fun x hx => (List.mem_filter.1 hx).1
    · show Srt (hear _ _).1.poss
      rw [e2]; exact hfit.srt.filter _
  intro j hkj
  induction j with
  | zero =>
    intro _
    obtain rfl : k = 0 := by omega
    exact base
  | succ j ih =>
    intro hjl
    rcases Nat.lt_or_ge j k with h1 | h1
    · obtain rfl : k = j + 1 := by omega
      exact base
    · obtain ⟨i1, i2, i3⟩ := ih h1 (by omega)
      have hjlt : j < l.length := by omega
      have i3 := i3 hjlt
      have hokl := run_ok hal (show j + 1 ≤ l.length by omega)
      obtain ⟨a0, a1, a2, a3⟩ := run_inv hokl
      have hg : (moreL l k r).getD (j + 1) zc = l.getD j zc := more_gt hkl h1
      have hfm : C36.form (moreL l k r) (j + 1) = 0 := by
        unfold C36.form at a1 ⊢
        rw [hg]
        obtain ⟨b1, b2, b3⟩ := formR_le a1
        refine formR_mono a1 ?_
        unfold prevT
        rw [if_neg (by omega), Nat.add_sub_cancel]
        rcases Nat.lt_or_ge k j with h2 | h2
        · rw [show j = (j - 1) + 1 from by omega, more_gt hkl (by omega)]
          unfold prevT at b1
          rw [if_neg (by omega)] at b1
          rw [show (j - 1) + 1 = j from by omega]
          exact b1
        · obtain rfl : j = k := by omega
          rw [more_eq hkl, hrt]; exact Int.le_refl _
      have hsn0 := run_sent j (by omega) a0
      have hsn := run_sent (j + 1) hjl hokl
      have key : (nextT (runTo (moreL l k r) (j + 1)).1 (l.getD j zc)).2 = 0 ∧ Beside (nextT (runTo (moreL l k r) (j + 1)).1 (l.getD j zc)).1 (nextT (runTo l j).1 (l.getD j zc)).1 ∧ Inv (nextT (runTo (moreL l k r) (j + 1)).1 (l.getD j zc)).1 (sts.getD j zr) := by
        unfold nextT at a2 ⊢
        split
        · rename_i hk1
          rw [if_pos hk1] at a2
          obtain ⟨c1, c2⟩ := beside_send i2 a2
          exact ⟨c1, c2, inv_send i3 c1⟩
        · rename_i hk1
          rw [if_neg hk1] at a2
          split
          · rename_i hk2
            rw [if_pos hk2] at a2
            have hs' : (runTo (moreL l k r) (j + 1)).1.sent = sentF (l.take j) := by rw [i2.sent, hsn0]
            obtain ⟨c1, c2⟩ := inv_hear (r := (l.getD j zc).rep) i3 (by rw [hs']; exact h.incT j) (by rw [hs']; exact h.kbT j) (by rw [hs']; exact h.heard j hjlt hk2)
            exact ⟨c1, beside_hear i2 c1 a2, c2⟩
          · exact ⟨rfl, i2, i3⟩
      have hr := run_on (l := moreL l k r) (i := j + 1) i1 hfm (by rw [hg]; exact key.1)
      rw [hg] at hr
      rw [hr, a3]
      refine ⟨rfl, key.2.1, fun hlt => ?_⟩
      have hs2 : (nextT (runTo (moreL l k r) (j + 1)).1 (l.getD j zc)).1.sent = sentF (l.take (j + 1)) := by
        rw [key.2.1.sent, ← hsn, a3]
      exact inv_arrive key.2.2 (by rw [hs2]; exact h.incT _) (by rw [hs2]; exact h.kbT _) (by rw [hs2]; exact h.nxt j hlt)

theorem Led.learns {l sts} (h : Led l sts) (hal : (allOf l).2 = 0) {k q : Nat} (hk : k < l.length) (hq : q ≤ k) {r : Rcd} (hrk : r.kind = 2) (hrt : r.tick = (l.getD k zc).tick) (hrr : r.rep = sts.getD q zr) :
    (allOf (moreL l k r)).2 = 0 ∧ ∀ n, n ∈ (held l).1 → (if k ≤ n then n + 1 else n) ∈ (held (moreL l k r)).1 := by
  have hkl : k ≤ l.length := by omega
  have hsh := h.short
  have hM := h.more hal hk hq hrk hrt hrr
  have hlen := more_len (r := r) hkl
  have hall : (allOf (moreL l k r)).2 = 0 := by
    unfold allOf
    rw [hlen, if_neg (by omega)]
    exact (hM l.length (by omega) (Nat.le_refl _)).1
  refine ⟨hall, fun n hn => ?_⟩
  obtain ⟨hnl, hha⟩ := held_mem hal hn
  rw [held_ok hall, hlen]
  split
  · rename_i hkn
    refine List.mem_filter.2 ⟨List.mem_range.2 (by omega), ?_⟩
    obtain ⟨b1, b2⟩ := (heldAt_spec hnl).1 hha
    have hg : (moreL l k r)[n + 1]'(by rw [hlen]; omega) = l[n] := by
      have := more_gt (r := r) hkl hkn
      rwa [getD_at (by rw [hlen]; omega), getD_at hnl] at this
    refine (heldAt_spec (by rw [hlen]; omega)).2 ⟨by rw [hg]; exact b1, fun s hs => ?_⟩
    rw [hg, more_take2 hkl hkn, sentN_more (by omega)]
    exact b2 s ((hM n hkn (by omega)).2.1.sub s hs)
  · rename_i hkn
    refine List.mem_filter.2 ⟨List.mem_range.2 (by omega), ?_⟩
    rw [← heldAt_take (l := moreL l k r) (n := n) (k := k) (by omega), more_take hkl, heldAt_take (by omega)]
    exact hha
theorem more_okl {l : List Rcd} (h : OKL l) (hs : l.length ≤ 16) {k : Nat} (hk : k ≤ l.length) {r : Rcd} (hrk : r.kind ≠ 1) (hr : HP r.rep) (hb : r.frame.body.length ≤ 1000000) (hq : 0 ≤ r.frame.seq ∧ r.frame.seq ≤ 1000000) : OKL (moreL l k r) := by
  have hm : ∀ x, x ∈ moreL l k r → x ∈ l ∨ x = r := by
    intro x hx
    unfold moreL at hx
    rcases List.mem_append.1 hx with h1 | h1
    · exact .inl (List.mem_of_mem_take h1)
    · rcases List.mem_cons.1 h1 with h2 | h2
      · exact .inr h2
      · exact .inl (List.mem_of_mem_drop h2)
  refine ⟨by rw [more_len hk]; omega, ?_, ?_, ?_, ?_⟩
  · rw [nSent_sentF, sentF_more hrk, ← nSent_sentF]; exact h.few
  · intro x hx; rcases hm x hx with h1 | rfl
    · exact h.hp x h1
    · exact hr
  · intro x hx; rcases hm x hx with h1 | rfl
    · exact h.bod x h1
    · exact hb
  · intro x hx; rcases hm x hx with h1 | rfl
    · exact h.seq x h1
    · exact hq

/-! ### One decision more, at the end -/
theorem Led.ticks {l sts} (h : Led l sts) {t : Int} (ht : 1000000 ≤ t) : upTo l t = l.length :=
  upTo_eq (Nat.le_refl _) (fun r hr => by
    obtain ⟨i, hi, rfl⟩ := List.getElem_of_mem (List.mem_of_mem_take hr)
    have := h.form i hi
    rw [form_at hi] at this
    have := (formR_le this).2.2
    omega) (fun h => absurd h (Nat.lt_irrefl _))
theorem Led.exact {l sts} (h : Led l sts) (hal : (allOf l).2 = 0) {d : Dec} (h1 : d.tick = 1000000) (h2 : d.op = 9) (h3 : 0 ≤ d.kind ∧ d.kind ≤ 3) (h4 : 0 ≤ d.seq ∧ d.seq ≤ 1000000) :
    judge (l ++ [⟨1000000, 3, zf, zr, d⟩]) d = (vOf (rights (known l 1000000).1 d (sentN l)), 0) ∧ (known l 1000000).2 = 0 ∧ (known l 1000000).1 = (runTo l l.length).1 := by
  have hok := run_ok hal (Nat.le_refl _)
  have hsh := h.short
  have hkn : known l 1000000 = runTo l l.length := by rw [known_ok hal, h.ticks (Int.le_refl _)]
  have hlen : (l ++ [(⟨1000000, 3, zf, zr, d⟩ : Rcd)]).length = l.length + 1 := by simp
  have hg : (l ++ [(⟨1000000, 3, zf, zr, d⟩ : Rcd)]).getD l.length zc = ⟨1000000, 3, zf, zr, d⟩ := getD_snoc_eq
  have hfm : C36.form (l ++ [(⟨1000000, 3, zf, zr, d⟩ : Rcd)]) l.length = 0 := by
    unfold C36.form
    rw [hg]
    refine formR_dec rfl (by show (0 : Int) ≤ 1000000 ∧ (1000000 : Int) ≤ 1000000; decide) ?_ h1 h3 h4
    unfold prevT
    split
    · show (-1 : Int) ≤ 1000000; decide
    · rw [getD_snoc_lt (by omega)]
      have hf := h.form (l.length - 1) (by omega)
      unfold C36.form at hf
      exact (formR_le hf).2.2
  have hrun : runTo (l ++ [(⟨1000000, 3, zf, zr, d⟩ : Rcd)]) l.length = runTo l l.length := runTo_app (Nat.le_refl _)
  have e : nextT (runTo (l ++ [(⟨1000000, 3, zf, zr, d⟩ : Rcd)]) l.length).1 ((l ++ [(⟨1000000, 3, zf, zr, d⟩ : Rcd)]).getD l.length zc) = ((runTo l l.length).1, 0) := by
    rw [hg, hrun]; unfold nextT; rw [if_neg (show ¬ (3 : Int) = 1 by decide), if_neg (show ¬ (3 : Int) = 2 by decide)]
  have hr := run_on (l := l ++ [(⟨1000000, 3, zf, zr, d⟩ : Rcd)]) (i := l.length) (by rw [hrun]; exact hok) hfm (by rw [e])
  have hall : (allOf (l ++ [(⟨1000000, 3, zf, zr, d⟩ : Rcd)])).2 = 0 := by
    unfold allOf
    rw [hlen, if_neg (by omega), hr]
  have hfd : findD (l ++ [(⟨1000000, 3, zf, zr, d⟩ : Rcd)]) d (l ++ [(⟨1000000, 3, zf, zr, d⟩ : Rcd)]).length = some l.length := by
    refine findD_hit (by rw [hlen]; omega) (fun j hj => ?_) (by unfold isD; rw [hg]; simp)
    unfold isD
    rw [getD_snoc_lt hj, getD_at hj]
    refine decide_eq_false (fun hh => ?_)
    have := h.opr _ (List.getElem_mem hj)
    rw [hh.2, h2] at this
    exact absurd this (by decide)
  refine ⟨?_, by rw [hkn]; exact hok, by rw [hkn]⟩
  rw [judge_hit hall hfd]
  unfold rightsAt
  rw [hrun, hkn, List.take_left']
  rfl
end Go.Tv.C36

end
section
open Go Go.Tv Go.Proofs
namespace Go.Tv.C36
set_option maxRecDepth 20000
set_option maxHeartbeats 2000000
set_option linter.unusedSimpArgs false
set_option linter.unusedVariables false
theorem app_more {l : List Rcd} {k : Nat} {r : Rcd} : ([] : List AV) ++ ((l.take k).map encC).map AV.t ++ [.t (encC r)] ++ ((l.drop k).map encC).map AV.t = ((moreL l k r).map encC).map .t := by
  unfold moreL; simp
theorem has_learn {a : List Nat} {n : Nat} (hl : a.length ≤ 1000000) (h : n ∈ a) : Ret Tryd.prog 25 [.sl (a.map encN) false, encI (n : Nat)] (.bool true) := by
  have h2 := hasN_ret a n hl
  rwa [decide_eq_true h] at h2

theorem law6 (l what : List Int) (p fr : Int) (hI : ∀ x, x ∈ l → I64 x) (hl : l.length ≤ 9223372036854775807) (hJ : ∀ x, x ∈ what → I64 x) (hwl : what.length ≤ 9223372036854775807) (hp : I64 p) (hf : I64 fr) : RetT Tryd.prog 6 [(1, deT)] [.sl (l.map encI) false, .sl (what.map encI) false, encI p, encI fr] (.bool true) := by
  refine retT_of_awp Tryd.func6 rfl (Nat.le_of_ble_eq_true rfl) ?_
  refine awp_seq ?_
  refine awp_rw rfl ?_
  refine asT ?_
  refine RW.nil ?_
  refine awp_seq ?_
  refine awp_rw rfl ?_
  refine mvT ?_
  refine mvT ?_
  refine RW.op rfl rfl (eff_callT (ledger_ret l what hI hl hJ hwl) co17 rfl rfl rfl rfl) ?_
  refine mvT ?_
  refine RW.op rfl rfl (eff_extract rfl rfl rfl rfl) ?_
  refine RW.op rfl rfl (eff_extract rfl rfl rfl rfl) ?_
  refine asT ?_
  refine asT ?_
  refine RW.nil ?_
  refine awp_seq ?_
  refine awp_rw rfl ?_
  have hled := ledger_led l what
  have hO := hled.okl
  have hsh := hled.short
  refine mvT ?_
  refine RW.op rfl rfl (eff_callXT (held_ret (ledger l what).1 hO) co19 rfl rfl rfl ⟨rfl, trivial⟩ rfl) ?_
  refine mvT ?_
  refine RW.op rfl rfl (eff_extract rfl rfl rfl rfl) ?_
  refine RW.op rfl rfl (eff_extract rfl rfl rfl rfl) ?_
  refine asT ?_
  refine asT ?_
  refine RW.nil ?_
  refine awp_seq ?_
  refine awp_seq ?_
  refine awp_rw rfl ?_
  refine mvT ?_
  refine ioT ?_
  refine mvT ?_
  refine RW.split 33 rfl (fun h1 => ?_) (fun h1 => ?_)
  · try simp only [cl] at h1
    refine gkT ?_
    refine gkT ?_
    refine gkT ?_
    refine pkT ?_
    refine RW.nil ?_
    refine awp_cond rfl (fun _ => ?_) (fun h => nomatch h)
    refine awp_seq ?_
    refine awp_rw rfl ?_
    refine RW.op rfl rfl (eff_callXT (lives_ret) co16 rfl rfl rfl ⟨rfl, trivial⟩ rfl) ?_
    refine asT ?_
    refine RW.nil ?_
    refine awp_ret ?_
    exact ⟨Or.inr rfl, [_], ⟨.tmp (.t _), trivial⟩, .refl _⟩
  · try simp only [cl] at h1
    refine RW.gop rfl rfl rfl rfl rfl rfl (eff_move (v := .t _) rfl rfl rfl) ?_
    refine RW.gop rfl rfl rfl rfl rfl rfl (eff_lenM rfl rfl te32 rfl) ?_
    refine RW.gop rfl rfl rfl rfl rfl rfl (eff_iop rfl rfl rfl rfl rfl) ?_
    refine pkT ?_
    refine RW.nil ?_
    refine awp_cond rfl (fun h2 => ?_) (fun h2 => ?_)
    · try simp only [cl] at h2
      refine awp_seq ?_
      refine awp_rw rfl ?_
      refine RW.op rfl rfl (eff_callXT (lives_ret) co16 rfl rfl rfl ⟨rfl, trivial⟩ rfl) ?_
      refine asT ?_
      refine RW.nil ?_
      refine awp_ret ?_
      exact ⟨Or.inr rfl, [_], ⟨.tmp (.t _), trivial⟩, .refl _⟩
    · try simp only [cl] at h2
      refine awp_skip ?_
      refine awp_seq ?_
      refine awp_rw rfl ?_
      have hal : (allOf (ledger l what).1).2 = 0 := by
        by_cases h9 : (allOf (ledger l what).1).2 = 0
        · exact h9
        · have h10 : (held (ledger l what).1).2 = 0 := by assumption
          rw [held_bad (all_zt h9) h9] at h10; exact absurd h10 h9
      have hlp : 0 < (ledger l what).1.length := by omega
      have hrp := around_range (n := p) (m := ((ledger l what).1.length : Int)) (by omega)
      obtain ⟨k, hk⟩ : ∃ k : Nat, around p ((ledger l what).1.length : Int) = (k : Int) := ⟨(around p ((ledger l what).1.length : Int)).toNat, by omega⟩
      have hkl : k < (ledger l what).1.length := by omega
      have hrq := around_range (n := fr) (m := (k : Int) + 1) (by omega)
      obtain ⟨q, hq⟩ : ∃ q : Nat, around fr ((k : Int) + 1) = (q : Int) := ⟨(around fr ((k : Int) + 1)).toNat, by omega⟩
      have hqk : q ≤ k := by omega
      have hql : q < (ledger l what).2.length := by rw [hled.len]; omega
      obtain ⟨hma, hmh⟩ := hled.learns hal (q := q) hkl hqk (r := ⟨((ledger l what).1[k]'hkl).tick, 2, zf, (ledger l what).2[q]'hql, zd⟩) rfl (by rw [getD_at hkl]) (by show (ledger l what).2[q] = _; simp [List.getD_eq_getElem?_getD, hql])
      have hmO := more_okl hO hsh (Nat.le_of_lt hkl) (r := ⟨((ledger l what).1[k]'hkl).tick, 2, zf, (ledger l what).2[q]'hql, zd⟩) (by show (2 : Int) ≠ 1; decide) (hled.shp _ (List.getElem_mem _)) (Nat.zero_le _) (by show (0 : Int) ≤ 0 ∧ (0 : Int) ≤ 1000000; decide)
      have hml := more_len (r := ⟨((ledger l what).1[k]'hkl).tick, 2, zf, (ledger l what).2[q]'hql, zd⟩) (Nat.le_of_lt hkl)
      have hhl := held_len (l := (ledger l what).1)
      have hhm := held_len (l := (moreL (ledger l what).1 k ⟨((ledger l what).1[k]'hkl).tick, 2, zf, (ledger l what).2[q]'hql, zd⟩))
      refine mvT ?_
      refine mvT ?_
      refine RW.op rfl rfl (eff_lenM rfl rfl te32 rfl) ?_
      refine RW.op rfl rfl (eff_callT (aroundK hp (by omega) hk) co13 rfl rfl rfl rfl) ?_
      refine asT ?_
      refine RW.nil ?_
      refine awp_seq ?_
      refine awp_rd [(some 43, []), (some 44, []), (some 45, []), (some 46, []), (some 47, []), (some 48, []), (some 49, []), (some 50, []), (some 51, []), (some 52, []), (some 53, []), (some 54, []), (some 55, []), (some 14, [14]), (none, [14])] [[], [], [0, 1], [0, 1, 2], [0, 1, 2, 3], [], [], [], [7], [6, 7, 8], [5, 6, 7, 8, 9], [5, 6, 7, 8, 9, 10], [0, 1, 2, 3, 4, 5, 6, 7, 8, 9, 10, 11], [], [0, 1, 2, 3, 4, 5, 6, 7, 8, 9, 10, 11, 12, 13]] tm rfl rfl rfl rfl ?_
      refine mvD ?_
      refine mvD ?_
      refine RD.op rfl rfl rfl (eff_indexM (i := k) rfl rfl te32 rfl rfl (by first | rfl | omega) (by exact List.getElem?_eq_getElem hkl) rfl (by decide)) ?_
      refine RD.op rfl rfl rfl (eff_fieldAddrT rfl rfl tf47_0 (by decide) rfl) ?_
      refine RD.op rfl rfl rfl (eff_loadT1 rfl rfl ti3 rfl rfl) ?_
      refine mvD ?_
      refine mvD ?_
      refine mvD ?_
      refine RD.op rfl rfl rfl (eff_iop (r := encI ((k : Int) + 1)) rfl rfl rfl rfl (iadd (by omega))) ?_
      refine RD.op rfl rfl rfl (eff_callT (aroundK hf (by omega) hq) co13 rfl rfl rfl rfl) ?_
      refine RD.op rfl rfl rfl (eff_indexM (i := q) rfl rfl te33 rfl rfl (by first | rfl | omega) (by exact List.getElem?_eq_getElem hql) rfl (by decide)) ?_
      refine RD.op rfl rfl rfl (eff_loadW rfl rfl ti23 rfl rfl rfl) ?_
      refine RD.op rfl rfl rfl (eff_buildT (ys := [_, _, _, _, _, _, _, _, _, _, _, _, _, _, _]) rfl rfl tz47 tg47 rfl) ?_
      refine RD.new rfl rfl rfl (eff_allocK (k := 15) (id := 14) rfl rfl tz47 rfl rfl) ?_
      refine RD.store rfl rfl rfl (eff_storeW (v := .t _) (els := [_]) (els' := [_]) rfl rfl ti47 rfl rfl rfl rfl rfl rfl rfl rfl rfl) ?_
      refine RD.nil ?_
      show AWP _ _ _ _
      refine awp_weak (weak_obT 14 (encC ⟨((ledger l what).1[k]'hkl).tick, 2, zf, (ledger l what).2[q]'hql, zd⟩).cells rfl ⟨⟨rfl, .refl _⟩, ⟨rfl, .refl _⟩, ⟨rfl, .refl _⟩, ⟨rfl, .refl _⟩, ⟨rfl, .refl _⟩, ⟨rfl, .sl _⟩, ⟨rfl, .refl _⟩, ⟨rfl, .refl _⟩, ⟨rfl, .refl _⟩, ⟨rfl, .refl _⟩, ⟨rfl, .refl _⟩, ⟨rfl, .refl _⟩, ⟨rfl, .refl _⟩, ⟨rfl, .refl _⟩, ⟨rfl, .refl _⟩, trivial⟩) ?_
      refine awp_seq ?_
      refine awp_rd [(some 56, [56]), (some 57, []), (some 58, []), (some 59, []), (some 60, [56]), (some 61, []), (some 62, [62]), (some 63, [56]), (some 64, []), (some 65, []), (some 66, []), (some 67, [56]), (some 15, [])] [[], [], [], [1, 2], [0, 1, 2, 3], [], [5], [0, 1, 2, 3, 4, 5, 6], [], [], [8, 9], [0, 1, 2, 3, 4, 5, 6, 7, 8, 9, 10], [0, 1, 2, 3, 4, 5, 6, 7, 8, 9, 10, 11]] tm rfl rfl rfl rfl ?_
      refine RD.new rfl rfl rfl (eff_buildSliceL (id := 56) (els := []) rfl rfl te32 tz47 rfl (by decide) (by decide) rfl rfl rfl rfl) ?_
      refine mvD ?_
      refine mvD ?_
      refine RD.op rfl rfl rfl (eff_sliceM (g := encC) (l := none) (h := some k) (r := (ledger l what).1.take k) rfl rfl te32 rfl (fun _ => rfl) .no (.yes rfl rfl) (Nat.zero_le _) (by simp; omega) (by simp)) ?_
      refine RD.new rfl rfl rfl (eff_appendAny (id := 56) rfl rfl ta32 rfl rfl rfl rfl rfl rfl (srcM rfl (fun _ => rfl)) (by simp; omega) (by simp; omega)) ?_
      refine RD.op rfl rfl rfl (eff_load rfl rfl ti47 rfl (.whole rfl rfl rfl rfl rfl rfl)) ?_
      refine RD.new rfl rfl rfl (eff_buildSliceL (id := 62) (els := [.t (.agg [_, _, _, _, _, _, _, _, _, _, _, _, _, _, _])]) rfl rfl te32 tz47 rfl (by decide) (by decide) rfl rfl rfl rfl) ?_
      refine RD.new rfl rfl rfl (eff_appendAny (id := 56) rfl rfl ta32 rfl rfl rfl (by simp) rfl rfl (srcOwn rfl rfl rfl rfl rfl rfl) (by simp; omega) (by simp; omega)) ?_
      refine mvD ?_
      refine mvD ?_
      refine RD.op rfl rfl rfl (eff_sliceM (g := encC) (l := some k) (h := none) (r := (ledger l what).1.drop k) rfl rfl te32 rfl (fun _ => rfl) (.yes rfl rfl) .no (by simp; omega) (by simp) (by simp)) ?_
      refine RD.new rfl rfl rfl (eff_appendAny (id := 56) rfl rfl ta32 rfl rfl rfl (by simp) rfl rfl (srcM rfl (fun _ => rfl)) (by simp; omega) (by simp; omega)) ?_
      refine RD.op rfl rfl rfl (eff_assign (v := .own _ _ _ _) rfl rfl rfl) ?_
      refine RD.nil ?_
      refine awp_seq ?_
      refine awp_weak (weak_frz (n := 95) (fr' := [(9, .t (.sl ((ledger l what).1.map encC) false)), (11, .t (.sl ((held (ledger l what).1).1.map encN) false)), (13, .t (encI (k : Nat))), (15, .t (.sl ((moreL (ledger l what).1 k ⟨((ledger l what).1[k]'hkl).tick, 2, zf, (ledger l what).2[q]'hql, zd⟩).map encC) false)), (96, .t deT)]) (st' := []) [(56, some ⟨15, 47, _, _⟩)] ⟨rfl, trivial⟩ trivial ⟨wa_eq rfl rfl, wa_eq rfl rfl, wa_eq rfl rfl, .res (Res.ownT (xs := (moreL (ledger l what).1 k ⟨((ledger l what).1[k]'hkl).tick, 2, zf, (ledger l what).2[q]'hql, zd⟩).map encC) rfl rfl app_more (by first | (unfold moreL; simp; done) | (unfold moreL; simp; omega))) (.refl _), wa_eq rfl rfl, trivial⟩ trivial) ?_
      refine awp_rw rfl ?_
      refine mvT ?_
      refine RW.op rfl rfl (eff_callXT (held_ret (moreL (ledger l what).1 k ⟨((ledger l what).1[k]'hkl).tick, 2, zf, (ledger l what).2[q]'hql, zd⟩) hmO) co19 rfl rfl rfl ⟨rfl, trivial⟩ rfl) ?_
      refine mvT ?_
      refine RW.op rfl rfl (eff_extract rfl rfl rfl rfl) ?_
      refine RW.op rfl rfl (eff_extract rfl rfl rfl rfl) ?_
      refine asT ?_
      refine asT ?_
      refine RW.nil ?_
      refine awp_seq ?_
      refine awp_seq ?_
      refine awp_rw rfl ?_
      refine mvT ?_
      refine RW.op rfl rfl (eff_iop (r := .bool false) rfl rfl rfl rfl (by rw [show (held (moreL (ledger l what).1 k ⟨((ledger l what).1[k]'hkl).tick, 2, zf, (ledger l what).2[q]'hql, zd⟩)).2 = 0 from by rw [held_ok hma]]; rfl)) ?_
      refine RW.nil ?_
      refine awp_cond rfl (fun h => nomatch h) (fun _ => ?_)
      refine awp_skip ?_
      refine awp_seq ?_
      refine awp_seq ?_
      refine awp_rw rfl ?_
      refine asT ?_
      refine RW.nil ?_
      refine awp_block ?_
      refine awp_loopW (fun m s => ∃ (i : Nat), (i ≤ (held (ledger l what).1).1.length) ∧ m = (held (ledger l what).1).1.length - i ∧ s = ⟨95, [(11, .t (.sl ((held (ledger l what).1).1.map encN) false)), (13, .t (encI (k : Nat))), (16, .t (.sl ((held (moreL (ledger l what).1 k ⟨((ledger l what).1[k]'hkl).tick, 2, zf, (ledger l what).2[q]'hql, zd⟩)).1.map encN) false)), (18, .t (encI (i : Nat))), (96, .t deT)], []⟩) (_) (⟨_, weak_keep (n := 95) (fr' := [(11, .t (.sl ((held (ledger l what).1).1.map encN) false)), (13, .t (encI (k : Nat))), (16, .t (.sl ((held (moreL (ledger l what).1 k ⟨((ledger l what).1[k]'hkl).tick, 2, zf, (ledger l what).2[q]'hql, zd⟩)).1.map encN) false)), (18, .t (encI (0 : Nat))), (96, .t deT)]) (st' := []) ⟨rfl, rfl, rfl, rfl, rfl, rfl, rfl, rfl, rfl, rfl, trivial⟩ trivial, 0, (by omega), rfl, rfl⟩) ?_
      rintro m s ⟨i, hi, rfl, rfl⟩
      refine awp_seq ?_
      refine awp_seq ?_
      refine awp_rw rfl ?_
      refine mvT ?_
      refine mvT ?_
      refine RW.op rfl rfl (eff_lenM rfl rfl te26 rfl) ?_
      refine ioT ?_
      refine RW.nil ?_
      refine awp_cond rfl (fun h3 => ?_) (fun h3 => ?_)
      · try simp only [cl] at h3
        refine awp_skip ?_
        refine awp_seq ?_
        refine awp_block ?_
        refine awp_seq ?_
        refine awp_rw rfl ?_
        have hih : i < (held (ledger l what).1).1.length := by omega
        have hnl := (held_mem hal (List.getElem_mem hih)).1
        have hmem := hmh _ (List.getElem_mem hih)
        refine mvT ?_
        refine mvT ?_
        refine RW.op rfl rfl (eff_indexM (i := i) rfl rfl te26 rfl rfl (by first | rfl | omega) (by exact List.getElem?_eq_getElem hih) rfl (by decide)) ?_
        refine RW.op rfl rfl (eff_loadW1 rfl rfl ti3 rfl rfl) ?_
        refine asT ?_
        refine RW.nil ?_
        refine awp_seq ?_
        refine awp_seq ?_
        refine awp_rw rfl ?_
        refine mvT ?_
        refine mvT ?_
        refine ioT ?_
        refine RW.nil ?_
        refine awp_cond rfl (fun h4 => ?_) (fun h4 => ?_)
        · try simp only [cl] at h4
          refine awp_rw rfl ?_
          refine mvT ?_
          refine RW.op rfl rfl (eff_iop (r := encI ((((held (ledger l what).1).1[i]'hih) + 1 : Nat) : Int)) rfl rfl rfl rfl (iadd (by omega))) ?_
          refine asT ?_
          refine RW.nil ?_
          refine awp_seq ?_
          refine awp_rw rfl ?_
          have hmm : ((held (ledger l what).1).1[i]'hih) + 1 ∈ (held (moreL (ledger l what).1 k ⟨((ledger l what).1[k]'hkl).tick, 2, zf, (ledger l what).2[q]'hql, zd⟩)).1 := by rw [if_pos (by omega)] at hmem; exact hmem
          refine mvT ?_
          refine mvT ?_
          refine RW.op rfl rfl (eff_callT (has_learn (by omega) hmm) co25 rfl rfl rfl rfl) ?_
          refine RW.op rfl rfl (eff_unop rfl rfl rfl rfl) ?_
          refine RW.nil ?_
          refine awp_cond rfl (fun h => nomatch h) (fun _ => ?_)
          refine awp_skip ?_
          refine awp_rw rfl ?_
          refine mvT ?_
          refine RW.op rfl rfl (eff_iop rfl rfl rfl rfl (iadd (by omega))) ?_
          refine asT ?_
          refine RW.nil ?_
          refine ⟨_, ?_, _, weak_keep (n := 95) (fr' := [(11, .t (.sl ((held (ledger l what).1).1.map encN) false)), (13, .t (encI (k : Nat))), (16, .t (.sl ((held (moreL (ledger l what).1 k ⟨((ledger l what).1[k]'hkl).tick, 2, zf, (ledger l what).2[q]'hql, zd⟩)).1.map encN) false)), (18, .t (encI ((i + 1) : Nat))), (96, .t deT)]) (st' := []) ⟨rfl, rfl, rfl, rfl, rfl, rfl, rfl, rfl, rfl, rfl, trivial⟩ trivial, i + 1, (by omega), rfl, rfl⟩
          omega
        · try simp only [cl] at h4
          refine awp_skip ?_
          refine awp_seq ?_
          refine awp_rw rfl ?_
          have hmm : ((held (ledger l what).1).1[i]'hih) ∈ (held (moreL (ledger l what).1 k ⟨((ledger l what).1[k]'hkl).tick, 2, zf, (ledger l what).2[q]'hql, zd⟩)).1 := by rw [if_neg (by omega)] at hmem; exact hmem
          refine mvT ?_
          refine mvT ?_
          refine RW.op rfl rfl (eff_callT (has_learn (by omega) hmm) co25 rfl rfl rfl rfl) ?_
          refine RW.op rfl rfl (eff_unop rfl rfl rfl rfl) ?_
          refine RW.nil ?_
          refine awp_cond rfl (fun h => nomatch h) (fun _ => ?_)
          refine awp_skip ?_
          refine awp_rw rfl ?_
          refine mvT ?_
          refine RW.op rfl rfl (eff_iop rfl rfl rfl rfl (iadd (by omega))) ?_
          refine asT ?_
          refine RW.nil ?_
          refine ⟨_, ?_, _, weak_keep (n := 95) (fr' := [(11, .t (.sl ((held (ledger l what).1).1.map encN) false)), (13, .t (encI (k : Nat))), (16, .t (.sl ((held (moreL (ledger l what).1 k ⟨((ledger l what).1[k]'hkl).tick, 2, zf, (ledger l what).2[q]'hql, zd⟩)).1.map encN) false)), (18, .t (encI ((i + 1) : Nat))), (96, .t deT)]) (st' := []) ⟨rfl, rfl, rfl, rfl, rfl, rfl, rfl, rfl, rfl, rfl, trivial⟩ trivial, i + 1, (by omega), rfl, rfl⟩
          omega
      · try simp only [cl] at h3
        refine awp_exit ?_
        refine awp_seq ?_
        refine awp_rw rfl ?_
        refine RW.op rfl rfl (eff_callXT (lives_ret) co16 rfl rfl rfl ⟨rfl, trivial⟩ rfl) ?_
        refine asT ?_
        refine RW.nil ?_
        refine awp_ret ?_
        exact ⟨Or.inr rfl, [_], ⟨.tmp (.t _), trivial⟩, .refl _⟩

end Go.Tv.C36

end
section
open Go Go.Tv Go.Proofs Go.ChangeShapes Go.WideShapes Go.ChangeAt Go.RowKit
namespace Go.Tv.C36
set_option maxRecDepth 100000

theorem wfI64 {n : Int} (h : (Lit.int .i64 n).wf = true) : I64 n := by
  unfold I64
  simp [Lit.wf, IntKind.min, IntKind.max, IntKind.signed, IntKind.bits] at h; omega
theorem map_of {α : Type} {f : α → Tr} {p : α → Prop} : ∀ {els : List Tr}, (∀ x, x ∈ els → ∃ n, p n ∧ x = f n) → ∃ l : List α, els = l.map f ∧ ∀ n, n ∈ l → p n
  | [], _ => ⟨[], rfl, fun n h => by simp at h⟩
  | x :: els, h => by
    obtain ⟨n, hp, rfl⟩ := h x List.mem_cons_self
    obtain ⟨l, rfl, hl⟩ := map_of (els := els) (fun y hy => h y (List.mem_cons_of_mem _ hy))
    exact ⟨n :: l, rfl, fun m hm => (List.mem_cons.1 hm).elim (fun e => e ▸ hp) (hl m)⟩
theorem rd3 : Reads Tryd.prog 3 1 (fun ts => ∃ n, ts = [encI n] ∧ I64 n) := (reads_int Tryd.underlying3 (by kernel_rfl)).mono (fun ts ⟨n, h, hw⟩ => ⟨n, h, wfI64 hw⟩)
theorem rd26 : Reads Tryd.prog 26 1 (fun ts => ∃ l : List Int, ts = [.sl (l.map encI) false] ∧ l.length ≤ maxLen ∧ ∀ n, n ∈ l → I64 n) :=
  (reads_slice Tryd.underlying26 (by kernel_rfl) (by decide) (.inr rfl) rd3 (g := false)).mono (by
    rintro ts ⟨els, rfl, hm, h⟩
    obtain ⟨l, rfl, hl⟩ := map_of (f := encI) (p := I64) (fun x hx => by obtain ⟨_, ⟨n, rfl, hn⟩, rfl⟩ := h x hx; exact ⟨n, hn, rfl⟩)
    exact ⟨l, rfl, by simpa using hm, hl⟩)
def laid1 : List (String × DataW Unit) := [("math/bits.deBruijn32tab", Go.Proofs.YtiphgohbnhinnaaDoor.Rows.laid_math_bits_deBruijn32tab), ("math/bits.deBruijn64tab", Go.Proofs.YtiphgohbnhinnaaDoor.Rows.laid_math_bits_deBruijn64tab)]
theorem gDe : Tryd.prog.globalNamed "math/bits.deBruijn64tab" = some 1 := by kernel_rfl
theorem tDe : (Tryd.prog.globals[1]?).map (·.type) = some 125 := by kernel_rfl
theorem door_met (os : Os) (args : Array Value) : laidMetH Tryd.prog laid1 ((World.doorLaid Tryd.prog 400 os).forCall (fun _ _ => 0) ⟨#[], args, []⟩).memory :=
  laidMetH_of_parts3 (fuel := 8) (laidMet_of_run' 8 (by kernel_rfl) (by kernel_rfl)) (by kernel_rfl) (by kernel_rfl)
theorem tabs_of_laid {W : World} (h : laidMetH Tryd.prog laid1 W) : TabOK W (fun _ => False) [(1, deT)] := by
  intro g x hm
  simp only [List.mem_singleton, Prod.mk.injEq] at hm
  obtain ⟨rfl, rfl⟩ := hm
  exact tab_of_laid (l := deB) (k := .u8) h rfl (List.mem_cons_of_mem _ (List.mem_singleton.2 rfl)) (by intro e; cases e) gDe tDe Tryd.underlying125 Tryd.underlying5 (by kernel_rfl)
end Go.Tv.C36

end
section
namespace Go.Proofs.YtiphgohbnhinnaaDoor
open Go Go.Tv Go.Tv.C36 Go.ChangeShapes Go.WideShapes Go.ChangeAt Go.RowKit
set_option linter.unusedVariables false
set_option maxRecDepth 100000
theorem courtLearns_contract (H : Type) (enc : TypeId × Value → H) (W : World) (base : Nat) (args : Array Value) (ds gs : List (DataW H)) (before : List MemPlace)
    (hval : ∀ (j : Nat) t v, Tryd.f6.params[j]? = some t → args[j]? = some v → Value.okWide Tryd.prog W .any base t v)
    (hW : DataW.Whole enc Tryd.prog Tryd.f6.params.toList Rows.courtLearnsSpec.vars false W args.toList ds gs before) (hL : laidMetH Tryd.prog laid1 W) :
    Calls Tryd.prog 6 args W fun e W' => ∃ v, e = .returned v ∧ Rows.courtLearnsSpec.post enc Tryd.prog Tryd.f6 false true false false W args v W' := by
  have hW' := hW
  obtain ⟨p, q, hA0, hV, rfl, hfz, hnd⟩ := hW
  have hA : DataW.TrodAll enc Tryd.prog W 0 (fun _ => true) true Tryd.f6.params.toList args.toList ds p := hA0
  rw [Tryd.params6] at hA hval
  obtain ⟨v0, vs0, d0, ds0, p0, q0, hargs, rfl, rfl, h0, r0⟩ := trodAll_cons hA
  obtain ⟨v1, vs1, d1, ds1, p1, q1, rfl, rfl, rfl, h1, r1⟩ := trodAll_cons r0
  obtain ⟨v2, vs2, d2, ds2, p2, q2, rfl, rfl, rfl, h2, r2⟩ := trodAll_cons r1
  obtain ⟨v3, vs3, d3, ds3, p3, q3, rfl, rfl, rfl, h3, r3⟩ := trodAll_cons r2
  obtain ⟨rfl, rfl, rfl⟩ := trodAll_nil r3
  obtain rfl : args = #[v0, v1, v2, v3] := by cases args; simp_all
  obtain ⟨rfl, rfl⟩ := trodVars_none hV
  have k0 := hval 0 26 v0 rfl rfl
  have k1 := hval 1 26 v1 rfl rfl
  have k2 := hval 2 3 v2 rfl rfl
  have k3 := hval 3 3 v3 rfl rfl
  obtain ⟨x0, hx0, l, e0, m0, b0⟩ := arg_slice Tryd.underlying26 rd26 k0 h0
  obtain rfl : x0 = .sl (l.map Go.Tv.C36.encI) false := by simpa using e0
  unfold maxLen at m0
  have n0 : l.length ≤ 9223372036854775807 := by simpa using m0
  obtain ⟨x1, hx1, wh, e1, m1, b1⟩ := arg_slice Tryd.underlying26 rd26 k1 h1
  obtain rfl : x1 = .sl (wh.map Go.Tv.C36.encI) false := by simpa using e1
  unfold maxLen at m1
  have n1 : wh.length ≤ 9223372036854775807 := by simpa using m1
  obtain ⟨p, rfl, wp⟩ := arg_int Tryd.underlying3 k2 h2
  have i_p := wfI64 wp
  obtain ⟨fr, rfl, wfr⟩ := arg_int Tryd.underlying3 k3 h3
  have i_fr := wfI64 wfr
  refine (law_callsT (law6 l wh p fr b0 n0 b1 n1 i_p i_fr) (tabs_of_laid hL) (vl_cons hx0 (vl_cons hx1 (vl_cons (.int _ _) (vl_cons (.int _ _) vl_nil))))).mono ?_
  rintro e W' ⟨rfl, hb⟩
  refine ⟨_, rfl, law_post (P := Tryd.prog) (by kernel_rfl) rfl (fun t ht => ?_) rfl Tryd.underlying4 hW' ⟨rfl, rfl, rfl⟩ hb⟩
  rw [Tryd.params6] at ht
  simp only [List.mem_cons, List.not_mem_nil, or_false] at ht
  rcases ht with rfl | rfl | rfl | rfl <;> exact ⟨by kernel_rfl, Nat.le_of_ble_eq_true (by kernel_rfl)⟩

theorem courtLearns_lifted (os : Os) (started : os.Started) (H : Type) (enc : TypeId × Value → H) :
    ReturnsInHanded {} Tryd.checked os 6 .any (fun w args => (Rows.courtLearnsSpec.pre enc Tryd.prog Tryd.f6 [] false w args ∧ laidMetH Tryd.prog laid1 w) ∧ sizedMet enc Tryd.prog Tryd.f6 (OpenSpec.ofChange Rows.courtLearnsSpec) false w args)
      (Rows.courtLearnsSpec.post enc Tryd.prog Tryd.f6 false true false false) := by
  refine returnsInHanded_of_change_and (C := Tryd.checked) (X := fun w _ => laidMetH Tryd.prog laid1 w) (fun _ _ _ hh h => h.of_heap hh) (by kernel_rfl) started (by kernel_rfl) Tryd.func6
    (ChangeSpec.witness_shaped (enc := enc) (C := Tryd.checked) (os := os) (X := fun w _ => laidMetH Tryd.prog laid1 w) false (World.doorLaid Tryd.prog 400 os) #[.slice none 0 0, .slice none 0 0, .int .i64 0, .int .i64 0] 8 rfl (World.shaped_of_RefB (by kernel_rfl) (by kernel_rfl)) (by kernel_rfl) (by kernel_rfl) (by kernel_rfl) (door_met os _)) ?_
  intro W base args ds gs before hval hW _ _ hL _
  exact courtLearns_contract H enc W base args ds gs before hval hW hL

theorem courtLearns_row_holds : Rows.CourtLearnsSaid :=
  OpenClaim.holds_of_wide 6 Tryd.f6 rfl rfl rfl rfl rfl rfl rfl ⟨rfl, rfl, rfl, rfl, rfl⟩ rfl rfl rfl rfl rfl (by kernel_rfl) Tryd.func6 (by kernel_rfl)
    (of_decide_eq_true (by kernel_rfl)) (by unfold Func.isWrapper; first | (rw [if_pos (by decide +kernel)]; kernel_rfl) | (rw [if_neg (by decide +kernel)]; exact ⟨rfl, rfl⟩))
    (fun os started H enc _ => courtLearns_lifted os started H enc)

theorem courtLearnsCard_holds : Rows.CourtLearnsCardSaid :=
  Claim7.holds_tied_plain_at .later [] [.data, .data] true _ false
    courtLearns_row_holds (fun _ h => by cases h) (by kernel_rfl) (fun _ h => by cases h) courtLearns_row_tie rfl ⟨rfl, rfl⟩ (by kernel_rfl) rfl
    (fun f fn hf hfn => by
      obtain rfl : f = 6 := Option.some.inj ((show Tryd.prog.funcNamed "perigee/perigeelaw36.CourtLearns" = some 6 by kernel_rfl).symm.trans hf) |>.symm
      obtain rfl : fn = Tryd.f6 := (Option.some.inj (Tryd.func6.symm.trans hfn)).symm
      exact ⟨by kernel_rfl, fun j t ht => by
        rw [Tryd.params6] at ht
        have hm : t ∈ [26, 26, 3, 3] := by simpa using Array.mem_of_getElem? ht
        have hall : ([26, 26, 3, 3].all fun u => !Tryd.prog.wantsStandIn u) = true := by kernel_rfl
        exact (show Tryd.prog.wantsStandIn t = false by simpa using List.all_eq_true.1 hall t hm)⟩)
    (by kernel_rfl)

end Go.Proofs.YtiphgohbnhinnaaDoor

end
