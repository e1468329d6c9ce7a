/- CourtConfirms: for every input that reads as data, the call returns true and leaves its arguments as they were. No condition. -/
import Derived.Test.YtiphgohbnhinnaaDoorT4
import Derived.Test.YtiphgohbnhinnaaDoorT2
import Derived.Test.YtiphgohbnhinnaaDoorT1
import Derived.Test.YtiphgohbnhinnaaDoorRows
import Derived.ProofKit
import Derived.Test.YtiphgohbnhinnaaDoorTie
import Derived.Test.YtiphgohbnhinnaaDoorCards
import Derived.SevenTiedAt
set_option linter.unnecessarySimpa false
set_option linter.unusedVariables false
set_option linter.unusedSimpArgs false
section
open Go Go.Tv Go.Proofs
namespace Go.Tv.C36
set_option maxRecDepth 20000
set_option maxHeartbeats 2000000
set_option linter.unusedSimpArgs false
set_option linter.unusedVariables false
theorem ledger_ret (l what : List Int) (hI : ∀ x, x ∈ l → I64 x) (hl : l.length ≤ 9223372036854775807) (hJ : ∀ x, x ∈ what → I64 x) (hwl : what.length ≤ 9223372036854775807) : Ret Tryd.prog 17 [.sl (l.map encI) false, .sl (what.map encI) false] (.tup [.sl ((ledger l what).1.map encC) false, .sl ((ledger l what).2.map encR) false]) := by
  refine ret_of_awp Tryd.func17 rfl (Nat.le_of_ble_eq_true rfl) ?_
  refine awp_seq ?_
  refine awp_rw rfl ?_
  refine asT ?_
  refine asT ?_
  refine RW.nil ?_
  refine awp_seq ?_
  refine awp_rw rfl ?_
  refine mvT ?_
  refine RW.op rfl rfl (eff_callT (frames_ret l 7 hI hl (by decide)) co36 rfl rfl rfl rfl) ?_
  refine asT ?_
  refine RW.nil ?_
  refine awp_seq ?_
  refine awp_rw rfl ?_
  refine asT ?_
  refine RW.nil ?_
  show AWP _ _ _ _
  refine awp_weak (weak_adopt (d := 7) (id := 7) (k := 15) (ty := 47) rfl rfl) ?_
  refine awp_seq ?_
  refine awp_rw rfl ?_
  refine asT ?_
  refine RW.nil ?_
  show AWP _ _ _ _
  refine awp_weak (weak_adopt (d := 8) (id := 8) (k := 4) (ty := 23) rfl rfl) ?_
  refine awp_seq ?_
  refine awp_rw rfl ?_
  refine RW.op rfl rfl (eff_buildT (ys := [_, _, _, _]) rfl rfl tz23 tg23 rfl) ?_
  refine RW.new rfl rfl (eff_allocK (k := 4) (id := 9) rfl rfl tz23 rfl rfl) ?_
  refine RW.store rfl rfl (eff_storeW (v := .t _) (els := [_]) (els' := [_]) rfl rfl ti23 rfl rfl rfl rfl rfl rfl rfl rfl rfl) ?_
  refine RW.nil ?_
  refine awp_seq ?_
  refine awp_rw rfl ?_
  refine RW.op rfl rfl (eff_load rfl rfl ti23 rfl (.whole rfl rfl rfl rfl rfl rfl)) ?_
  refine RW.new rfl rfl (eff_buildSliceL (id := 20) (els := [.t (.agg [_, _, _, _])]) rfl rfl te33 tz23 rfl (by decide) (by decide) rfl rfl rfl rfl) ?_
  refine asO ?_
  refine RW.nil ?_
  refine awp_seq ?_
  refine awp_rw rfl ?_
  refine asT ?_
  refine RW.nil ?_
  refine awp_seq ?_
  refine awp_rw rfl ?_
  refine asT ?_
  refine RW.nil ?_
  refine awp_seq ?_
  refine awp_seq ?_
  refine awp_rw rfl ?_
  refine asT ?_
  refine RW.nil ?_
  refine awp_block ?_
  refine awp_loopW (fun m s => ∃ (i : Nat) (g7 : Nat) (g8 : Nat) (g0 : Nat) (n7 : Nat) (n8 : Nat) (n0 : Nat) (e7 : List AV) (e8 : List AV) (e0 : List AV) (cs : Rep) (sn : Nat) (tk : Int), (i ≤ what.length) ∧ (i ≤ 30) ∧ (n7 = (gall (frames l 7) what i).recs.length) ∧ (n8 = (gall (frames l 7) what i).sts.length) ∧ (n0 = (gall (frames l 7) what i).reps.length) ∧ (e7 = ((gall (frames l 7) what i).recs.map encC).map .t) ∧ (e8 = ((gall (frames l 7) what i).sts.map encR).map .t) ∧ (e0 = ((gall (frames l 7) what i).reps.map encR).map .t) ∧ (cs = (gall (frames l 7) what i).s) ∧ (sn = (gall (frames l 7) what i).sn) ∧ (tk = (gall (frames l 7) what i).tick) ∧ m = what.length - i ∧ s = ⟨129, [(1, .t (.sl (what.map encI) false)), (6, .t (.sl ((frames l 7).map encF) false)), (7, .own 7 g7 0 n7), (8, .own 8 g8 0 n8), (9, .ptr 9 0 0 0), (10, .own 20 g0 0 n0), (11, .t (encI (sn : Nat))), (12, .t (encI tk)), (13, .t (encI (i : Nat)))], [(7, some ⟨15, 47, g7, e7⟩), (8, some ⟨4, 23, g8, e8⟩), (9, some ⟨4, 23, 0, [.t (encR cs)]⟩), (20, some ⟨4, 23, g0, e0⟩)]⟩) (_) (⟨_, weak_keep (n := 129) (fr' := [(1, .t (.sl (what.map encI) false)), (6, .t (.sl ((frames l 7).map encF) false)), (7, .own 7 0 0 0), (8, .own 8 0 0 0), (9, .ptr 9 0 0 0), (10, .own 20 0 0 1), (11, .t (encI (0 : Nat))), (12, .t (encI 0)), (13, .t (encI (0 : Nat)))]) (st' := [(7, some ⟨15, 47, 0, ([])⟩), (8, some ⟨4, 23, 0, ([])⟩), (9, some ⟨4, 23, 0, [.t (encR zr)]⟩), (20, some ⟨4, 23, 0, _⟩)]) ⟨rfl, rfl, rfl, rfl, rfl, rfl, rfl, rfl, rfl, rfl, rfl, rfl, rfl, rfl, rfl, rfl, rfl, rfl, trivial⟩ ⟨rfl, (by first | exact okE_nil | exact okE_one rfl | (rw [he7]; exact okE_t) | (rw [he7]; intro x hx; simp only [List.mem_append, List.mem_map, List.mem_singleton] at hx; rcases hx with ⟨y, _, rfl⟩ | rfl <;> rfl)), rfl, (by first | exact okE_nil | exact okE_one rfl | (rw [he8]; exact okE_t) | (rw [he8]; intro x hx; simp only [List.mem_append, List.mem_map, List.mem_singleton] at hx; rcases hx with ⟨y, _, rfl⟩ | rfl <;> rfl)), rfl, okE_one rfl, rfl, (by first | exact okE_nil | exact okE_one rfl | (rw [he0]; exact okE_t) | (rw [he0]; intro x hx; simp only [List.mem_append, List.mem_map, List.mem_singleton] at hx; rcases hx with ⟨y, _, rfl⟩ | rfl <;> rfl)), trivial⟩, 0, 0, 0, 0, 0, 0, 1, [], [], _, zr, 0, 0, (by omega), (by omega), (by rfl), (by rfl), (by rfl), (by rfl), (by rfl), (by rfl), (by rfl), (by rfl), (by rfl), rfl, rfl⟩) ?_
  rintro m s ⟨i, g7, g8, g0, n7, n8, n0, e7, e8, e0, cs, sn, tk, hi, h30, hn7, hn8, hn0, he7, he8, he0, hcs, hsn, htk, rfl, rfl⟩
  have hgi := gi_all (frames_ok l) what i hi (by omega)
  have hg1 := hgi.sn
  have hg2 := hgi.tick
  have hg3 := hgi.rlen
  have hg4 := hgi.rne
  have hg5 := hgi.len
  have hg6 := hgi.short
  have hg7 : HP cs := by rw [hcs]; exact hgi.chp
  have hfl : (frames l 7).length ≤ 7 := by rw [frames_len]; omega
  refine awp_seq ?_
  refine awp_seq ?_
  refine awp_rw rfl ?_
  refine mvT ?_
  refine mvT ?_
  refine RW.op rfl rfl (eff_lenM rfl rfl te26 rfl) ?_
  refine ioT ?_
  refine mvT ?_
  refine RW.split 25 rfl (fun h1 => ?_) (fun h1 => ?_)
  · try simp only [cl] at h1
    refine RW.gop rfl rfl rfl rfl rfl rfl (eff_move (v := .own _ _ _ _) rfl rfl rfl) ?_
    refine RW.gop rfl rfl rfl rfl rfl rfl (eff_len rfl rfl te32 rfl rfl rfl) ?_
    refine RW.gop rfl rfl rfl rfl rfl rfl (eff_iop rfl rfl rfl rfl rfl) ?_
    refine pkT ?_
    refine mvT ?_
    refine RW.split 30 rfl (fun h2 => ?_) (fun h2 => ?_)
    · try simp only [cl] at h2
      refine RW.gop rfl rfl rfl rfl rfl rfl (eff_move (v := .t _) rfl rfl rfl) ?_
      refine RW.gop rfl rfl rfl rfl rfl rfl (eff_iop rfl rfl rfl rfl rfl) ?_
      refine pkT ?_
      refine RW.nil ?_
      refine awp_cond rfl (fun h3 => ?_) (fun h3 => ?_)
      · try simp only [cl] at h3
        refine awp_skip ?_
        refine awp_seq ?_
        refine awp_block ?_
        refine awp_seq ?_
        refine awp_rw rfl ?_
        have hil : i < what.length := by omega
        refine mvT ?_
        refine mvT ?_
        refine RW.op rfl rfl (eff_indexM rfl rfl te26 rfl rfl rfl (by first | assumption | exact List.getElem?_eq_getElem (by omega)) rfl (by decide)) ?_
        refine RW.op rfl rfl (eff_loadW1 rfl rfl ti3 rfl rfl) ?_
        refine RW.op rfl rfl (eff_callT (around_ret _ _ (hJ _ (List.getElem_mem _)) (by omega)) co13 rfl rfl rfl rfl) ?_
        refine asT ?_
        refine RW.nil ?_
        refine awp_seq ?_
        refine awp_rw rfl ?_
        have har := around_range (n := what[i]'hil) (m := 1000000) (by decide)
        refine mvT ?_
        refine mvT ?_
        refine RW.op rfl rfl (eff_remE (r := (around (what[i]'hil) 1000000) % 3) rfl rfl rfl rfl (by decide) (tmod_pos (by omega))) ?_
        refine RW.op rfl rfl (eff_iop (r := encI (tk + (around (what[i]'hil) 1000000) % 3)) rfl rfl rfl rfl (iadd (by omega))) ?_
        refine asT ?_
        refine RW.nil ?_
        refine awp_seq ?_
        refine awp_rw rfl ?_
        refine mvT ?_
        refine RW.op rfl rfl (eff_buildT (ys := [_, _, _, _, _, _, _, _, _, _, _, _, _, _, _]) rfl rfl tz47 tg47 rfl) ?_
        refine RW.new rfl rfl (eff_allocK (k := 15) (id := 15) rfl rfl tz47 rfl rfl) ?_
        refine RW.store rfl rfl (eff_storeW (v := .t _) (els := [_]) (els' := [_]) rfl rfl ti47 rfl rfl rfl rfl rfl rfl rfl rfl rfl) ?_
        refine RW.nil ?_
        refine awp_seq ?_
        refine awp_block ?_
        refine awp_seq ?_
        refine awp_rw rfl ?_
        refine mvT ?_
        refine RW.op rfl rfl (eff_quoE (r := (around (what[i]'hil) 1000000) / 3) rfl rfl rfl rfl (by decide) (quoN (by omega) (by decide))) ?_
        refine RW.op rfl rfl (eff_remE (r := ((around (what[i]'hil) 1000000) / 3) % 5) rfl rfl rfl rfl (by decide) (tmod_pos (by omega))) ?_
        refine ioT ?_
        refine mvT ?_
        refine RW.split 65 rfl (fun h4 => ?_) (fun h4 => ?_)
        · try simp only [cl] at h4
          refine RW.gop rfl rfl rfl rfl rfl rfl (eff_move (v := .t _) rfl rfl rfl) ?_
          refine RW.gop rfl rfl rfl rfl rfl rfl (eff_move (v := .t _) rfl rfl rfl) ?_
          refine RW.gop rfl rfl rfl rfl rfl rfl (eff_lenM rfl rfl te62 rfl) ?_
          refine RW.gop rfl rfl rfl rfl rfl rfl (eff_iop rfl rfl rfl rfl rfl) ?_
          refine pkT ?_
          refine asT ?_
          refine RW.nil ?_
          refine awp_cond rfl (fun h5 => ?_) (fun h5 => ?_)
          · try simp only [cl] at h5
            refine awp_seq ?_
            refine awp_rw rfl ?_
            refine faT tf47_1 ?_
            refine RW.store rfl rfl (eff_storeS (v := .t _) (ys := [_, _, _, _, _, _, _, _, _, _, _, _, _, _, _]) (els := [_]) (els' := [_]) rfl rfl ti3 rfl rfl rfl rfl rfl rfl rfl (Nat.le_of_ble_eq_true rfl) rfl rfl) ?_
            refine RW.nil ?_
            refine awp_seq ?_
            refine awp_rw rfl ?_
            refine mvT ?_
            refine mvT ?_
            refine RW.op rfl rfl (eff_indexM rfl rfl te62 rfl rfl rfl (by first | assumption | exact List.getElem?_eq_getElem (by omega)) rfl (by decide)) ?_
            refine RW.op rfl rfl (eff_loadW rfl rfl ti45 rfl rfl rfl) ?_
            refine faT tf47_2 ?_
            refine RW.store rfl rfl (eff_storeS (v := .t _) (ys := [_, _, _, _, _, _, _, _, _, _, _, _, _, _, _]) (els := [_]) (els' := [_]) rfl rfl ti45 rfl rfl rfl rfl rfl rfl rfl (Nat.le_of_ble_eq_true rfl) rfl rfl) ?_
            refine RW.nil ?_
            refine awp_rw rfl ?_
            refine mvT ?_
            refine RW.op rfl rfl (eff_iop rfl rfl rfl rfl (iadd (by omega))) ?_
            refine asT ?_
            refine RW.nil ?_
            refine awp_seq ?_
            refine awp_rw rfl ?_
            refine mvO ?_
            refine RW.op rfl rfl (eff_load rfl rfl ti47 rfl (.whole rfl rfl rfl rfl rfl rfl)) ?_
            (refine RW.weak (weak_slot 120 (y := encC ⟨tk + (around (what[i]'hil) 1000000) % 3, 1, (frames l 7)[sn]'(by omega), zr, zd⟩) rfl (by first | ((repeat' (first | exact trivial | exact Wk.refl _ | exact Wk.sl _ | refine And.intro ?_ ?_ | refine Wk.tupP ?_ | refine Wk.aggP ?_)); done) | fail)) rfl ?_)
            refine RW.new rfl rfl (eff_buildSliceL (id := 121) (els := [.t (.agg [_, _, _, _, _, _, _, _, _, _, _, _, _, _, _])]) rfl rfl te32 tz47 rfl (by decide) (by decide) rfl rfl rfl rfl) ?_
            refine RW.new rfl rfl (eff_append (id := 7) (ys := [_]) rfl rfl ta32 rfl rfl rfl (by rw [he7, hn7]; simp) rfl rfl (srcOwn rfl rfl rfl rfl rfl rfl) (by simp) (by simp; omega) (by simp; omega)) ?_
            refine asO ?_
            refine RW.nil ?_
            refine awp_rw rfl ?_
            refine mvO ?_
            refine RW.op rfl rfl (eff_load rfl rfl ti23 rfl (.whole rfl rfl rfl rfl rfl rfl)) ?_
            refine RW.new rfl rfl (eff_buildSliceL (id := 125) (els := [.t (.agg [_, _, _, _])]) rfl rfl te33 tz23 rfl (by decide) (by decide) rfl rfl rfl rfl) ?_
            refine RW.new rfl rfl (eff_append (id := 8) (ys := [_]) rfl rfl ta33 rfl rfl rfl (by rw [he8, hn8]; simp) rfl rfl (srcOwn rfl rfl rfl rfl rfl rfl) (by simp) (by simp; omega) (by simp; omega)) ?_
            refine asO ?_
            refine RW.nil ?_
            refine awp_rw rfl ?_
            refine mvT ?_
            refine RW.op rfl rfl (eff_iop rfl rfl rfl rfl (iadd (by omega))) ?_
            refine asT ?_
            refine RW.nil ?_
            have hG := gall_send (F := (frames l 7)) hil rfl (by omega) hsn (by omega) (by omega)
            refine ⟨_, ?_, _, weak_keep (n := 129) (fr' := [(1, .t (.sl (what.map encI) false)), (6, .t (.sl ((frames l 7).map encF) false)), (7, .own 7 _ 0 _), (8, .own 8 _ 0 _), (9, .ptr 9 0 0 0), (10, .own 20 _ 0 _), (11, .t (encI (_ : Nat))), (12, .t (encI _)), (13, .t (encI ((i + 1) : Nat)))]) (st' := [(7, some ⟨15, 47, _, _⟩), (8, some ⟨4, 23, _, _⟩), (9, some ⟨4, 23, 0, [.t (encR _)]⟩), (20, some ⟨4, 23, _, _⟩)]) ⟨rfl, rfl, rfl, rfl, rfl, rfl, rfl, rfl, rfl, rfl, rfl, rfl, rfl, rfl, rfl, rfl, rfl, rfl, trivial⟩ ⟨rfl, (by first | exact okE_nil | exact okE_one rfl | (rw [he7]; exact okE_t) | (rw [he7]; intro x hx; simp only [List.mem_append, List.mem_map, List.mem_singleton] at hx; rcases hx with ⟨y, _, rfl⟩ | rfl <;> rfl)), rfl, (by first | exact okE_nil | exact okE_one rfl | (rw [he8]; exact okE_t) | (rw [he8]; intro x hx; simp only [List.mem_append, List.mem_map, List.mem_singleton] at hx; rcases hx with ⟨y, _, rfl⟩ | rfl <;> rfl)), rfl, okE_one rfl, rfl, (by first | exact okE_nil | exact okE_one rfl | (rw [he0]; exact okE_t) | (rw [he0]; intro x hx; simp only [List.mem_append, List.mem_map, List.mem_singleton] at hx; rcases hx with ⟨y, _, rfl⟩ | rfl <;> rfl)), trivial⟩, i + 1, _, _, _, _, _, _, _, _, _, _, _, _, (by omega), (by omega), (by first | (exfalso; omega) | (rw [hG]; simp [gput, garr, hn7])), (by first | (exfalso; omega) | (rw [hG]; simp [gput, garr, hn8])), (by first | (exfalso; omega) | (rw [hG]; simp [gput, garr, hn0])), (by first | (exfalso; omega) | (first | (rw [hG]; exact he7) | (rw [hG, he7]; exact mapT_snoc (by subst htk; rfl)))), (by first | (exfalso; omega) | (first | (rw [hG]; exact he8) | (rw [hG, he8]; exact mapT_snoc (by subst hcs; rfl)))), (by first | (exfalso; omega) | (first | (rw [hG]; exact he0) | (rw [hG, he0]; exact mapT_snoc (by subst hcs; rfl)))), (by first | (exfalso; omega) | (first | (rw [hG]; exact hcs) | (rw [hG, hcs]; rfl))), (by first | (exfalso; omega) | (first | (rw [hG]; rfl) | (rw [hG]; exact hsn))), (by first | (exfalso; omega) | (rw [hG, htk]; rfl)), rfl, rfl⟩
            omega
          · try simp only [cl] at h5
            refine awp_seq ?_
            refine awp_rw rfl ?_
            refine mvT ?_
            refine RW.op rfl rfl (eff_quoE (r := (around (what[i]'hil) 1000000) / 3) rfl rfl rfl rfl (by decide) (quoN (by omega) (by decide))) ?_
            refine RW.op rfl rfl (eff_remE (r := ((around (what[i]'hil) 1000000) / 3) % 5) rfl rfl rfl rfl (by decide) (tmod_pos (by omega))) ?_
            refine ioT ?_
            refine mvT ?_
            refine RW.split 84 rfl (fun h6 => ?_) (fun h6 => ?_)
            · try simp only [cl] at h6
              refine RW.gop rfl rfl rfl rfl rfl rfl (eff_move (v := .t _) rfl rfl rfl) ?_
              refine RW.gop rfl rfl rfl rfl rfl rfl (eff_iop rfl rfl rfl rfl rfl) ?_
              refine pkT ?_
              refine asT ?_
              refine RW.nil ?_
              refine awp_cond rfl (fun h7 => ?_) (fun h7 => ?_)
              · try simp only [cl] at h7
                refine awp_seq ?_
                obtain ⟨q, hq, hqn⟩ : ∃ q : Nat, (around (what[i]'hil) 1000000) / 15 % (sn : Int) = (q : Int) ∧ q < sn := ⟨((around (what[i]'hil) 1000000) / 15 % (sn : Int)).toNat, by have := Int.emod_nonneg ((around (what[i]'hil) 1000000) / 15) (show (sn : Int) ≠ 0 by omega); omega, by have := Int.emod_lt_of_pos ((around (what[i]'hil) 1000000) / 15) (show (0 : Int) < sn by omega); have := Int.emod_nonneg ((around (what[i]'hil) 1000000) / 15) (show (sn : Int) ≠ 0 by omega); omega⟩
                have hqf : q < (frames l 7).length := by omega
                refine awp_rd [(some 88, []), (some 89, []), (some 90, []), (some 91, []), (some 92, []), (some 93, []), (some 94, []), (some 95, []), (some 96, []), (none, [9])] [[], [], [], [2], [], [2, 3, 4], [1, 2, 3, 4, 5], [1, 2, 3, 4, 5, 6], [0, 1, 2, 3, 4, 5, 6, 7], [0, 1, 2, 3, 4, 5, 6, 7, 8]] tm rfl rfl rfl rfl ?_
                refine RD.op rfl rfl rfl (eff_load rfl rfl ti23 rfl (.whole rfl rfl rfl rfl rfl rfl)) ?_
                refine mvD ?_
                refine mvD ?_
                refine RD.op rfl rfl rfl (eff_quoE (r := (around (what[i]'hil) 1000000) / 15) rfl rfl rfl rfl (by decide) (quoN (by omega) (by decide))) ?_
                refine mvD ?_
                refine RD.op rfl rfl rfl (eff_remE (r := ((q : Nat) : Int)) rfl rfl rfl rfl (by omega) (by rw [tmod_pos (by omega), hq])) ?_
                refine RD.op rfl rfl rfl (eff_indexM (i := q) rfl rfl te62 rfl rfl (by first | rfl | omega) (by first | assumption | exact List.getElem?_eq_getElem (by omega)) rfl (by decide)) ?_
                refine RD.op rfl rfl rfl (eff_loadW rfl rfl ti45 rfl rfl rfl) ?_
                refine RD.op rfl rfl rfl (eff_callT (rapply_ret cs _ hg7) co37 rfl rfl rfl rfl) ?_
                refine RD.store rfl rfl rfl (eff_storeW (v := .t _) (els := [_]) (els' := [_]) rfl rfl ti23 rfl rfl rfl rfl rfl rfl rfl rfl rfl) ?_
                refine RD.nil ?_
                refine awp_seq ?_
                refine awp_rw rfl ?_
                refine mvO ?_
                refine RW.op rfl rfl (eff_load rfl rfl ti23 rfl (.whole rfl rfl rfl rfl rfl rfl)) ?_
                refine RW.new rfl rfl (eff_buildSliceL (id := 99) (els := [.t (.agg [_, _, _, _])]) rfl rfl te33 tz23 rfl (by decide) (by decide) rfl rfl rfl rfl) ?_
                refine RW.new rfl rfl (eff_append (id := 20) (ys := [_]) rfl rfl ta33 rfl rfl rfl (by rw [he0, hn0]; simp) rfl rfl (srcOwn rfl rfl rfl rfl rfl rfl) (by simp) (by simp; omega) (by simp; omega)) ?_
                refine asO ?_
                refine RW.nil ?_
                refine awp_exit ?_
                refine awp_rw rfl ?_
                refine mvT ?_
                refine RW.op rfl rfl (eff_iop rfl rfl rfl rfl (iadd (by omega))) ?_
                refine asT ?_
                refine RW.nil ?_
                have hG := gall_send (F := (frames l 7)) hil rfl (by omega) hsn (by omega) (by omega)
                refine ⟨_, ?_, _, weak_keep (n := 129) (fr' := [(1, .t (.sl (what.map encI) false)), (6, .t (.sl ((frames l 7).map encF) false)), (7, .own 7 _ 0 _), (8, .own 8 _ 0 _), (9, .ptr 9 0 0 0), (10, .own 20 _ 0 _), (11, .t (encI (_ : Nat))), (12, .t (encI _)), (13, .t (encI ((i + 1) : Nat)))]) (st' := [(7, some ⟨15, 47, _, _⟩), (8, some ⟨4, 23, _, _⟩), (9, some ⟨4, 23, 0, [.t (encR _)]⟩), (20, some ⟨4, 23, _, _⟩)]) ⟨rfl, rfl, rfl, rfl, rfl, rfl, rfl, rfl, rfl, rfl, rfl, rfl, rfl, rfl, rfl, rfl, rfl, rfl, trivial⟩ ⟨rfl, (by first | exact okE_nil | exact okE_one rfl | (rw [he7]; exact okE_t) | (rw [he7]; intro x hx; simp only [List.mem_append, List.mem_map, List.mem_singleton] at hx; rcases hx with ⟨y, _, rfl⟩ | rfl <;> rfl)), rfl, (by first | exact okE_nil | exact okE_one rfl | (rw [he8]; exact okE_t) | (rw [he8]; intro x hx; simp only [List.mem_append, List.mem_map, List.mem_singleton] at hx; rcases hx with ⟨y, _, rfl⟩ | rfl <;> rfl)), rfl, okE_one rfl, rfl, (by first | exact okE_nil | exact okE_one rfl | (rw [he0]; exact okE_t) | (rw [he0]; intro x hx; simp only [List.mem_append, List.mem_map, List.mem_singleton] at hx; rcases hx with ⟨y, _, rfl⟩ | rfl <;> rfl)), trivial⟩, i + 1, _, _, _, _, _, _, _, _, _, _, _, _, (by omega), (by omega), (by first | (exfalso; omega) | (rw [hG]; simp [gput, garr, hn7])), (by first | (exfalso; omega) | (rw [hG]; simp [gput, garr, hn8])), (by first | (exfalso; omega) | (rw [hG]; simp [gput, garr, hn0])), (by first | (exfalso; omega) | (first | (rw [hG]; exact he7) | (rw [hG, he7]; exact mapT_snoc (by subst htk; rfl)))), (by first | (exfalso; omega) | (first | (rw [hG]; exact he8) | (rw [hG, he8]; exact mapT_snoc (by subst hcs; rfl)))), (by first | (exfalso; omega) | (first | (rw [hG]; exact he0) | (rw [hG, he0]; exact mapT_snoc (by subst hcs; rfl)))), (by first | (exfalso; omega) | (first | (rw [hG]; exact hcs) | (rw [hG, hcs]; rfl))), (by first | (exfalso; omega) | (first | (rw [hG]; rfl) | (rw [hG]; exact hsn))), (by first | (exfalso; omega) | (rw [hG, htk]; rfl)), rfl, rfl⟩
                omega
              · try simp only [cl] at h7
                refine awp_seq ?_
                refine awp_rw rfl ?_
                refine mvT ?_
                refine RW.op rfl rfl (eff_quoE (r := (around (what[i]'hil) 1000000) / 3) rfl rfl rfl rfl (by decide) (quoN (by omega) (by decide))) ?_
                refine RW.op rfl rfl (eff_remE (r := ((around (what[i]'hil) 1000000) / 3) % 5) rfl rfl rfl rfl (by decide) (tmod_pos (by omega))) ?_
                refine ioT ?_
                refine asT ?_
                refine RW.nil ?_
                refine awp_cond rfl (fun h8 => ?_) (fun h8 => ?_)
                · try simp only [cl] at h8
                  refine awp_seq ?_
                  refine awp_rw rfl ?_
                  refine faT tf47_1 ?_
                  refine RW.store rfl rfl (eff_storeS (v := .t _) (ys := [_, _, _, _, _, _, _, _, _, _, _, _, _, _, _]) (els := [_]) (els' := [_]) rfl rfl ti3 rfl rfl rfl rfl rfl rfl rfl (Nat.le_of_ble_eq_true rfl) rfl rfl) ?_
                  refine RW.nil ?_
                  refine awp_rw rfl ?_
                  obtain ⟨q2, hq2⟩ : ∃ q : Nat, imax 0 (((gall (frames l 7) what i).reps.length : Int) - 1 - (around (what[i]'hil) 1000000) / 15 % 3) = (q : Int) := ⟨(imax 0 (((gall (frames l 7) what i).reps.length : Int) - 1 - (around (what[i]'hil) 1000000) / 15 % 3)).toNat, by unfold imax; split <;> omega⟩
                  have hql : q2 < (gall (frames l 7) what i).reps.length := by unfold imax at hq2; split at hq2 <;> omega
                  refine mvO ?_
                  refine mvO ?_
                  refine RW.op rfl rfl (eff_len rfl rfl te33 rfl rfl rfl) ?_
                  refine RW.op rfl rfl (eff_iop (r := encI ((n0 : Int) - 1)) rfl rfl rfl rfl (isub (by omega))) ?_
                  refine mvT ?_
                  refine RW.op rfl rfl (eff_quoE (r := (around (what[i]'hil) 1000000) / 15) rfl rfl rfl rfl (by decide) (quoN (by omega) (by decide))) ?_
                  refine RW.op rfl rfl (eff_remE (r := ((around (what[i]'hil) 1000000) / 15) % 3) rfl rfl rfl rfl (by decide) (tmod_pos (by omega))) ?_
                  refine RW.op rfl rfl (eff_iop (r := encI ((n0 : Int) - 1 - (around (what[i]'hil) 1000000) / 15 % 3)) rfl rfl rfl rfl (isub (by omega))) ?_
                  refine RW.op rfl rfl (eff_maxE (r := ((q2 : Nat) : Int)) rfl rfl rfl rfl (by rw [hn0]; exact hq2)) ?_
                  refine RW.op rfl rfl (eff_indexAddr (i := q2) rfl rfl te33 rfl rfl rfl rfl rfl rfl (by omega)) ?_
                  refine RW.op rfl rfl (eff_load (y := .t (encR ((gall (frames l 7) what i).reps[q2]'hql))) rfl rfl ti23 rfl (.whole rfl rfl (by rw [Nat.zero_add, he0]; exact elR hql) rfl rfl rfl)) ?_
                  refine faT tf47_3 ?_
                  refine RW.store rfl rfl (eff_storeS (v := .t _) (ys := [_, _, _, _, _, _, _, _, _, _, _, _, _, _, _]) (els := [_]) (els' := [_]) rfl rfl ti23 rfl rfl rfl rfl rfl rfl rfl (Nat.le_of_ble_eq_true rfl) rfl rfl) ?_
                  refine RW.nil ?_
                  refine awp_seq ?_
                  refine awp_rw rfl ?_
                  refine mvO ?_
                  refine RW.op rfl rfl (eff_load rfl rfl ti47 rfl (.whole rfl rfl rfl rfl rfl rfl)) ?_
                  (refine RW.weak (weak_slot 120 (y := encC ⟨tk + (around (what[i]'hil) 1000000) % 3, 2, zf, (gall (frames l 7) what i).reps[q2]'hql, zd⟩) rfl (by first | ((repeat' (first | exact trivial | exact Wk.refl _ | exact Wk.sl _ | refine And.intro ?_ ?_ | refine Wk.tupP ?_ | refine Wk.aggP ?_)); done) | fail)) rfl ?_)
                  refine RW.new rfl rfl (eff_buildSliceL (id := 121) (els := [.t (.agg [_, _, _, _, _, _, _, _, _, _, _, _, _, _, _])]) rfl rfl te32 tz47 rfl (by decide) (by decide) rfl rfl rfl rfl) ?_
                  refine RW.new rfl rfl (eff_append (id := 7) (ys := [_]) rfl rfl ta32 rfl rfl rfl (by rw [he7, hn7]; simp) rfl rfl (srcOwn rfl rfl rfl rfl rfl rfl) (by simp) (by simp; omega) (by simp; omega)) ?_
                  refine asO ?_
                  refine RW.nil ?_
                  refine awp_rw rfl ?_
                  refine mvO ?_
                  refine RW.op rfl rfl (eff_load rfl rfl ti23 rfl (.whole rfl rfl rfl rfl rfl rfl)) ?_
                  refine RW.new rfl rfl (eff_buildSliceL (id := 125) (els := [.t (.agg [_, _, _, _])]) rfl rfl te33 tz23 rfl (by decide) (by decide) rfl rfl rfl rfl) ?_
                  refine RW.new rfl rfl (eff_append (id := 8) (ys := [_]) rfl rfl ta33 rfl rfl rfl (by rw [he8, hn8]; simp) rfl rfl (srcOwn rfl rfl rfl rfl rfl rfl) (by simp) (by simp; omega) (by simp; omega)) ?_
                  refine asO ?_
                  refine RW.nil ?_
                  refine awp_rw rfl ?_
                  refine mvT ?_
                  refine RW.op rfl rfl (eff_iop rfl rfl rfl rfl (iadd (by omega))) ?_
                  refine asT ?_
                  refine RW.nil ?_
                  have hG := gall_send (F := (frames l 7)) hil rfl (by omega) hsn (by omega) (by omega)
                  refine ⟨_, ?_, _, weak_keep (n := 129) (fr' := [(1, .t (.sl (what.map encI) false)), (6, .t (.sl ((frames l 7).map encF) false)), (7, .own 7 _ 0 _), (8, .own 8 _ 0 _), (9, .ptr 9 0 0 0), (10, .own 20 _ 0 _), (11, .t (encI (_ : Nat))), (12, .t (encI _)), (13, .t (encI ((i + 1) : Nat)))]) (st' := [(7, some ⟨15, 47, _, _⟩), (8, some ⟨4, 23, _, _⟩), (9, some ⟨4, 23, 0, [.t (encR _)]⟩), (20, some ⟨4, 23, _, _⟩)]) ⟨rfl, rfl, rfl, rfl, rfl, rfl, rfl, rfl, rfl, rfl, rfl, rfl, rfl, rfl, rfl, rfl, rfl, rfl, trivial⟩ ⟨rfl, (by first | exact okE_nil | exact okE_one rfl | (rw [he7]; exact okE_t) | (rw [he7]; intro x hx; simp only [List.mem_append, List.mem_map, List.mem_singleton] at hx; rcases hx with ⟨y, _, rfl⟩ | rfl <;> rfl)), rfl, (by first | exact okE_nil | exact okE_one rfl | (rw [he8]; exact okE_t) | (rw [he8]; intro x hx; simp only [List.mem_append, List.mem_map, List.mem_singleton] at hx; rcases hx with ⟨y, _, rfl⟩ | rfl <;> rfl)), rfl, okE_one rfl, rfl, (by first | exact okE_nil | exact okE_one rfl | (rw [he0]; exact okE_t) | (rw [he0]; intro x hx; simp only [List.mem_append, List.mem_map, List.mem_singleton] at hx; rcases hx with ⟨y, _, rfl⟩ | rfl <;> rfl)), trivial⟩, i + 1, _, _, _, _, _, _, _, _, _, _, _, _, (by omega), (by omega), (by first | (exfalso; omega) | (rw [hG]; simp [gput, garr, hn7])), (by first | (exfalso; omega) | (rw [hG]; simp [gput, garr, hn8])), (by first | (exfalso; omega) | (rw [hG]; simp [gput, garr, hn0])), (by first | (exfalso; omega) | (first | (rw [hG]; exact he7) | (rw [hG, he7]; exact mapT_snoc (by subst htk; rfl)))), (by first | (exfalso; omega) | (first | (rw [hG]; exact he8) | (rw [hG, he8]; exact mapT_snoc (by subst hcs; rfl)))), (by first | (exfalso; omega) | (first | (rw [hG]; exact he0) | (rw [hG, he0]; exact mapT_snoc (by subst hcs; rfl)))), (by first | (exfalso; omega) | (first | (rw [hG]; exact hcs) | (rw [hG, hcs]; rfl))), (by first | (exfalso; omega) | (first | (rw [hG]; rfl) | (rw [hG]; exact hsn))), (by first | (exfalso; omega) | (rw [hG, htk]; rfl)), rfl, rfl⟩
                  omega
                · try simp only [cl] at h8
                  refine awp_seq ?_
                  refine awp_rw rfl ?_
                  refine faT tf47_1 ?_
                  refine RW.store rfl rfl (eff_storeS (v := .t _) (ys := [_, _, _, _, _, _, _, _, _, _, _, _, _, _, _]) (els := [_]) (els' := [_]) rfl rfl ti3 rfl rfl rfl rfl rfl rfl rfl (Nat.le_of_ble_eq_true rfl) rfl rfl) ?_
                  refine RW.nil ?_
                  refine awp_rw rfl ?_
                  refine mvT ?_
                  refine mvT ?_
                  refine RW.op rfl rfl (eff_quoE (r := (around (what[i]'hil) 1000000) / 15) rfl rfl rfl rfl (by decide) (quoN (by omega) (by decide))) ?_
                  refine RW.op rfl rfl (eff_remE (r := ((around (what[i]'hil) 1000000) / 15) % 3) rfl rfl rfl rfl (by decide) (tmod_pos (by omega))) ?_
                  refine mvT ?_
                  refine RW.op rfl rfl (eff_quoE (r := (around (what[i]'hil) 1000000) / 45) rfl rfl rfl rfl (by decide) (quoN (by omega) (by decide))) ?_
                  refine RW.op rfl rfl (eff_remE (r := ((around (what[i]'hil) 1000000) / 45) % 4) rfl rfl rfl rfl (by decide) (tmod_pos (by omega))) ?_
                  refine mvT ?_
                  refine RW.op rfl rfl (eff_quoE (r := (around (what[i]'hil) 1000000) / 180) rfl rfl rfl rfl (by decide) (quoN (by omega) (by decide))) ?_
                  refine RW.op rfl rfl (eff_remE (r := ((around (what[i]'hil) 1000000) / 180) % 8) rfl rfl rfl rfl (by decide) (tmod_pos (by omega))) ?_
                  refine RW.op rfl rfl (eff_buildT (ys := [_, _, _, _]) rfl rfl tz28 tg28 rfl) ?_
                  refine faT tf47_4 ?_
                  refine RW.store rfl rfl (eff_storeS (v := .t _) (ys := [_, _, _, _, _, _, _, _, _, _, _, _, _, _, _]) (els := [_]) (els' := [_]) rfl rfl ti28 rfl rfl rfl rfl rfl rfl rfl (Nat.le_of_ble_eq_true rfl) rfl rfl) ?_
                  refine RW.nil ?_
                  refine awp_seq ?_
                  refine awp_rw rfl ?_
                  refine mvO ?_
                  refine RW.op rfl rfl (eff_load rfl rfl ti47 rfl (.whole rfl rfl rfl rfl rfl rfl)) ?_
                  (refine RW.weak (weak_slot 120 (y := encC ⟨tk + (around (what[i]'hil) 1000000) % 3, 3, zf, zr, ⟨tk + (around (what[i]'hil) 1000000) % 3, (around (what[i]'hil) 1000000) / 15 % 3, (around (what[i]'hil) 1000000) / 45 % 4, (around (what[i]'hil) 1000000) / 180 % 8⟩⟩) rfl (by first | ((repeat' (first | exact trivial | exact Wk.refl _ | exact Wk.sl _ | refine And.intro ?_ ?_ | refine Wk.tupP ?_ | refine Wk.aggP ?_)); done) | fail)) rfl ?_)
                  refine RW.new rfl rfl (eff_buildSliceL (id := 121) (els := [.t (.agg [_, _, _, _, _, _, _, _, _, _, _, _, _, _, _])]) rfl rfl te32 tz47 rfl (by decide) (by decide) rfl rfl rfl rfl) ?_
                  refine RW.new rfl rfl (eff_append (id := 7) (ys := [_]) rfl rfl ta32 rfl rfl rfl (by rw [he7, hn7]; simp) rfl rfl (srcOwn rfl rfl rfl rfl rfl rfl) (by simp) (by simp; omega) (by simp; omega)) ?_
                  refine asO ?_
                  refine RW.nil ?_
                  refine awp_rw rfl ?_
                  refine mvO ?_
                  refine RW.op rfl rfl (eff_load rfl rfl ti23 rfl (.whole rfl rfl rfl rfl rfl rfl)) ?_
                  refine RW.new rfl rfl (eff_buildSliceL (id := 125) (els := [.t (.agg [_, _, _, _])]) rfl rfl te33 tz23 rfl (by decide) (by decide) rfl rfl rfl rfl) ?_
                  refine RW.new rfl rfl (eff_append (id := 8) (ys := [_]) rfl rfl ta33 rfl rfl rfl (by rw [he8, hn8]; simp) rfl rfl (srcOwn rfl rfl rfl rfl rfl rfl) (by simp) (by simp; omega) (by simp; omega)) ?_
                  refine asO ?_
                  refine RW.nil ?_
                  refine awp_rw rfl ?_
                  refine mvT ?_
                  refine RW.op rfl rfl (eff_iop rfl rfl rfl rfl (iadd (by omega))) ?_
                  refine asT ?_
                  refine RW.nil ?_
                  have hG := gall_send (F := (frames l 7)) hil rfl (by omega) hsn (by omega) (by omega)
                  refine ⟨_, ?_, _, weak_keep (n := 129) (fr' := [(1, .t (.sl (what.map encI) false)), (6, .t (.sl ((frames l 7).map encF) false)), (7, .own 7 _ 0 _), (8, .own 8 _ 0 _), (9, .ptr 9 0 0 0), (10, .own 20 _ 0 _), (11, .t (encI (_ : Nat))), (12, .t (encI _)), (13, .t (encI ((i + 1) : Nat)))]) (st' := [(7, some ⟨15, 47, _, _⟩), (8, some ⟨4, 23, _, _⟩), (9, some ⟨4, 23, 0, [.t (encR _)]⟩), (20, some ⟨4, 23, _, _⟩)]) ⟨rfl, rfl, rfl, rfl, rfl, rfl, rfl, rfl, rfl, rfl, rfl, rfl, rfl, rfl, rfl, rfl, rfl, rfl, trivial⟩ ⟨rfl, (by first | exact okE_nil | exact okE_one rfl | (rw [he7]; exact okE_t) | (rw [he7]; intro x hx; simp only [List.mem_append, List.mem_map, List.mem_singleton] at hx; rcases hx with ⟨y, _, rfl⟩ | rfl <;> rfl)), rfl, (by first | exact okE_nil | exact okE_one rfl | (rw [he8]; exact okE_t) | (rw [he8]; intro x hx; simp only [List.mem_append, List.mem_map, List.mem_singleton] at hx; rcases hx with ⟨y, _, rfl⟩ | rfl <;> rfl)), rfl, okE_one rfl, rfl, (by first | exact okE_nil | exact okE_one rfl | (rw [he0]; exact okE_t) | (rw [he0]; intro x hx; simp only [List.mem_append, List.mem_map, List.mem_singleton] at hx; rcases hx with ⟨y, _, rfl⟩ | rfl <;> rfl)), trivial⟩, i + 1, _, _, _, _, _, _, _, _, _, _, _, _, (by omega), (by omega), (by first | (exfalso; omega) | (rw [hG]; simp [gput, garr, hn7])), (by first | (exfalso; omega) | (rw [hG]; simp [gput, garr, hn8])), (by first | (exfalso; omega) | (rw [hG]; simp [gput, garr, hn0])), (by first | (exfalso; omega) | (first | (rw [hG]; exact he7) | (rw [hG, he7]; exact mapT_snoc (by subst htk; rfl)))), (by first | (exfalso; omega) | (first | (rw [hG]; exact he8) | (rw [hG, he8]; exact mapT_snoc (by subst hcs; rfl)))), (by first | (exfalso; omega) | (first | (rw [hG]; exact he0) | (rw [hG, he0]; exact mapT_snoc (by subst hcs; rfl)))), (by first | (exfalso; omega) | (first | (rw [hG]; exact hcs) | (rw [hG, hcs]; rfl))), (by first | (exfalso; omega) | (first | (rw [hG]; rfl) | (rw [hG]; exact hsn))), (by first | (exfalso; omega) | (rw [hG, htk]; rfl)), rfl, rfl⟩
                  omega
            · try simp only [cl] at h6
              refine gkT ?_
              refine gkT ?_
              refine pkT ?_
              refine asT ?_
              refine RW.nil ?_
              refine awp_cond rfl (fun h => nomatch h) (fun _ => ?_)
              refine awp_seq ?_
              refine awp_rw rfl ?_
              refine mvT ?_
              refine RW.op rfl rfl (eff_quoE (r := (around (what[i]'hil) 1000000) / 3) rfl rfl rfl rfl (by decide) (quoN (by omega) (by decide))) ?_
              refine RW.op rfl rfl (eff_remE (r := ((around (what[i]'hil) 1000000) / 3) % 5) rfl rfl rfl rfl (by decide) (tmod_pos (by omega))) ?_
              refine ioT ?_
              refine asT ?_
              refine RW.nil ?_
              refine awp_cond rfl (fun h9 => ?_) (fun h9 => ?_)
              · try simp only [cl] at h9
                refine awp_seq ?_
                refine awp_rw rfl ?_
                refine faT tf47_1 ?_
                refine RW.store rfl rfl (eff_storeS (v := .t _) (ys := [_, _, _, _, _, _, _, _, _, _, _, _, _, _, _]) (els := [_]) (els' := [_]) rfl rfl ti3 rfl rfl rfl rfl rfl rfl rfl (Nat.le_of_ble_eq_true rfl) rfl rfl) ?_
                refine RW.nil ?_
                refine awp_rw rfl ?_
                obtain ⟨q2, hq2⟩ : ∃ q : Nat, imax 0 (((gall (frames l 7) what i).reps.length : Int) - 1 - (around (what[i]'hil) 1000000) / 15 % 3) = (q : Int) := ⟨(imax 0 (((gall (frames l 7) what i).reps.length : Int) - 1 - (around (what[i]'hil) 1000000) / 15 % 3)).toNat, by unfold imax; split <;> omega⟩
                have hql : q2 < (gall (frames l 7) what i).reps.length := by unfold imax at hq2; split at hq2 <;> omega
                refine mvO ?_
                refine mvO ?_
                refine RW.op rfl rfl (eff_len rfl rfl te33 rfl rfl rfl) ?_
                refine RW.op rfl rfl (eff_iop (r := encI ((n0 : Int) - 1)) rfl rfl rfl rfl (isub (by omega))) ?_
                refine mvT ?_
                refine RW.op rfl rfl (eff_quoE (r := (around (what[i]'hil) 1000000) / 15) rfl rfl rfl rfl (by decide) (quoN (by omega) (by decide))) ?_
                refine RW.op rfl rfl (eff_remE (r := ((around (what[i]'hil) 1000000) / 15) % 3) rfl rfl rfl rfl (by decide) (tmod_pos (by omega))) ?_
                refine RW.op rfl rfl (eff_iop (r := encI ((n0 : Int) - 1 - (around (what[i]'hil) 1000000) / 15 % 3)) rfl rfl rfl rfl (isub (by omega))) ?_
                refine RW.op rfl rfl (eff_maxE (r := ((q2 : Nat) : Int)) rfl rfl rfl rfl (by rw [hn0]; exact hq2)) ?_
                refine RW.op rfl rfl (eff_indexAddr (i := q2) rfl rfl te33 rfl rfl rfl rfl rfl rfl (by omega)) ?_
                refine RW.op rfl rfl (eff_load (y := .t (encR ((gall (frames l 7) what i).reps[q2]'hql))) rfl rfl ti23 rfl (.whole rfl rfl (by rw [Nat.zero_add, he0]; exact elR hql) rfl rfl rfl)) ?_
                refine faT tf47_3 ?_
                refine RW.store rfl rfl (eff_storeS (v := .t _) (ys := [_, _, _, _, _, _, _, _, _, _, _, _, _, _, _]) (els := [_]) (els' := [_]) rfl rfl ti23 rfl rfl rfl rfl rfl rfl rfl (Nat.le_of_ble_eq_true rfl) rfl rfl) ?_
                refine RW.nil ?_
                refine awp_seq ?_
                refine awp_rw rfl ?_
                refine mvO ?_
                refine RW.op rfl rfl (eff_load rfl rfl ti47 rfl (.whole rfl rfl rfl rfl rfl rfl)) ?_
                (refine RW.weak (weak_slot 120 (y := encC ⟨tk + (around (what[i]'hil) 1000000) % 3, 2, zf, (gall (frames l 7) what i).reps[q2]'hql, zd⟩) rfl (by first | ((repeat' (first | exact trivial | exact Wk.refl _ | exact Wk.sl _ | refine And.intro ?_ ?_ | refine Wk.tupP ?_ | refine Wk.aggP ?_)); done) | fail)) rfl ?_)
                refine RW.new rfl rfl (eff_buildSliceL (id := 121) (els := [.t (.agg [_, _, _, _, _, _, _, _, _, _, _, _, _, _, _])]) rfl rfl te32 tz47 rfl (by decide) (by decide) rfl rfl rfl rfl) ?_
                refine RW.new rfl rfl (eff_append (id := 7) (ys := [_]) rfl rfl ta32 rfl rfl rfl (by rw [he7, hn7]; simp) rfl rfl (srcOwn rfl rfl rfl rfl rfl rfl) (by simp) (by simp; omega) (by simp; omega)) ?_
                refine asO ?_
                refine RW.nil ?_
                refine awp_rw rfl ?_
                refine mvO ?_
                refine RW.op rfl rfl (eff_load rfl rfl ti23 rfl (.whole rfl rfl rfl rfl rfl rfl)) ?_
                refine RW.new rfl rfl (eff_buildSliceL (id := 125) (els := [.t (.agg [_, _, _, _])]) rfl rfl te33 tz23 rfl (by decide) (by decide) rfl rfl rfl rfl) ?_
                refine RW.new rfl rfl (eff_append (id := 8) (ys := [_]) rfl rfl ta33 rfl rfl rfl (by rw [he8, hn8]; simp) rfl rfl (srcOwn rfl rfl rfl rfl rfl rfl) (by simp) (by simp; omega) (by simp; omega)) ?_
                refine asO ?_
                refine RW.nil ?_
                refine awp_rw rfl ?_
                refine mvT ?_
                refine RW.op rfl rfl (eff_iop rfl rfl rfl rfl (iadd (by omega))) ?_
                refine asT ?_
                refine RW.nil ?_
                have hG := gall_send (F := (frames l 7)) hil rfl (by omega) hsn (by omega) (by omega)
                refine ⟨_, ?_, _, weak_keep (n := 129) (fr' := [(1, .t (.sl (what.map encI) false)), (6, .t (.sl ((frames l 7).map encF) false)), (7, .own 7 _ 0 _), (8, .own 8 _ 0 _), (9, .ptr 9 0 0 0), (10, .own 20 _ 0 _), (11, .t (encI (_ : Nat))), (12, .t (encI _)), (13, .t (encI ((i + 1) : Nat)))]) (st' := [(7, some ⟨15, 47, _, _⟩), (8, some ⟨4, 23, _, _⟩), (9, some ⟨4, 23, 0, [.t (encR _)]⟩), (20, some ⟨4, 23, _, _⟩)]) ⟨rfl, rfl, rfl, rfl, rfl, rfl, rfl, rfl, rfl, rfl, rfl, rfl, rfl, rfl, rfl, rfl, rfl, rfl, trivial⟩ ⟨rfl, (by first | exact okE_nil | exact okE_one rfl | (rw [he7]; exact okE_t) | (rw [he7]; intro x hx; simp only [List.mem_append, List.mem_map, List.mem_singleton] at hx; rcases hx with ⟨y, _, rfl⟩ | rfl <;> rfl)), rfl, (by first | exact okE_nil | exact okE_one rfl | (rw [he8]; exact okE_t) | (rw [he8]; intro x hx; simp only [List.mem_append, List.mem_map, List.mem_singleton] at hx; rcases hx with ⟨y, _, rfl⟩ | rfl <;> rfl)), rfl, okE_one rfl, rfl, (by first | exact okE_nil | exact okE_one rfl | (rw [he0]; exact okE_t) | (rw [he0]; intro x hx; simp only [List.mem_append, List.mem_map, List.mem_singleton] at hx; rcases hx with ⟨y, _, rfl⟩ | rfl <;> rfl)), trivial⟩, i + 1, _, _, _, _, _, _, _, _, _, _, _, _, (by omega), (by omega), (by first | (exfalso; omega) | (rw [hG]; simp [gput, garr, hn7])), (by first | (exfalso; omega) | (rw [hG]; simp [gput, garr, hn8])), (by first | (exfalso; omega) | (rw [hG]; simp [gput, garr, hn0])), (by first | (exfalso; omega) | (first | (rw [hG]; exact he7) | (rw [hG, he7]; exact mapT_snoc (by subst htk; rfl)))), (by first | (exfalso; omega) | (first | (rw [hG]; exact he8) | (rw [hG, he8]; exact mapT_snoc (by subst hcs; rfl)))), (by first | (exfalso; omega) | (first | (rw [hG]; exact he0) | (rw [hG, he0]; exact mapT_snoc (by subst hcs; rfl)))), (by first | (exfalso; omega) | (first | (rw [hG]; exact hcs) | (rw [hG, hcs]; rfl))), (by first | (exfalso; omega) | (first | (rw [hG]; rfl) | (rw [hG]; exact hsn))), (by first | (exfalso; omega) | (rw [hG, htk]; rfl)), rfl, rfl⟩
                omega
              · try simp only [cl] at h9
                refine awp_seq ?_
                refine awp_rw rfl ?_
                refine faT tf47_1 ?_
                refine RW.store rfl rfl (eff_storeS (v := .t _) (ys := [_, _, _, _, _, _, _, _, _, _, _, _, _, _, _]) (els := [_]) (els' := [_]) rfl rfl ti3 rfl rfl rfl rfl rfl rfl rfl (Nat.le_of_ble_eq_true rfl) rfl rfl) ?_
                refine RW.nil ?_
                refine awp_rw rfl ?_
                refine mvT ?_
                refine mvT ?_
                refine RW.op rfl rfl (eff_quoE (r := (around (what[i]'hil) 1000000) / 15) rfl rfl rfl rfl (by decide) (quoN (by omega) (by decide))) ?_
                refine RW.op rfl rfl (eff_remE (r := ((around (what[i]'hil) 1000000) / 15) % 3) rfl rfl rfl rfl (by decide) (tmod_pos (by omega))) ?_
                refine mvT ?_
                refine RW.op rfl rfl (eff_quoE (r := (around (what[i]'hil) 1000000) / 45) rfl rfl rfl rfl (by decide) (quoN (by omega) (by decide))) ?_
                refine RW.op rfl rfl (eff_remE (r := ((around (what[i]'hil) 1000000) / 45) % 4) rfl rfl rfl rfl (by decide) (tmod_pos (by omega))) ?_
                refine mvT ?_
                refine RW.op rfl rfl (eff_quoE (r := (around (what[i]'hil) 1000000) / 180) rfl rfl rfl rfl (by decide) (quoN (by omega) (by decide))) ?_
                refine RW.op rfl rfl (eff_remE (r := ((around (what[i]'hil) 1000000) / 180) % 8) rfl rfl rfl rfl (by decide) (tmod_pos (by omega))) ?_
                refine RW.op rfl rfl (eff_buildT (ys := [_, _, _, _]) rfl rfl tz28 tg28 rfl) ?_
                refine faT tf47_4 ?_
                refine RW.store rfl rfl (eff_storeS (v := .t _) (ys := [_, _, _, _, _, _, _, _, _, _, _, _, _, _, _]) (els := [_]) (els' := [_]) rfl rfl ti28 rfl rfl rfl rfl rfl rfl rfl (Nat.le_of_ble_eq_true rfl) rfl rfl) ?_
                refine RW.nil ?_
                refine awp_seq ?_
                refine awp_rw rfl ?_
                refine mvO ?_
                refine RW.op rfl rfl (eff_load rfl rfl ti47 rfl (.whole rfl rfl rfl rfl rfl rfl)) ?_
                (refine RW.weak (weak_slot 120 (y := encC ⟨tk + (around (what[i]'hil) 1000000) % 3, 3, zf, zr, ⟨tk + (around (what[i]'hil) 1000000) % 3, (around (what[i]'hil) 1000000) / 15 % 3, (around (what[i]'hil) 1000000) / 45 % 4, (around (what[i]'hil) 1000000) / 180 % 8⟩⟩) rfl (by first | ((repeat' (first | exact trivial | exact Wk.refl _ | exact Wk.sl _ | refine And.intro ?_ ?_ | refine Wk.tupP ?_ | refine Wk.aggP ?_)); done) | fail)) rfl ?_)
                refine RW.new rfl rfl (eff_buildSliceL (id := 121) (els := [.t (.agg [_, _, _, _, _, _, _, _, _, _, _, _, _, _, _])]) rfl rfl te32 tz47 rfl (by decide) (by decide) rfl rfl rfl rfl) ?_
                refine RW.new rfl rfl (eff_append (id := 7) (ys := [_]) rfl rfl ta32 rfl rfl rfl (by rw [he7, hn7]; simp) rfl rfl (srcOwn rfl rfl rfl rfl rfl rfl) (by simp) (by simp; omega) (by simp; omega)) ?_
                refine asO ?_
                refine RW.nil ?_
                refine awp_rw rfl ?_
                refine mvO ?_
                refine RW.op rfl rfl (eff_load rfl rfl ti23 rfl (.whole rfl rfl rfl rfl rfl rfl)) ?_
                refine RW.new rfl rfl (eff_buildSliceL (id := 125) (els := [.t (.agg [_, _, _, _])]) rfl rfl te33 tz23 rfl (by decide) (by decide) rfl rfl rfl rfl) ?_
                refine RW.new rfl rfl (eff_append (id := 8) (ys := [_]) rfl rfl ta33 rfl rfl rfl (by rw [he8, hn8]; simp) rfl rfl (srcOwn rfl rfl rfl rfl rfl rfl) (by simp) (by simp; omega) (by simp; omega)) ?_
                refine asO ?_
                refine RW.nil ?_
                refine awp_rw rfl ?_
                refine mvT ?_
                refine RW.op rfl rfl (eff_iop rfl rfl rfl rfl (iadd (by omega))) ?_
                refine asT ?_
                refine RW.nil ?_
                have hG := gall_dec (F := (frames l 7)) hil rfl (by omega) hsn (by omega) (by omega) (by omega)
                refine ⟨_, ?_, _, weak_keep (n := 129) (fr' := [(1, .t (.sl (what.map encI) false)), (6, .t (.sl ((frames l 7).map encF) false)), (7, .own 7 _ 0 _), (8, .own 8 _ 0 _), (9, .ptr 9 0 0 0), (10, .own 20 _ 0 _), (11, .t (encI (_ : Nat))), (12, .t (encI _)), (13, .t (encI ((i + 1) : Nat)))]) (st' := [(7, some ⟨15, 47, _, _⟩), (8, some ⟨4, 23, _, _⟩), (9, some ⟨4, 23, 0, [.t (encR _)]⟩), (20, some ⟨4, 23, _, _⟩)]) ⟨rfl, rfl, rfl, rfl, rfl, rfl, rfl, rfl, rfl, rfl, rfl, rfl, rfl, rfl, rfl, rfl, rfl, rfl, trivial⟩ ⟨rfl, (by first | exact okE_nil | exact okE_one rfl | (rw [he7]; exact okE_t) | (rw [he7]; intro x hx; simp only [List.mem_append, List.mem_map, List.mem_singleton] at hx; rcases hx with ⟨y, _, rfl⟩ | rfl <;> rfl)), rfl, (by first | exact okE_nil | exact okE_one rfl | (rw [he8]; exact okE_t) | (rw [he8]; intro x hx; simp only [List.mem_append, List.mem_map, List.mem_singleton] at hx; rcases hx with ⟨y, _, rfl⟩ | rfl <;> rfl)), rfl, okE_one rfl, rfl, (by first | exact okE_nil | exact okE_one rfl | (rw [he0]; exact okE_t) | (rw [he0]; intro x hx; simp only [List.mem_append, List.mem_map, List.mem_singleton] at hx; rcases hx with ⟨y, _, rfl⟩ | rfl <;> rfl)), trivial⟩, i + 1, _, _, _, _, _, _, _, _, _, _, _, _, (by omega), (by omega), (by first | (exfalso; omega) | (rw [hG]; simp [gput, garr, hn7])), (by first | (exfalso; omega) | (rw [hG]; simp [gput, garr, hn8])), (by first | (exfalso; omega) | (rw [hG]; simp [gput, garr, hn0])), (by first | (exfalso; omega) | (first | (rw [hG]; exact he7) | (rw [hG, he7]; exact mapT_snoc (by subst htk; rfl)))), (by first | (exfalso; omega) | (first | (rw [hG]; exact he8) | (rw [hG, he8]; exact mapT_snoc (by subst hcs; rfl)))), (by first | (exfalso; omega) | (first | (rw [hG]; exact he0) | (rw [hG, he0]; exact mapT_snoc (by subst hcs; rfl)))), (by first | (exfalso; omega) | (first | (rw [hG]; exact hcs) | (rw [hG, hcs]; rfl))), (by first | (exfalso; omega) | (first | (rw [hG]; rfl) | (rw [hG]; exact hsn))), (by first | (exfalso; omega) | (rw [hG, htk]; rfl)), rfl, rfl⟩
                omega
        · try simp only [cl] at h4
          refine gkT ?_
          refine gkT ?_
          refine gkT ?_
          refine gkT ?_
          refine pkT ?_
          refine asT ?_
          refine RW.nil ?_
          refine awp_cond rfl (fun h => nomatch h) (fun _ => ?_)
          refine awp_seq ?_
          refine awp_rw rfl ?_
          refine mvT ?_
          refine RW.op rfl rfl (eff_quoE (r := (around (what[i]'hil) 1000000) / 3) rfl rfl rfl rfl (by decide) (quoN (by omega) (by decide))) ?_
          refine RW.op rfl rfl (eff_remE (r := ((around (what[i]'hil) 1000000) / 3) % 5) rfl rfl rfl rfl (by decide) (tmod_pos (by omega))) ?_
          refine ioT ?_
          refine mvT ?_
          refine RW.split 84 rfl (fun h10 => ?_) (fun h10 => ?_)
          · try simp only [cl] at h10
            refine RW.gop rfl rfl rfl rfl rfl rfl (eff_move (v := .t _) rfl rfl rfl) ?_
            refine RW.gop rfl rfl rfl rfl rfl rfl (eff_iop rfl rfl rfl rfl rfl) ?_
            refine pkT ?_
            refine asT ?_
            refine RW.nil ?_
            refine awp_cond rfl (fun h11 => ?_) (fun h11 => ?_)
            · try simp only [cl] at h11
              refine awp_seq ?_
              obtain ⟨q, hq, hqn⟩ : ∃ q : Nat, (around (what[i]'hil) 1000000) / 15 % (sn : Int) = (q : Int) ∧ q < sn := ⟨((around (what[i]'hil) 1000000) / 15 % (sn : Int)).toNat, by have := Int.emod_nonneg ((around (what[i]'hil) 1000000) / 15) (show (sn : Int) ≠ 0 by omega); omega, by have := Int.emod_lt_of_pos ((around (what[i]'hil) 1000000) / 15) (show (0 : Int) < sn by omega); have := Int.emod_nonneg ((around (what[i]'hil) 1000000) / 15) (show (sn : Int) ≠ 0 by omega); omega⟩
              have hqf : q < (frames l 7).length := by omega
              refine awp_rd [(some 88, []), (some 89, []), (some 90, []), (some 91, []), (some 92, []), (some 93, []), (some 94, []), (some 95, []), (some 96, []), (none, [9])] [[], [], [], [2], [], [2, 3, 4], [1, 2, 3, 4, 5], [1, 2, 3, 4, 5, 6], [0, 1, 2, 3, 4, 5, 6, 7], [0, 1, 2, 3, 4, 5, 6, 7, 8]] tm rfl rfl rfl rfl ?_
              refine RD.op rfl rfl rfl (eff_load rfl rfl ti23 rfl (.whole rfl rfl rfl rfl rfl rfl)) ?_
              refine mvD ?_
              refine mvD ?_
              refine RD.op rfl rfl rfl (eff_quoE (r := (around (what[i]'hil) 1000000) / 15) rfl rfl rfl rfl (by decide) (quoN (by omega) (by decide))) ?_
              refine mvD ?_
              refine RD.op rfl rfl rfl (eff_remE (r := ((q : Nat) : Int)) rfl rfl rfl rfl (by omega) (by rw [tmod_pos (by omega), hq])) ?_
              refine RD.op rfl rfl rfl (eff_indexM (i := q) rfl rfl te62 rfl rfl (by first | rfl | omega) (by first | assumption | exact List.getElem?_eq_getElem (by omega)) rfl (by decide)) ?_
              refine RD.op rfl rfl rfl (eff_loadW rfl rfl ti45 rfl rfl rfl) ?_
              refine RD.op rfl rfl rfl (eff_callT (rapply_ret cs _ hg7) co37 rfl rfl rfl rfl) ?_
              refine RD.store rfl rfl rfl (eff_storeW (v := .t _) (els := [_]) (els' := [_]) rfl rfl ti23 rfl rfl rfl rfl rfl rfl rfl rfl rfl) ?_
              refine RD.nil ?_
              refine awp_seq ?_
              refine awp_rw rfl ?_
              refine mvO ?_
              refine RW.op rfl rfl (eff_load rfl rfl ti23 rfl (.whole rfl rfl rfl rfl rfl rfl)) ?_
              refine RW.new rfl rfl (eff_buildSliceL (id := 99) (els := [.t (.agg [_, _, _, _])]) rfl rfl te33 tz23 rfl (by decide) (by decide) rfl rfl rfl rfl) ?_
              refine RW.new rfl rfl (eff_append (id := 20) (ys := [_]) rfl rfl ta33 rfl rfl rfl (by rw [he0, hn0]; simp) rfl rfl (srcOwn rfl rfl rfl rfl rfl rfl) (by simp) (by simp; omega) (by simp; omega)) ?_
              refine asO ?_
              refine RW.nil ?_
              refine awp_exit ?_
              refine awp_rw rfl ?_
              refine mvT ?_
              refine RW.op rfl rfl (eff_iop rfl rfl rfl rfl (iadd (by omega))) ?_
              refine asT ?_
              refine RW.nil ?_
              have hG := gall_arr (F := (frames l 7)) hil rfl (by omega) hsn (by omega) (by omega) hq (by omega)
              refine ⟨_, ?_, _, weak_keep (n := 129) (fr' := [(1, .t (.sl (what.map encI) false)), (6, .t (.sl ((frames l 7).map encF) false)), (7, .own 7 _ 0 _), (8, .own 8 _ 0 _), (9, .ptr 9 0 0 0), (10, .own 20 _ 0 _), (11, .t (encI (_ : Nat))), (12, .t (encI _)), (13, .t (encI ((i + 1) : Nat)))]) (st' := [(7, some ⟨15, 47, _, _⟩), (8, some ⟨4, 23, _, _⟩), (9, some ⟨4, 23, 0, [.t (encR _)]⟩), (20, some ⟨4, 23, _, _⟩)]) ⟨rfl, rfl, rfl, rfl, rfl, rfl, rfl, rfl, rfl, rfl, rfl, rfl, rfl, rfl, rfl, rfl, rfl, rfl, trivial⟩ ⟨rfl, (by first | exact okE_nil | exact okE_one rfl | (rw [he7]; exact okE_t) | (rw [he7]; intro x hx; simp only [List.mem_append, List.mem_map, List.mem_singleton] at hx; rcases hx with ⟨y, _, rfl⟩ | rfl <;> rfl)), rfl, (by first | exact okE_nil | exact okE_one rfl | (rw [he8]; exact okE_t) | (rw [he8]; intro x hx; simp only [List.mem_append, List.mem_map, List.mem_singleton] at hx; rcases hx with ⟨y, _, rfl⟩ | rfl <;> rfl)), rfl, okE_one rfl, rfl, (by first | exact okE_nil | exact okE_one rfl | (rw [he0]; exact okE_t) | (rw [he0]; intro x hx; simp only [List.mem_append, List.mem_map, List.mem_singleton] at hx; rcases hx with ⟨y, _, rfl⟩ | rfl <;> rfl)), trivial⟩, i + 1, _, _, _, _, _, _, _, _, _, _, _, _, (by omega), (by omega), (by first | (exfalso; omega) | (rw [hG]; simp [gput, garr, hn7])), (by first | (exfalso; omega) | (rw [hG]; simp [gput, garr, hn8])), (by first | (exfalso; omega) | (rw [hG]; simp [gput, garr, hn0])), (by first | (exfalso; omega) | (first | (rw [hG]; exact he7) | (rw [hG, he7]; exact mapT_snoc (by subst htk; rfl)))), (by first | (exfalso; omega) | (first | (rw [hG]; exact he8) | (rw [hG, he8]; exact mapT_snoc (by subst hcs; rfl)))), (by first | (exfalso; omega) | (first | (rw [hG]; exact he0) | (rw [hG, he0]; exact mapT_snoc (by subst hcs; rfl)))), (by first | (exfalso; omega) | (first | (rw [hG]; exact hcs) | (rw [hG, hcs]; rfl))), (by first | (exfalso; omega) | (first | (rw [hG]; rfl) | (rw [hG]; exact hsn))), (by first | (exfalso; omega) | (rw [hG, htk]; rfl)), rfl, rfl⟩
              omega
            · try simp only [cl] at h11
              refine awp_seq ?_
              refine awp_rw rfl ?_
              refine mvT ?_
              refine RW.op rfl rfl (eff_quoE (r := (around (what[i]'hil) 1000000) / 3) rfl rfl rfl rfl (by decide) (quoN (by omega) (by decide))) ?_
              refine RW.op rfl rfl (eff_remE (r := ((around (what[i]'hil) 1000000) / 3) % 5) rfl rfl rfl rfl (by decide) (tmod_pos (by omega))) ?_
              refine ioT ?_
              refine asT ?_
              refine RW.nil ?_
              refine awp_cond rfl (fun h12 => ?_) (fun h12 => ?_)
              · try simp only [cl] at h12
                refine awp_seq ?_
                refine awp_rw rfl ?_
                refine faT tf47_1 ?_
                refine RW.store rfl rfl (eff_storeS (v := .t _) (ys := [_, _, _, _, _, _, _, _, _, _, _, _, _, _, _]) (els := [_]) (els' := [_]) rfl rfl ti3 rfl rfl rfl rfl rfl rfl rfl (Nat.le_of_ble_eq_true rfl) rfl rfl) ?_
                refine RW.nil ?_
                refine awp_rw rfl ?_
                obtain ⟨q2, hq2⟩ : ∃ q : Nat, imax 0 (((gall (frames l 7) what i).reps.length : Int) - 1 - (around (what[i]'hil) 1000000) / 15 % 3) = (q : Int) := ⟨(imax 0 (((gall (frames l 7) what i).reps.length : Int) - 1 - (around (what[i]'hil) 1000000) / 15 % 3)).toNat, by unfold imax; split <;> omega⟩
                have hql : q2 < (gall (frames l 7) what i).reps.length := by unfold imax at hq2; split at hq2 <;> omega
                refine mvO ?_
                refine mvO ?_
                refine RW.op rfl rfl (eff_len rfl rfl te33 rfl rfl rfl) ?_
                refine RW.op rfl rfl (eff_iop (r := encI ((n0 : Int) - 1)) rfl rfl rfl rfl (isub (by omega))) ?_
                refine mvT ?_
                refine RW.op rfl rfl (eff_quoE (r := (around (what[i]'hil) 1000000) / 15) rfl rfl rfl rfl (by decide) (quoN (by omega) (by decide))) ?_
                refine RW.op rfl rfl (eff_remE (r := ((around (what[i]'hil) 1000000) / 15) % 3) rfl rfl rfl rfl (by decide) (tmod_pos (by omega))) ?_
                refine RW.op rfl rfl (eff_iop (r := encI ((n0 : Int) - 1 - (around (what[i]'hil) 1000000) / 15 % 3)) rfl rfl rfl rfl (isub (by omega))) ?_
                refine RW.op rfl rfl (eff_maxE (r := ((q2 : Nat) : Int)) rfl rfl rfl rfl (by rw [hn0]; exact hq2)) ?_
                refine RW.op rfl rfl (eff_indexAddr (i := q2) rfl rfl te33 rfl rfl rfl rfl rfl rfl (by omega)) ?_
                refine RW.op rfl rfl (eff_load (y := .t (encR ((gall (frames l 7) what i).reps[q2]'hql))) rfl rfl ti23 rfl (.whole rfl rfl (by rw [Nat.zero_add, he0]; exact elR hql) rfl rfl rfl)) ?_
                refine faT tf47_3 ?_
                refine RW.store rfl rfl (eff_storeS (v := .t _) (ys := [_, _, _, _, _, _, _, _, _, _, _, _, _, _, _]) (els := [_]) (els' := [_]) rfl rfl ti23 rfl rfl rfl rfl rfl rfl rfl (Nat.le_of_ble_eq_true rfl) rfl rfl) ?_
                refine RW.nil ?_
                refine awp_seq ?_
                refine awp_rw rfl ?_
                refine mvO ?_
                refine RW.op rfl rfl (eff_load rfl rfl ti47 rfl (.whole rfl rfl rfl rfl rfl rfl)) ?_
                (refine RW.weak (weak_slot 120 (y := encC ⟨tk + (around (what[i]'hil) 1000000) % 3, 2, zf, (gall (frames l 7) what i).reps[q2]'hql, zd⟩) rfl (by first | ((repeat' (first | exact trivial | exact Wk.refl _ | exact Wk.sl _ | refine And.intro ?_ ?_ | refine Wk.tupP ?_ | refine Wk.aggP ?_)); done) | fail)) rfl ?_)
                refine RW.new rfl rfl (eff_buildSliceL (id := 121) (els := [.t (.agg [_, _, _, _, _, _, _, _, _, _, _, _, _, _, _])]) rfl rfl te32 tz47 rfl (by decide) (by decide) rfl rfl rfl rfl) ?_
                refine RW.new rfl rfl (eff_append (id := 7) (ys := [_]) rfl rfl ta32 rfl rfl rfl (by rw [he7, hn7]; simp) rfl rfl (srcOwn rfl rfl rfl rfl rfl rfl) (by simp) (by simp; omega) (by simp; omega)) ?_
                refine asO ?_
                refine RW.nil ?_
                refine awp_rw rfl ?_
                refine mvO ?_
                refine RW.op rfl rfl (eff_load rfl rfl ti23 rfl (.whole rfl rfl rfl rfl rfl rfl)) ?_
                refine RW.new rfl rfl (eff_buildSliceL (id := 125) (els := [.t (.agg [_, _, _, _])]) rfl rfl te33 tz23 rfl (by decide) (by decide) rfl rfl rfl rfl) ?_
                refine RW.new rfl rfl (eff_append (id := 8) (ys := [_]) rfl rfl ta33 rfl rfl rfl (by rw [he8, hn8]; simp) rfl rfl (srcOwn rfl rfl rfl rfl rfl rfl) (by simp) (by simp; omega) (by simp; omega)) ?_
                refine asO ?_
                refine RW.nil ?_
                refine awp_rw rfl ?_
                refine mvT ?_
                refine RW.op rfl rfl (eff_iop rfl rfl rfl rfl (iadd (by omega))) ?_
                refine asT ?_
                refine RW.nil ?_
                have hG := gall_send (F := (frames l 7)) hil rfl (by omega) hsn (by omega) (by omega)
                refine ⟨_, ?_, _, weak_keep (n := 129) (fr' := [(1, .t (.sl (what.map encI) false)), (6, .t (.sl ((frames l 7).map encF) false)), (7, .own 7 _ 0 _), (8, .own 8 _ 0 _), (9, .ptr 9 0 0 0), (10, .own 20 _ 0 _), (11, .t (encI (_ : Nat))), (12, .t (encI _)), (13, .t (encI ((i + 1) : Nat)))]) (st' := [(7, some ⟨15, 47, _, _⟩), (8, some ⟨4, 23, _, _⟩), (9, some ⟨4, 23, 0, [.t (encR _)]⟩), (20, some ⟨4, 23, _, _⟩)]) ⟨rfl, rfl, rfl, rfl, rfl, rfl, rfl, rfl, rfl, rfl, rfl, rfl, rfl, rfl, rfl, rfl, rfl, rfl, trivial⟩ ⟨rfl, (by first | exact okE_nil | exact okE_one rfl | (rw [he7]; exact okE_t) | (rw [he7]; intro x hx; simp only [List.mem_append, List.mem_map, List.mem_singleton] at hx; rcases hx with ⟨y, _, rfl⟩ | rfl <;> rfl)), rfl, (by first | exact okE_nil | exact okE_one rfl | (rw [he8]; exact okE_t) | (rw [he8]; intro x hx; simp only [List.mem_append, List.mem_map, List.mem_singleton] at hx; rcases hx with ⟨y, _, rfl⟩ | rfl <;> rfl)), rfl, okE_one rfl, rfl, (by first | exact okE_nil | exact okE_one rfl | (rw [he0]; exact okE_t) | (rw [he0]; intro x hx; simp only [List.mem_append, List.mem_map, List.mem_singleton] at hx; rcases hx with ⟨y, _, rfl⟩ | rfl <;> rfl)), trivial⟩, i + 1, _, _, _, _, _, _, _, _, _, _, _, _, (by omega), (by omega), (by first | (exfalso; omega) | (rw [hG]; simp [gput, garr, hn7])), (by first | (exfalso; omega) | (rw [hG]; simp [gput, garr, hn8])), (by first | (exfalso; omega) | (rw [hG]; simp [gput, garr, hn0])), (by first | (exfalso; omega) | (first | (rw [hG]; exact he7) | (rw [hG, he7]; exact mapT_snoc (by subst htk; rfl)))), (by first | (exfalso; omega) | (first | (rw [hG]; exact he8) | (rw [hG, he8]; exact mapT_snoc (by subst hcs; rfl)))), (by first | (exfalso; omega) | (first | (rw [hG]; exact he0) | (rw [hG, he0]; exact mapT_snoc (by subst hcs; rfl)))), (by first | (exfalso; omega) | (first | (rw [hG]; exact hcs) | (rw [hG, hcs]; rfl))), (by first | (exfalso; omega) | (first | (rw [hG]; rfl) | (rw [hG]; exact hsn))), (by first | (exfalso; omega) | (rw [hG, htk]; rfl)), rfl, rfl⟩
                omega
              · try simp only [cl] at h12
                refine awp_seq ?_
                refine awp_rw rfl ?_
                refine faT tf47_1 ?_
                refine RW.store rfl rfl (eff_storeS (v := .t _) (ys := [_, _, _, _, _, _, _, _, _, _, _, _, _, _, _]) (els := [_]) (els' := [_]) rfl rfl ti3 rfl rfl rfl rfl rfl rfl rfl (Nat.le_of_ble_eq_true rfl) rfl rfl) ?_
                refine RW.nil ?_
                refine awp_rw rfl ?_
                refine mvT ?_
                refine mvT ?_
                refine RW.op rfl rfl (eff_quoE (r := (around (what[i]'hil) 1000000) / 15) rfl rfl rfl rfl (by decide) (quoN (by omega) (by decide))) ?_
                refine RW.op rfl rfl (eff_remE (r := ((around (what[i]'hil) 1000000) / 15) % 3) rfl rfl rfl rfl (by decide) (tmod_pos (by omega))) ?_
                refine mvT ?_
                refine RW.op rfl rfl (eff_quoE (r := (around (what[i]'hil) 1000000) / 45) rfl rfl rfl rfl (by decide) (quoN (by omega) (by decide))) ?_
                refine RW.op rfl rfl (eff_remE (r := ((around (what[i]'hil) 1000000) / 45) % 4) rfl rfl rfl rfl (by decide) (tmod_pos (by omega))) ?_
                refine mvT ?_
                refine RW.op rfl rfl (eff_quoE (r := (around (what[i]'hil) 1000000) / 180) rfl rfl rfl rfl (by decide) (quoN (by omega) (by decide))) ?_
                refine RW.op rfl rfl (eff_remE (r := ((around (what[i]'hil) 1000000) / 180) % 8) rfl rfl rfl rfl (by decide) (tmod_pos (by omega))) ?_
                refine RW.op rfl rfl (eff_buildT (ys := [_, _, _, _]) rfl rfl tz28 tg28 rfl) ?_
                refine faT tf47_4 ?_
                refine RW.store rfl rfl (eff_storeS (v := .t _) (ys := [_, _, _, _, _, _, _, _, _, _, _, _, _, _, _]) (els := [_]) (els' := [_]) rfl rfl ti28 rfl rfl rfl rfl rfl rfl rfl (Nat.le_of_ble_eq_true rfl) rfl rfl) ?_
                refine RW.nil ?_
                refine awp_seq ?_
                refine awp_rw rfl ?_
                refine mvO ?_
                refine RW.op rfl rfl (eff_load rfl rfl ti47 rfl (.whole rfl rfl rfl rfl rfl rfl)) ?_
                (refine RW.weak (weak_slot 120 (y := encC ⟨tk + (around (what[i]'hil) 1000000) % 3, 3, zf, zr, ⟨tk + (around (what[i]'hil) 1000000) % 3, (around (what[i]'hil) 1000000) / 15 % 3, (around (what[i]'hil) 1000000) / 45 % 4, (around (what[i]'hil) 1000000) / 180 % 8⟩⟩) rfl (by first | ((repeat' (first | exact trivial | exact Wk.refl _ | exact Wk.sl _ | refine And.intro ?_ ?_ | refine Wk.tupP ?_ | refine Wk.aggP ?_)); done) | fail)) rfl ?_)
                refine RW.new rfl rfl (eff_buildSliceL (id := 121) (els := [.t (.agg [_, _, _, _, _, _, _, _, _, _, _, _, _, _, _])]) rfl rfl te32 tz47 rfl (by decide) (by decide) rfl rfl rfl rfl) ?_
                refine RW.new rfl rfl (eff_append (id := 7) (ys := [_]) rfl rfl ta32 rfl rfl rfl (by rw [he7, hn7]; simp) rfl rfl (srcOwn rfl rfl rfl rfl rfl rfl) (by simp) (by simp; omega) (by simp; omega)) ?_
                refine asO ?_
                refine RW.nil ?_
                refine awp_rw rfl ?_
                refine mvO ?_
                refine RW.op rfl rfl (eff_load rfl rfl ti23 rfl (.whole rfl rfl rfl rfl rfl rfl)) ?_
                refine RW.new rfl rfl (eff_buildSliceL (id := 125) (els := [.t (.agg [_, _, _, _])]) rfl rfl te33 tz23 rfl (by decide) (by decide) rfl rfl rfl rfl) ?_
                refine RW.new rfl rfl (eff_append (id := 8) (ys := [_]) rfl rfl ta33 rfl rfl rfl (by rw [he8, hn8]; simp) rfl rfl (srcOwn rfl rfl rfl rfl rfl rfl) (by simp) (by simp; omega) (by simp; omega)) ?_
                refine asO ?_
                refine RW.nil ?_
                refine awp_rw rfl ?_
                refine mvT ?_
                refine RW.op rfl rfl (eff_iop rfl rfl rfl rfl (iadd (by omega))) ?_
                refine asT ?_
                refine RW.nil ?_
                have hG := gall_dec (F := (frames l 7)) hil rfl (by omega) hsn (by omega) (by omega) (by omega)
                refine ⟨_, ?_, _, weak_keep (n := 129) (fr' := [(1, .t (.sl (what.map encI) false)), (6, .t (.sl ((frames l 7).map encF) false)), (7, .own 7 _ 0 _), (8, .own 8 _ 0 _), (9, .ptr 9 0 0 0), (10, .own 20 _ 0 _), (11, .t (encI (_ : Nat))), (12, .t (encI _)), (13, .t (encI ((i + 1) : Nat)))]) (st' := [(7, some ⟨15, 47, _, _⟩), (8, some ⟨4, 23, _, _⟩), (9, some ⟨4, 23, 0, [.t (encR _)]⟩), (20, some ⟨4, 23, _, _⟩)]) ⟨rfl, rfl, rfl, rfl, rfl, rfl, rfl, rfl, rfl, rfl, rfl, rfl, rfl, rfl, rfl, rfl, rfl, rfl, trivial⟩ ⟨rfl, (by first | exact okE_nil | exact okE_one rfl | (rw [he7]; exact okE_t) | (rw [he7]; intro x hx; simp only [List.mem_append, List.mem_map, List.mem_singleton] at hx; rcases hx with ⟨y, _, rfl⟩ | rfl <;> rfl)), rfl, (by first | exact okE_nil | exact okE_one rfl | (rw [he8]; exact okE_t) | (rw [he8]; intro x hx; simp only [List.mem_append, List.mem_map, List.mem_singleton] at hx; rcases hx with ⟨y, _, rfl⟩ | rfl <;> rfl)), rfl, okE_one rfl, rfl, (by first | exact okE_nil | exact okE_one rfl | (rw [he0]; exact okE_t) | (rw [he0]; intro x hx; simp only [List.mem_append, List.mem_map, List.mem_singleton] at hx; rcases hx with ⟨y, _, rfl⟩ | rfl <;> rfl)), trivial⟩, i + 1, _, _, _, _, _, _, _, _, _, _, _, _, (by omega), (by omega), (by first | (exfalso; omega) | (rw [hG]; simp [gput, garr, hn7])), (by first | (exfalso; omega) | (rw [hG]; simp [gput, garr, hn8])), (by first | (exfalso; omega) | (rw [hG]; simp [gput, garr, hn0])), (by first | (exfalso; omega) | (first | (rw [hG]; exact he7) | (rw [hG, he7]; exact mapT_snoc (by subst htk; rfl)))), (by first | (exfalso; omega) | (first | (rw [hG]; exact he8) | (rw [hG, he8]; exact mapT_snoc (by subst hcs; rfl)))), (by first | (exfalso; omega) | (first | (rw [hG]; exact he0) | (rw [hG, he0]; exact mapT_snoc (by subst hcs; rfl)))), (by first | (exfalso; omega) | (first | (rw [hG]; exact hcs) | (rw [hG, hcs]; rfl))), (by first | (exfalso; omega) | (first | (rw [hG]; rfl) | (rw [hG]; exact hsn))), (by first | (exfalso; omega) | (rw [hG, htk]; rfl)), rfl, rfl⟩
                omega
          · try simp only [cl] at h10
            refine gkT ?_
            refine gkT ?_
            refine pkT ?_
            refine asT ?_
            refine RW.nil ?_
            refine awp_cond rfl (fun h => nomatch h) (fun _ => ?_)
            refine awp_seq ?_
            refine awp_rw rfl ?_
            refine mvT ?_
            refine RW.op rfl rfl (eff_quoE (r := (around (what[i]'hil) 1000000) / 3) rfl rfl rfl rfl (by decide) (quoN (by omega) (by decide))) ?_
            refine RW.op rfl rfl (eff_remE (r := ((around (what[i]'hil) 1000000) / 3) % 5) rfl rfl rfl rfl (by decide) (tmod_pos (by omega))) ?_
            refine ioT ?_
            refine asT ?_
            refine RW.nil ?_
            refine awp_cond rfl (fun h13 => ?_) (fun h13 => ?_)
            · try simp only [cl] at h13
              refine awp_seq ?_
              refine awp_rw rfl ?_
              refine faT tf47_1 ?_
              refine RW.store rfl rfl (eff_storeS (v := .t _) (ys := [_, _, _, _, _, _, _, _, _, _, _, _, _, _, _]) (els := [_]) (els' := [_]) rfl rfl ti3 rfl rfl rfl rfl rfl rfl rfl (Nat.le_of_ble_eq_true rfl) rfl rfl) ?_
              refine RW.nil ?_
              refine awp_rw rfl ?_
              obtain ⟨q2, hq2⟩ : ∃ q : Nat, imax 0 (((gall (frames l 7) what i).reps.length : Int) - 1 - (around (what[i]'hil) 1000000) / 15 % 3) = (q : Int) := ⟨(imax 0 (((gall (frames l 7) what i).reps.length : Int) - 1 - (around (what[i]'hil) 1000000) / 15 % 3)).toNat, by unfold imax; split <;> omega⟩
              have hql : q2 < (gall (frames l 7) what i).reps.length := by unfold imax at hq2; split at hq2 <;> omega
              refine mvO ?_
              refine mvO ?_
              refine RW.op rfl rfl (eff_len rfl rfl te33 rfl rfl rfl) ?_
              refine RW.op rfl rfl (eff_iop (r := encI ((n0 : Int) - 1)) rfl rfl rfl rfl (isub (by omega))) ?_
              refine mvT ?_
              refine RW.op rfl rfl (eff_quoE (r := (around (what[i]'hil) 1000000) / 15) rfl rfl rfl rfl (by decide) (quoN (by omega) (by decide))) ?_
              refine RW.op rfl rfl (eff_remE (r := ((around (what[i]'hil) 1000000) / 15) % 3) rfl rfl rfl rfl (by decide) (tmod_pos (by omega))) ?_
              refine RW.op rfl rfl (eff_iop (r := encI ((n0 : Int) - 1 - (around (what[i]'hil) 1000000) / 15 % 3)) rfl rfl rfl rfl (isub (by omega))) ?_
              refine RW.op rfl rfl (eff_maxE (r := ((q2 : Nat) : Int)) rfl rfl rfl rfl (by rw [hn0]; exact hq2)) ?_
              refine RW.op rfl rfl (eff_indexAddr (i := q2) rfl rfl te33 rfl rfl rfl rfl rfl rfl (by omega)) ?_
              refine RW.op rfl rfl (eff_load (y := .t (encR ((gall (frames l 7) what i).reps[q2]'hql))) rfl rfl ti23 rfl (.whole rfl rfl (by rw [Nat.zero_add, he0]; exact elR hql) rfl rfl rfl)) ?_
              refine faT tf47_3 ?_
              refine RW.store rfl rfl (eff_storeS (v := .t _) (ys := [_, _, _, _, _, _, _, _, _, _, _, _, _, _, _]) (els := [_]) (els' := [_]) rfl rfl ti23 rfl rfl rfl rfl rfl rfl rfl (Nat.le_of_ble_eq_true rfl) rfl rfl) ?_
              refine RW.nil ?_
              refine awp_seq ?_
              refine awp_rw rfl ?_
              refine mvO ?_
              refine RW.op rfl rfl (eff_load rfl rfl ti47 rfl (.whole rfl rfl rfl rfl rfl rfl)) ?_
              (refine RW.weak (weak_slot 120 (y := encC ⟨tk + (around (what[i]'hil) 1000000) % 3, 2, zf, (gall (frames l 7) what i).reps[q2]'hql, zd⟩) rfl (by first | ((repeat' (first | exact trivial | exact Wk.refl _ | exact Wk.sl _ | refine And.intro ?_ ?_ | refine Wk.tupP ?_ | refine Wk.aggP ?_)); done) | fail)) rfl ?_)
              refine RW.new rfl rfl (eff_buildSliceL (id := 121) (els := [.t (.agg [_, _, _, _, _, _, _, _, _, _, _, _, _, _, _])]) rfl rfl te32 tz47 rfl (by decide) (by decide) rfl rfl rfl rfl) ?_
              refine RW.new rfl rfl (eff_append (id := 7) (ys := [_]) rfl rfl ta32 rfl rfl rfl (by rw [he7, hn7]; simp) rfl rfl (srcOwn rfl rfl rfl rfl rfl rfl) (by simp) (by simp; omega) (by simp; omega)) ?_
              refine asO ?_
              refine RW.nil ?_
              refine awp_rw rfl ?_
              refine mvO ?_
              refine RW.op rfl rfl (eff_load rfl rfl ti23 rfl (.whole rfl rfl rfl rfl rfl rfl)) ?_
              refine RW.new rfl rfl (eff_buildSliceL (id := 125) (els := [.t (.agg [_, _, _, _])]) rfl rfl te33 tz23 rfl (by decide) (by decide) rfl rfl rfl rfl) ?_
              refine RW.new rfl rfl (eff_append (id := 8) (ys := [_]) rfl rfl ta33 rfl rfl rfl (by rw [he8, hn8]; simp) rfl rfl (srcOwn rfl rfl rfl rfl rfl rfl) (by simp) (by simp; omega) (by simp; omega)) ?_
              refine asO ?_
              refine RW.nil ?_
              refine awp_rw rfl ?_
              refine mvT ?_
              refine RW.op rfl rfl (eff_iop rfl rfl rfl rfl (iadd (by omega))) ?_
              refine asT ?_
              refine RW.nil ?_
              have hG := gall_hear (F := (frames l 7)) hil rfl (by omega) hsn (by omega) hq2 hql
              refine ⟨_, ?_, _, weak_keep (n := 129) (fr' := [(1, .t (.sl (what.map encI) false)), (6, .t (.sl ((frames l 7).map encF) false)), (7, .own 7 _ 0 _), (8, .own 8 _ 0 _), (9, .ptr 9 0 0 0), (10, .own 20 _ 0 _), (11, .t (encI (_ : Nat))), (12, .t (encI _)), (13, .t (encI ((i + 1) : Nat)))]) (st' := [(7, some ⟨15, 47, _, _⟩), (8, some ⟨4, 23, _, _⟩), (9, some ⟨4, 23, 0, [.t (encR _)]⟩), (20, some ⟨4, 23, _, _⟩)]) ⟨rfl, rfl, rfl, rfl, rfl, rfl, rfl, rfl, rfl, rfl, rfl, rfl, rfl, rfl, rfl, rfl, rfl, rfl, trivial⟩ ⟨rfl, (by first | exact okE_nil | exact okE_one rfl | (rw [he7]; exact okE_t) | (rw [he7]; intro x hx; simp only [List.mem_append, List.mem_map, List.mem_singleton] at hx; rcases hx with ⟨y, _, rfl⟩ | rfl <;> rfl)), rfl, (by first | exact okE_nil | exact okE_one rfl | (rw [he8]; exact okE_t) | (rw [he8]; intro x hx; simp only [List.mem_append, List.mem_map, List.mem_singleton] at hx; rcases hx with ⟨y, _, rfl⟩ | rfl <;> rfl)), rfl, okE_one rfl, rfl, (by first | exact okE_nil | exact okE_one rfl | (rw [he0]; exact okE_t) | (rw [he0]; intro x hx; simp only [List.mem_append, List.mem_map, List.mem_singleton] at hx; rcases hx with ⟨y, _, rfl⟩ | rfl <;> rfl)), trivial⟩, i + 1, _, _, _, _, _, _, _, _, _, _, _, _, (by omega), (by omega), (by first | (exfalso; omega) | (rw [hG]; simp [gput, garr, hn7])), (by first | (exfalso; omega) | (rw [hG]; simp [gput, garr, hn8])), (by first | (exfalso; omega) | (rw [hG]; simp [gput, garr, hn0])), (by first | (exfalso; omega) | (first | (rw [hG]; exact he7) | (rw [hG, he7]; exact mapT_snoc (by subst htk; rfl)))), (by first | (exfalso; omega) | (first | (rw [hG]; exact he8) | (rw [hG, he8]; exact mapT_snoc (by subst hcs; rfl)))), (by first | (exfalso; omega) | (first | (rw [hG]; exact he0) | (rw [hG, he0]; exact mapT_snoc (by subst hcs; rfl)))), (by first | (exfalso; omega) | (first | (rw [hG]; exact hcs) | (rw [hG, hcs]; rfl))), (by first | (exfalso; omega) | (first | (rw [hG]; rfl) | (rw [hG]; exact hsn))), (by first | (exfalso; omega) | (rw [hG, htk]; rfl)), rfl, rfl⟩
              omega
            · try simp only [cl] at h13
              refine awp_seq ?_
              refine awp_rw rfl ?_
              refine faT tf47_1 ?_
              refine RW.store rfl rfl (eff_storeS (v := .t _) (ys := [_, _, _, _, _, _, _, _, _, _, _, _, _, _, _]) (els := [_]) (els' := [_]) rfl rfl ti3 rfl rfl rfl rfl rfl rfl rfl (Nat.le_of_ble_eq_true rfl) rfl rfl) ?_
              refine RW.nil ?_
              refine awp_rw rfl ?_
              refine mvT ?_
              refine mvT ?_
              refine RW.op rfl rfl (eff_quoE (r := (around (what[i]'hil) 1000000) / 15) rfl rfl rfl rfl (by decide) (quoN (by omega) (by decide))) ?_
              refine RW.op rfl rfl (eff_remE (r := ((around (what[i]'hil) 1000000) / 15) % 3) rfl rfl rfl rfl (by decide) (tmod_pos (by omega))) ?_
              refine mvT ?_
              refine RW.op rfl rfl (eff_quoE (r := (around (what[i]'hil) 1000000) / 45) rfl rfl rfl rfl (by decide) (quoN (by omega) (by decide))) ?_
              refine RW.op rfl rfl (eff_remE (r := ((around (what[i]'hil) 1000000) / 45) % 4) rfl rfl rfl rfl (by decide) (tmod_pos (by omega))) ?_
              refine mvT ?_
              refine RW.op rfl rfl (eff_quoE (r := (around (what[i]'hil) 1000000) / 180) rfl rfl rfl rfl (by decide) (quoN (by omega) (by decide))) ?_
              refine RW.op rfl rfl (eff_remE (r := ((around (what[i]'hil) 1000000) / 180) % 8) rfl rfl rfl rfl (by decide) (tmod_pos (by omega))) ?_
              refine RW.op rfl rfl (eff_buildT (ys := [_, _, _, _]) rfl rfl tz28 tg28 rfl) ?_
              refine faT tf47_4 ?_
              refine RW.store rfl rfl (eff_storeS (v := .t _) (ys := [_, _, _, _, _, _, _, _, _, _, _, _, _, _, _]) (els := [_]) (els' := [_]) rfl rfl ti28 rfl rfl rfl rfl rfl rfl rfl (Nat.le_of_ble_eq_true rfl) rfl rfl) ?_
              refine RW.nil ?_
              refine awp_seq ?_
              refine awp_rw rfl ?_
              refine mvO ?_
              refine RW.op rfl rfl (eff_load rfl rfl ti47 rfl (.whole rfl rfl rfl rfl rfl rfl)) ?_
              (refine RW.weak (weak_slot 120 (y := encC ⟨tk + (around (what[i]'hil) 1000000) % 3, 3, zf, zr, ⟨tk + (around (what[i]'hil) 1000000) % 3, (around (what[i]'hil) 1000000) / 15 % 3, (around (what[i]'hil) 1000000) / 45 % 4, (around (what[i]'hil) 1000000) / 180 % 8⟩⟩) rfl (by first | ((repeat' (first | exact trivial | exact Wk.refl _ | exact Wk.sl _ | refine And.intro ?_ ?_ | refine Wk.tupP ?_ | refine Wk.aggP ?_)); done) | fail)) rfl ?_)
              refine RW.new rfl rfl (eff_buildSliceL (id := 121) (els := [.t (.agg [_, _, _, _, _, _, _, _, _, _, _, _, _, _, _])]) rfl rfl te32 tz47 rfl (by decide) (by decide) rfl rfl rfl rfl) ?_
              refine RW.new rfl rfl (eff_append (id := 7) (ys := [_]) rfl rfl ta32 rfl rfl rfl (by rw [he7, hn7]; simp) rfl rfl (srcOwn rfl rfl rfl rfl rfl rfl) (by simp) (by simp; omega) (by simp; omega)) ?_
              refine asO ?_
              refine RW.nil ?_
              refine awp_rw rfl ?_
              refine mvO ?_
              refine RW.op rfl rfl (eff_load rfl rfl ti23 rfl (.whole rfl rfl rfl rfl rfl rfl)) ?_
              refine RW.new rfl rfl (eff_buildSliceL (id := 125) (els := [.t (.agg [_, _, _, _])]) rfl rfl te33 tz23 rfl (by decide) (by decide) rfl rfl rfl rfl) ?_
              refine RW.new rfl rfl (eff_append (id := 8) (ys := [_]) rfl rfl ta33 rfl rfl rfl (by rw [he8, hn8]; simp) rfl rfl (srcOwn rfl rfl rfl rfl rfl rfl) (by simp) (by simp; omega) (by simp; omega)) ?_
              refine asO ?_
              refine RW.nil ?_
              refine awp_rw rfl ?_
              refine mvT ?_
              refine RW.op rfl rfl (eff_iop rfl rfl rfl rfl (iadd (by omega))) ?_
              refine asT ?_
              refine RW.nil ?_
              have hG := gall_dec (F := (frames l 7)) hil rfl (by omega) hsn (by omega) (by omega) (by omega)
              refine ⟨_, ?_, _, weak_keep (n := 129) (fr' := [(1, .t (.sl (what.map encI) false)), (6, .t (.sl ((frames l 7).map encF) false)), (7, .own 7 _ 0 _), (8, .own 8 _ 0 _), (9, .ptr 9 0 0 0), (10, .own 20 _ 0 _), (11, .t (encI (_ : Nat))), (12, .t (encI _)), (13, .t (encI ((i + 1) : Nat)))]) (st' := [(7, some ⟨15, 47, _, _⟩), (8, some ⟨4, 23, _, _⟩), (9, some ⟨4, 23, 0, [.t (encR _)]⟩), (20, some ⟨4, 23, _, _⟩)]) ⟨rfl, rfl, rfl, rfl, rfl, rfl, rfl, rfl, rfl, rfl, rfl, rfl, rfl, rfl, rfl, rfl, rfl, rfl, trivial⟩ ⟨rfl, (by first | exact okE_nil | exact okE_one rfl | (rw [he7]; exact okE_t) | (rw [he7]; intro x hx; simp only [List.mem_append, List.mem_map, List.mem_singleton] at hx; rcases hx with ⟨y, _, rfl⟩ | rfl <;> rfl)), rfl, (by first | exact okE_nil | exact okE_one rfl | (rw [he8]; exact okE_t) | (rw [he8]; intro x hx; simp only [List.mem_append, List.mem_map, List.mem_singleton] at hx; rcases hx with ⟨y, _, rfl⟩ | rfl <;> rfl)), rfl, okE_one rfl, rfl, (by first | exact okE_nil | exact okE_one rfl | (rw [he0]; exact okE_t) | (rw [he0]; intro x hx; simp only [List.mem_append, List.mem_map, List.mem_singleton] at hx; rcases hx with ⟨y, _, rfl⟩ | rfl <;> rfl)), trivial⟩, i + 1, _, _, _, _, _, _, _, _, _, _, _, _, (by omega), (by omega), (by first | (exfalso; omega) | (rw [hG]; simp [gput, garr, hn7])), (by first | (exfalso; omega) | (rw [hG]; simp [gput, garr, hn8])), (by first | (exfalso; omega) | (rw [hG]; simp [gput, garr, hn0])), (by first | (exfalso; omega) | (first | (rw [hG]; exact he7) | (rw [hG, he7]; exact mapT_snoc (by subst htk; rfl)))), (by first | (exfalso; omega) | (first | (rw [hG]; exact he8) | (rw [hG, he8]; exact mapT_snoc (by subst hcs; rfl)))), (by first | (exfalso; omega) | (first | (rw [hG]; exact he0) | (rw [hG, he0]; exact mapT_snoc (by subst hcs; rfl)))), (by first | (exfalso; omega) | (first | (rw [hG]; exact hcs) | (rw [hG, hcs]; rfl))), (by first | (exfalso; omega) | (first | (rw [hG]; rfl) | (rw [hG]; exact hsn))), (by first | (exfalso; omega) | (rw [hG, htk]; rfl)), rfl, rfl⟩
              omega
      · try simp only [cl] at h3
        refine awp_exit ?_
        refine awp_seq ?_
        refine awp_rw rfl ?_
        refine mvO ?_
        refine mvO ?_
        refine asO ?_
        refine asO ?_
        refine RW.nil ?_
        refine awp_ret ?_
        have hst := gall_stop (F := (frames l 7)) hi h30 (by rintro ⟨a1, a2, a3⟩; omega)
        unfold ledger
        rw [hst]
        exact ⟨Or.inr rfl, [_, _], ⟨.tmp (Res.ownT (xs := (gall (frames l 7) what i).recs.map encC) rfl rfl he7 (by rw [hn7]; simp)), .tmp (Res.ownT (xs := (gall (frames l 7) what i).sts.map encR) rfl rfl he8 (by rw [hn8]; simp)), trivial⟩, .refl _⟩
    · try simp only [cl] at h2
      refine gkT ?_
      refine gkT ?_
      refine pkT ?_
      refine RW.nil ?_
      refine awp_cond rfl (fun h => nomatch h) (fun _ => ?_)
      refine awp_exit ?_
      refine awp_seq ?_
      refine awp_rw rfl ?_
      refine mvO ?_
      refine mvO ?_
      refine asO ?_
      refine asO ?_
      refine RW.nil ?_
      refine awp_ret ?_
      have hst := gall_stop (F := (frames l 7)) hi h30 (by rintro ⟨a1, a2, a3⟩; omega)
      unfold ledger
      rw [hst]
      exact ⟨Or.inr rfl, [_, _], ⟨.tmp (Res.ownT (xs := (gall (frames l 7) what i).recs.map encC) rfl rfl he7 (by rw [hn7]; simp)), .tmp (Res.ownT (xs := (gall (frames l 7) what i).sts.map encR) rfl rfl he8 (by rw [hn8]; simp)), trivial⟩, .refl _⟩
  · try simp only [cl] at h1
    refine gkT ?_
    refine gkT ?_
    refine gkT ?_
    refine pkT ?_
    refine mvT ?_
    refine gkT ?_
    refine gkT ?_
    refine pkT ?_
    refine RW.nil ?_
    refine awp_cond rfl (fun h => nomatch h) (fun _ => ?_)
    refine awp_exit ?_
    refine awp_seq ?_
    refine awp_rw rfl ?_
    refine mvO ?_
    refine mvO ?_
    refine asO ?_
    refine asO ?_
    refine RW.nil ?_
    refine awp_ret ?_
    have hst := gall_stop (F := (frames l 7)) hi h30 (by rintro ⟨a1, a2, a3⟩; omega)
    unfold ledger
    rw [hst]
    exact ⟨Or.inr rfl, [_, _], ⟨.tmp (Res.ownT (xs := (gall (frames l 7) what i).recs.map encC) rfl rfl he7 (by rw [hn7]; simp)), .tmp (Res.ownT (xs := (gall (frames l 7) what i).sts.map encR) rfl rfl he8 (by rw [hn8]; simp)), trivial⟩, .refl _⟩

end Go.Tv.C36

end
section
open Go Go.Tv Go.Proofs
namespace Go.Tv.C36
set_option maxRecDepth 20000
set_option maxHeartbeats 2000000
set_option linter.unusedSimpArgs false
set_option linter.unusedVariables false
theorem aroundK {n m : Int} {k : Nat} (hn : I64 n) (hm : 0 < m ∧ m ≤ 9223372036854775807) (h : around n m = (k : Int)) : Ret Tryd.prog 13 [encI n, encI m] (encI (k : Nat)) := by
  have := around_ret n m hn hm
  rwa [h] at this

theorem lives1 : RetT Tryd.prog 22 [(1, deT)] [.sl (late4.map encC) false, encD dAg] (.tup [encV zv, encI 0]) := by have h := judge_ret late4 dAg okLate; rw [livA] at h; exact h
theorem lives2 : RetT Tryd.prog 22 [(1, deT)] [.sl (late4.map encC) false, encD dTo] (.tup [encV ⟨false, ⟨1, 0, 1, false⟩⟩, encI 0]) := by have h := judge_ret late4 dTo okLate; rw [livB] at h; exact h
theorem lives3 : RetT Tryd.prog 22 [(1, deT)] [.sl (early4.map encC) false, encD dAg] (.tup [encV ⟨true, zr⟩, encI 0]) := by have h := judge_ret early4 dAg okEarly; rw [livC] at h; exact h
theorem lives4 : RetT Tryd.prog 19 [(1, deT)] [.sl (early4.map encC) false] (.tup [.sl ([2].map encN) false, encI 0]) := by have h := held_ret early4 okEarly; rw [livD] at h; exact h
theorem lives5 : Ret Tryd.prog 21 [.sl ([2].map encN) false, .sl ([2].map encN) false] (.bool true) := sameN_ret [2] (by decide)

theorem lives_ret  : RetT Tryd.prog 16 [(1, deT)] [] (.bool true) := by
  refine retT_of_awp Tryd.func16 rfl (Nat.le_of_ble_eq_true rfl) ?_
  refine awp_seq ?_
  refine awp_rw rfl ?_
  refine asT ?_
  refine RW.nil ?_
  refine awp_seq ?_
  refine awp_rw rfl ?_
  refine RW.op rfl rfl (eff_buildT (ys := [_, _, _, _, _, _, _, _, _, _, _, _, _, _, _]) rfl rfl tz47 tg47 rfl) ?_
  refine RW.new rfl rfl (eff_allocK (k := 15) (id := 1) rfl rfl tz47 rfl rfl) ?_
  refine RW.store rfl rfl (eff_storeW (v := .t _) (els := [_]) (els' := [_]) rfl rfl ti47 rfl rfl rfl rfl rfl rfl rfl rfl rfl) ?_
  refine RW.nil ?_
  refine awp_seq ?_
  refine awp_rw rfl ?_
  refine RW.op rfl rfl (eff_buildT (ys := [_, _, _, _]) rfl rfl tz23 tg23 rfl) ?_
  refine RW.op rfl rfl (eff_buildT (ys := [_, _, _, _, _, _, _, _, _, _, _, _, _, _, _]) rfl rfl tz47 tg47 rfl) ?_
  refine RW.new rfl rfl (eff_allocK (k := 15) (id := 2) rfl rfl tz47 rfl rfl) ?_
  refine RW.store rfl rfl (eff_storeW (v := .t _) (els := [_]) (els' := [_]) rfl rfl ti47 rfl rfl rfl rfl rfl rfl rfl rfl rfl) ?_
  refine RW.nil ?_
  refine awp_seq ?_
  refine awp_rw rfl ?_
  refine RW.op rfl rfl (eff_buildT (ys := [_, _, _, _]) rfl rfl tz28 tg28 rfl) ?_
  refine RW.new rfl rfl (eff_allocK (k := 4) (id := 3) rfl rfl tz28 rfl rfl) ?_
  refine RW.store rfl rfl (eff_storeW (v := .t _) (els := [_]) (els' := [_]) rfl rfl ti28 rfl rfl rfl rfl rfl rfl rfl rfl rfl) ?_
  refine RW.nil ?_
  refine awp_seq ?_
  refine awp_rw rfl ?_
  refine RW.op rfl rfl (eff_buildT (ys := [_, _, _, _]) rfl rfl tz28 tg28 rfl) ?_
  refine RW.new rfl rfl (eff_allocK (k := 4) (id := 4) rfl rfl tz28 rfl rfl) ?_
  refine RW.store rfl rfl (eff_storeW (v := .t _) (els := [_]) (els' := [_]) rfl rfl ti28 rfl rfl rfl rfl rfl rfl rfl rfl rfl) ?_
  refine RW.nil ?_
  refine awp_seq ?_
  refine awp_rw rfl ?_
  refine RW.op rfl rfl (eff_load rfl rfl ti28 rfl (.whole rfl rfl rfl rfl rfl rfl)) ?_
  refine RW.op rfl rfl (eff_buildT (ys := [_, _, _, _, _, _, _, _, _, _, _, _, _, _, _]) rfl rfl tz47 tg47 rfl) ?_
  refine RW.new rfl rfl (eff_allocK (k := 15) (id := 5) rfl rfl tz47 rfl rfl) ?_
  refine RW.store rfl rfl (eff_storeW (v := .t _) (els := [_]) (els' := [_]) rfl rfl ti47 rfl rfl rfl rfl rfl rfl rfl rfl rfl) ?_
  refine RW.nil ?_
  refine awp_seq ?_
  refine awp_rw rfl ?_
  refine RW.op rfl rfl (eff_load rfl rfl ti28 rfl (.whole rfl rfl rfl rfl rfl rfl)) ?_
  refine RW.op rfl rfl (eff_buildT (ys := [_, _, _, _, _, _, _, _, _, _, _, _, _, _, _]) rfl rfl tz47 tg47 rfl) ?_
  refine RW.new rfl rfl (eff_allocK (k := 15) (id := 6) rfl rfl tz47 rfl rfl) ?_
  refine RW.store rfl rfl (eff_storeW (v := .t _) (els := [_]) (els' := [_]) rfl rfl ti47 rfl rfl rfl rfl rfl rfl rfl rfl rfl) ?_
  refine RW.nil ?_
  refine awp_seq ?_
  refine awp_rw rfl ?_
  refine RW.op rfl rfl (eff_load rfl rfl ti47 rfl (.whole rfl rfl rfl rfl rfl rfl)) ?_
  refine RW.op rfl rfl (eff_load rfl rfl ti47 rfl (.whole rfl rfl rfl rfl rfl rfl)) ?_
  refine RW.op rfl rfl (eff_load rfl rfl ti47 rfl (.whole rfl rfl rfl rfl rfl rfl)) ?_
  refine RW.op rfl rfl (eff_load rfl rfl ti47 rfl (.whole rfl rfl rfl rfl rfl rfl)) ?_
  refine RW.weak (weak_slot 26 (y := encC rSe) rfl (by first | ((repeat' (first | exact trivial | exact Wk.refl _ | exact Wk.sl _ | refine And.intro ?_ ?_ | refine Wk.tupP ?_ | refine Wk.aggP ?_)); done) | fail)) rfl ?_
  refine RW.weak (weak_slot 27 (y := encC rX) rfl (by first | ((repeat' (first | exact trivial | exact Wk.refl _ | exact Wk.sl _ | refine And.intro ?_ ?_ | refine Wk.tupP ?_ | refine Wk.aggP ?_)); done) | fail)) rfl ?_
  refine RW.weak (weak_slot 28 (y := encC rY) rfl (by first | ((repeat' (first | exact trivial | exact Wk.refl _ | exact Wk.sl _ | refine And.intro ?_ ?_ | refine Wk.tupP ?_ | refine Wk.aggP ?_)); done) | fail)) rfl ?_
  refine RW.weak (weak_slot 29 (y := encC rHe) rfl (by first | ((repeat' (first | exact trivial | exact Wk.refl _ | exact Wk.sl _ | refine And.intro ?_ ?_ | refine Wk.tupP ?_ | refine Wk.aggP ?_)); done) | fail)) rfl ?_
  refine RW.new rfl rfl (eff_buildSliceL (id := 30) (els := [.t (.agg [_, _, _, _, _, _, _, _, _, _, _, _, _, _, _]), .t (.agg [_, _, _, _, _, _, _, _, _, _, _, _, _, _, _]), .t (.agg [_, _, _, _, _, _, _, _, _, _, _, _, _, _, _]), .t (.agg [_, _, _, _, _, _, _, _, _, _, _, _, _, _, _])]) rfl rfl te32 tz47 rfl (by decide) (by decide) rfl rfl rfl rfl) ?_
  refine asO ?_
  refine RW.nil ?_
  refine awp_seq ?_
  refine awp_rw rfl ?_
  refine RW.op rfl rfl (eff_load rfl rfl ti47 rfl (.whole rfl rfl rfl rfl rfl rfl)) ?_
  refine RW.op rfl rfl (eff_load rfl rfl ti47 rfl (.whole rfl rfl rfl rfl rfl rfl)) ?_
  refine RW.op rfl rfl (eff_load rfl rfl ti47 rfl (.whole rfl rfl rfl rfl rfl rfl)) ?_
  refine RW.op rfl rfl (eff_load rfl rfl ti47 rfl (.whole rfl rfl rfl rfl rfl rfl)) ?_
  refine RW.weak (weak_slot 31 (y := encC rSe) rfl (by first | ((repeat' (first | exact trivial | exact Wk.refl _ | exact Wk.sl _ | refine And.intro ?_ ?_ | refine Wk.tupP ?_ | refine Wk.aggP ?_)); done) | fail)) rfl ?_
  refine RW.weak (weak_slot 32 (y := encC rHe) rfl (by first | ((repeat' (first | exact trivial | exact Wk.refl _ | exact Wk.sl _ | refine And.intro ?_ ?_ | refine Wk.tupP ?_ | refine Wk.aggP ?_)); done) | fail)) rfl ?_
  refine RW.weak (weak_slot 33 (y := encC rX) rfl (by first | ((repeat' (first | exact trivial | exact Wk.refl _ | exact Wk.sl _ | refine And.intro ?_ ?_ | refine Wk.tupP ?_ | refine Wk.aggP ?_)); done) | fail)) rfl ?_
  refine RW.weak (weak_slot 34 (y := encC rY) rfl (by first | ((repeat' (first | exact trivial | exact Wk.refl _ | exact Wk.sl _ | refine And.intro ?_ ?_ | refine Wk.tupP ?_ | refine Wk.aggP ?_)); done) | fail)) rfl ?_
  refine RW.new rfl rfl (eff_buildSliceL (id := 35) (els := [.t (.agg [_, _, _, _, _, _, _, _, _, _, _, _, _, _, _]), .t (.agg [_, _, _, _, _, _, _, _, _, _, _, _, _, _, _]), .t (.agg [_, _, _, _, _, _, _, _, _, _, _, _, _, _, _]), .t (.agg [_, _, _, _, _, _, _, _, _, _, _, _, _, _, _])]) rfl rfl te32 tz47 rfl (by decide) (by decide) rfl rfl rfl rfl) ?_
  refine asO ?_
  refine RW.nil ?_
  refine awp_seq ?_
  refine awp_weak (weak_frz (n := 93) (fr' := [(3, .ptr 3 0 0 0), (4, .ptr 4 0 0 0), (7, .t (.sl (late4.map encC) false)), (8, .t (.sl (early4.map encC) false)), (94, .t deT)]) (st' := [(3, some ⟨4, 28, 0, [.t (encD dAg)]⟩), (4, some ⟨4, 28, 0, [.t (encD dTo)]⟩)]) [(30, some ⟨15, 47, 0, (late4.map encC).map .t⟩), (35, some ⟨15, 47, 0, (early4.map encC).map .t⟩)] ⟨rfl, rfl, trivial⟩ ⟨rfl, rfl, trivial⟩ ⟨wa_eq rfl rfl, wa_eq rfl rfl, .res (Res.ownT (xs := late4.map encC) rfl rfl rfl rfl) (.refl _), .res (Res.ownT (xs := early4.map encC) rfl rfl rfl rfl) (.refl _), wa_eq rfl rfl, trivial⟩ ⟨rfl, okE_one rfl, rfl, okE_one rfl, trivial⟩) ?_
  refine awp_rw rfl ?_
  refine mvT ?_
  refine RW.op rfl rfl (eff_load rfl rfl ti28 rfl (.whole rfl rfl rfl rfl rfl rfl)) ?_
  refine RW.op rfl rfl (eff_callXT (lives1) co22 rfl rfl rfl ⟨rfl, trivial⟩ rfl) ?_
  refine mvT ?_
  refine RW.op rfl rfl (eff_extract rfl rfl rfl rfl) ?_
  refine RW.op rfl rfl (eff_extract rfl rfl rfl rfl) ?_
  refine RW.new rfl rfl (eff_allocK (k := 5) (id := 9) rfl rfl tz49 rfl rfl) ?_
  refine RW.store rfl rfl (eff_storeW (v := .t _) (els := [_]) (els' := [_]) rfl rfl ti49 rfl rfl rfl rfl rfl rfl rfl rfl rfl) ?_
  refine asT ?_
  refine RW.nil ?_
  refine awp_seq ?_
  refine awp_rw rfl ?_
  refine mvT ?_
  refine RW.op rfl rfl (eff_load rfl rfl ti28 rfl (.whole rfl rfl rfl rfl rfl rfl)) ?_
  refine RW.op rfl rfl (eff_callXT (lives2) co22 rfl rfl rfl ⟨rfl, trivial⟩ rfl) ?_
  refine mvT ?_
  refine RW.op rfl rfl (eff_extract rfl rfl rfl rfl) ?_
  refine RW.op rfl rfl (eff_extract rfl rfl rfl rfl) ?_
  refine RW.new rfl rfl (eff_allocK (k := 5) (id := 11) rfl rfl tz49 rfl rfl) ?_
  refine RW.store rfl rfl (eff_storeW (v := .t _) (els := [_]) (els' := [_]) rfl rfl ti49 rfl rfl rfl rfl rfl rfl rfl rfl rfl) ?_
  refine asT ?_
  refine RW.nil ?_
  refine awp_seq ?_
  refine awp_rw rfl ?_
  refine mvT ?_
  refine RW.op rfl rfl (eff_load rfl rfl ti28 rfl (.whole rfl rfl rfl rfl rfl rfl)) ?_
  refine RW.op rfl rfl (eff_callXT (lives3) co22 rfl rfl rfl ⟨rfl, trivial⟩ rfl) ?_
  refine mvT ?_
  refine RW.op rfl rfl (eff_extract rfl rfl rfl rfl) ?_
  refine RW.op rfl rfl (eff_extract rfl rfl rfl rfl) ?_
  refine RW.new rfl rfl (eff_allocK (k := 5) (id := 13) rfl rfl tz49 rfl rfl) ?_
  refine RW.store rfl rfl (eff_storeW (v := .t _) (els := [_]) (els' := [_]) rfl rfl ti49 rfl rfl rfl rfl rfl rfl rfl rfl rfl) ?_
  refine asT ?_
  refine RW.nil ?_
  refine awp_seq ?_
  refine awp_rw rfl ?_
  refine mvT ?_
  refine RW.op rfl rfl (eff_callXT (lives4) co19 rfl rfl rfl ⟨rfl, trivial⟩ rfl) ?_
  refine mvT ?_
  refine RW.op rfl rfl (eff_extract rfl rfl rfl rfl) ?_
  refine RW.op rfl rfl (eff_extract rfl rfl rfl rfl) ?_
  refine asT ?_
  refine asT ?_
  refine RW.nil ?_
  refine awp_seq ?_
  refine awp_seq ?_
  refine awp_rw rfl ?_
  refine mvT ?_
  refine RW.op rfl rfl (eff_iop (r := .bool false) rfl rfl rfl rfl (by rfl)) ?_
  refine mvT ?_
  refine RW.gop rfl rfl rfl rfl rfl rfl (eff_move (v := .t _) rfl rfl rfl) ?_
  refine RW.gop rfl rfl rfl rfl rfl rfl (eff_iop (r := .bool false) rfl rfl rfl rfl (by rfl)) ?_
  refine pkT ?_
  refine mvT ?_
  refine RW.gop rfl rfl rfl rfl rfl rfl (eff_move (v := .t _) rfl rfl rfl) ?_
  refine RW.gop rfl rfl rfl rfl rfl rfl (eff_iop (r := .bool false) rfl rfl rfl rfl (by rfl)) ?_
  refine pkT ?_
  refine mvT ?_
  refine RW.gop rfl rfl rfl rfl rfl rfl (eff_move (v := .t _) rfl rfl rfl) ?_
  refine RW.gop rfl rfl rfl rfl rfl rfl (eff_iop (r := .bool false) rfl rfl rfl rfl (by rfl)) ?_
  refine pkT ?_
  refine mvT ?_
  refine RW.gop rfl rfl rfl rfl rfl rfl (eff_move (v := .t _) rfl rfl rfl) ?_
  refine RW.gop rfl rfl rfl rfl rfl rfl (eff_buildSliceT (xs := [2].map encN) rfl rfl te26 tz3 rfl (by decide) rfl rfl rfl (by decide)) ?_
  refine RW.gop rfl rfl rfl rfl rfl rfl (eff_callW (xs := [_, _]) (lives5) co21 rfl rfl rfl rfl (by repeat' first | exact trivial | exact Wk.refl _ | exact Wk.sl _ | refine And.intro ?_ ?_ | refine Wk.aggP ?_)) ?_
  refine RW.gop rfl rfl rfl rfl rfl rfl (eff_unop rfl rfl rfl rfl) ?_
  refine pkT ?_
  refine RW.nil ?_
  refine awp_cond rfl (fun h => nomatch h) (fun _ => ?_)
  refine awp_skip ?_
  refine awp_seq ?_
  refine awp_rw rfl ?_
  refine RW.op rfl rfl (eff_load rfl rfl ti49 rfl (.whole rfl rfl rfl rfl rfl rfl)) ?_
  refine RW.op rfl rfl (eff_buildT (ys := [_, _, _, _, _]) rfl rfl tz49 tg49 rfl) ?_
  refine RW.op rfl rfl (eff_structEqlAB (cells := cellsV) (a := zv) (b := zv) (r := true) rfl rfl ts49s ti49 th49 cellsV_inj cellsV_kind rfl rfl (by decide)) ?_
  refine mvT ?_
  refine RW.gop rfl rfl rfl rfl rfl rfl (eff_load rfl rfl ti49 rfl (.whole rfl rfl rfl rfl rfl rfl)) ?_
  refine RW.gop rfl rfl rfl rfl rfl rfl (eff_buildT (ys := [_, _, _, _]) rfl rfl tz23 tg23 rfl) ?_
  refine RW.gop rfl rfl rfl rfl rfl rfl (eff_buildT (ys := [_, _, _, _, _]) rfl rfl tz49 tg49 rfl) ?_
  refine RW.gop rfl rfl rfl rfl rfl rfl (eff_structEqlAB (cells := cellsV) (a := ⟨false, ⟨1, 0, 1, false⟩⟩) (b := ⟨false, ⟨1, 0, 1, false⟩⟩) (r := true) rfl rfl ts49s ti49 th49 cellsV_inj cellsV_kind rfl rfl (by decide)) ?_
  refine pkT ?_
  refine mvT ?_
  refine RW.gop rfl rfl rfl rfl rfl rfl (eff_load rfl rfl ti49 rfl (.whole rfl rfl rfl rfl rfl rfl)) ?_
  refine RW.gop rfl rfl rfl rfl rfl rfl (eff_buildT (ys := [_, _, _, _, _]) rfl rfl tz49 tg49 rfl) ?_
  refine RW.gop rfl rfl rfl rfl rfl rfl (eff_structEqlAB (cells := cellsV) (a := ⟨true, zr⟩) (b := ⟨true, zr⟩) (r := true) rfl rfl ts49s ti49 th49 cellsV_inj cellsV_kind rfl rfl (by decide)) ?_
  refine pkT ?_
  refine asT ?_
  refine RW.nil ?_
  refine awp_ret ?_
  exact ⟨Or.inr rfl, [_], ⟨.tmp (.t _), trivial⟩, .refl _⟩

end Go.Tv.C36

end
section
open Go Go.Tv Go.Proofs
namespace Go.Tv.C36
set_option maxRecDepth 20000
set_option maxHeartbeats 2000000
set_option linter.unusedSimpArgs false
set_option linter.unusedVariables false
theorem known_fit {l : List Rcd} (hO : OKL l) (t : Int) : (known l t).1.sent.length ≤ 1000000 ∧ (known l t).1.poss.length ≤ 1000000 := by
  by_cases h : (allOf l).2 = 0
  · rw [known_ok h]
    have := runTo_fit12 hO (upTo_le l t) (run_ok h (upTo_le l t))
    have h1 := this.sl
    have h2 := this.len
    omega
  · rw [known_bad (all_zt h) h]; exact ⟨Nat.zero_le _, Nat.zero_le _⟩
end Go.Tv.C36

end
section
open Go Go.Tv Go.Proofs
namespace Go.Tv.C36

/-! ### Fair judgement -/
/-! ### Confirming -/
theorem judge_held {l : List Rcd} {d : Dec} (h : (judge l d).2 = 0) : (defence l d).2 = 0 ∧ judge l d = (vOf (defence l d).1, 0) := by
  unfold judge at h ⊢
  by_cases h1 : (defence l d).2 = 0
  · rw [if_neg (by rw [h1]; decide)]; exact ⟨h1, rfl⟩
  · rw [if_pos h1] at h; exact absurd h h1
theorem conf_true {l : List Rcd} {d : Dec} (h : (judge l d).2 = 0) : confirms l d (judge l d).1 = true := by
  obtain ⟨h1, h2⟩ := judge_held h
  rw [h2]
  unfold confirms
  generalize hR : (defence l d).1 = R
  cases R with
  | nil => rw [if_neg (by rw [h1]; show ¬ ((0 : Int) ≠ 0 ∨ true ≠ decide (([] : List Rep) = [])); simp)]; rfl
  | cons s R =>
    rw [if_neg (by rw [h1]; show ¬ ((0 : Int) ≠ 0 ∨ false ≠ decide ((s :: R) = [])); simp)]
    show decide (s ∈ s :: R) = true
    simp
theorem conf_false {l : List Rcd} {d : Dec} (h : (judge l d).2 = 0) : confirms l d ⟨!(judge l d).1.held, (judge l d).1.wit⟩ = false := by
  obtain ⟨h1, h2⟩ := judge_held h
  rw [h2]
  unfold confirms
  generalize hR : (defence l d).1 = R
  cases R with
  | nil => rw [if_pos (.inr (by show (!true) ≠ decide (([] : List Rep) = []); decide))]
  | cons s R => rw [if_pos (.inr (by show (!false) ≠ decide ((s :: R) = []); simp))]

/-! ### Prefixes -/
structure Pre (A B : List Nat) (k : Nat) : Prop where
  le : B.length ≤ A.length
  eq : ∀ i (ha : i < A.length) (hb : i < B.length), B[i] = A[i]
  lt : ∀ i (ha : i < A.length), A[i] < k ↔ i < B.length
end Go.Tv.C36

end
section
open Go Go.Tv Go.Proofs
namespace Go.Tv.C36
set_option maxRecDepth 20000
set_option maxHeartbeats 2000000
set_option linter.unusedSimpArgs false
set_option linter.unusedVariables false
theorem conf_t {l : List Rcd} {d : Dec} (hO : OKL l) (h : (judge l d).2 = 0) : RetT Tryd.prog 32 [(1, deT)] [.sl (l.map encC) false, encD d, encV (judge l d).1] (.bool true) := by
  have h2 := confirms_ret l d (judge l d).1 hO
  rwa [conf_true h] at h2
theorem conf_f {l : List Rcd} {d : Dec} (hO : OKL l) (h : (judge l d).2 = 0) : RetT Tryd.prog 32 [(1, deT)] [.sl (l.map encC) false, encD d, encV ⟨!(judge l d).1.held, (judge l d).1.wit⟩] (.bool false) := by
  have h2 := confirms_ret l d ⟨!(judge l d).1.held, (judge l d).1.wit⟩ hO
  rwa [conf_false h] at h2

theorem law11 (l what : List Int) (hd : Bool) (nx hv ky : Int) (hI : ∀ x, x ∈ l → I64 x) (hl : l.length ≤ 9223372036854775807) (hJ : ∀ x, x ∈ what → I64 x) (hwl : what.length ≤ 9223372036854775807) (hnx : I64 nx) (hhv : I64 hv) (hky : I64 ky) : RetT Tryd.prog 11 [(1, deT)] [.sl (l.map encI) false, .sl (what.map encI) false, .bool hd, encI nx, encI hv, encI ky] (.bool true) := by
  refine retT_of_awp Tryd.func11 rfl (Nat.le_of_ble_eq_true rfl) ?_
  refine awp_seq ?_
  refine awp_rw rfl ?_
  refine asT ?_
  refine RW.nil ?_
  refine awp_seq ?_
  refine awp_rw rfl ?_
  refine mvT ?_
  refine mvT ?_
  refine RW.op rfl rfl (eff_callT (ledger_ret l what hI hl hJ hwl) co17 rfl rfl rfl rfl) ?_
  refine mvT ?_
  refine RW.op rfl rfl (eff_extract rfl rfl rfl rfl) ?_
  refine RW.op rfl rfl (eff_extract rfl rfl rfl rfl) ?_
  refine asT ?_
  refine asT ?_
  refine RW.nil ?_
  refine awp_seq ?_
  refine awp_rw rfl ?_
  have hled := ledger_led l what
  have hO := hled.okl
  have hsh := hled.short
  refine mvT ?_
  refine RW.op rfl rfl (eff_callT (rknown_ret (ledger l what).1 1000000 hO) co29 rfl rfl rfl rfl) ?_
  refine mvT ?_
  refine RW.op rfl rfl (eff_extract rfl rfl rfl rfl) ?_
  refine RW.op rfl rfl (eff_extract rfl rfl rfl rfl) ?_
  refine RW.new rfl rfl (eff_allocK (k := 2) (id := 15) rfl rfl tz64 rfl rfl) ?_
  refine RW.store rfl rfl (eff_storeW (v := .t _) (els := [_]) (els' := [_]) rfl rfl ti64 rfl rfl rfl rfl rfl rfl rfl rfl rfl) ?_
  refine asT ?_
  refine RW.nil ?_
  refine awp_seq ?_
  refine awp_seq ?_
  refine awp_rw rfl ?_
  refine asT ?_
  refine RW.nil ?_
  refine awp_block ?_
  refine awp_loopW (fun m s => ∃ (i : Nat), (i ≤ (ledger l what).1.length) ∧ m = (ledger l what).1.length - i ∧ s = ⟨115, [(2, .t (.bool hd)), (3, .t (encI nx)), (4, .t (encI hv)), (5, .t (encI ky)), (13, .t (.sl ((ledger l what).1.map encC) false)), (15, .ptr 15 0 0 0), (17, .t (encI (i : Nat))), (116, .t deT)], [(15, some ⟨2, 64, 0, [.t (encT (known (ledger l what).1 1000000).1)]⟩)]⟩) (_) (⟨_, weak_keep (n := 115) (fr' := [(2, .t (.bool hd)), (3, .t (encI nx)), (4, .t (encI hv)), (5, .t (encI ky)), (13, .t (.sl ((ledger l what).1.map encC) false)), (15, .ptr 15 0 0 0), (17, .t (encI (0 : Nat))), (116, .t deT)]) (st' := [(15, some ⟨2, 64, 0, [.t (encT (known (ledger l what).1 1000000).1)]⟩)]) ⟨rfl, rfl, rfl, rfl, rfl, rfl, rfl, rfl, rfl, rfl, rfl, rfl, rfl, rfl, rfl, rfl, trivial⟩ ⟨rfl, okE_one rfl, trivial⟩, 0, (by omega), rfl, rfl⟩) ?_
  rintro m s ⟨i, hi, rfl, rfl⟩
  refine awp_seq ?_
  refine awp_seq ?_
  refine awp_rw rfl ?_
  refine mvT ?_
  refine mvT ?_
  refine RW.op rfl rfl (eff_lenM rfl rfl te32 rfl) ?_
  refine ioT ?_
  refine RW.nil ?_
  refine awp_cond rfl (fun h1 => ?_) (fun h1 => ?_)
  · try simp only [cl] at h1
    refine awp_skip ?_
    refine awp_seq ?_
    refine awp_block ?_
    refine awp_seq ?_
    refine awp_rw rfl ?_
    have hil : i < (ledger l what).1.length := by omega
    have hkf := known_fit hO 1000000
    refine mvT ?_
    refine mvT ?_
    refine RW.op rfl rfl (eff_indexM (i := i) rfl rfl te32 rfl rfl (by first | rfl | omega) (by first | assumption | exact List.getElem?_eq_getElem (by omega)) rfl (by decide)) ?_
    refine RW.op rfl rfl (eff_fieldAddrT rfl rfl tf47_4 (by decide) rfl) ?_
    refine RW.op rfl rfl (eff_loadT (ys := [_, _, _, _]) rfl rfl ti28 rfl rfl rfl) ?_
    refine RW.new rfl rfl (eff_allocK (k := 4) (id := 18) rfl rfl tz28 rfl rfl) ?_
    refine RW.store rfl rfl (eff_storeW (v := .t _) (els := [_]) (els' := [_]) rfl rfl ti28 rfl rfl rfl rfl rfl rfl rfl rfl rfl) ?_
    refine RW.nil ?_
    refine awp_seq ?_
    refine awp_rw rfl ?_
    refine RW.op rfl rfl (eff_buildT (ys := [_, _, _, _]) rfl rfl tz23 tg23 rfl) ?_
    refine mvT ?_
    refine mvT ?_
    refine mvT ?_
    refine RW.op rfl rfl (eff_callT (state_ret nx hv ky false hnx hhv hky) co12 rfl rfl rfl rfl) ?_
    refine RW.new rfl rfl (eff_buildSliceL (id := 52) (els := [.t (.agg [_, _, _, _]), .t (.agg [_, _, _, _])]) rfl rfl te33 tz23 rfl (by decide) (by decide) rfl rfl rfl rfl) ?_
    refine asO ?_
    refine RW.nil ?_
    refine awp_seq ?_
    refine awp_seq ?_
    refine awp_rw rfl ?_
    refine faT tf64_1 ?_
    refine l1T ti33 rfl rfl rfl rfl rfl (.one rfl rfl rfl rfl) ?_
    refine RW.op rfl rfl (eff_lenM rfl rfl te33 rfl) ?_
    refine ioT ?_
    refine RW.nil ?_
    refine awp_cond rfl (fun h2 => ?_) (fun h2 => ?_)
    · try simp only [cl] at h2
      have hpr := around_range (n := nx) (m := ((known (ledger l what).1 1000000).1.poss.length : Int)) (by omega)
      obtain ⟨q, hq⟩ : ∃ q : Nat, around nx ((known (ledger l what).1 1000000).1.poss.length : Int) = (q : Int) := ⟨(around nx ((known (ledger l what).1 1000000).1.poss.length : Int)).toNat, by omega⟩
      have hql : q < (known (ledger l what).1 1000000).1.poss.length := by omega
      refine awp_rd [(some 57, []), (some 58, []), (some 59, []), (some 60, []), (some 61, []), (some 62, []), (some 63, []), (some 64, []), (some 65, []), (some 66, []), (some 67, [67]), (some 68, [52]), (some 19, [])] [[], [], [1], [], [], [4], [4, 5], [3, 4, 5, 6], [1, 2, 3, 4, 5, 6, 7], [1, 2, 3, 4, 5, 6, 7, 8], [1, 2, 3, 4, 5, 6, 7, 8, 9], [0, 1, 2, 3, 4, 5, 6, 7, 8, 9, 10], [0, 1, 2, 3, 4, 5, 6, 7, 8, 9, 10, 11]] tm rfl rfl rfl rfl ?_
      refine RD.op rfl rfl rfl (eff_move (v := .own _ _ _ _) rfl rfl rfl) ?_
      refine RD.op rfl rfl rfl (eff_fieldAddr rfl rfl tf64_1 (by decide) rfl rfl rfl (Nat.le_of_ble_eq_true rfl)) ?_
      refine RD.op rfl rfl rfl (eff_load (y := .t _) rfl rfl ti33 rfl (.one rfl rfl rfl rfl)) ?_
      refine mvD ?_
      refine RD.op rfl rfl rfl (eff_fieldAddr rfl rfl tf64_1 (by decide) rfl rfl rfl (Nat.le_of_ble_eq_true rfl)) ?_
      refine RD.op rfl rfl rfl (eff_load (y := .t _) rfl rfl ti33 rfl (.one rfl rfl rfl rfl)) ?_
      refine RD.op rfl rfl rfl (eff_lenM rfl rfl te33 rfl) ?_
      refine RD.op rfl rfl rfl (eff_callT (aroundK hnx (by omega) hq) co13 rfl rfl rfl rfl) ?_
      refine RD.op rfl rfl rfl (eff_indexM (i := q) rfl rfl te33 rfl rfl (by first | rfl | omega) (by exact List.getElem?_eq_getElem hql) rfl (by decide)) ?_
      refine RD.op rfl rfl rfl (eff_loadW rfl rfl ti23 rfl rfl rfl) ?_
      refine RD.new rfl rfl rfl (eff_buildSliceL (id := 67) (els := [.t (.agg [_, _, _, _])]) rfl rfl te33 tz23 rfl (by decide) (by decide) rfl rfl rfl rfl) ?_
      refine RD.new rfl rfl rfl (eff_append (id := 52) (ys := [_]) rfl rfl ta33 rfl rfl rfl rfl rfl rfl (srcOwn rfl rfl rfl rfl rfl rfl) (by simp) (by simp) (by simp)) ?_
      refine RD.op rfl rfl rfl (eff_assign (v := .own _ _ _ _) rfl rfl rfl) ?_
      refine RD.nil ?_
      refine awp_seq ?_
      refine awp_seq ?_
      refine awp_rw rfl ?_
      refine asT ?_
      refine RW.nil ?_
      refine awp_block ?_
      refine awp_loopW (fun m s => ∃ (k : Nat) (g : Nat) (nn : Nat) (els : List AV), (k ≤ nn) ∧ (nn ≤ 3) ∧ (∃ ws : List Rep, nn = ws.length ∧ els = (ws.map encR).map .t) ∧ m = nn - k ∧ s = ⟨115, [(2, .t (.bool hd)), (3, .t (encI nx)), (4, .t (encI hv)), (5, .t (encI ky)), (13, .t (.sl ((ledger l what).1.map encC) false)), (15, .ptr 15 0 0 0), (17, .t (encI (i : Nat))), (18, .ptr 18 0 0 0), (19, .own 52 g 0 nn), (20, .t (encI (k : Nat))), (116, .t deT)], [(15, some ⟨2, 64, 0, [.t (encT (known (ledger l what).1 1000000).1)]⟩), (18, some ⟨4, 28, 0, [.t (encD ((ledger l what).1[i]'hil).dec)]⟩), (52, some ⟨4, 23, g, els⟩)]⟩) (_) (⟨_, weak_keep (n := 115) (fr' := [(2, .t (.bool hd)), (3, .t (encI nx)), (4, .t (encI hv)), (5, .t (encI ky)), (13, .t (.sl ((ledger l what).1.map encC) false)), (15, .ptr 15 0 0 0), (17, .t (encI (i : Nat))), (18, .ptr 18 0 0 0), (19, .own 52 _ 0 _), (20, .t (encI (0 : Nat))), (116, .t deT)]) (st' := [(15, some ⟨2, 64, 0, [.t (encT (known (ledger l what).1 1000000).1)]⟩), (18, some ⟨4, 28, 0, [.t (encD ((ledger l what).1[i]'hil).dec)]⟩), (52, some ⟨4, 23, _, _⟩)]) ⟨rfl, rfl, rfl, rfl, rfl, rfl, rfl, rfl, rfl, rfl, rfl, rfl, rfl, rfl, rfl, rfl, rfl, rfl, rfl, rfl, rfl, rfl, trivial⟩ ⟨rfl, okE_one rfl, rfl, okE_one rfl, rfl, (by first | exact okE_t | (rw [hwe]; exact okE_t) | (intro x hx; simp only [List.mem_append, List.mem_cons, List.not_mem_nil, or_false] at hx; rcases hx with (rfl | rfl) | rfl <;> rfl) | (intro x hx; simp only [List.mem_cons, List.not_mem_nil, or_false] at hx; rcases hx with rfl | rfl <;> rfl)), trivial⟩, 0, _, _, _, (by omega), (by simp), (by first | exact ⟨[zr, (state nx hv ky false)], rfl, rfl⟩ | exact ⟨[zr, (state nx hv ky false), (known (ledger l what).1 1000000).1.poss[q]'hql], rfl, rfl⟩), rfl, rfl⟩) ?_
      rintro m s ⟨k, g, nn, els, hk, hn3, hw, rfl, rfl⟩
      refine awp_seq ?_
      refine awp_seq ?_
      refine awp_rw rfl ?_
      refine mvT ?_
      refine mvO ?_
      refine RW.op rfl rfl (eff_len rfl rfl te33 rfl rfl rfl) ?_
      refine ioT ?_
      refine RW.nil ?_
      refine awp_cond rfl (fun h3 => ?_) (fun h3 => ?_)
      · try simp only [cl] at h3
        refine awp_skip ?_
        refine awp_seq ?_
        refine awp_block ?_
        refine awp_seq ?_
        refine awp_rw rfl ?_
        obtain ⟨ws, hwn, hwe⟩ := hw
        have hkw : k < ws.length := by omega
        refine mvT ?_
        refine mvO ?_
        refine mvT ?_
        refine RW.op rfl rfl (eff_indexAddr (i := k) rfl rfl te33 rfl rfl rfl rfl rfl rfl (by omega)) ?_
        refine RW.op rfl rfl (eff_load (y := .t (encR (ws[k]'hkw))) rfl rfl ti23 rfl (.whole rfl rfl (by rw [Nat.zero_add, hwe]; exact elR hkw) rfl rfl rfl)) ?_
        refine RW.op rfl rfl (eff_buildT (ys := [_, _, _, _, _]) rfl rfl tz49 tg49 rfl) ?_
        refine RW.new rfl rfl (eff_allocK (k := 5) (id := 21) rfl rfl tz49 rfl rfl) ?_
        refine RW.store rfl rfl (eff_storeW (v := .t _) (els := [_]) (els' := [_]) rfl rfl ti49 rfl rfl rfl rfl rfl rfl rfl rfl rfl) ?_
        refine RW.nil ?_
        refine awp_seq ?_
        refine awp_rd [(some 81, []), (some 82, []), (some 83, []), (some 84, []), (some 85, []), (some 86, []), (some 87, []), (some 88, []), (some 89, [])] [[], [], [], [0, 1, 2], [], [], [], [0, 1, 2, 3, 4, 5, 6], [0, 1, 2, 3, 4, 5, 6, 7]] tm rfl rfl rfl rfl ?_
        refine mvD ?_
        refine RD.op rfl rfl rfl (eff_load rfl rfl ti28 rfl (.whole rfl rfl rfl rfl rfl rfl)) ?_
        refine RD.op rfl rfl rfl (eff_load rfl rfl ti49 rfl (.whole rfl rfl rfl rfl rfl rfl)) ?_
        refine RD.op rfl rfl rfl (eff_callXT (confirms_ret (ledger l what).1 ((ledger l what).1[i]'hil).dec ⟨hd, ws[k]'hkw⟩ hO) co32 rfl rfl rfl ⟨rfl, trivial⟩ rfl) ?_
        refine mvD ?_
        refine RD.op rfl rfl rfl (eff_load rfl rfl ti28 rfl (.whole rfl rfl rfl rfl rfl rfl)) ?_
        refine RD.op rfl rfl rfl (eff_load rfl rfl ti49 rfl (.whole rfl rfl rfl rfl rfl rfl)) ?_
        refine RD.op rfl rfl rfl (eff_callT (rconfirms_ret (ledger l what).1 ((ledger l what).1[i]'hil).dec ⟨hd, ws[k]'hkw⟩ hO) co33 rfl rfl rfl rfl) ?_
        refine RD.op rfl rfl rfl (eff_boolEq (b := false) rfl rfl (.inr rfl) tu4 rfl rfl (by simp)) ?_
        refine RD.nil ?_
        refine awp_cond rfl (fun h => nomatch h) (fun _ => ?_)
        refine awp_skip ?_
        refine awp_rw rfl ?_
        refine mvT ?_
        refine RW.op rfl rfl (eff_iop rfl rfl rfl rfl (iadd (by omega))) ?_
        refine asT ?_
        refine RW.nil ?_
        refine ⟨_, ?_, _, weak_keep (n := 115) (fr' := [(2, .t (.bool hd)), (3, .t (encI nx)), (4, .t (encI hv)), (5, .t (encI ky)), (13, .t (.sl ((ledger l what).1.map encC) false)), (15, .ptr 15 0 0 0), (17, .t (encI (i : Nat))), (18, .ptr 18 0 0 0), (19, .own 52 g 0 nn), (20, .t (encI ((k + 1) : Nat))), (116, .t deT)]) (st' := [(15, some ⟨2, 64, 0, [.t (encT (known (ledger l what).1 1000000).1)]⟩), (18, some ⟨4, 28, 0, [.t (encD ((ledger l what).1[i]'hil).dec)]⟩), (52, some ⟨4, 23, g, els⟩)]) ⟨rfl, rfl, rfl, rfl, rfl, rfl, rfl, rfl, rfl, rfl, rfl, rfl, rfl, rfl, rfl, rfl, rfl, rfl, rfl, rfl, rfl, rfl, trivial⟩ ⟨rfl, okE_one rfl, rfl, okE_one rfl, rfl, (by first | exact okE_t | (rw [hwe]; exact okE_t) | (intro x hx; simp only [List.mem_append, List.mem_cons, List.not_mem_nil, or_false] at hx; rcases hx with (rfl | rfl) | rfl <;> rfl) | (intro x hx; simp only [List.mem_cons, List.not_mem_nil, or_false] at hx; rcases hx with rfl | rfl <;> rfl)), trivial⟩, k + 1, g, nn, els, (by omega), (by exact hn3), (by exact ⟨ws, hwn, hwe⟩), rfl, rfl⟩
        omega
      · try simp only [cl] at h3
        refine awp_exit ?_
        refine awp_seq ?_
        refine awp_rw rfl ?_
        refine mvT ?_
        refine RW.op rfl rfl (eff_load rfl rfl ti28 rfl (.whole rfl rfl rfl rfl rfl rfl)) ?_
        refine RW.op rfl rfl (eff_callXT (judge_ret (ledger l what).1 ((ledger l what).1[i]'hil).dec hO) co22 rfl rfl rfl ⟨rfl, trivial⟩ rfl) ?_
        refine mvT ?_
        refine RW.op rfl rfl (eff_extract rfl rfl rfl rfl) ?_
        refine RW.op rfl rfl (eff_extract rfl rfl rfl rfl) ?_
        refine RW.new rfl rfl (eff_allocK (k := 5) (id := 22) rfl rfl tz49 rfl rfl) ?_
        refine RW.store rfl rfl (eff_storeW (v := .t _) (els := [_]) (els' := [_]) rfl rfl ti49 rfl rfl rfl rfl rfl rfl rfl rfl rfl) ?_
        refine asT ?_
        refine RW.nil ?_
        refine awp_seq ?_
        refine awp_seq ?_
        refine awp_rw rfl ?_
        refine mvT ?_
        refine ioT ?_
        refine RW.nil ?_
        refine awp_cond rfl (fun h4 => ?_) (fun h4 => ?_)
        · try simp only [cl] at h4
          refine awp_exit ?_
          refine awp_rw rfl ?_
          refine mvT ?_
          refine RW.op rfl rfl (eff_iop rfl rfl rfl rfl (iadd (by omega))) ?_
          refine asT ?_
          refine RW.nil ?_
          refine ⟨_, ?_, _, weak_keep (n := 115) (fr' := [(2, .t (.bool hd)), (3, .t (encI nx)), (4, .t (encI hv)), (5, .t (encI ky)), (13, .t (.sl ((ledger l what).1.map encC) false)), (15, .ptr 15 0 0 0), (17, .t (encI ((i + 1) : Nat))), (116, .t deT)]) (st' := [(15, some ⟨2, 64, 0, [.t (encT (known (ledger l what).1 1000000).1)]⟩)]) ⟨rfl, rfl, rfl, rfl, rfl, rfl, rfl, rfl, rfl, rfl, rfl, rfl, rfl, rfl, rfl, rfl, trivial⟩ ⟨rfl, okE_one rfl, trivial⟩, i + 1, (by omega), rfl, rfl⟩
          omega
        · try simp only [cl] at h4
          refine awp_skip ?_
          refine awp_seq ?_
          refine awp_rw rfl ?_
          have hje : (judge (ledger l what).1 ((ledger l what).1[i]'hil).dec).2 = 0 := by assumption
          refine RW.op rfl rfl (eff_load rfl rfl ti49 rfl (.whole rfl rfl rfl rfl rfl rfl)) ?_
          refine RW.new rfl rfl (eff_allocK (k := 5) (id := 24) rfl rfl tz49 rfl rfl) ?_
          refine RW.store rfl rfl (eff_storeW (v := .t _) (els := [_]) (els' := [_]) rfl rfl ti49 rfl rfl rfl rfl rfl rfl rfl rfl rfl) ?_
          refine RW.nil ?_
          refine awp_seq ?_
          refine awp_rw rfl ?_
          refine faT tf49_0 ?_
          refine l1T ti4 rfl rfl rfl rfl rfl (.one rfl rfl rfl rfl) ?_
          refine RW.op rfl rfl (eff_unop rfl rfl rfl rfl) ?_
          refine faT tf49_0 ?_
          refine RW.store rfl rfl (eff_storeS (v := .t _) (ys := [_, _, _, _, _]) (els := [_]) (els' := [_]) rfl rfl ti4 rfl rfl rfl rfl rfl rfl rfl (Nat.le_of_ble_eq_true rfl) rfl rfl) ?_
          refine RW.nil ?_
          refine awp_seq ?_
          refine awp_rw rfl ?_
          refine mvT ?_
          refine RW.op rfl rfl (eff_load rfl rfl ti28 rfl (.whole rfl rfl rfl rfl rfl rfl)) ?_
          refine RW.op rfl rfl (eff_load rfl rfl ti49 rfl (.whole rfl rfl rfl rfl rfl rfl)) ?_
          refine RW.op rfl rfl (eff_callXT (conf_t hO hje) co32 rfl rfl rfl ⟨rfl, trivial⟩ rfl) ?_
          refine RW.op rfl rfl (eff_unop rfl rfl rfl rfl) ?_
          refine mvT ?_
          refine RW.gop rfl rfl rfl rfl rfl rfl (eff_move (v := .t _) rfl rfl rfl) ?_
          refine RW.gop rfl rfl rfl rfl rfl rfl (eff_load rfl rfl ti28 rfl (.whole rfl rfl rfl rfl rfl rfl)) ?_
          refine RW.gop rfl rfl rfl rfl rfl rfl (eff_load rfl rfl ti49 rfl (.whole rfl rfl rfl rfl rfl rfl)) ?_
          refine RW.gop rfl rfl rfl rfl rfl rfl (eff_callXT (conf_f hO hje) co32 rfl rfl rfl ⟨rfl, trivial⟩ rfl) ?_
          refine pkT ?_
          refine RW.nil ?_
          refine awp_cond rfl (fun h => nomatch h) (fun _ => ?_)
          refine awp_skip ?_
          refine awp_rw rfl ?_
          refine mvT ?_
          refine RW.op rfl rfl (eff_iop rfl rfl rfl rfl (iadd (by omega))) ?_
          refine asT ?_
          refine RW.nil ?_
          refine ⟨_, ?_, _, weak_keep (n := 115) (fr' := [(2, .t (.bool hd)), (3, .t (encI nx)), (4, .t (encI hv)), (5, .t (encI ky)), (13, .t (.sl ((ledger l what).1.map encC) false)), (15, .ptr 15 0 0 0), (17, .t (encI ((i + 1) : Nat))), (116, .t deT)]) (st' := [(15, some ⟨2, 64, 0, [.t (encT (known (ledger l what).1 1000000).1)]⟩)]) ⟨rfl, rfl, rfl, rfl, rfl, rfl, rfl, rfl, rfl, rfl, rfl, rfl, rfl, rfl, rfl, rfl, trivial⟩ ⟨rfl, okE_one rfl, trivial⟩, i + 1, (by omega), rfl, rfl⟩
          omega
    · try simp only [cl] at h2
      refine awp_skip ?_
      refine awp_seq ?_
      refine awp_seq ?_
      refine awp_rw rfl ?_
      refine asT ?_
      refine RW.nil ?_
      refine awp_block ?_
      refine awp_loopW (fun m s => ∃ (k : Nat) (g : Nat) (nn : Nat) (els : List AV), (k ≤ nn) ∧ (nn ≤ 3) ∧ (∃ ws : List Rep, nn = ws.length ∧ els = (ws.map encR).map .t) ∧ m = nn - k ∧ s = ⟨115, [(2, .t (.bool hd)), (3, .t (encI nx)), (4, .t (encI hv)), (5, .t (encI ky)), (13, .t (.sl ((ledger l what).1.map encC) false)), (15, .ptr 15 0 0 0), (17, .t (encI (i : Nat))), (18, .ptr 18 0 0 0), (19, .own 52 g 0 nn), (20, .t (encI (k : Nat))), (116, .t deT)], [(15, some ⟨2, 64, 0, [.t (encT (known (ledger l what).1 1000000).1)]⟩), (18, some ⟨4, 28, 0, [.t (encD ((ledger l what).1[i]'hil).dec)]⟩), (52, some ⟨4, 23, g, els⟩)]⟩) (_) (⟨_, weak_keep (n := 115) (fr' := [(2, .t (.bool hd)), (3, .t (encI nx)), (4, .t (encI hv)), (5, .t (encI ky)), (13, .t (.sl ((ledger l what).1.map encC) false)), (15, .ptr 15 0 0 0), (17, .t (encI (i : Nat))), (18, .ptr 18 0 0 0), (19, .own 52 _ 0 _), (20, .t (encI (0 : Nat))), (116, .t deT)]) (st' := [(15, some ⟨2, 64, 0, [.t (encT (known (ledger l what).1 1000000).1)]⟩), (18, some ⟨4, 28, 0, [.t (encD ((ledger l what).1[i]'hil).dec)]⟩), (52, some ⟨4, 23, _, _⟩)]) ⟨rfl, rfl, rfl, rfl, rfl, rfl, rfl, rfl, rfl, rfl, rfl, rfl, rfl, rfl, rfl, rfl, rfl, rfl, rfl, rfl, rfl, rfl, trivial⟩ ⟨rfl, okE_one rfl, rfl, okE_one rfl, rfl, (by first | exact okE_t | (rw [hwe]; exact okE_t) | (intro x hx; simp only [List.mem_append, List.mem_cons, List.not_mem_nil, or_false] at hx; rcases hx with (rfl | rfl) | rfl <;> rfl) | (intro x hx; simp only [List.mem_cons, List.not_mem_nil, or_false] at hx; rcases hx with rfl | rfl <;> rfl)), trivial⟩, 0, _, _, _, (by omega), (by simp), (by first | exact ⟨[zr, (state nx hv ky false)], rfl, rfl⟩ | exact ⟨[zr, (state nx hv ky false), (known (ledger l what).1 1000000).1.poss[q]'hql], rfl, rfl⟩), rfl, rfl⟩) ?_
      rintro m s ⟨k, g, nn, els, hk, hn3, hw, rfl, rfl⟩
      refine awp_seq ?_
      refine awp_seq ?_
      refine awp_rw rfl ?_
      refine mvT ?_
      refine mvO ?_
      refine RW.op rfl rfl (eff_len rfl rfl te33 rfl rfl rfl) ?_
      refine ioT ?_
      refine RW.nil ?_
      refine awp_cond rfl (fun h5 => ?_) (fun h5 => ?_)
      · try simp only [cl] at h5
        refine awp_skip ?_
        refine awp_seq ?_
        refine awp_block ?_
        refine awp_seq ?_
        refine awp_rw rfl ?_
        obtain ⟨ws, hwn, hwe⟩ := hw
        have hkw : k < ws.length := by omega
        refine mvT ?_
        refine mvO ?_
        refine mvT ?_
        refine RW.op rfl rfl (eff_indexAddr (i := k) rfl rfl te33 rfl rfl rfl rfl rfl rfl (by omega)) ?_
        refine RW.op rfl rfl (eff_load (y := .t (encR (ws[k]'hkw))) rfl rfl ti23 rfl (.whole rfl rfl (by rw [Nat.zero_add, hwe]; exact elR hkw) rfl rfl rfl)) ?_
        refine RW.op rfl rfl (eff_buildT (ys := [_, _, _, _, _]) rfl rfl tz49 tg49 rfl) ?_
        refine RW.new rfl rfl (eff_allocK (k := 5) (id := 21) rfl rfl tz49 rfl rfl) ?_
        refine RW.store rfl rfl (eff_storeW (v := .t _) (els := [_]) (els' := [_]) rfl rfl ti49 rfl rfl rfl rfl rfl rfl rfl rfl rfl) ?_
        refine RW.nil ?_
        refine awp_seq ?_
        refine awp_rd [(some 81, []), (some 82, []), (some 83, []), (some 84, []), (some 85, []), (some 86, []), (some 87, []), (some 88, []), (some 89, [])] [[], [], [], [0, 1, 2], [], [], [], [0, 1, 2, 3, 4, 5, 6], [0, 1, 2, 3, 4, 5, 6, 7]] tm rfl rfl rfl rfl ?_
        refine mvD ?_
        refine RD.op rfl rfl rfl (eff_load rfl rfl ti28 rfl (.whole rfl rfl rfl rfl rfl rfl)) ?_
        refine RD.op rfl rfl rfl (eff_load rfl rfl ti49 rfl (.whole rfl rfl rfl rfl rfl rfl)) ?_
        refine RD.op rfl rfl rfl (eff_callXT (confirms_ret (ledger l what).1 ((ledger l what).1[i]'hil).dec ⟨hd, ws[k]'hkw⟩ hO) co32 rfl rfl rfl ⟨rfl, trivial⟩ rfl) ?_
        refine mvD ?_
        refine RD.op rfl rfl rfl (eff_load rfl rfl ti28 rfl (.whole rfl rfl rfl rfl rfl rfl)) ?_
        refine RD.op rfl rfl rfl (eff_load rfl rfl ti49 rfl (.whole rfl rfl rfl rfl rfl rfl)) ?_
        refine RD.op rfl rfl rfl (eff_callT (rconfirms_ret (ledger l what).1 ((ledger l what).1[i]'hil).dec ⟨hd, ws[k]'hkw⟩ hO) co33 rfl rfl rfl rfl) ?_
        refine RD.op rfl rfl rfl (eff_boolEq (b := false) rfl rfl (.inr rfl) tu4 rfl rfl (by simp)) ?_
        refine RD.nil ?_
        refine awp_cond rfl (fun h => nomatch h) (fun _ => ?_)
        refine awp_skip ?_
        refine awp_rw rfl ?_
        refine mvT ?_
        refine RW.op rfl rfl (eff_iop rfl rfl rfl rfl (iadd (by omega))) ?_
        refine asT ?_
        refine RW.nil ?_
        refine ⟨_, ?_, _, weak_keep (n := 115) (fr' := [(2, .t (.bool hd)), (3, .t (encI nx)), (4, .t (encI hv)), (5, .t (encI ky)), (13, .t (.sl ((ledger l what).1.map encC) false)), (15, .ptr 15 0 0 0), (17, .t (encI (i : Nat))), (18, .ptr 18 0 0 0), (19, .own 52 g 0 nn), (20, .t (encI ((k + 1) : Nat))), (116, .t deT)]) (st' := [(15, some ⟨2, 64, 0, [.t (encT (known (ledger l what).1 1000000).1)]⟩), (18, some ⟨4, 28, 0, [.t (encD ((ledger l what).1[i]'hil).dec)]⟩), (52, some ⟨4, 23, g, els⟩)]) ⟨rfl, rfl, rfl, rfl, rfl, rfl, rfl, rfl, rfl, rfl, rfl, rfl, rfl, rfl, rfl, rfl, rfl, rfl, rfl, rfl, rfl, rfl, trivial⟩ ⟨rfl, okE_one rfl, rfl, okE_one rfl, rfl, (by first | exact okE_t | (rw [hwe]; exact okE_t) | (intro x hx; simp only [List.mem_append, List.mem_cons, List.not_mem_nil, or_false] at hx; rcases hx with (rfl | rfl) | rfl <;> rfl) | (intro x hx; simp only [List.mem_cons, List.not_mem_nil, or_false] at hx; rcases hx with rfl | rfl <;> rfl)), trivial⟩, k + 1, g, nn, els, (by omega), (by exact hn3), (by exact ⟨ws, hwn, hwe⟩), rfl, rfl⟩
        omega
      · try simp only [cl] at h5
        refine awp_exit ?_
        refine awp_seq ?_
        refine awp_rw rfl ?_
        refine mvT ?_
        refine RW.op rfl rfl (eff_load rfl rfl ti28 rfl (.whole rfl rfl rfl rfl rfl rfl)) ?_
        refine RW.op rfl rfl (eff_callXT (judge_ret (ledger l what).1 ((ledger l what).1[i]'hil).dec hO) co22 rfl rfl rfl ⟨rfl, trivial⟩ rfl) ?_
        refine mvT ?_
        refine RW.op rfl rfl (eff_extract rfl rfl rfl rfl) ?_
        refine RW.op rfl rfl (eff_extract rfl rfl rfl rfl) ?_
        refine RW.new rfl rfl (eff_allocK (k := 5) (id := 22) rfl rfl tz49 rfl rfl) ?_
        refine RW.store rfl rfl (eff_storeW (v := .t _) (els := [_]) (els' := [_]) rfl rfl ti49 rfl rfl rfl rfl rfl rfl rfl rfl rfl) ?_
        refine asT ?_
        refine RW.nil ?_
        refine awp_seq ?_
        refine awp_seq ?_
        refine awp_rw rfl ?_
        refine mvT ?_
        refine ioT ?_
        refine RW.nil ?_
        refine awp_cond rfl (fun h6 => ?_) (fun h6 => ?_)
        · try simp only [cl] at h6
          refine awp_exit ?_
          refine awp_rw rfl ?_
          refine mvT ?_
          refine RW.op rfl rfl (eff_iop rfl rfl rfl rfl (iadd (by omega))) ?_
          refine asT ?_
          refine RW.nil ?_
          refine ⟨_, ?_, _, weak_keep (n := 115) (fr' := [(2, .t (.bool hd)), (3, .t (encI nx)), (4, .t (encI hv)), (5, .t (encI ky)), (13, .t (.sl ((ledger l what).1.map encC) false)), (15, .ptr 15 0 0 0), (17, .t (encI ((i + 1) : Nat))), (116, .t deT)]) (st' := [(15, some ⟨2, 64, 0, [.t (encT (known (ledger l what).1 1000000).1)]⟩)]) ⟨rfl, rfl, rfl, rfl, rfl, rfl, rfl, rfl, rfl, rfl, rfl, rfl, rfl, rfl, rfl, rfl, trivial⟩ ⟨rfl, okE_one rfl, trivial⟩, i + 1, (by omega), rfl, rfl⟩
          omega
        · try simp only [cl] at h6
          refine awp_skip ?_
          refine awp_seq ?_
          refine awp_rw rfl ?_
          have hje : (judge (ledger l what).1 ((ledger l what).1[i]'hil).dec).2 = 0 := by assumption
          refine RW.op rfl rfl (eff_load rfl rfl ti49 rfl (.whole rfl rfl rfl rfl rfl rfl)) ?_
          refine RW.new rfl rfl (eff_allocK (k := 5) (id := 24) rfl rfl tz49 rfl rfl) ?_
          refine RW.store rfl rfl (eff_storeW (v := .t _) (els := [_]) (els' := [_]) rfl rfl ti49 rfl rfl rfl rfl rfl rfl rfl rfl rfl) ?_
          refine RW.nil ?_
          refine awp_seq ?_
          refine awp_rw rfl ?_
          refine faT tf49_0 ?_
          refine l1T ti4 rfl rfl rfl rfl rfl (.one rfl rfl rfl rfl) ?_
          refine RW.op rfl rfl (eff_unop rfl rfl rfl rfl) ?_
          refine faT tf49_0 ?_
          refine RW.store rfl rfl (eff_storeS (v := .t _) (ys := [_, _, _, _, _]) (els := [_]) (els' := [_]) rfl rfl ti4 rfl rfl rfl rfl rfl rfl rfl (Nat.le_of_ble_eq_true rfl) rfl rfl) ?_
          refine RW.nil ?_
          refine awp_seq ?_
          refine awp_rw rfl ?_
          refine mvT ?_
          refine RW.op rfl rfl (eff_load rfl rfl ti28 rfl (.whole rfl rfl rfl rfl rfl rfl)) ?_
          refine RW.op rfl rfl (eff_load rfl rfl ti49 rfl (.whole rfl rfl rfl rfl rfl rfl)) ?_
          refine RW.op rfl rfl (eff_callXT (conf_t hO hje) co32 rfl rfl rfl ⟨rfl, trivial⟩ rfl) ?_
          refine RW.op rfl rfl (eff_unop rfl rfl rfl rfl) ?_
          refine mvT ?_
          refine RW.gop rfl rfl rfl rfl rfl rfl (eff_move (v := .t _) rfl rfl rfl) ?_
          refine RW.gop rfl rfl rfl rfl rfl rfl (eff_load rfl rfl ti28 rfl (.whole rfl rfl rfl rfl rfl rfl)) ?_
          refine RW.gop rfl rfl rfl rfl rfl rfl (eff_load rfl rfl ti49 rfl (.whole rfl rfl rfl rfl rfl rfl)) ?_
          refine RW.gop rfl rfl rfl rfl rfl rfl (eff_callXT (conf_f hO hje) co32 rfl rfl rfl ⟨rfl, trivial⟩ rfl) ?_
          refine pkT ?_
          refine RW.nil ?_
          refine awp_cond rfl (fun h => nomatch h) (fun _ => ?_)
          refine awp_skip ?_
          refine awp_rw rfl ?_
          refine mvT ?_
          refine RW.op rfl rfl (eff_iop rfl rfl rfl rfl (iadd (by omega))) ?_
          refine asT ?_
          refine RW.nil ?_
          refine ⟨_, ?_, _, weak_keep (n := 115) (fr' := [(2, .t (.bool hd)), (3, .t (encI nx)), (4, .t (encI hv)), (5, .t (encI ky)), (13, .t (.sl ((ledger l what).1.map encC) false)), (15, .ptr 15 0 0 0), (17, .t (encI ((i + 1) : Nat))), (116, .t deT)]) (st' := [(15, some ⟨2, 64, 0, [.t (encT (known (ledger l what).1 1000000).1)]⟩)]) ⟨rfl, rfl, rfl, rfl, rfl, rfl, rfl, rfl, rfl, rfl, rfl, rfl, rfl, rfl, rfl, rfl, trivial⟩ ⟨rfl, okE_one rfl, trivial⟩, i + 1, (by omega), rfl, rfl⟩
          omega
  · try simp only [cl] at h1
    refine awp_exit ?_
    refine awp_seq ?_
    refine awp_rw rfl ?_
    refine RW.op rfl rfl (eff_callXT (lives_ret) co16 rfl rfl rfl ⟨rfl, trivial⟩ rfl) ?_
    refine asT ?_
    refine RW.nil ?_
    refine awp_ret ?_
    exact ⟨Or.inr rfl, [_], ⟨.tmp (.t _), trivial⟩, .refl _⟩

end Go.Tv.C36

end
section
open Go Go.Tv Go.Proofs Go.ChangeShapes Go.WideShapes Go.ChangeAt Go.RowKit
namespace Go.Tv.C36
set_option maxRecDepth 100000

theorem wfI64 {n : Int} (h : (Lit.int .i64 n).wf = true) : I64 n := by
  unfold I64
  simp [Lit.wf, IntKind.min, IntKind.max, IntKind.signed, IntKind.bits] at h; omega
theorem map_of {α : Type} {f : α → Tr} {p : α → Prop} : ∀ {els : List Tr}, (∀ x, x ∈ els → ∃ n, p n ∧ x = f n) → ∃ l : List α, els = l.map f ∧ ∀ n, n ∈ l → p n
  | [], _ => ⟨[], rfl, fun n h => by simp at h⟩
  | x :: els, h => by
    obtain ⟨n, hp, rfl⟩ := h x List.mem_cons_self
    obtain ⟨l, rfl, hl⟩ := map_of (els := els) (fun y hy => h y (List.mem_cons_of_mem _ hy))
    exact ⟨n :: l, rfl, fun m hm => (List.mem_cons.1 hm).elim (fun e => e ▸ hp) (hl m)⟩
theorem rd3 : Reads Tryd.prog 3 1 (fun ts => ∃ n, ts = [encI n] ∧ I64 n) := (reads_int Tryd.underlying3 (by kernel_rfl)).mono (fun ts ⟨n, h, hw⟩ => ⟨n, h, wfI64 hw⟩)
theorem rd26 : Reads Tryd.prog 26 1 (fun ts => ∃ l : List Int, ts = [.sl (l.map encI) false] ∧ l.length ≤ maxLen ∧ ∀ n, n ∈ l → I64 n) :=
  (reads_slice Tryd.underlying26 (by kernel_rfl) (by decide) (.inr rfl) rd3 (g := false)).mono (by
    rintro ts ⟨els, rfl, hm, h⟩
    obtain ⟨l, rfl, hl⟩ := map_of (f := encI) (p := I64) (fun x hx => by obtain ⟨_, ⟨n, rfl, hn⟩, rfl⟩ := h x hx; exact ⟨n, hn, rfl⟩)
    exact ⟨l, rfl, by simpa using hm, hl⟩)
def laid1 : List (String × DataW Unit) := [("math/bits.deBruijn32tab", Go.Proofs.YtiphgohbnhinnaaDoor.Rows.laid_math_bits_deBruijn32tab), ("math/bits.deBruijn64tab", Go.Proofs.YtiphgohbnhinnaaDoor.Rows.laid_math_bits_deBruijn64tab)]
theorem gDe : Tryd.prog.globalNamed "math/bits.deBruijn64tab" = some 1 := by kernel_rfl
theorem tDe : (Tryd.prog.globals[1]?).map (·.type) = some 125 := by kernel_rfl
theorem door_met (os : Os) (args : Array Value) : laidMetH Tryd.prog laid1 ((World.doorLaid Tryd.prog 400 os).forCall (fun _ _ => 0) ⟨#[], args, []⟩).memory :=
  laidMetH_of_parts3 (fuel := 8) (laidMet_of_run' 8 (by kernel_rfl) (by kernel_rfl)) (by kernel_rfl) (by kernel_rfl)
theorem tabs_of_laid {W : World} (h : laidMetH Tryd.prog laid1 W) : TabOK W (fun _ => False) [(1, deT)] := by
  intro g x hm
  simp only [List.mem_singleton, Prod.mk.injEq] at hm
  obtain ⟨rfl, rfl⟩ := hm
  exact tab_of_laid (l := deB) (k := .u8) h rfl (List.mem_cons_of_mem _ (List.mem_singleton.2 rfl)) (by intro e; cases e) gDe tDe Tryd.underlying125 Tryd.underlying5 (by kernel_rfl)
end Go.Tv.C36

end
section
namespace Go.Proofs.YtiphgohbnhinnaaDoor
open Go Go.Tv Go.Tv.C36 Go.ChangeShapes Go.WideShapes Go.ChangeAt Go.RowKit
set_option linter.unusedVariables false
set_option maxRecDepth 100000
theorem courtConfirms_contract (H : Type) (enc : TypeId × Value → H) (W : World) (base : Nat) (args : Array Value) (ds gs : List (DataW H)) (before : List MemPlace)
    (hval : ∀ (j : Nat) t v, Tryd.f11.params[j]? = some t → args[j]? = some v → Value.okWide Tryd.prog W .any base t v)
    (hW : DataW.Whole enc Tryd.prog Tryd.f11.params.toList Rows.courtConfirmsSpec.vars false W args.toList ds gs before) (hL : laidMetH Tryd.prog laid1 W) :
    Calls Tryd.prog 11 args W fun e W' => ∃ v, e = .returned v ∧ Rows.courtConfirmsSpec.post enc Tryd.prog Tryd.f11 false true false false W args v W' := by
  have hW' := hW
  obtain ⟨p, q, hA0, hV, rfl, hfz, hnd⟩ := hW
  have hA : DataW.TrodAll enc Tryd.prog W 0 (fun _ => true) true Tryd.f11.params.toList args.toList ds p := hA0
  rw [Tryd.params11] at hA hval
  obtain ⟨v0, vs0, d0, ds0, p0, q0, hargs, rfl, rfl, h0, r0⟩ := trodAll_cons hA
  obtain ⟨v1, vs1, d1, ds1, p1, q1, rfl, rfl, rfl, h1, r1⟩ := trodAll_cons r0
  obtain ⟨v2, vs2, d2, ds2, p2, q2, rfl, rfl, rfl, h2, r2⟩ := trodAll_cons r1
  obtain ⟨v3, vs3, d3, ds3, p3, q3, rfl, rfl, rfl, h3, r3⟩ := trodAll_cons r2
  obtain ⟨v4, vs4, d4, ds4, p4, q4, rfl, rfl, rfl, h4, r4⟩ := trodAll_cons r3
  obtain ⟨v5, vs5, d5, ds5, p5, q5, rfl, rfl, rfl, h5, r5⟩ := trodAll_cons r4
  obtain ⟨rfl, rfl, rfl⟩ := trodAll_nil r5
  obtain rfl : args = #[v0, v1, v2, v3, v4, v5] := by cases args; simp_all
  obtain ⟨rfl, rfl⟩ := trodVars_none hV
  have k0 := hval 0 26 v0 rfl rfl
  have k1 := hval 1 26 v1 rfl rfl
  have k2 := hval 2 4 v2 rfl rfl
  have k3 := hval 3 3 v3 rfl rfl
  have k4 := hval 4 3 v4 rfl rfl
  have k5 := hval 5 3 v5 rfl rfl
  obtain ⟨x0, hx0, l, e0, m0, b0⟩ := arg_slice Tryd.underlying26 rd26 k0 h0
  obtain rfl : x0 = .sl (l.map Go.Tv.C36.encI) false := by simpa using e0
  unfold maxLen at m0
  have n0 : l.length ≤ 9223372036854775807 := by simpa using m0
  obtain ⟨x1, hx1, wh, e1, m1, b1⟩ := arg_slice Tryd.underlying26 rd26 k1 h1
  obtain rfl : x1 = .sl (wh.map Go.Tv.C36.encI) false := by simpa using e1
  unfold maxLen at m1
  have n1 : wh.length ≤ 9223372036854775807 := by simpa using m1
  obtain ⟨hd, rfl⟩ := arg_bool Tryd.underlying4 k2 h2
  obtain ⟨nx, rfl, wnx⟩ := arg_int Tryd.underlying3 k3 h3
  have i_nx := wfI64 wnx
  obtain ⟨hv, rfl, whv⟩ := arg_int Tryd.underlying3 k4 h4
  have i_hv := wfI64 whv
  obtain ⟨ky, rfl, wky⟩ := arg_int Tryd.underlying3 k5 h5
  have i_ky := wfI64 wky
  refine (law_callsT (law11 l wh hd nx hv ky b0 n0 b1 n1 i_nx i_hv i_ky) (tabs_of_laid hL) (vl_cons hx0 (vl_cons hx1 (vl_cons (.bool _) (vl_cons (.int _ _) (vl_cons (.int _ _) (vl_cons (.int _ _) vl_nil))))))).mono ?_
  rintro e W' ⟨rfl, hb⟩
  refine ⟨_, rfl, law_post (P := Tryd.prog) (by kernel_rfl) rfl (fun t ht => ?_) rfl Tryd.underlying4 hW' ⟨rfl, rfl, rfl⟩ hb⟩
  rw [Tryd.params11] at ht
  simp only [List.mem_cons, List.not_mem_nil, or_false] at ht
  rcases ht with rfl | rfl | rfl | rfl | rfl | rfl <;> exact ⟨by kernel_rfl, Nat.le_of_ble_eq_true (by kernel_rfl)⟩

theorem courtConfirms_lifted (os : Os) (started : os.Started) (H : Type) (enc : TypeId × Value → H) :
    ReturnsInHanded {} Tryd.checked os 11 .any (fun w args => (Rows.courtConfirmsSpec.pre enc Tryd.prog Tryd.f11 [] false w args ∧ laidMetH Tryd.prog laid1 w) ∧ sizedMet enc Tryd.prog Tryd.f11 (OpenSpec.ofChange Rows.courtConfirmsSpec) false w args)
      (Rows.courtConfirmsSpec.post enc Tryd.prog Tryd.f11 false true false false) := by
  refine returnsInHanded_of_change_and (C := Tryd.checked) (X := fun w _ => laidMetH Tryd.prog laid1 w) (fun _ _ _ hh h => h.of_heap hh) (by kernel_rfl) started (by kernel_rfl) Tryd.func11
    (ChangeSpec.witness_shaped (enc := enc) (C := Tryd.checked) (os := os) (X := fun w _ => laidMetH Tryd.prog laid1 w) false (World.doorLaid Tryd.prog 400 os) #[.slice none 0 0, .slice none 0 0, .bool false, .int .i64 0, .int .i64 0, .int .i64 0] 8 rfl (World.shaped_of_RefB (by kernel_rfl) (by kernel_rfl)) (by kernel_rfl) (by kernel_rfl) (by kernel_rfl) (door_met os _)) ?_
  intro W base args ds gs before hval hW _ _ hL _
  exact courtConfirms_contract H enc W base args ds gs before hval hW hL

theorem courtConfirms_row_holds : Rows.CourtConfirmsSaid :=
  OpenClaim.holds_of_wide 11 Tryd.f11 rfl rfl rfl rfl rfl rfl rfl ⟨rfl, rfl, rfl, rfl, rfl⟩ rfl rfl rfl rfl rfl (by kernel_rfl) Tryd.func11 (by kernel_rfl)
    (of_decide_eq_true (by kernel_rfl)) (by unfold Func.isWrapper; first | (rw [if_pos (by decide +kernel)]; kernel_rfl) | (rw [if_neg (by decide +kernel)]; exact ⟨rfl, rfl⟩))
    (fun os started H enc _ => courtConfirms_lifted os started H enc)

theorem courtConfirmsCard_holds : Rows.CourtConfirmsCardSaid :=
  Claim7.holds_tied_plain_at .later [] [.data, .data] true _ false
    courtConfirms_row_holds (fun _ h => by cases h) (by kernel_rfl) (fun _ h => by cases h) courtConfirms_row_tie rfl ⟨rfl, rfl⟩ (by kernel_rfl) rfl
    (fun f fn hf hfn => by
      obtain rfl : f = 11 := Option.some.inj ((show Tryd.prog.funcNamed "perigee/perigeelaw36.CourtConfirms" = some 11 by kernel_rfl).symm.trans hf) |>.symm
      obtain rfl : fn = Tryd.f11 := (Option.some.inj (Tryd.func11.symm.trans hfn)).symm
      exact ⟨by kernel_rfl, fun j t ht => by
        rw [Tryd.params11] at ht
        have hm : t ∈ [26, 26, 4, 3, 3, 3] := by simpa using Array.mem_of_getElem? ht
        have hall : ([26, 26, 4, 3, 3, 3].all fun u => !Tryd.prog.wantsStandIn u) = true := by kernel_rfl
        exact (show Tryd.prog.wantsStandIn t = false by simpa using List.all_eq_true.1 hall t hm)⟩)
    (by kernel_rfl)

end Go.Proofs.YtiphgohbnhinnaaDoor

end
