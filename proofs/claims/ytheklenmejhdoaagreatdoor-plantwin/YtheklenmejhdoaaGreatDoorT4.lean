/- PlanTwin: for every input that reads as data, the call returns true and leaves its arguments as they were. No condition. -/
import Derived.Test.YtheklenmejhdoaaGreatDoorT3
import Derived.Test.YtheklenmejhdoaaGreatDoorT2
import Derived.Test.YtheklenmejhdoaaGreatDoorT1
import Derived.Test.YtheklenmejhdoaaGreatDoorRows
import Derived.ProofKit
import Derived.Test.YtheklenmejhdoaaGreatDoorTie
import Derived.Test.YtheklenmejhdoaaGreatDoorCards
import Derived.SevenTiedAt
set_option linter.unnecessarySimpa false
set_option linter.unusedVariables false
set_option linter.unusedSimpArgs false
section
open Go Go.Tv Go.Tv.C37 Go.Proofs
namespace Go.Tv.C37p
set_option maxRecDepth 20000
set_option maxHeartbeats 2000000
set_option linter.unusedSimpArgs false
set_option linter.unusedVariables false
theorem best_retG (B : List Bid) (sn : Int) (hB : OkL B) : RetG Tryz.prog 13 [] [.t (.sl (B.map encB) false), .t (encI sn)] [(5, some ⟨1, 3, (bestF B sn).length, ((bestF B sn).map encN).map .t⟩)] (.own 5 (bestF B sn).length 0 (bestF B sn).length) := by
  have hBL : B.length ≤ 100000 := by have := hB.len; omega
  refine retG_of_awp Tryz.func13 rfl (Nat.le_of_ble_eq_true rfl) ?_
  refine awp_seq ?_
  refine awp_rw rfl ?_
  refine asT ?_
  refine RW.nil ?_
  refine awp_seq ?_
  refine awp_rw rfl ?_
  refine asT ?_
  refine RW.nil ?_
  show AWP _ _ _ _
  refine awp_weak (weak_adopt (d := 5) (id := 5) (k := 1) (ty := 3) rfl rfl) ?_
  refine awp_seq ?_
  refine awp_rw rfl ?_
  refine mvT ?_
  refine mvT ?_
  refine RW.op rfl rfl (eff_callT (at_ret B sn hBL) co29 rfl rfl rfl rfl) ?_
  refine asT ?_
  refine RW.nil ?_
  refine awp_seq ?_
  refine awp_rw rfl ?_
  refine mvT ?_
  refine RW.op rfl rfl (eff_callT (optimum_ret (atS B sn) (hB.at sn)) co30 rfl rfl rfl rfl) ?_
  refine asT ?_
  refine RW.nil ?_
  refine awp_seq ?_
  refine awp_seq ?_
  refine awp_rw rfl ?_
  refine mvT ?_
  refine RW.op rfl rfl (eff_lenM rfl rfl te45 rfl) ?_
  refine mvT ?_
  refine RW.nil ?_
  refine awp_block ?_
  refine awp_loopW (fun m s => ∃ (i : Nat) (op : List Bid) (out : List Nat) (n : Nat) (els : List AV), (i ≤ B.length) ∧ (OkL op) ∧ (out.length ≤ i) ∧ (bestF B sn = out ++ bestGo B sn i op (optOf op)) ∧ (n = out.length) ∧ (els = (out.map encN).map .t) ∧ m = B.length - i ∧ s = ⟨55, [(0, .t (.sl (B.map encB) false)), (1, .t (encI sn)), (5, .own 5 n 0 n), (6, .t (.sl (op.map encB) false)), (7, .t (encI (optOf op))), (16, .t (.sl (B.map encB) false)), (17, .t (encI B.length)), (18, .t (encI (i : Nat)))], [(5, some ⟨1, 3, n, els⟩)]⟩) (_) (⟨_, weak_keep (n := 55) (fr' := [(0, .t (.sl (B.map encB) false)), (1, .t (encI sn)), (5, .own 5 0 0 0), (6, .t (.sl ((atS B sn).map encB) false)), (7, .t (encI (optOf (atS B sn)))), (16, .t (.sl (B.map encB) false)), (17, .t (encI B.length)), (18, .t (encI (0 : Nat)))]) (st' := [(5, some ⟨1, 3, 0, ([])⟩)]) ⟨rfl, rfl, rfl, rfl, rfl, rfl, rfl, rfl, rfl, rfl, rfl, rfl, rfl, rfl, rfl, rfl, trivial⟩ ⟨rfl, (by first | exact okE_nil | (rw [he]; exact okE_t) | (rw [he]; intro x hx; simp only [List.mem_append, List.mem_map, List.mem_singleton] at hx; rcases hx with ⟨y, _, rfl⟩ | rfl <;> rfl)), trivial⟩, 0, atS B sn, [], 0, [], (by omega), (by exact hB.at sn), (by exact Nat.le_refl _), (by rfl), (by rfl), (by rfl), rfl, rfl⟩) ?_
  rintro m s ⟨i, op, out, n, els, hi, hop, hol, hF, hnn, he, rfl, rfl⟩
  have hBl := hB.len
  have hor := hop.opt_range
  refine awp_seq ?_
  refine awp_rw rfl ?_
  refine ioT ?_
  refine RW.nil ?_
  refine awp_seq ?_
  refine awp_cond rfl (fun h1 => ?_) (fun h1 => ?_)
  · try simp only [cl] at h1
    refine awp_skip ?_
    refine awp_seq ?_
    refine awp_block ?_
    refine awp_seq ?_
    refine awp_rw rfl ?_
    have hil : i < B.length := by omega
    have hok := hop.left (B[i]'hil)
    have hlr := hok.opt_range
    have hvb := hB.lim _ (List.getElem_mem hil)
    have hvo := (hB.ok _ (List.getElem_mem hil)).2
    refine mvT ?_
    refine RW.op rfl rfl (eff_indexAddrT (i := i) rfl rfl te45 rfl rfl (by first | rfl | omega) (by rw [List.getElem?_map, List.getElem?_eq_getElem hil]; rfl) rfl (by decide)) ?_
    refine RW.op rfl rfl (eff_loadW rfl rfl ti68 rfl rfl rfl) ?_
    refine RW.new rfl rfl (eff_allocK (k := 5) (id := 9) rfl rfl tz68 rfl rfl) ?_
    refine asT ?_
    refine RW.store rfl rfl (eff_storeW (v := .t _) (els := [_]) (els' := [_]) rfl rfl ti68 rfl rfl rfl rfl rfl rfl rfl rfl rfl) ?_
    refine RW.nil ?_
    show AWP _ _ _ _
    refine awp_weak (weak_frz (n := 55) (fr' := [(0, .t (.sl (B.map encB) false)), (1, .t (encI sn)), (5, .own 5 n 0 n), (6, .t (.sl (op.map encB) false)), (7, .t (encI (optOf op))), (16, .t (.sl (B.map encB) false)), (17, .t (encI B.length)), (18, .t (encI (i : Nat))), (8, .t (encI (i : Nat))), (9, (.t (.ptr (encB (B[i]'hil)).cells)))]) (st' := [(5, some ⟨1, 3, n, els⟩)]) [(9, some ⟨5, 68, 0, [.t (encB (B[i]'hil))]⟩)] ⟨rfl, trivial⟩ ⟨rfl, trivial⟩ ⟨wa_eq rfl rfl, wa_eq rfl rfl, wa_eq rfl rfl, wa_eq rfl rfl, wa_eq rfl rfl, wa_eq rfl rfl, wa_eq rfl rfl, wa_eq rfl rfl, wa_eq rfl rfl, .res (Res.ptrT (x := encB (B[i]'hil)) rfl rfl rfl) (.refl _), trivial⟩ ⟨rfl, (by first | exact okE_nil | (rw [he]; exact okE_t) | (rw [he]; intro x hx; simp only [List.mem_append, List.mem_map, List.mem_singleton] at hx; rcases hx with ⟨y, _, rfl⟩ | rfl <;> rfl)), trivial⟩) ?_
    refine awp_seq ?_
    refine awp_seq ?_
    refine awp_rw rfl ?_
    refine RW.op rfl rfl (eff_fieldAddrT rfl rfl tf68_1 (by decide) rfl) ?_
    refine RW.op rfl rfl (eff_loadT1 rfl rfl ti3 rfl rfl) ?_
    refine mvT ?_
    refine ioT ?_
    refine mvT ?_
    refine RW.split 27 rfl (fun h2 => ?_) (fun h2 => ?_)
    · try simp only [cl] at h2
      refine gkT ?_
      refine gkT ?_
      refine gkT ?_
      refine gkT ?_
      refine pkT ?_
      refine RW.nil ?_
      refine awp_cond rfl (fun _ => ?_) (fun h => nomatch h)
      refine awp_exit ?_
      refine awp_rw rfl ?_
      refine RW.op rfl rfl (eff_iop rfl rfl rfl rfl (iadd (by omega))) ?_
      refine mvT ?_
      refine RW.nil ?_
      (refine ⟨_, ?_, _, weak_keep (n := 55) (fr' := [(0, .t (.sl (B.map encB) false)), (1, .t (encI sn)), (5, .own 5 _ 0 _), (6, .t (.sl (op.map encB) false)), (7, .t (encI (optOf op))), (16, .t (.sl (B.map encB) false)), (17, .t (encI B.length)), (18, .t (encI ((i + 1) : Nat)))]) (st' := [(5, some ⟨1, 3, _, _⟩)]) ⟨rfl, rfl, rfl, rfl, rfl, rfl, rfl, rfl, rfl, rfl, rfl, rfl, rfl, rfl, rfl, rfl, trivial⟩ ⟨rfl, (by first | exact okE_nil | (rw [he]; exact okE_t) | (rw [he]; intro x hx; simp only [List.mem_append, List.mem_map, List.mem_singleton] at hx; rcases hx with ⟨y, _, rfl⟩ | rfl <;> rfl)), trivial⟩, i + 1, op, out, _, _, (by omega), (by exact hop), (by omega), (by rw [hF, go_skip hil (by first | exact .inl (by assumption) | exact .inr (by assumption))]), (by exact hnn), (by exact he), rfl, rfl⟩; omega)
    · try simp only [cl] at h2
      refine RW.gop rfl rfl rfl rfl rfl rfl (eff_move (v := .t _) rfl rfl rfl) ?_
      refine RW.gop rfl rfl rfl rfl rfl rfl (eff_loadW rfl rfl ti68 rfl rfl rfl) ?_
      refine RW.gop rfl rfl rfl rfl rfl rfl (eff_callT (containsB_ret op (B[i]'hil) (by have := hop.len; omega)) co31 rfl rfl rfl rfl) ?_
      refine RW.gop rfl rfl rfl rfl rfl rfl (eff_unop rfl rfl rfl rfl) ?_
      refine pkT ?_
      refine RW.nil ?_
      refine awp_cond rfl (fun h3 => ?_) (fun h3 => ?_)
      · try simp only [cl] at h3
        refine awp_exit ?_
        refine awp_rw rfl ?_
        refine RW.op rfl rfl (eff_iop rfl rfl rfl rfl (iadd (by omega))) ?_
        refine mvT ?_
        refine RW.nil ?_
        (refine ⟨_, ?_, _, weak_keep (n := 55) (fr' := [(0, .t (.sl (B.map encB) false)), (1, .t (encI sn)), (5, .own 5 _ 0 _), (6, .t (.sl (op.map encB) false)), (7, .t (encI (optOf op))), (16, .t (.sl (B.map encB) false)), (17, .t (encI B.length)), (18, .t (encI ((i + 1) : Nat)))]) (st' := [(5, some ⟨1, 3, _, _⟩)]) ⟨rfl, rfl, rfl, rfl, rfl, rfl, rfl, rfl, rfl, rfl, rfl, rfl, rfl, rfl, rfl, rfl, trivial⟩ ⟨rfl, (by first | exact okE_nil | (rw [he]; exact okE_t) | (rw [he]; intro x hx; simp only [List.mem_append, List.mem_map, List.mem_singleton] at hx; rcases hx with ⟨y, _, rfl⟩ | rfl <;> rfl)), trivial⟩, i + 1, op, out, _, _, (by omega), (by exact hop), (by omega), (by rw [hF, go_skip hil (by first | exact .inl (by assumption) | exact .inr (by assumption))]), (by exact hnn), (by exact he), rfl, rfl⟩; omega)
      · try simp only [cl] at h3
        refine awp_skip ?_
        refine awp_seq ?_
        refine awp_rw rfl ?_
        refine mvT ?_
        refine RW.new rfl rfl (eff_callG (clone_retG op (by have := hop.len; omega)) co33 (fun id => id + 29) rfl rfl rfl ⟨.t _, trivial⟩ (.own _ _ _ _ rfl rfl) rfl trivial ⟨⟨treeEls_t, .inr rfl⟩, trivial⟩) ?_
        refine RW.op rfl rfl (eff_makeFunc rfl rfl rfl rfl) ?_
        refine RW.new rfl rfl (eff_callG (del_retG op 1 (B[i]'hil) (by have := hop.len; omega)) co32 (fun id => id + 34) rfl rfl rfl ⟨.own _ _ _ _ rfl rfl, .t _, trivial⟩ (.own _ _ _ _ rfl rfl) rfl ⟨⟨rfl, treeEls_t, ⟨_, rfl, Nat.lt_succ_self _⟩⟩, trivial⟩ ⟨⟨treeEls_t, .inl rfl⟩, trivial⟩) ?_
        refine asO ?_
        refine RW.nil ?_
        show AWP _ _ _ _
        refine awp_weak (weak_frz (n := 55) (fr' := [(0, .t (.sl (B.map encB) false)), (1, .t (encI sn)), (5, .own 5 n 0 n), (6, .t (.sl (op.map encB) false)), (7, .t (encI (optOf op))), (16, .t (.sl (B.map encB) false)), (17, .t (encI B.length)), (18, .t (encI (i : Nat))), (8, .t (encI (i : Nat))), (9, (.t (.ptr (encB (B[i]'hil)).cells))), (10, (.t (.sl ((leftOf op (B[i]'hil)).map encB) false)))]) (st' := [(5, some ⟨1, 3, n, els⟩)]) [(34, some ⟨5, 68, 2, ((leftOf op (B[i]'hil)).map encB ++ List.replicate (op.length - (leftOf op (B[i]'hil)).length) z68).map .t⟩)] ⟨rfl, trivial⟩ ⟨rfl, trivial⟩ ⟨wa_eq rfl rfl, wa_eq rfl rfl, wa_eq rfl rfl, wa_eq rfl rfl, wa_eq rfl rfl, wa_eq rfl rfl, wa_eq rfl rfl, wa_eq rfl rfl, wa_eq rfl rfl, wa_eq rfl rfl, (.res (Res.ownPre (xs := (leftOf op (B[i]'hil)).map encB) ((List.replicate (op.length - (leftOf op (B[i]'hil)).length) z68).map .t) rfl rfl (List.map_append ..) (by simp)) (.refl _)), trivial⟩ ⟨rfl, (by first | exact okE_nil | (rw [he]; exact okE_t) | (rw [he]; intro x hx; simp only [List.mem_append, List.mem_map, List.mem_singleton] at hx; rcases hx with ⟨y, _, rfl⟩ | rfl <;> rfl)), trivial⟩) ?_
        refine awp_seq ?_
        refine awp_rd [(some 37, []), (some 38, []), (some 39, []), (some 40, []), (some 41, []), (some 42, []), (some 43, [])] [[], [0], [], [2], [0, 1, 2, 3], [], [0, 1, 2, 3, 4, 5]] tm rfl rfl rfl rfl ?_
        refine RD.op rfl rfl rfl (eff_fieldAddrT rfl rfl tf68_4 (by decide) rfl) ?_
        refine RD.op rfl rfl rfl (eff_loadT1 rfl rfl ti3 rfl rfl) ?_
        refine mvD ?_
        refine RD.op rfl rfl rfl (eff_callT (optimum_ret (leftOf op (B[i]'hil)) hok) co30 rfl rfl rfl rfl) ?_
        refine RD.op rfl rfl rfl (eff_iop rfl rfl rfl rfl (iadd (by omega))) ?_
        refine mvD ?_
        refine RD.op rfl rfl rfl (eff_iop rfl rfl rfl rfl rfl) ?_
        refine RD.nil ?_
        refine awp_cond rfl (fun h4 => ?_) (fun h4 => ?_)
        · try simp only [cl] at h4
          refine awp_seq ?_
          refine awp_rw rfl ?_
          refine mvO ?_
          refine mvT ?_
          refine RW.new rfl rfl (eff_buildSlice1 (id := 46) (els := [_]) rfl rfl te52 tz3 rfl (by decide) rfl rfl rfl rfl) ?_
          refine RW.new rfl rfl (eff_append (id := 5) (ys := [_]) rfl rfl ta52 rfl rfl rfl (by rw [he, hnn]; simp) rfl rfl (srcOwn rfl rfl rfl rfl rfl rfl) (by simp) (by simp; omega) (by simp; omega)) ?_
          refine asO ?_
          refine RW.nil ?_
          refine awp_seq ?_
          refine awp_rw rfl ?_
          refine mvT ?_
          refine RW.op rfl rfl (eff_fieldAddrT rfl rfl tf68_4 (by decide) rfl) ?_
          refine RW.op rfl rfl (eff_loadT1 rfl rfl ti3 rfl rfl) ?_
          refine RW.op rfl rfl (eff_iop (r := encI (optOf (leftOf op (B[i]'hil)))) rfl rfl rfl rfl ((isub (by omega)).trans (congrArg (fun n => some (Tr.int .i64 n)) (by omega)))) ?_
          refine asT ?_
          refine RW.nil ?_
          refine awp_rw rfl ?_
          refine mvT ?_
          refine asT ?_
          refine RW.nil ?_
          refine awp_rw rfl ?_
          refine RW.op rfl rfl (eff_iop rfl rfl rfl rfl (iadd (by omega))) ?_
          refine mvT ?_
          refine RW.nil ?_
          (refine ⟨_, ?_, _, weak_keep (n := 55) (fr' := [(0, .t (.sl (B.map encB) false)), (1, .t (encI sn)), (5, .own 5 _ 0 _), (6, .t (.sl (((leftOf op (B[i]'hil))).map encB) false)), (7, .t (encI (optOf ((leftOf op (B[i]'hil)))))), (16, .t (.sl (B.map encB) false)), (17, .t (encI B.length)), (18, .t (encI ((i + 1) : Nat)))]) (st' := [(5, some ⟨1, 3, _, _⟩)]) ⟨rfl, rfl, rfl, rfl, rfl, rfl, rfl, rfl, rfl, rfl, rfl, rfl, rfl, rfl, rfl, rfl, trivial⟩ ⟨rfl, (by first | exact okE_nil | (rw [he]; exact okE_t) | (rw [he]; intro x hx; simp only [List.mem_append, List.mem_map, List.mem_singleton] at hx; rcases hx with ⟨y, _, rfl⟩ | rfl <;> rfl)), trivial⟩, i + 1, (leftOf op (B[i]'hil)), (out ++ [i]), _, _, (by omega), (by exact hok), (by rw [List.length_append]; simp; omega), (by rw [hF, go_take hil (by first | assumption | (simp only [Classical.not_not] at *; assumption)) (by assumption) (by assumption)]; simp), (by rw [hnn]; simp; done), (by rw [he]; simp <;> rfl), rfl, rfl⟩; omega)
        · try simp only [cl] at h4
          refine awp_skip ?_
          refine awp_rw rfl ?_
          refine RW.op rfl rfl (eff_iop rfl rfl rfl rfl (iadd (by omega))) ?_
          refine mvT ?_
          refine RW.nil ?_
          (refine ⟨_, ?_, _, weak_keep (n := 55) (fr' := [(0, .t (.sl (B.map encB) false)), (1, .t (encI sn)), (5, .own 5 _ 0 _), (6, .t (.sl (op.map encB) false)), (7, .t (encI (optOf op))), (16, .t (.sl (B.map encB) false)), (17, .t (encI B.length)), (18, .t (encI ((i + 1) : Nat)))]) (st' := [(5, some ⟨1, 3, _, _⟩)]) ⟨rfl, rfl, rfl, rfl, rfl, rfl, rfl, rfl, rfl, rfl, rfl, rfl, rfl, rfl, rfl, rfl, trivial⟩ ⟨rfl, (by first | exact okE_nil | (rw [he]; exact okE_t) | (rw [he]; intro x hx; simp only [List.mem_append, List.mem_map, List.mem_singleton] at hx; rcases hx with ⟨y, _, rfl⟩ | rfl <;> rfl)), trivial⟩, i + 1, op, out, _, _, (by omega), (by exact hop), (by omega), (by rw [hF, go_drop hil (by first | assumption | (simp only [Classical.not_not] at *; assumption)) (by assumption) (by assumption)]), (by exact hnn), (by exact he), rfl, rfl⟩; omega)
  · try simp only [cl] at h1
    refine awp_exit ?_
    refine awp_seq ?_
    refine awp_rw rfl ?_
    refine mvO ?_
    refine asO ?_
    refine RW.nil ?_
    refine awp_ret ?_
    have hFe := hF
    rw [go_end (by omega), List.append_nil] at hFe
    rw [hFe]
    subst hnn he
    exact ⟨Or.inr rfl, [_], [_], ⟨.tmp rfl, trivial⟩, rfl, weak_keep ⟨rfl, rfl, trivial⟩ ⟨rfl, okE_t, trivial⟩, rfl⟩

theorem busy_ret (B : List Bid) (k i : Nat) (hk : k < B.length) (hi : i < B.length) : Ret Tryz.prog 38 [encN k, .ptr [.sl (B.map encB) false], .ptr [encI (i : Nat)]] (.bool (busyF B k i)) := by
  refine ret_of_awp Tryz.func38 rfl (Nat.le_of_ble_eq_true rfl) ?_
  refine awp_seq ?_
  refine awp_rw rfl ?_
  refine asT ?_
  refine RW.nil ?_
  refine awp_seq ?_
  by_cases hc1 : (B[k]'hk).craft = (B[i]'hi).craft
  · refine awp_rd [(some 5, []), (some 6, []), (some 7, []), (some 8, []), (some 9, []), (some 10, []), (some 11, []), (some 12, []), (some 13, []), (some 14, []), (some 15, []), (some 16, []), (some 17, []), (some 18, []), (some 19, []), (some 20, []), (some 21, []), (some 22, []), (some 23, []), (some 24, []), (some 25, []), (some 26, []), (some 4, [])] [[], [], [0, 1], [0, 1, 2], [0, 1, 2, 3], [], [], [5, 6], [5, 6, 7], [5, 6, 7, 8], [0, 1, 2, 3, 4, 5, 6, 7, 8, 9], [0, 1, 2, 3, 4, 5, 6, 7, 8, 9, 10], [0, 1, 2, 3, 4, 5, 6, 7, 8, 9, 10, 11], [0, 1, 2, 3, 4, 5, 6, 7, 8, 9, 10, 11], [0, 1, 2, 3, 4, 5, 6, 7, 8, 9, 10, 11, 12, 13], [0, 1, 2, 3, 4, 5, 6, 7, 8, 9, 10, 11, 12, 13, 14], [0, 1, 2, 3, 4, 5, 6, 7, 8, 9, 10, 11], [0, 1, 2, 3, 4, 5, 6, 7, 8, 9, 10, 11], [0, 1, 2, 3, 4, 5, 6, 7, 8, 9, 10, 11, 16, 17], [0, 1, 2, 3, 4, 5, 6, 7, 8, 9, 10, 11, 16, 17, 18], [0, 1, 2, 3, 4, 5, 6, 7, 8, 9, 10, 11, 12, 13, 14, 15, 16, 17, 18, 19], [0, 1, 2, 3, 4, 5, 6, 7, 8, 9, 10, 11, 12, 13, 14, 15, 16, 17, 18, 19, 20], [0, 1, 2, 3, 4, 5, 6, 7, 8, 9, 10, 11, 12, 13, 14, 15, 16, 17, 18, 19, 20, 21]] tm rfl rfl rfl rfl ?_
    refine RD.op rfl rfl rfl (eff_loadT1 rfl rfl ti45 rfl rfl) ?_
    refine mvD ?_
    refine RD.op rfl rfl rfl (eff_indexAddrT (i := k) rfl rfl te45 rfl rfl (by first | rfl | omega) (by rw [List.getElem?_map, List.getElem?_eq_getElem hk]; rfl) rfl (by decide)) ?_
    refine RD.op rfl rfl rfl (eff_fieldAddrT rfl rfl tf68_0 (by decide) rfl) ?_
    refine RD.op rfl rfl rfl (eff_loadT1 rfl rfl ti3 rfl rfl) ?_
    refine RD.op rfl rfl rfl (eff_loadT1 rfl rfl ti45 rfl rfl) ?_
    refine RD.op rfl rfl rfl (eff_loadT1 rfl rfl ti3 rfl rfl) ?_
    refine RD.op rfl rfl rfl (eff_indexAddrT (i := i) rfl rfl te45 rfl rfl (by first | rfl | omega) (by rw [List.getElem?_map, List.getElem?_eq_getElem hi]; rfl) rfl (by decide)) ?_
    refine RD.op rfl rfl rfl (eff_fieldAddrT rfl rfl tf68_0 (by decide) rfl) ?_
    refine RD.op rfl rfl rfl (eff_loadT1 rfl rfl ti3 rfl rfl) ?_
    refine RD.op rfl rfl rfl (eff_iop (r := .bool true) rfl rfl rfl rfl (by rw [hc1]; exact congrArg (fun x => some (Tr.bool x)) (beq_self_eq_true _))) ?_
    refine mvD ?_
    refine RD.gop rfl rfl rfl rfl rfl rfl rfl (eff_loadT1 rfl rfl ti45 rfl rfl) ?_
    refine RD.gop rfl rfl rfl rfl rfl rfl rfl (eff_move (v := .t _) rfl rfl rfl) ?_
    refine RD.gop rfl rfl rfl rfl rfl rfl rfl (eff_indexAddrT (i := k) rfl rfl te45 rfl rfl (by first | rfl | omega) (by rw [List.getElem?_map, List.getElem?_eq_getElem hk]; rfl) rfl (by decide)) ?_
    refine RD.gop rfl rfl rfl rfl rfl rfl rfl (eff_loadW rfl rfl ti68 rfl rfl rfl) ?_
    refine RD.gop rfl rfl rfl rfl rfl rfl rfl (eff_loadT1 rfl rfl ti45 rfl rfl) ?_
    refine RD.gop rfl rfl rfl rfl rfl rfl rfl (eff_loadT1 rfl rfl ti3 rfl rfl) ?_
    refine RD.gop rfl rfl rfl rfl rfl rfl rfl (eff_indexAddrT (i := i) rfl rfl te45 rfl rfl (by first | rfl | omega) (by rw [List.getElem?_map, List.getElem?_eq_getElem hi]; rfl) rfl (by decide)) ?_
    refine RD.gop rfl rfl rfl rfl rfl rfl rfl (eff_loadW rfl rfl ti68 rfl rfl rfl) ?_
    refine RD.gop rfl rfl rfl rfl rfl rfl rfl (eff_callT (conflict_ret (B[k]'hk) (B[i]'hi)) co35 rfl rfl rfl rfl) ?_
    refine RD.op rfl rfl rfl (eff_pick (v := .t _) rfl rfl rfl rfl) ?_
    refine RD.op rfl rfl rfl (eff_assign (v := .t _) rfl rfl rfl) ?_
    refine RD.nil ?_
    refine awp_ret ?_
    have hbf : busyF B k i = (decide ((B[k]'hk).craft = (B[i]'hi).craft) && confl (B[k]'hk) (B[i]'hi)) := by unfold busyF; rw [getD_zb hk, getD_zb hi]
    (rw [hbf, decide_eq_true (by assumption), Bool.true_and]; exact ⟨Or.inr rfl, [_], ⟨.tmp (.t _), trivial⟩, .refl _⟩)
  · refine awp_rd [(some 5, []), (some 6, []), (some 7, []), (some 8, []), (some 9, []), (some 10, []), (some 11, []), (some 12, []), (some 13, []), (some 14, []), (some 15, []), (some 16, []), (some 17, []), (some 18, []), (some 19, []), (some 20, []), (some 21, []), (some 22, []), (some 23, []), (some 24, []), (some 25, []), (some 26, []), (some 4, [])] [[], [], [0, 1], [0, 1, 2], [0, 1, 2, 3], [], [], [5, 6], [5, 6, 7], [5, 6, 7, 8], [0, 1, 2, 3, 4, 5, 6, 7, 8, 9], [0, 1, 2, 3, 4, 5, 6, 7, 8, 9, 10], [0, 1, 2, 3, 4, 5, 6, 7, 8, 9, 10, 11], [0, 1, 2, 3, 4, 5, 6, 7, 8, 9, 10, 11], [0, 1, 2, 3, 4, 5, 6, 7, 8, 9, 10, 11, 12, 13], [0, 1, 2, 3, 4, 5, 6, 7, 8, 9, 10, 11, 12, 13, 14], [0, 1, 2, 3, 4, 5, 6, 7, 8, 9, 10, 11], [0, 1, 2, 3, 4, 5, 6, 7, 8, 9, 10, 11], [0, 1, 2, 3, 4, 5, 6, 7, 8, 9, 10, 11, 16, 17], [0, 1, 2, 3, 4, 5, 6, 7, 8, 9, 10, 11, 16, 17, 18], [0, 1, 2, 3, 4, 5, 6, 7, 8, 9, 10, 11, 12, 13, 14, 15, 16, 17, 18, 19], [0, 1, 2, 3, 4, 5, 6, 7, 8, 9, 10, 11, 12, 13, 14, 15, 16, 17, 18, 19, 20], [0, 1, 2, 3, 4, 5, 6, 7, 8, 9, 10, 11, 12, 13, 14, 15, 16, 17, 18, 19, 20, 21]] tm rfl rfl rfl rfl ?_
    refine RD.op rfl rfl rfl (eff_loadT1 rfl rfl ti45 rfl rfl) ?_
    refine mvD ?_
    refine RD.op rfl rfl rfl (eff_indexAddrT (i := k) rfl rfl te45 rfl rfl (by first | rfl | omega) (by rw [List.getElem?_map, List.getElem?_eq_getElem hk]; rfl) rfl (by decide)) ?_
    refine RD.op rfl rfl rfl (eff_fieldAddrT rfl rfl tf68_0 (by decide) rfl) ?_
    refine RD.op rfl rfl rfl (eff_loadT1 rfl rfl ti3 rfl rfl) ?_
    refine RD.op rfl rfl rfl (eff_loadT1 rfl rfl ti45 rfl rfl) ?_
    refine RD.op rfl rfl rfl (eff_loadT1 rfl rfl ti3 rfl rfl) ?_
    refine RD.op rfl rfl rfl (eff_indexAddrT (i := i) rfl rfl te45 rfl rfl (by first | rfl | omega) (by rw [List.getElem?_map, List.getElem?_eq_getElem hi]; rfl) rfl (by decide)) ?_
    refine RD.op rfl rfl rfl (eff_fieldAddrT rfl rfl tf68_0 (by decide) rfl) ?_
    refine RD.op rfl rfl rfl (eff_loadT1 rfl rfl ti3 rfl rfl) ?_
    refine RD.op rfl rfl rfl (eff_iop (r := .bool false) rfl rfl rfl rfl (by exact congrArg (fun x => some (Tr.bool x)) (beq_eq_false_iff_ne.2 hc1))) ?_
    refine mvD ?_
    refine gkD ?_
    refine gkD ?_
    refine gkD ?_
    refine gkD ?_
    refine gkD ?_
    refine gkD ?_
    refine gkD ?_
    refine gkD ?_
    refine gkD ?_
    refine RD.op rfl rfl rfl (eff_pick (v := .t _) rfl rfl rfl rfl) ?_
    refine RD.op rfl rfl rfl (eff_assign (v := .t _) rfl rfl rfl) ?_
    refine RD.nil ?_
    refine awp_ret ?_
    have hbf : busyF B k i = (decide ((B[k]'hk).craft = (B[i]'hi).craft) && confl (B[k]'hk) (B[i]'hi)) := by unfold busyF; rw [getD_zb hk, getD_zb hi]
    (rw [hbf, decide_eq_false (by assumption), Bool.false_and]; exact ⟨Or.inr rfl, [_], ⟨.tmp (.t _), trivial⟩, .refl _⟩)

/-- The step of the program's list of bids, done as far as i. -/
def stepTo (B O : List Bid) (s : Int) (best : List Nat) (i : Nat) : List Bid := (List.range B.length).map fun j => if j < i then stepB B O s best j else O.getD j zb
theorem stepTo_len (B O : List Bid) (s : Int) (best : List Nat) (i : Nat) : (stepTo B O s best i).length = B.length := by simp [stepTo]
theorem stepTo_zero {B O : List Bid} {s : Int} {best : List Nat} (h : O.length = B.length) : stepTo B O s best 0 = O := by
  apply List.ext_getElem?
  intro j
  unfold stepTo
  rw [List.getElem?_map]
  by_cases hj : j < B.length
  · simp [hj, h, List.getD_eq_getElem?_getD]
  · simp [hj, h]
theorem stepTo_all {B O : List Bid} {s : Int} {best : List Nat} : stepTo B O s best B.length = stepF B O s best := by
  unfold stepTo stepF
  apply List.map_congr_left
  intro j hj
  rw [if_pos (List.mem_range.1 hj)]
theorem stepTo_get {B O : List Bid} {s : Int} {best : List Nat} {i : Nat} (hi : i < B.length) : (stepTo B O s best i)[i]? = some (O.getD i zb) := by
  unfold stepTo
  rw [List.getElem?_map]
  simp [hi]
theorem stepTo_succ {B O : List Bid} {s : Int} {best : List Nat} {i : Nat} (hi : i < B.length) : stepTo B O s best (i + 1) = (stepTo B O s best i).set i (stepB B O s best i) := by
  apply List.ext_getElem?
  intro j
  rw [List.getElem?_set]
  by_cases hj : i = j
  · subst hj
    rw [if_pos rfl, if_pos (by rw [stepTo_len]; exact hi)]
    unfold stepTo
    rw [List.getElem?_map]
    simp [hi]
  · rw [if_neg hj]
    unfold stepTo
    rw [List.getElem?_map, List.getElem?_map]
    by_cases hlt : j < B.length
    · simp [hlt]
      by_cases h2 : j < i
      · rw [if_pos h2, if_pos (by omega)]
      · rw [if_neg h2, if_neg (by omega)]
    · simp [hlt]
theorem stepTo_same {B O : List Bid} {s : Int} {best : List Nat} {i : Nat} (hi : i < B.length) (h : ¬ ((O.getD i zb).station > s ∧ (best.any fun k => busyF B k i) = true)) : stepTo B O s best (i + 1) = stepTo B O s best i := by
  rw [stepTo_succ hi]
  have h1 := stepTo_get (O := O) (s := s) (best := best) hi
  apply List.ext_getElem?
  intro j
  rw [List.getElem?_set]
  split
  · rename_i e
    subst e
    rw [if_pos (by rw [stepTo_len]; exact hi), h1]
    unfold stepB
    rw [if_neg h]
  · rfl
theorem stepTo_away {B O : List Bid} {s : Int} {best : List Nat} {i : Nat} (hi : i < B.length) (h : (O.getD i zb).station > s ∧ (best.any fun k => busyF B k i) = true) : stepTo B O s best (i + 1) = (stepTo B O s best i).set i (away (O.getD i zb)) := by
  rw [stepTo_succ hi]
  unfold stepB
  rw [if_pos h]
theorem out_len {B : List Bid} (hB : OkL B) : ∀ s : Nat, (outF B s).length ≤ s * 1000
  | 0 => by simp [outF]
  | s + 1 => by
    have h1 := out_len hB s
    have h2 : (bestF (blockF B (outF B s) s) s).length ≤ (blockF B (outF B s) s).length := incr_len (best_lead (block_ok hB.ok)).inc (fun j hj => ((best_comp (block_ok hB.ok)).1 j hj).1)
    have h3 := hB.len
    rw [block_len] at h2
    show (outF B s ++ _).length ≤ _
    rw [List.length_append, Nat.add_mul]
    omega
theorem out_succ (B : List Bid) (s : Nat) : outF B (s + 1) = outF B s ++ bestF (openF B s) s := by
  rw [(open_is B s).1]; rfl
theorem step_lim {B O : List Bid} {s : Int} {best : List Nat} (hO : OkL O) (hl : O.length = B.length) (i : Nat) (hi : i ≤ B.length) : OkL (stepTo B O s best i) := by
  have hm : ∀ b, b ∈ stepTo B O s best i → ∃ c, c ∈ O ∧ b.frm = c.frm ∧ b.til = c.til ∧ b.val = c.val := by
    intro b hb
    obtain ⟨j, hj, rfl⟩ := List.mem_map.1 hb
    have hj' : j < O.length := by rw [hl]; simpa using hj
    have hm : O.getD j zb ∈ O := by rw [getD_zb hj']; exact List.getElem_mem _
    refine ⟨O.getD j zb, hm, ?_⟩
    split
    · unfold stepB; split <;> exact ⟨rfl, rfl, rfl⟩
    · exact ⟨rfl, rfl, rfl⟩
  refine ⟨fun b hb => ?_, by rw [stepTo_len, ← hl]; exact hO.len, fun b hb => ?_⟩
  · obtain ⟨c, hc, e1, e2, e3⟩ := hm b hb
    have := hO.ok c hc
    exact ⟨by rw [e1, e2]; exact this.1, by rw [e3]; exact this.2⟩
  · obtain ⟨c, hc, e1, e2, e3⟩ := hm b hb
    rw [e1, e3]; exact hO.lim c hc
theorem open_okl {B : List Bid} (hB : OkL B) : ∀ s : Nat, OkL (openF B s)
  | 0 => hB
  | s + 1 => by
    have h := step_lim (s := (s : Int)) (best := bestF (openF B s) s) (open_okl hB s) (open_len B s) B.length (Nat.le_refl _)
    rw [stepTo_all] at h
    exact h

theorem assign_ret (B : List Bid) (hB : OkL B) : Ret Tryz.prog 16 [.sl (B.map encB) false] (.sl ((sortI (toI (outF B 9))).map encI) false) := by
  refine ret_of_awp Tryz.func16 rfl (Nat.le_of_ble_eq_true rfl) ?_
  refine awp_seq ?_
  refine awp_rw rfl ?_
  refine RW.new rfl rfl (eff_boxK (v := .t _) (k := 1) (id := 1) rfl rfl rfl rfl rfl rfl) ?_
  refine asT ?_
  refine RW.nil ?_
  show AWP _ _ _ _
  refine awp_weak (weak_frz (n := 47) (fr' := [(1, .t (.ptr [.sl (B.map encB) false]))]) (st' := []) [(1, some ⟨1, 45, 0, [.t (.sl (B.map encB) false)]⟩)] ⟨rfl, trivial⟩ trivial ⟨.res (Res.ptrT (x := .sl (B.map encB) false) rfl rfl rfl) (.refl _), trivial⟩ trivial) ?_
  refine awp_seq ?_
  refine awp_rw rfl ?_
  refine asT ?_
  refine RW.nil ?_
  show AWP _ _ _ _
  refine awp_weak (weak_adopt (d := 3) (id := 3) (k := 1) (ty := 3) rfl rfl) ?_
  refine awp_seq ?_
  refine awp_rw rfl ?_
  refine RW.op rfl rfl (eff_loadT1 rfl rfl ti45 rfl rfl) ?_
  refine RW.new rfl rfl (eff_callG (clone_retG B (by have := hB.len; omega)) co33 (fun id => id + 5) rfl rfl rfl ⟨.t _, trivial⟩ (.own _ _ _ _ rfl rfl) rfl trivial ⟨⟨treeEls_t, .inr rfl⟩, trivial⟩) ?_
  refine asO ?_
  refine RW.nil ?_
  refine awp_seq ?_
  refine awp_seq ?_
  refine awp_rw rfl ?_
  refine mvT ?_
  refine RW.nil ?_
  refine awp_block ?_
  refine awp_loopW (fun m s => ∃ (k : Nat) (n : Nat) (els : List AV), (k ≤ 9) ∧ (n = (outF B k).length) ∧ (els = ((outF B k).map encN).map .t) ∧ m = 9 - k ∧ s = ⟨47, [(1, .t (.ptr [.sl (B.map encB) false])), (3, .own 3 k 0 n), (4, .own 10 1 0 B.length), (11, .t (encI (k : Nat)))], [(3, some ⟨1, 3, k, els⟩), (10, some ⟨5, 68, 1, ((openF B k).map encB).map .t⟩)]⟩) (_) (⟨_, weak_keep (n := 47) (fr' := [(1, .t (.ptr [.sl (B.map encB) false])), (3, .own 3 0 0 0), (4, .own 10 1 0 B.length), (11, .t (encI (0 : Nat)))]) (st' := [(3, some ⟨1, 3, 0, ([])⟩), (10, some ⟨5, 68, 1, ((openF B 0).map encB).map .t⟩)]) ⟨rfl, rfl, rfl, rfl, rfl, rfl, rfl, rfl, trivial⟩ ⟨rfl, (by first | exact okE_nil | (rw [he2]; exact okE_t) | (rw [he]; exact okE_t)), rfl, okE_t, trivial⟩, 0, 0, [], (by omega), (by rfl), (by rfl), rfl, rfl⟩) ?_
  rintro m s ⟨k, n, els, hk, hnn, he, rfl, rfl⟩
  have hBl := hB.len
  have hOk := open_okl hB k
  have hOl := open_len B k
  have hoL := out_len hB k
  have hbl := best_len (s := (k : Int)) hOk
  refine awp_seq ?_
  refine awp_rw rfl ?_
  refine ioT ?_
  refine RW.nil ?_
  refine awp_seq ?_
  refine awp_cond rfl (fun h1 => ?_) (fun h1 => ?_)
  · try simp only [cl] at h1
    refine awp_skip ?_
    refine awp_seq ?_
    refine awp_block ?_
    refine awp_seq ?_
    refine awp_rw rfl ?_
    refine mvT ?_
    refine asT ?_
    refine RW.nil ?_
    refine awp_seq ?_
    refine awp_rw rfl ?_
    refine mvO ?_
    refine mvT ?_
    refine RW.new rfl rfl (eff_callGBE (ys := [.sl ((openF B k).map encB) false, encI (k : Nat)]) (best_retG (openF B k) k hOk) co13 (fun _ => 16) rfl rfl rfl ⟨Res.ownT (xs := (openF B k).map encB) rfl rfl rfl (by rw [List.length_map, hOl]), .t _, trivial⟩ (.own _ _ _ _) (.own _ _ _ _ rfl rfl) rfl ⟨⟨flatEls_t (fun x hx => by obtain ⟨y, _, rfl⟩ := List.mem_map.1 hx; rfl), rfl⟩, trivial⟩) ?_
    refine asO ?_
    refine RW.nil ?_
    show AWP _ _ _ _
    refine awp_weak (weak_frz (n := 47) (fr' := [(1, .t (.ptr [.sl (B.map encB) false])), (3, .own 3 k 0 n), (4, .own 10 1 0 B.length), (5, .t (encI (k : Nat))), (6, .t (.sl ((bestF (openF B k) k).map encN) false)), (11, .t (encI (k : Nat)))]) (st' := [(3, some ⟨1, 3, k, els⟩), (10, some ⟨5, 68, 1, ((openF B k).map encB).map .t⟩)]) [(16, some ⟨1, 3, (bestF (openF B k) k).length, ((bestF (openF B k) k).map encN).map .t⟩)] ⟨rfl, trivial⟩ ⟨rfl, rfl, trivial⟩ ⟨wa_eq rfl rfl, wa_eq rfl rfl, wa_eq rfl rfl, wa_eq rfl rfl, .res (Res.ownT (xs := (bestF (openF B k) k).map encN) rfl rfl rfl (by simp)) (.refl _), wa_eq rfl rfl, trivial⟩ ⟨rfl, (by first | exact okE_nil | (rw [he]; exact okE_t) | (rw [he]; intro x hx; simp only [List.mem_append, List.mem_map, List.mem_singleton] at hx; rcases hx with ⟨y, _, rfl⟩ | rfl <;> rfl)), rfl, okE_t, trivial⟩) ?_
    refine awp_seq ?_
    refine awp_rw rfl ?_
    refine mvO ?_
    refine mvT ?_
    refine RW.new rfl rfl (eff_appendAny (id := 3) rfl rfl ta52 rfl rfl rfl (by rw [he, hnn]; simp) rfl rfl (srcM (l := (bestF (openF B k) k)) (g := encN) rfl (fun _ => rfl)) (by simp only [List.length_map]; omega) (by simp only [List.length_map]; omega)) ?_
    refine asO ?_
    refine RW.nil ?_
    refine awp_seq ?_
    refine awp_rw rfl ?_
    refine mvO ?_
    refine RW.op rfl rfl (eff_len rfl rfl te45 rfl rfl rfl) ?_
    refine mvT ?_
    refine RW.nil ?_
    refine awp_block ?_
    refine awp_loopW (fun m s => ∃ (i : Nat) (n2 : Nat) (els2 : List AV), (i ≤ B.length) ∧ (n2 = (outF B (k + 1)).length) ∧ (els2 = ((outF B (k + 1)).map encN).map .t) ∧ m = B.length - i ∧ s = ⟨47, [(1, .t (.ptr [.sl (B.map encB) false])), (3, .own 3 (k + 1) 0 n2), (4, .own 10 1 0 B.length), (5, .t (encI (k : Nat))), (6, .t (.sl ((bestF (openF B k) k).map encN) false)), (11, .t (encI (k : Nat))), (21, .t (encI B.length)), (22, .t (encI (i : Nat)))], [(3, some ⟨1, 3, k + 1, els2⟩), (10, some ⟨5, 68, 1, ((stepTo B (openF B k) k (bestF (openF B k) k) i).map encB).map .t⟩)]⟩) (_) (⟨_, weak_keep (n := 47) (fr' := [(1, .t (.ptr [.sl (B.map encB) false])), (3, .own 3 (k + 1) 0 _), (4, .own 10 1 0 B.length), (5, .t (encI (k : Nat))), (6, .t (.sl ((bestF (openF B k) k).map encN) false)), (11, .t (encI (k : Nat))), (21, .t (encI B.length)), (22, .t (encI (0 : Nat)))]) (st' := [(3, some ⟨1, 3, k + 1, _⟩), (10, some ⟨5, 68, 1, ((stepTo B (openF B k) k (bestF (openF B k) k) 0).map encB).map .t⟩)]) ⟨rfl, rfl, rfl, rfl, rfl, rfl, rfl, rfl, rfl, rfl, rfl, rfl, rfl, rfl, rfl, rfl, trivial⟩ ⟨rfl, (by first | (rw [he2]; exact okE_t) | (rw [he]; intro x hx; rcases List.mem_append.1 hx with h | h <;> (obtain ⟨y, _, rfl⟩ := List.mem_map.1 h; rfl))), by first | rfl | (rw [stepTo_zero hOl]; rfl) | (rw [stepTo_same hil (fun hh => by first | exact absurd hh.1 (by assumption) | (have h8 := hh.2; simp_all))]; rfl), okE_t, trivial⟩, 0, _, _, (by omega), (by rw [out_succ, hnn]; simp), (by rw [out_succ, he]; simp), rfl, rfl⟩) ?_
    rintro m s ⟨i, n2, els2, hi, hnn2, he2, rfl, rfl⟩
    refine awp_seq ?_
    refine awp_rw rfl ?_
    refine ioT ?_
    refine RW.nil ?_
    refine awp_seq ?_
    refine awp_cond rfl (fun h2 => ?_) (fun h2 => ?_)
    · try simp only [cl] at h2
      refine awp_skip ?_
      refine awp_seq ?_
      refine awp_block ?_
      refine awp_seq ?_
      refine awp_rw rfl ?_
      have hil : i < B.length := by omega
      have hel : ((stepTo B (openF B k) k (bestF (openF B k) k) i).map encB)[i]? = some (encB ((openF B k).getD i zb)) := by rw [List.getElem?_map, stepTo_get hil]; rfl
      refine mvT ?_
      refine RW.new rfl rfl (eff_allocK (k := 1) (id := 7) rfl rfl tz3 rfl rfl) ?_
      refine RW.store rfl rfl (eff_storeW (v := .t _) (els := [_]) (els' := [_]) rfl rfl ti3 rfl rfl rfl rfl rfl rfl rfl rfl rfl) ?_
      refine RW.nil ?_
      show AWP _ _ _ _
      refine awp_weak (weak_frz (n := 47) (fr' := [(1, .t (.ptr [.sl (B.map encB) false])), (3, .own 3 (k + 1) 0 n2), (4, .own 10 1 0 B.length), (5, .t (encI (k : Nat))), (6, .t (.sl ((bestF (openF B k) k).map encN) false)), (11, .t (encI (k : Nat))), (21, .t (encI B.length)), (22, .t (encI (i : Nat))), (7, .t (.ptr [encI (i : Nat)]))]) (st' := [(3, some ⟨1, 3, k + 1, els2⟩), (10, some ⟨5, 68, 1, ((stepTo B (openF B k) k (bestF (openF B k) k) i).map encB).map .t⟩)]) [(7, some ⟨1, 3, 0, [.t (encI (i : Nat))]⟩)] ⟨rfl, trivial⟩ ⟨rfl, rfl, trivial⟩ ⟨wa_eq rfl rfl, wa_eq rfl rfl, wa_eq rfl rfl, wa_eq rfl rfl, wa_eq rfl rfl, wa_eq rfl rfl, wa_eq rfl rfl, wa_eq rfl rfl, .res (Res.ptrT (x := encI (i : Nat)) rfl rfl rfl) (.refl _), trivial⟩ ⟨rfl, (by rw [he2]; exact okE_t), rfl, okE_t, trivial⟩) ?_
      refine awp_seq ?_
      refine awp_rw rfl ?_
      refine RW.op rfl rfl (eff_makeFunc rfl rfl rfl rfl) ?_
      refine asT ?_
      refine RW.nil ?_
      refine awp_seq ?_
      refine awp_rw rfl ?_
      refine mvO ?_
      refine RW.op rfl rfl (eff_loadT1 rfl rfl ti3 rfl rfl) ?_
      refine RW.op rfl rfl (eff_indexAddr (i := i) rfl rfl te45 rfl rfl rfl rfl rfl rfl (by first | omega | (simp only [List.length_map, stepTo_len]; omega))) ?_
      refine faT tf68_1 ?_
      refine RW.op rfl rfl (eff_load (y := .t (encI ((openF B k).getD i zb).station)) rfl rfl ti3 rfl (.one rfl rfl (by rw [List.getElem?_map, Nat.zero_add, hel]; rfl) rfl)) ?_
      refine mvT ?_
      refine ioT ?_
      refine mvT ?_
      refine RW.split 33 rfl (fun h3 => ?_) (fun h3 => ?_)
      · try simp only [cl] at h3
        refine RW.gop rfl rfl rfl rfl rfl rfl (eff_move (v := .t _) rfl rfl rfl) ?_
        refine RW.gop rfl rfl rfl rfl rfl rfl (eff_move (v := .t _) rfl rfl rfl) ?_
        refine RW.gop rfl rfl rfl rfl rfl rfl (eff_callT (anyI_ret (bestF (openF B k) k) 38 [.ptr [.sl (B.map encB) false], .ptr [encI (i : Nat)]] (fun q => busyF B q i) (by omega) co38 (fun q hq => busy_ret B q i (by have := ((best_comp hOk.ok).1 q hq).1; omega) hil)) co39 rfl rfl rfl rfl) ?_
        refine pkT ?_
        refine RW.nil ?_
        refine awp_cond rfl (fun h4 => ?_) (fun h4 => ?_)
        · try simp only [cl] at h4
          refine awp_rw rfl ?_
          refine mvO ?_
          refine RW.op rfl rfl (eff_loadT1 rfl rfl ti3 rfl rfl) ?_
          refine RW.op rfl rfl (eff_indexAddr (i := i) rfl rfl te45 rfl rfl rfl rfl rfl rfl (by first | omega | (simp only [List.length_map, stepTo_len]; omega))) ?_
          refine faT tf68_1 ?_
          refine RW.store rfl rfl (eff_storeS (v := .t _) (el := .t (encB ((openF B k).getD i zb))) (ys := [encI ((openF B k).getD i zb).craft, encI (-1), encI ((openF B k).getD i zb).frm, encI ((openF B k).getD i zb).til, encI ((openF B k).getD i zb).val]) (els' := ((stepTo B (openF B k) k (bestF (openF B k) k) (i + 1)).map encB).map .t) rfl rfl ti3 rfl rfl rfl rfl rfl rfl (by rw [List.getElem?_map, Nat.zero_add, hel]; rfl) (Nat.le_of_ble_eq_true rfl) rfl (by rw [Nat.zero_add, stepTo_away hil (by first | exact ⟨by assumption, by assumption⟩ | simp_all), List.map_set, List.map_set]; rfl)) ?_
          refine RW.nil ?_
          refine awp_rw rfl ?_
          refine RW.op rfl rfl (eff_iop rfl rfl rfl rfl (iadd (by omega))) ?_
          refine mvT ?_
          refine RW.nil ?_
          refine ⟨_, ?_, _, weak_keep (n := 47) (fr' := [(1, .t (.ptr [.sl (B.map encB) false])), (3, .own 3 (k + 1) 0 n2), (4, .own 10 1 0 B.length), (5, .t (encI (k : Nat))), (6, .t (.sl ((bestF (openF B k) k).map encN) false)), (11, .t (encI (k : Nat))), (21, .t (encI B.length)), (22, .t (encI ((i + 1) : Nat)))]) (st' := [(3, some ⟨1, 3, k + 1, els2⟩), (10, some ⟨5, 68, 1, ((stepTo B (openF B k) k (bestF (openF B k) k) (i + 1)).map encB).map .t⟩)]) ⟨rfl, rfl, rfl, rfl, rfl, rfl, rfl, rfl, rfl, rfl, rfl, rfl, rfl, rfl, rfl, rfl, trivial⟩ ⟨rfl, (by first | (rw [he2]; exact okE_t) | (rw [he]; intro x hx; rcases List.mem_append.1 hx with h | h <;> (obtain ⟨y, _, rfl⟩ := List.mem_map.1 h; rfl))), by first | rfl | (rw [stepTo_zero hOl]; rfl) | (rw [stepTo_same hil (fun hh => by first | exact absurd hh.1 (by assumption) | (have h8 := hh.2; simp_all))]; rfl), okE_t, trivial⟩, i + 1, n2, els2, (by omega), (by exact hnn2), (by exact he2), rfl, rfl⟩
          omega
        · try simp only [cl] at h4
          refine awp_skip ?_
          refine awp_rw rfl ?_
          refine RW.op rfl rfl (eff_iop rfl rfl rfl rfl (iadd (by omega))) ?_
          refine mvT ?_
          refine RW.nil ?_
          refine ⟨_, ?_, _, weak_keep (n := 47) (fr' := [(1, .t (.ptr [.sl (B.map encB) false])), (3, .own 3 (k + 1) 0 n2), (4, .own 10 1 0 B.length), (5, .t (encI (k : Nat))), (6, .t (.sl ((bestF (openF B k) k).map encN) false)), (11, .t (encI (k : Nat))), (21, .t (encI B.length)), (22, .t (encI ((i + 1) : Nat)))]) (st' := [(3, some ⟨1, 3, k + 1, els2⟩), (10, some ⟨5, 68, 1, ((stepTo B (openF B k) k (bestF (openF B k) k) (i + 1)).map encB).map .t⟩)]) ⟨rfl, rfl, rfl, rfl, rfl, rfl, rfl, rfl, rfl, rfl, rfl, rfl, rfl, rfl, rfl, rfl, trivial⟩ ⟨rfl, (by first | (rw [he2]; exact okE_t) | (rw [he]; intro x hx; rcases List.mem_append.1 hx with h | h <;> (obtain ⟨y, _, rfl⟩ := List.mem_map.1 h; rfl))), by first | rfl | (rw [stepTo_zero hOl]; rfl) | (rw [stepTo_same hil (fun hh => by first | exact absurd hh.1 (by assumption) | (have h8 := hh.2; simp_all))]; rfl), okE_t, trivial⟩, i + 1, n2, els2, (by omega), (by exact hnn2), (by exact he2), rfl, rfl⟩
          omega
      · try simp only [cl] at h3
        refine gkT ?_
        refine gkT ?_
        refine gkT ?_
        refine pkT ?_
        refine RW.nil ?_
        refine awp_cond rfl (fun h => nomatch h) (fun _ => ?_)
        refine awp_skip ?_
        refine awp_rw rfl ?_
        refine RW.op rfl rfl (eff_iop rfl rfl rfl rfl (iadd (by omega))) ?_
        refine mvT ?_
        refine RW.nil ?_
        refine ⟨_, ?_, _, weak_keep (n := 47) (fr' := [(1, .t (.ptr [.sl (B.map encB) false])), (3, .own 3 (k + 1) 0 n2), (4, .own 10 1 0 B.length), (5, .t (encI (k : Nat))), (6, .t (.sl ((bestF (openF B k) k).map encN) false)), (11, .t (encI (k : Nat))), (21, .t (encI B.length)), (22, .t (encI ((i + 1) : Nat)))]) (st' := [(3, some ⟨1, 3, k + 1, els2⟩), (10, some ⟨5, 68, 1, ((stepTo B (openF B k) k (bestF (openF B k) k) (i + 1)).map encB).map .t⟩)]) ⟨rfl, rfl, rfl, rfl, rfl, rfl, rfl, rfl, rfl, rfl, rfl, rfl, rfl, rfl, rfl, rfl, trivial⟩ ⟨rfl, (by first | (rw [he2]; exact okE_t) | (rw [he]; intro x hx; rcases List.mem_append.1 hx with h | h <;> (obtain ⟨y, _, rfl⟩ := List.mem_map.1 h; rfl))), by first | rfl | (rw [stepTo_zero hOl]; rfl) | (rw [stepTo_same hil (fun hh => by first | exact absurd hh.1 (by assumption) | (have h8 := hh.2; simp_all))]; rfl), okE_t, trivial⟩, i + 1, n2, els2, (by omega), (by exact hnn2), (by exact he2), rfl, rfl⟩
        omega
    · try simp only [cl] at h2
      refine awp_exit ?_
      refine awp_rw rfl ?_
      refine RW.op rfl rfl (eff_iop rfl rfl rfl rfl (iadd (by omega))) ?_
      refine mvT ?_
      refine RW.nil ?_
      obtain rfl : i = B.length := by omega
      rw [stepTo_all]
      refine ⟨_, ?_, _, weak_keep (n := 47) (fr' := [(1, .t (.ptr [.sl (B.map encB) false])), (3, .own 3 (k + 1) 0 _), (4, .own 10 1 0 B.length), (11, .t (encI ((k + 1) : Nat)))]) (st' := [(3, some ⟨1, 3, (k + 1), _⟩), (10, some ⟨5, 68, 1, ((openF B (k + 1)).map encB).map .t⟩)]) ⟨rfl, rfl, rfl, rfl, rfl, rfl, rfl, rfl, trivial⟩ ⟨rfl, (by first | exact okE_nil | (rw [he2]; exact okE_t) | (rw [he]; exact okE_t)), rfl, okE_t, trivial⟩, k + 1, _, _, (by omega), (by exact hnn2), (by exact he2), rfl, rfl⟩
      omega
  · try simp only [cl] at h1
    refine awp_exit ?_
    refine awp_seq ?_
    refine awp_rw rfl ?_
    obtain rfl : k = 9 := by omega
    refine mvO ?_
    refine RW.new rfl rfl (eff_sortInts Tryz.sortI (toI (outF B 9)) (by rw [toI_len]; omega) rfl co40 rfl rfl rfl rfl rfl (by rw [he, encN_map]; rfl) (by rw [hnn, toI_len]) rfl) ?_
    refine RW.nil ?_
    refine awp_seq ?_
    refine awp_rw rfl ?_
    refine mvO ?_
    refine asO ?_
    refine RW.nil ?_
    refine awp_ret ?_
    exact ⟨Or.inr rfl, [_], ⟨.tmp (Res.ownT (xs := (sortI (toI (outF B 9))).map encI) rfl rfl rfl (by rw [hnn, List.length_map, sortI_length, toI_len])), trivial⟩, .refl _⟩

end Go.Tv.C37p

end
section
open Go Go.Tv Go.Tv.C37 Go.Proofs
namespace Go.Tv.C37p
set_option maxRecDepth 20000
set_option maxHeartbeats 2000000
set_option linter.unusedSimpArgs false
set_option linter.unusedVariables false
theorem sortI_eq {l X : List Int} (h1 : X.Pairwise (· ≤ ·)) (h2 : X.Perm l) : X = sortI l :=
  List.Perm.eq_of_pairwise (fun a b _ _ h1 h2 => Int.le_antisymm h1 h2) h1 (sortI_sorted l) (h2.trans (sortI_perm l).symm)
end Go.Tv.C37p

end
section
open Go Go.Tv Go.Tv.C37 Go.Proofs
namespace Go.Tv.C37p
set_option maxRecDepth 20000
set_option maxHeartbeats 2000000
set_option linter.unusedSimpArgs false
set_option linter.unusedVariables false
def blk (B : List Bid) (o : List Nat) (s : Int) (j : Nat) : Bid := if (B.getD j zb).station = s ∧ (o.any fun k => busyF B k j) = true then away (B.getD j zb) else B.getD j zb
end Go.Tv.C37p

end
section
open Go Go.Tv Go.Tv.C37 Go.Proofs
namespace Go.Tv.C37p
set_option linter.unusedVariables false

structure Win where
  kind : Int
  a : Int
  b : Int
  frm : Int
  til : Int
  rate : Int
  deriving DecidableEq, Inhabited
def encW (w : Win) : Tr := .agg [encI w.kind, encI w.a, encI w.b, encI w.frm, encI w.til, encI w.rate]
def cellsW (w : Win) : List Sc := [.int .i64 w.kind, .int .i64 w.a, .int .i64 w.b, .int .i64 w.frm, .int .i64 w.til, .int .i64 w.rate]
theorem cellsW_kind (w : Win) : (cellsW w).map Sc.kind = [.int .i64, .int .i64, .int .i64, .int .i64, .int .i64, .int .i64] := rfl
theorem cellsW_inj (x y : Win) (h : cellsW x = cellsW y) : x = y := by
  obtain ⟨a1, a2, a3, a4, a5, a6⟩ := x
  obtain ⟨b1, b2, b3, b4, b5, b6⟩ := y
  simp only [cellsW, List.cons.injEq, Sc.int.injEq, true_and, and_true] at h
  obtain ⟨h1, h2, h3, h4, h5, h6⟩ := h
  subst h1 h2 h3 h4 h5 h6
  rfl
def zw : Win := ⟨0, 0, 0, 0, 0, 0⟩
def keyB (k a b : Int) (w : Win) : Bool := decide (w.kind = k ∧ w.a = a ∧ w.b = b)
def passB (craft tick : Int) (w : Win) : Bool := decide (w.kind = 1 ∧ w.a = craft ∧ w.til > tick)
def passesF (t : List Win) (craft tick : Int) : List Win := t.filter (passB craft tick)
def nextF (t : List Win) (k a b tick : Int) : Win × Bool := match (t.filter (keyB k a b)).find? (fun w => decide (w.til > tick)) with
  | some w => (w, true)
  | none => (zw, false)
def atF (t : List Win) (k a b tick : Int) : Win × Bool := if (nextF t k a b tick).2 = true ∧ (nextF t k a b tick).1.frm ≤ tick then ((nextF t k a b tick).1, true) else (zw, false)
def validB (b : Bid) : Bool := decide (0 ≤ b.craft ∧ b.craft < 12 ∧ 0 ≤ b.station ∧ b.station < 9 ∧ 0 ≤ b.frm ∧ b.frm < b.til ∧ b.til ≤ 1000000 ∧ 1 ≤ b.val ∧ b.val ≤ 1000000)
def atB (t : List Win) (b : Bid) : Bool := decide ((atF t 1 b.craft b.station b.frm).2 = true ∧ ¬ (atF t 1 b.craft b.station b.frm).1.til < b.til)
def errG (f : Bid → Bool) : List Bid → Int
  | [] => 0
  | b :: l => if validB b = true then (if f b = true then errG f l else 32) else 5
def errF (f : Bid → Bool) (l : List Bid) : Int := if l.length > 64 then 2 else errG f l
theorem errG_drop {f : Bid → Bool} : ∀ {l : List Bid} {i : Nat}, i ≤ l.length → (∀ b, b ∈ l.take i → validB b = true ∧ f b = true) → errG f l = errG f (l.drop i)
  | _, 0, _, _ => by simp
  | [], i + 1, h, _ => by simp at h
  | b :: l, i + 1, h, hh => by
    obtain ⟨h1, h2⟩ := hh b (by simp)
    have := errG_drop (f := f) (l := l) (i := i) (by simpa using h) (fun c hc => hh c (by simp [hc]))
    show (if validB b = true then (if f b = true then errG f l else 32) else 5) = errG f (l.drop i)
    rw [if_pos h1, if_pos h2, this]
theorem errG_at {f : Bid → Bool} {l : List Bid} {i : Nat} (hi : i < l.length) (hh : ∀ b, b ∈ l.take i → validB b = true ∧ f b = true) : errG f l = if validB l[i] = true then (if f l[i] = true then errG f (l.drop (i + 1)) else 32) else 5 := by
  rw [errG_drop (Nat.le_of_lt hi) hh, List.drop_eq_getElem_cons hi]; rfl
theorem filter_get {α : Type} {p : α → Bool} {l : List α} {i : Nat} (hi : i < l.length) (hp : p l[i] = true) : (l.filter p)[((l.take i).filter p).length]? = some l[i] := by
  have h := List.take_append_drop i l
  have h2 : l.filter p = (l.take i).filter p ++ (l.drop i).filter p := by rw [← List.filter_append, h]
  rw [h2, List.getElem?_append_right (Nat.le_refl _), Nat.sub_self, List.drop_eq_getElem_cons hi, List.filter_cons, if_pos hp]; rfl
theorem filter_take_yes {α : Type} {p : α → Bool} {l : List α} {i : Nat} (hi : i < l.length) (hp : p l[i] = true) : ((l.take (i + 1)).filter p) = ((l.take i).filter p) ++ [l[i]] := by
  rw [take_succ_get hi, List.filter_append, List.filter_cons, if_pos hp]; rfl
theorem filter_take_no {α : Type} {p : α → Bool} {l : List α} {i : Nat} (hi : i < l.length) (hp : p l[i] = false) : ((l.take (i + 1)).filter p) = ((l.take i).filter p) := by
  rw [take_succ_get hi, List.filter_append, List.filter_cons, if_neg (by rw [hp]; decide)]; simp
theorem next_first {t : List Win} {k a b tick : Int} {i : Nat} {w : Win} (h : (t.filter (keyB k a b))[i]? = some w) (hp : ∀ y, y ∈ (t.filter (keyB k a b)).take i → ¬ y.til > tick) (hw : w.til > tick) : nextF t k a b tick = (w, true) := by
  obtain ⟨hi, he⟩ := List.getElem?_eq_some_iff.1 h
  have hf : (t.filter (keyB k a b)).find? (fun w => decide (w.til > tick)) = some w := by
    rw [List.find?_eq_some_iff_getElem]
    refine ⟨decide_eq_true hw, i, hi, he, fun j hj => ?_⟩
    have := hp ((t.filter (keyB k a b))[j]'(by omega)) (List.mem_take_iff_getElem.2 ⟨j, by omega, rfl⟩)
    simpa using this
  unfold nextF; rw [hf]
theorem next_never {t : List Win} {k a b tick : Int} (hp : ∀ y, y ∈ t.filter (keyB k a b) → ¬ y.til > tick) : nextF t k a b tick = (zw, false) := by
  have hf : (t.filter (keyB k a b)).find? (fun w => decide (w.til > tick)) = none := by
    rw [List.find?_eq_none]
    intro y hy; have := hp y hy; simpa using this
  unfold nextF; rw [hf]
end Go.Tv.C37p

end
section
open Go Go.Tv Go.Tv.C37 Go.Proofs
namespace Go.Tv.C37p
set_option maxRecDepth 20000
set_option maxHeartbeats 2000000
set_option linter.unusedSimpArgs false
set_option linter.unusedVariables false
theorem of_iter (t : List Win) (kd a b : Int) (ht : t.length ≤ 100000) : Iter Tryz.prog 105 [.ptr [.sl (t.map encW) false], .ptr [encI kd], .ptr [encI a], .ptr [encI b]] ((t.filter (keyB kd a b)).map encW) := by
  refine iter_of_awj Tryz.func105 rfl (Nat.le_of_ble_eq_true rfl) rfl ?_
  intro γ X hds At Stop yl hy g0 hAt
  refine awj_seq ?_
  refine awj_rj rfl ?_
  refine RJ.op rfl rfl (eff_loadT1 rfl rfl ti49 rfl rfl) ?_
  refine RJ.op rfl rfl (eff_lenM rfl rfl te49 rfl) ?_
  refine RJ.op rfl rfl (eff_move (v := .t _) rfl rfl rfl) ?_
  refine RJ.nil ?_
  refine awj_block ?_
  refine awj_loopW (fun m s g => ∃ (i : Nat), (i ≤ t.length) ∧ (At ((t.take i).filter (keyB kd a b)).length g) ∧ m = t.length - i ∧ s = ⟨37, [(0, .t (.yld yl)), (1, .t (.ptr [.sl (t.map encW) false])), (2, .t (.ptr [encI kd])), (3, .t (.ptr [encI a])), (4, .t (.ptr [encI b])), (8, .t (.sl (t.map encW) false)), (9, .t (encI t.length)), (10, .t (encI (i : Nat)))], []⟩) (_) (⟨_, weak_keep (n := 37) (fr' := [(0, .t (.yld yl)), (1, .t (.ptr [.sl (t.map encW) false])), (2, .t (.ptr [encI kd])), (3, .t (.ptr [encI a])), (4, .t (.ptr [encI b])), (8, .t (.sl (t.map encW) false)), (9, .t (encI t.length)), (10, .t (encI (0 : Nat)))]) (st' := []) ⟨rfl, rfl, rfl, rfl, rfl, rfl, rfl, rfl, rfl, rfl, rfl, rfl, rfl, rfl, rfl, rfl, trivial⟩ trivial, 0, (by omega), (by exact hAt), rfl, rfl⟩) ?_
  rintro m s g ⟨i, hi, hA, rfl, rfl⟩
  refine awj_seq ?_
  refine awj_rj rfl ?_
  refine RJ.op rfl rfl (eff_iop rfl rfl rfl rfl rfl) ?_
  refine RJ.nil ?_
  refine awj_seq ?_
  refine awj_cond rfl (fun h1 => ?_) (fun h1 => ?_)
  · try simp only [cl] at h1
    refine awj_skip ?_
    refine awj_seq ?_
    refine awj_block ?_
    refine awj_seq ?_
    refine awj_rj rfl ?_
    have hil : i < t.length := by omega
    refine RJ.op rfl rfl (eff_indexAddrT (i := i) rfl rfl te49 rfl rfl (by first | rfl | omega) (by rw [List.getElem?_map, List.getElem?_eq_getElem hil]; rfl) rfl (by decide)) ?_
    refine RJ.op rfl rfl (eff_loadW rfl rfl ti48 rfl rfl rfl) ?_
    refine RJ.new rfl rfl (eff_allocK (k := 6) (id := 7) rfl rfl tz48 rfl rfl) ?_
    refine RJ.store rfl rfl (eff_storeW (v := .t _) (els := [_]) (els' := [_]) rfl rfl ti48 rfl rfl rfl rfl rfl rfl rfl rfl rfl) ?_
    refine RJ.nil ?_
    refine awj_seq ?_
    refine awj_rj rfl ?_
    refine RJ.op rfl rfl (eff_fieldAddr rfl rfl tf48_0 (by decide) rfl rfl rfl (Nat.le_of_ble_eq_true rfl)) ?_
    refine RJ.op rfl rfl (eff_load (y := .t _) rfl rfl ti3 rfl (.one rfl rfl rfl rfl)) ?_
    refine RJ.op rfl rfl (eff_loadT1 rfl rfl ti3 rfl rfl) ?_
    refine RJ.op rfl rfl (eff_iop rfl rfl rfl rfl rfl) ?_
    refine RJ.op rfl rfl (eff_move (v := .t _) rfl rfl rfl) ?_
    refine RJ.split 18 rfl (fun h2 => ?_) (fun h2 => ?_)
    · try simp only [cl] at h2
      refine RJ.gop rfl rfl rfl rfl rfl rfl (eff_fieldAddr rfl rfl tf48_1 (by decide) rfl rfl rfl (Nat.le_of_ble_eq_true rfl)) ?_
      refine RJ.gop rfl rfl rfl rfl rfl rfl (eff_load (y := .t _) rfl rfl ti3 rfl (.one rfl rfl rfl rfl)) ?_
      refine RJ.gop rfl rfl rfl rfl rfl rfl (eff_loadT1 rfl rfl ti3 rfl rfl) ?_
      refine RJ.gop rfl rfl rfl rfl rfl rfl (eff_iop rfl rfl rfl rfl rfl) ?_
      refine RJ.op rfl rfl (eff_pick (v := .t _) rfl rfl rfl rfl) ?_
      refine RJ.op rfl rfl (eff_move (v := .t _) rfl rfl rfl) ?_
      refine RJ.split 24 rfl (fun h3 => ?_) (fun h3 => ?_)
      · try simp only [cl] at h3
        refine RJ.gop rfl rfl rfl rfl rfl rfl (eff_fieldAddr rfl rfl tf48_2 (by decide) rfl rfl rfl (Nat.le_of_ble_eq_true rfl)) ?_
        refine RJ.gop rfl rfl rfl rfl rfl rfl (eff_load (y := .t _) rfl rfl ti3 rfl (.one rfl rfl rfl rfl)) ?_
        refine RJ.gop rfl rfl rfl rfl rfl rfl (eff_loadT1 rfl rfl ti3 rfl rfl) ?_
        refine RJ.gop rfl rfl rfl rfl rfl rfl (eff_iop rfl rfl rfl rfl rfl) ?_
        refine RJ.op rfl rfl (eff_pick (v := .t _) rfl rfl rfl rfl) ?_
        refine RJ.op rfl rfl (eff_move (v := .t _) rfl rfl rfl) ?_
        refine RJ.split 30 rfl (fun h4 => ?_) (fun h4 => ?_)
        · try simp only [cl] at h4
          refine RJ.gop rfl rfl rfl rfl rfl rfl (eff_move (v := .t _) rfl rfl rfl) ?_
          refine RJ.gop rfl rfl rfl rfl rfl rfl (eff_load rfl rfl ti48 rfl (.whole rfl rfl rfl rfl rfl rfl)) ?_
          have hpos : ((t.filter (keyB kd a b)).map encW)[((t.take i).filter (keyB kd a b)).length]? = some (encW (t[i]'hil)) := by
            rw [List.getElem?_map, filter_get hil (by unfold keyB; exact decide_eq_true ⟨by omega, by omega, by omega⟩)]; rfl
          refine RJ.many (.inr ⟨_, _, _, _, _, rfl, rfl, rfl, rfl, rfl⟩) (eff_yield rfl rfl rfl rfl hds (hy _ _ _ hpos hA)) ?_
          rintro e g2 ⟨yb, rfl, hyb⟩
          show RJ _ _ _ _ _ ⟨_, (33, .t (.bool yb)) :: _, _⟩ _ _
          refine RJ.gop rfl rfl rfl rfl rfl rfl (eff_unop rfl rfl rfl rfl) ?_
          refine RJ.op rfl rfl (eff_pick (v := .t _) rfl rfl rfl rfl) ?_
          refine RJ.nil ?_
          refine awj_cond rfl (fun h5 => ?_) (fun h5 => ?_)
          · try simp only [cl] at h5
            refine awj_ret ?_
            rcases hyb with ⟨h, _⟩ | ⟨_, h⟩
            · exact absurd (h.symm.trans (by assumption : yb = false)) (by decide)
            · exact ⟨Or.inr rfl, Or.inr h⟩
          · try simp only [cl] at h5
            refine awj_skip ?_
            refine awj_rj rfl ?_
            refine RJ.op rfl rfl (eff_iop rfl rfl rfl rfl (iadd (by omega))) ?_
            refine RJ.op rfl rfl (eff_move (v := .t _) rfl rfl rfl) ?_
            refine RJ.nil ?_
            refine ⟨_, ?_, _, weak_keep (n := 37) (fr' := [(0, .t (.yld yl)), (1, .t (.ptr [.sl (t.map encW) false])), (2, .t (.ptr [encI kd])), (3, .t (.ptr [encI a])), (4, .t (.ptr [encI b])), (8, .t (.sl (t.map encW) false)), (9, .t (encI t.length)), (10, .t (encI ((i + 1) : Nat)))]) (st' := []) ⟨rfl, rfl, rfl, rfl, rfl, rfl, rfl, rfl, rfl, rfl, rfl, rfl, rfl, rfl, rfl, rfl, trivial⟩ trivial, i + 1, (by omega), (by first | (rw [filter_take_no hil (by unfold keyB; exact decide_eq_false (by omega))]; exact hA) | (rw [filter_take_yes hil (by unfold keyB; exact decide_eq_true ⟨by omega, by omega, by omega⟩), List.length_append]; rcases hyb with ⟨_, h⟩ | ⟨h, _⟩ <;> first | exact h | exact absurd (h.symm.trans (by assumption : yb = true)) (by decide))), rfl, rfl⟩
            omega
        · try simp only [cl] at h4
          refine RJ.gskip rfl rfl rfl rfl rfl (by decide) ?_
          refine RJ.gskip rfl rfl rfl rfl rfl (by decide) ?_
          refine RJ.gskip rfl rfl rfl rfl rfl (by decide) ?_
          refine RJ.gskip rfl rfl rfl rfl rfl (by decide) ?_
          refine RJ.op rfl rfl (eff_pick (v := .t _) rfl rfl rfl rfl) ?_
          refine RJ.nil ?_
          refine awj_cond rfl (fun h => nomatch h) (fun _ => ?_)
          refine awj_skip ?_
          refine awj_rj rfl ?_
          refine RJ.op rfl rfl (eff_iop rfl rfl rfl rfl (iadd (by omega))) ?_
          refine RJ.op rfl rfl (eff_move (v := .t _) rfl rfl rfl) ?_
          refine RJ.nil ?_
          refine ⟨_, ?_, _, weak_keep (n := 37) (fr' := [(0, .t (.yld yl)), (1, .t (.ptr [.sl (t.map encW) false])), (2, .t (.ptr [encI kd])), (3, .t (.ptr [encI a])), (4, .t (.ptr [encI b])), (8, .t (.sl (t.map encW) false)), (9, .t (encI t.length)), (10, .t (encI ((i + 1) : Nat)))]) (st' := []) ⟨rfl, rfl, rfl, rfl, rfl, rfl, rfl, rfl, rfl, rfl, rfl, rfl, rfl, rfl, rfl, rfl, trivial⟩ trivial, i + 1, (by omega), (by first | (rw [filter_take_no hil (by unfold keyB; exact decide_eq_false (by omega))]; exact hA) | (rw [filter_take_yes hil (by unfold keyB; exact decide_eq_true ⟨by omega, by omega, by omega⟩), List.length_append]; rcases hyb with ⟨_, h⟩ | ⟨h, _⟩ <;> first | exact h | exact absurd (h.symm.trans (by assumption : yb = true)) (by decide))), rfl, rfl⟩
          omega
      · try simp only [cl] at h3
        refine RJ.gskip rfl rfl rfl rfl rfl (by decide) ?_
        refine RJ.gskip rfl rfl rfl rfl rfl (by decide) ?_
        refine RJ.gskip rfl rfl rfl rfl rfl (by decide) ?_
        refine RJ.gskip rfl rfl rfl rfl rfl (by decide) ?_
        refine RJ.op rfl rfl (eff_pick (v := .t _) rfl rfl rfl rfl) ?_
        refine RJ.op rfl rfl (eff_move (v := .t _) rfl rfl rfl) ?_
        refine RJ.gskip rfl rfl rfl rfl rfl (by decide) ?_
        refine RJ.gskip rfl rfl rfl rfl rfl (by decide) ?_
        refine RJ.gskip rfl rfl rfl rfl rfl (by decide) ?_
        refine RJ.gskip rfl rfl rfl rfl rfl (by decide) ?_
        refine RJ.op rfl rfl (eff_pick (v := .t _) rfl rfl rfl rfl) ?_
        refine RJ.nil ?_
        refine awj_cond rfl (fun h => nomatch h) (fun _ => ?_)
        refine awj_skip ?_
        refine awj_rj rfl ?_
        refine RJ.op rfl rfl (eff_iop rfl rfl rfl rfl (iadd (by omega))) ?_
        refine RJ.op rfl rfl (eff_move (v := .t _) rfl rfl rfl) ?_
        refine RJ.nil ?_
        refine ⟨_, ?_, _, weak_keep (n := 37) (fr' := [(0, .t (.yld yl)), (1, .t (.ptr [.sl (t.map encW) false])), (2, .t (.ptr [encI kd])), (3, .t (.ptr [encI a])), (4, .t (.ptr [encI b])), (8, .t (.sl (t.map encW) false)), (9, .t (encI t.length)), (10, .t (encI ((i + 1) : Nat)))]) (st' := []) ⟨rfl, rfl, rfl, rfl, rfl, rfl, rfl, rfl, rfl, rfl, rfl, rfl, rfl, rfl, rfl, rfl, trivial⟩ trivial, i + 1, (by omega), (by first | (rw [filter_take_no hil (by unfold keyB; exact decide_eq_false (by omega))]; exact hA) | (rw [filter_take_yes hil (by unfold keyB; exact decide_eq_true ⟨by omega, by omega, by omega⟩), List.length_append]; rcases hyb with ⟨_, h⟩ | ⟨h, _⟩ <;> first | exact h | exact absurd (h.symm.trans (by assumption : yb = true)) (by decide))), rfl, rfl⟩
        omega
    · try simp only [cl] at h2
      refine RJ.gskip rfl rfl rfl rfl rfl (by decide) ?_
      refine RJ.gskip rfl rfl rfl rfl rfl (by decide) ?_
      refine RJ.gskip rfl rfl rfl rfl rfl (by decide) ?_
      refine RJ.gskip rfl rfl rfl rfl rfl (by decide) ?_
      refine RJ.op rfl rfl (eff_pick (v := .t _) rfl rfl rfl rfl) ?_
      refine RJ.op rfl rfl (eff_move (v := .t _) rfl rfl rfl) ?_
      refine RJ.gskip rfl rfl rfl rfl rfl (by decide) ?_
      refine RJ.gskip rfl rfl rfl rfl rfl (by decide) ?_
      refine RJ.gskip rfl rfl rfl rfl rfl (by decide) ?_
      refine RJ.gskip rfl rfl rfl rfl rfl (by decide) ?_
      refine RJ.op rfl rfl (eff_pick (v := .t _) rfl rfl rfl rfl) ?_
      refine RJ.op rfl rfl (eff_move (v := .t _) rfl rfl rfl) ?_
      refine RJ.gskip rfl rfl rfl rfl rfl (by decide) ?_
      refine RJ.gskip rfl rfl rfl rfl rfl (by decide) ?_
      refine RJ.gskip rfl rfl rfl rfl rfl (by decide) ?_
      refine RJ.gskip rfl rfl rfl rfl rfl (by decide) ?_
      refine RJ.op rfl rfl (eff_pick (v := .t _) rfl rfl rfl rfl) ?_
      refine RJ.nil ?_
      refine awj_cond rfl (fun h => nomatch h) (fun _ => ?_)
      refine awj_skip ?_
      refine awj_rj rfl ?_
      refine RJ.op rfl rfl (eff_iop rfl rfl rfl rfl (iadd (by omega))) ?_
      refine RJ.op rfl rfl (eff_move (v := .t _) rfl rfl rfl) ?_
      refine RJ.nil ?_
      refine ⟨_, ?_, _, weak_keep (n := 37) (fr' := [(0, .t (.yld yl)), (1, .t (.ptr [.sl (t.map encW) false])), (2, .t (.ptr [encI kd])), (3, .t (.ptr [encI a])), (4, .t (.ptr [encI b])), (8, .t (.sl (t.map encW) false)), (9, .t (encI t.length)), (10, .t (encI ((i + 1) : Nat)))]) (st' := []) ⟨rfl, rfl, rfl, rfl, rfl, rfl, rfl, rfl, rfl, rfl, rfl, rfl, rfl, rfl, rfl, rfl, trivial⟩ trivial, i + 1, (by omega), (by first | (rw [filter_take_no hil (by unfold keyB; exact decide_eq_false (by omega))]; exact hA) | (rw [filter_take_yes hil (by unfold keyB; exact decide_eq_true ⟨by omega, by omega, by omega⟩), List.length_append]; rcases hyb with ⟨_, h⟩ | ⟨h, _⟩ <;> first | exact h | exact absurd (h.symm.trans (by assumption : yb = true)) (by decide))), rfl, rfl⟩
      omega
  · try simp only [cl] at h1
    refine awj_exit ?_
    have hi2 : i = t.length := by omega
    subst hi2
    rw [List.take_length] at hA
    exact ⟨Or.inl rfl, Or.inl (by rw [List.length_map]; exact hA)⟩

theorem contacts_iter (t : List Win) (craft tick : Int) (ht : t.length ≤ 100000) : Iter Tryz.prog 53 [.ptr [.sl (t.map encW) false], .ptr [encI craft], .ptr [encI tick]] ((t.filter (passB craft tick)).map encW) := by
  refine iter_of_awj Tryz.func53 rfl (Nat.le_of_ble_eq_true rfl) rfl ?_
  intro γ X hds At Stop yl hy g0 hAt
  refine awj_seq ?_
  refine awj_rj rfl ?_
  refine RJ.op rfl rfl (eff_loadT1 rfl rfl ti49 rfl rfl) ?_
  refine RJ.op rfl rfl (eff_lenM rfl rfl te49 rfl) ?_
  refine RJ.op rfl rfl (eff_move (v := .t _) rfl rfl rfl) ?_
  refine RJ.nil ?_
  refine awj_block ?_
  refine awj_loopW (fun m s g => ∃ (i : Nat), (i ≤ t.length) ∧ (At ((t.take i).filter (passB craft tick)).length g) ∧ m = t.length - i ∧ s = ⟨35, [(0, .t (.yld yl)), (1, .t (.ptr [.sl (t.map encW) false])), (2, .t (.ptr [encI craft])), (3, .t (.ptr [encI tick])), (7, .t (.sl (t.map encW) false)), (8, .t (encI t.length)), (9, .t (encI (i : Nat)))], []⟩) (_) (⟨_, weak_keep (n := 35) (fr' := [(0, .t (.yld yl)), (1, .t (.ptr [.sl (t.map encW) false])), (2, .t (.ptr [encI craft])), (3, .t (.ptr [encI tick])), (7, .t (.sl (t.map encW) false)), (8, .t (encI t.length)), (9, .t (encI (0 : Nat)))]) (st' := []) ⟨rfl, rfl, rfl, rfl, rfl, rfl, rfl, rfl, rfl, rfl, rfl, rfl, rfl, rfl, trivial⟩ trivial, 0, (by omega), (by exact hAt), rfl, rfl⟩) ?_
  rintro m s g ⟨i, hi, hA, rfl, rfl⟩
  refine awj_seq ?_
  refine awj_rj rfl ?_
  refine RJ.op rfl rfl (eff_iop rfl rfl rfl rfl rfl) ?_
  refine RJ.nil ?_
  refine awj_seq ?_
  refine awj_cond rfl (fun h1 => ?_) (fun h1 => ?_)
  · try simp only [cl] at h1
    refine awj_skip ?_
    refine awj_seq ?_
    refine awj_block ?_
    refine awj_seq ?_
    refine awj_rj rfl ?_
    have hil : i < t.length := by omega
    refine RJ.op rfl rfl (eff_indexAddrT (i := i) rfl rfl te49 rfl rfl (by first | rfl | omega) (by rw [List.getElem?_map, List.getElem?_eq_getElem hil]; rfl) rfl (by decide)) ?_
    refine RJ.op rfl rfl (eff_loadW rfl rfl ti48 rfl rfl rfl) ?_
    refine RJ.new rfl rfl (eff_allocK (k := 6) (id := 6) rfl rfl tz48 rfl rfl) ?_
    refine RJ.store rfl rfl (eff_storeW (v := .t _) (els := [_]) (els' := [_]) rfl rfl ti48 rfl rfl rfl rfl rfl rfl rfl rfl rfl) ?_
    refine RJ.nil ?_
    refine awj_seq ?_
    refine awj_rj rfl ?_
    refine RJ.op rfl rfl (eff_fieldAddr rfl rfl tf48_0 (by decide) rfl rfl rfl (Nat.le_of_ble_eq_true rfl)) ?_
    refine RJ.op rfl rfl (eff_load (y := .t _) rfl rfl ti3 rfl (.one rfl rfl rfl rfl)) ?_
    refine RJ.op rfl rfl (eff_iop rfl rfl rfl rfl rfl) ?_
    refine RJ.op rfl rfl (eff_move (v := .t _) rfl rfl rfl) ?_
    refine RJ.split 16 rfl (fun h2 => ?_) (fun h2 => ?_)
    · try simp only [cl] at h2
      refine RJ.gop rfl rfl rfl rfl rfl rfl (eff_fieldAddr rfl rfl tf48_1 (by decide) rfl rfl rfl (Nat.le_of_ble_eq_true rfl)) ?_
      refine RJ.gop rfl rfl rfl rfl rfl rfl (eff_load (y := .t _) rfl rfl ti3 rfl (.one rfl rfl rfl rfl)) ?_
      refine RJ.gop rfl rfl rfl rfl rfl rfl (eff_loadT1 rfl rfl ti3 rfl rfl) ?_
      refine RJ.gop rfl rfl rfl rfl rfl rfl (eff_iop rfl rfl rfl rfl rfl) ?_
      refine RJ.op rfl rfl (eff_pick (v := .t _) rfl rfl rfl rfl) ?_
      refine RJ.op rfl rfl (eff_move (v := .t _) rfl rfl rfl) ?_
      refine RJ.split 22 rfl (fun h3 => ?_) (fun h3 => ?_)
      · try simp only [cl] at h3
        refine RJ.gop rfl rfl rfl rfl rfl rfl (eff_fieldAddr rfl rfl tf48_4 (by decide) rfl rfl rfl (Nat.le_of_ble_eq_true rfl)) ?_
        refine RJ.gop rfl rfl rfl rfl rfl rfl (eff_load (y := .t _) rfl rfl ti3 rfl (.one rfl rfl rfl rfl)) ?_
        refine RJ.gop rfl rfl rfl rfl rfl rfl (eff_loadT1 rfl rfl ti3 rfl rfl) ?_
        refine RJ.gop rfl rfl rfl rfl rfl rfl (eff_iop rfl rfl rfl rfl rfl) ?_
        refine RJ.op rfl rfl (eff_pick (v := .t _) rfl rfl rfl rfl) ?_
        refine RJ.op rfl rfl (eff_move (v := .t _) rfl rfl rfl) ?_
        refine RJ.split 28 rfl (fun h4 => ?_) (fun h4 => ?_)
        · try simp only [cl] at h4
          refine RJ.gop rfl rfl rfl rfl rfl rfl (eff_move (v := .t _) rfl rfl rfl) ?_
          refine RJ.gop rfl rfl rfl rfl rfl rfl (eff_load rfl rfl ti48 rfl (.whole rfl rfl rfl rfl rfl rfl)) ?_
          have hpos : ((t.filter (passB craft tick)).map encW)[((t.take i).filter (passB craft tick)).length]? = some (encW (t[i]'hil)) := by
            rw [List.getElem?_map, filter_get hil (by unfold passB; exact decide_eq_true ⟨by omega, by omega, by omega⟩)]; rfl
          refine RJ.many (.inr ⟨_, _, _, _, _, rfl, rfl, rfl, rfl, rfl⟩) (eff_yield rfl rfl rfl rfl hds (hy _ _ _ hpos hA)) ?_
          rintro e g2 ⟨yb, rfl, hyb⟩
          show RJ _ _ _ _ _ ⟨_, (31, .t (.bool yb)) :: _, _⟩ _ _
          refine RJ.gop rfl rfl rfl rfl rfl rfl (eff_unop rfl rfl rfl rfl) ?_
          refine RJ.op rfl rfl (eff_pick (v := .t _) rfl rfl rfl rfl) ?_
          refine RJ.nil ?_
          refine awj_cond rfl (fun h5 => ?_) (fun h5 => ?_)
          · try simp only [cl] at h5
            refine awj_ret ?_
            rcases hyb with ⟨h, _⟩ | ⟨_, h⟩
            · exact absurd (h.symm.trans (by assumption : yb = false)) (by decide)
            · exact ⟨Or.inr rfl, Or.inr h⟩
          · try simp only [cl] at h5
            refine awj_skip ?_
            refine awj_rj rfl ?_
            refine RJ.op rfl rfl (eff_iop rfl rfl rfl rfl (iadd (by omega))) ?_
            refine RJ.op rfl rfl (eff_move (v := .t _) rfl rfl rfl) ?_
            refine RJ.nil ?_
            refine ⟨_, ?_, _, weak_keep (n := 35) (fr' := [(0, .t (.yld yl)), (1, .t (.ptr [.sl (t.map encW) false])), (2, .t (.ptr [encI craft])), (3, .t (.ptr [encI tick])), (7, .t (.sl (t.map encW) false)), (8, .t (encI t.length)), (9, .t (encI ((i + 1) : Nat)))]) (st' := []) ⟨rfl, rfl, rfl, rfl, rfl, rfl, rfl, rfl, rfl, rfl, rfl, rfl, rfl, rfl, trivial⟩ trivial, i + 1, (by omega), (by first | (rw [filter_take_no hil (by unfold passB; exact decide_eq_false (by omega))]; exact hA) | (rw [filter_take_yes hil (by unfold passB; exact decide_eq_true ⟨by omega, by omega, by omega⟩), List.length_append]; rcases hyb with ⟨_, h⟩ | ⟨h, _⟩ <;> first | exact h | exact absurd (h.symm.trans (by assumption : yb = true)) (by decide))), rfl, rfl⟩
            omega
        · try simp only [cl] at h4
          refine RJ.gskip rfl rfl rfl rfl rfl (by decide) ?_
          refine RJ.gskip rfl rfl rfl rfl rfl (by decide) ?_
          refine RJ.gskip rfl rfl rfl rfl rfl (by decide) ?_
          refine RJ.gskip rfl rfl rfl rfl rfl (by decide) ?_
          refine RJ.op rfl rfl (eff_pick (v := .t _) rfl rfl rfl rfl) ?_
          refine RJ.nil ?_
          refine awj_cond rfl (fun h => nomatch h) (fun _ => ?_)
          refine awj_skip ?_
          refine awj_rj rfl ?_
          refine RJ.op rfl rfl (eff_iop rfl rfl rfl rfl (iadd (by omega))) ?_
          refine RJ.op rfl rfl (eff_move (v := .t _) rfl rfl rfl) ?_
          refine RJ.nil ?_
          refine ⟨_, ?_, _, weak_keep (n := 35) (fr' := [(0, .t (.yld yl)), (1, .t (.ptr [.sl (t.map encW) false])), (2, .t (.ptr [encI craft])), (3, .t (.ptr [encI tick])), (7, .t (.sl (t.map encW) false)), (8, .t (encI t.length)), (9, .t (encI ((i + 1) : Nat)))]) (st' := []) ⟨rfl, rfl, rfl, rfl, rfl, rfl, rfl, rfl, rfl, rfl, rfl, rfl, rfl, rfl, trivial⟩ trivial, i + 1, (by omega), (by first | (rw [filter_take_no hil (by unfold passB; exact decide_eq_false (by omega))]; exact hA) | (rw [filter_take_yes hil (by unfold passB; exact decide_eq_true ⟨by omega, by omega, by omega⟩), List.length_append]; rcases hyb with ⟨_, h⟩ | ⟨h, _⟩ <;> first | exact h | exact absurd (h.symm.trans (by assumption : yb = true)) (by decide))), rfl, rfl⟩
          omega
      · try simp only [cl] at h3
        refine RJ.gskip rfl rfl rfl rfl rfl (by decide) ?_
        refine RJ.gskip rfl rfl rfl rfl rfl (by decide) ?_
        refine RJ.gskip rfl rfl rfl rfl rfl (by decide) ?_
        refine RJ.gskip rfl rfl rfl rfl rfl (by decide) ?_
        refine RJ.op rfl rfl (eff_pick (v := .t _) rfl rfl rfl rfl) ?_
        refine RJ.op rfl rfl (eff_move (v := .t _) rfl rfl rfl) ?_
        refine RJ.gskip rfl rfl rfl rfl rfl (by decide) ?_
        refine RJ.gskip rfl rfl rfl rfl rfl (by decide) ?_
        refine RJ.gskip rfl rfl rfl rfl rfl (by decide) ?_
        refine RJ.gskip rfl rfl rfl rfl rfl (by decide) ?_
        refine RJ.op rfl rfl (eff_pick (v := .t _) rfl rfl rfl rfl) ?_
        refine RJ.nil ?_
        refine awj_cond rfl (fun h => nomatch h) (fun _ => ?_)
        refine awj_skip ?_
        refine awj_rj rfl ?_
        refine RJ.op rfl rfl (eff_iop rfl rfl rfl rfl (iadd (by omega))) ?_
        refine RJ.op rfl rfl (eff_move (v := .t _) rfl rfl rfl) ?_
        refine RJ.nil ?_
        refine ⟨_, ?_, _, weak_keep (n := 35) (fr' := [(0, .t (.yld yl)), (1, .t (.ptr [.sl (t.map encW) false])), (2, .t (.ptr [encI craft])), (3, .t (.ptr [encI tick])), (7, .t (.sl (t.map encW) false)), (8, .t (encI t.length)), (9, .t (encI ((i + 1) : Nat)))]) (st' := []) ⟨rfl, rfl, rfl, rfl, rfl, rfl, rfl, rfl, rfl, rfl, rfl, rfl, rfl, rfl, trivial⟩ trivial, i + 1, (by omega), (by first | (rw [filter_take_no hil (by unfold passB; exact decide_eq_false (by omega))]; exact hA) | (rw [filter_take_yes hil (by unfold passB; exact decide_eq_true ⟨by omega, by omega, by omega⟩), List.length_append]; rcases hyb with ⟨_, h⟩ | ⟨h, _⟩ <;> first | exact h | exact absurd (h.symm.trans (by assumption : yb = true)) (by decide))), rfl, rfl⟩
        omega
    · try simp only [cl] at h2
      refine RJ.gskip rfl rfl rfl rfl rfl (by decide) ?_
      refine RJ.gskip rfl rfl rfl rfl rfl (by decide) ?_
      refine RJ.gskip rfl rfl rfl rfl rfl (by decide) ?_
      refine RJ.gskip rfl rfl rfl rfl rfl (by decide) ?_
      refine RJ.op rfl rfl (eff_pick (v := .t _) rfl rfl rfl rfl) ?_
      refine RJ.op rfl rfl (eff_move (v := .t _) rfl rfl rfl) ?_
      refine RJ.gskip rfl rfl rfl rfl rfl (by decide) ?_
      refine RJ.gskip rfl rfl rfl rfl rfl (by decide) ?_
      refine RJ.gskip rfl rfl rfl rfl rfl (by decide) ?_
      refine RJ.gskip rfl rfl rfl rfl rfl (by decide) ?_
      refine RJ.op rfl rfl (eff_pick (v := .t _) rfl rfl rfl rfl) ?_
      refine RJ.op rfl rfl (eff_move (v := .t _) rfl rfl rfl) ?_
      refine RJ.gskip rfl rfl rfl rfl rfl (by decide) ?_
      refine RJ.gskip rfl rfl rfl rfl rfl (by decide) ?_
      refine RJ.gskip rfl rfl rfl rfl rfl (by decide) ?_
      refine RJ.gskip rfl rfl rfl rfl rfl (by decide) ?_
      refine RJ.op rfl rfl (eff_pick (v := .t _) rfl rfl rfl rfl) ?_
      refine RJ.nil ?_
      refine awj_cond rfl (fun h => nomatch h) (fun _ => ?_)
      refine awj_skip ?_
      refine awj_rj rfl ?_
      refine RJ.op rfl rfl (eff_iop rfl rfl rfl rfl (iadd (by omega))) ?_
      refine RJ.op rfl rfl (eff_move (v := .t _) rfl rfl rfl) ?_
      refine RJ.nil ?_
      refine ⟨_, ?_, _, weak_keep (n := 35) (fr' := [(0, .t (.yld yl)), (1, .t (.ptr [.sl (t.map encW) false])), (2, .t (.ptr [encI craft])), (3, .t (.ptr [encI tick])), (7, .t (.sl (t.map encW) false)), (8, .t (encI t.length)), (9, .t (encI ((i + 1) : Nat)))]) (st' := []) ⟨rfl, rfl, rfl, rfl, rfl, rfl, rfl, rfl, rfl, rfl, rfl, rfl, rfl, rfl, trivial⟩ trivial, i + 1, (by omega), (by first | (rw [filter_take_no hil (by unfold passB; exact decide_eq_false (by omega))]; exact hA) | (rw [filter_take_yes hil (by unfold passB; exact decide_eq_true ⟨by omega, by omega, by omega⟩), List.length_append]; rcases hyb with ⟨_, h⟩ | ⟨h, _⟩ <;> first | exact h | exact absurd (h.symm.trans (by assumption : yb = true)) (by decide))), rfl, rfl⟩
      omega
  · try simp only [cl] at h1
    refine awj_exit ?_
    have hi2 : i = t.length := by omega
    subst hi2
    rw [List.take_length] at hA
    exact ⟨Or.inl rfl, Or.inl (by rw [List.length_map]; exact hA)⟩

theorem of_ret (t : List Win) (kd a b : Int) : Ret Tryz.prog 87 [.sl (t.map encW) false, encI kd, encI a, encI b] (.fn 105 [.ptr [.sl (t.map encW) false], .ptr [encI kd], .ptr [encI a], .ptr [encI b]]) := by
  refine ret_of_awp Tryz.func87 rfl (Nat.le_of_ble_eq_true rfl) ?_
  refine awp_seq ?_
  refine awp_rw rfl ?_
  refine RW.new rfl rfl (eff_boxK (v := .t _) (k := 1) (id := 4) rfl rfl rfl rfl rfl rfl) ?_
  refine RW.new rfl rfl (eff_boxK (v := .t _) (k := 1) (id := 5) rfl rfl rfl rfl rfl rfl) ?_
  refine RW.new rfl rfl (eff_boxK (v := .t _) (k := 1) (id := 6) rfl rfl rfl rfl rfl rfl) ?_
  refine RW.new rfl rfl (eff_boxK (v := .t _) (k := 1) (id := 7) rfl rfl rfl rfl rfl rfl) ?_
  refine asT ?_
  refine RW.nil ?_
  refine awp_seq ?_
  refine awp_rw rfl ?_
  refine RW.op rfl rfl (eff_makeFunc rfl rfl rfl rfl) ?_
  refine RW.op rfl rfl (eff_assign (v := .fn _ _) rfl rfl rfl) ?_
  refine RW.nil ?_
  refine awp_ret ?_
  exact ⟨Or.inr rfl, [_], ⟨.tmp (Res.fnP (xs := [.ptr [.sl (t.map encW) false], .ptr [encI kd], .ptr [encI a], .ptr [encI b]]) ⟨Res.ptrT (x := .sl (t.map encW) false) rfl rfl rfl, Res.ptrT (x := encI kd) rfl rfl rfl, Res.ptrT (x := encI a) rfl rfl rfl, Res.ptrT (x := encI b) rfl rfl rfl, trivial⟩), trivial⟩, .refl _⟩

theorem contacts_ret (t : List Win) (craft tick : Int) : Ret Tryz.prog 28 [.sl (t.map encW) false, encI craft, encI tick] (.fn 53 [.ptr [.sl (t.map encW) false], .ptr [encI craft], .ptr [encI tick]]) := by
  refine ret_of_awp Tryz.func28 rfl (Nat.le_of_ble_eq_true rfl) ?_
  refine awp_seq ?_
  refine awp_rw rfl ?_
  refine RW.new rfl rfl (eff_boxK (v := .t _) (k := 1) (id := 3) rfl rfl rfl rfl rfl rfl) ?_
  refine RW.new rfl rfl (eff_boxK (v := .t _) (k := 1) (id := 4) rfl rfl rfl rfl rfl rfl) ?_
  refine RW.new rfl rfl (eff_boxK (v := .t _) (k := 1) (id := 5) rfl rfl rfl rfl rfl rfl) ?_
  refine asT ?_
  refine RW.nil ?_
  refine awp_seq ?_
  refine awp_rw rfl ?_
  refine RW.op rfl rfl (eff_makeFunc rfl rfl rfl rfl) ?_
  refine RW.op rfl rfl (eff_assign (v := .fn _ _) rfl rfl rfl) ?_
  refine RW.nil ?_
  refine awp_ret ?_
  exact ⟨Or.inr rfl, [_], ⟨.tmp (Res.fnP (xs := [.ptr [.sl (t.map encW) false], .ptr [encI craft], .ptr [encI tick]]) ⟨Res.ptrT (x := .sl (t.map encW) false) rfl rfl rfl, Res.ptrT (x := encI craft) rfl rfl rfl, Res.ptrT (x := encI tick) rfl rfl rfl, trivial⟩), trivial⟩, .refl _⟩

theorem next_ret (t : List Win) (kd a b tick : Int) (ht : t.length ≤ 100000) : Ret Tryz.prog 68 [.sl (t.map encW) false, encI kd, encI a, encI b, encI tick] (.tup [encW (nextF t kd a b tick).1, .bool (nextF t kd a b tick).2]) := by
  refine ret_of_awj Tryz.func68 rfl (Nat.le_of_ble_eq_true rfl) ?_
  intro F0 w0
  refine awj_seq ?_
  refine awj_rj rfl ?_
  refine RJ.new rfl rfl (eff_boxK (v := .t _) (k := 1) (id := 9) rfl rfl rfl rfl rfl rfl) ?_
  refine RJ.new rfl rfl (eff_allocK (k := 6) (id := 10) rfl rfl tz48 rfl rfl) ?_
  refine RJ.new rfl rfl (eff_allocK (k := 1) (id := 11) rfl rfl tz4 rfl rfl) ?_
  refine RJ.nil ?_
  refine awj_seq ?_
  refine awj_seq ?_
  refine awj_rj rfl ?_
  refine RJ.op rfl rfl (eff_move (v := .t _) rfl rfl rfl) ?_
  refine RJ.op rfl rfl (eff_move (v := .t _) rfl rfl rfl) ?_
  refine RJ.op rfl rfl (eff_move (v := .t _) rfl rfl rfl) ?_
  refine RJ.op rfl rfl (eff_move (v := .t _) rfl rfl rfl) ?_
  refine RJ.op rfl rfl (eff_callT (of_ret t kd a b) co87 rfl rfl rfl rfl) ?_
  refine RJ.nil ?_
  refine awj_block ?_
  refine awj_rangeFunc (kp' := fun j => [9, 10, 11].elem j) (f := 105) rfl co105 (of_iter t kd a b ht) rfl rfl rfl (fun i s => (∀ y, y ∈ (t.filter (keyB kd a b)).take i → ¬ y.til > tick) ∧ s = ⟨25, [(9, .ptr 9 0 0 0), (10, .ptr 10 0 0 0), (11, .ptr 11 0 0 0)], [(9, some ⟨1, 3, 0, [.t (encI tick)]⟩), (10, some ⟨6, 48, 0, [.t z48]⟩), (11, some ⟨1, 4, 0, [.t (.bool false)]⟩)]⟩) (fun c s => c = .ret ∧ ∃ w, nextF t kd a b tick = (w, true) ∧ s = ⟨25, [(10, .ptr 10 0 0 0), (11, .ptr 11 0 0 0)], [(10, some ⟨6, 48, 0, [.t (encW w)]⟩), (11, some ⟨1, 4, 0, [.t (.bool true)]⟩)]⟩) (⟨_, weak_keep (n := 25) (fr' := [(9, .ptr 9 0 0 0), (10, .ptr 10 0 0 0), (11, .ptr 11 0 0 0)]) (st' := [(9, some ⟨1, 3, 0, [.t (encI tick)]⟩), (10, some ⟨6, 48, 0, [.t z48]⟩), (11, some ⟨1, 4, 0, [.t (.bool false)]⟩)]) ⟨rfl, rfl, rfl, rfl, rfl, rfl, trivial⟩ ⟨rfl, okE_one rfl, rfl, okE_one rfl, rfl, okE_one rfl, trivial⟩, by simp, rfl⟩) (fun i s1 hI => by obtain ⟨_, rfl⟩ := hI; exact ⟨rfl, kept_of rfl⟩) (fun c s1 hI => by obtain ⟨_, w, _, rfl⟩ := hI; exact ⟨rfl, kept_of rfl⟩) ?_ ?_ ?_
  · intro rl i x s1 hI hx F1 w1
    obtain ⟨hlt, rfl⟩ := hI
    rw [List.getElem?_map] at hx
    obtain ⟨w, hb, rfl⟩ := Option.map_eq_some_iff.1 hx
    show AWJ _ _ _ _ _ ⟨25, _, _⟩ _ _
    refine awj_rj rfl ?_
    refine RJ.new rfl rfl (eff_allocK (k := 6) (id := 12) rfl rfl tz48 rfl rfl) ?_
    refine RJ.store rfl rfl (eff_storeW (v := .t _) (els := [_]) (els' := [_]) rfl rfl ti48 rfl rfl rfl rfl rfl rfl rfl rfl rfl) ?_
    refine RJ.nil ?_
    refine ⟨rfl, rfl, fun F2 w2 => ?_⟩
    refine awj_block ?_
    refine awj_seq ?_
    refine awj_rj rfl ?_
    refine RJ.op rfl rfl (eff_fieldAddr rfl rfl tf48_4 (by decide) rfl rfl rfl (Nat.le_of_ble_eq_true rfl)) ?_
    refine RJ.op rfl rfl (eff_load (y := .t _) rfl rfl ti3 rfl (.one rfl rfl rfl rfl)) ?_
    refine RJ.op rfl rfl (eff_load (y := .t _) rfl rfl ti3 rfl (.one rfl rfl rfl rfl)) ?_
    refine RJ.op rfl rfl (eff_iop rfl rfl rfl rfl rfl) ?_
    refine RJ.nil ?_
    refine awj_cond rfl (fun h1 => ?_) (fun h1 => ?_)
    · try simp only [cl] at h1
      refine awj_seq ?_
      refine awj_rj rfl ?_
      refine RJ.op rfl rfl (eff_load rfl rfl ti48 rfl (.whole rfl rfl rfl rfl rfl rfl)) ?_
      refine RJ.store rfl rfl (eff_storeW (v := .t _) (els := [_]) (els' := [_]) rfl rfl ti48 rfl rfl rfl rfl rfl rfl rfl rfl rfl) ?_
      refine RJ.store rfl rfl (eff_storeW (v := .t _) (els := [_]) (els' := [_]) rfl rfl ti4 rfl rfl rfl rfl rfl rfl rfl rfl rfl) ?_
      refine RJ.nil ?_
      refine awj_ret ?_
      exact ⟨rfl, _, weak_keep (n := 25) (fr' := [(10, .ptr 10 0 0 0), (11, .ptr 11 0 0 0)]) (st' := [(10, some ⟨6, 48, 0, [.t (encW w)]⟩), (11, some ⟨1, 4, 0, [.t (.bool true)]⟩)]) ⟨rfl, rfl, rfl, rfl, trivial⟩ ⟨rfl, okE_one rfl, rfl, okE_one rfl, trivial⟩, rfl, w, next_first hb hlt (by omega), rfl⟩
    · try simp only [cl] at h1
      refine awj_skip ?_
      refine ⟨rfl, _, weak_keep (n := 25) (fr' := [(9, .ptr 9 0 0 0), (10, .ptr 10 0 0 0), (11, .ptr 11 0 0 0)]) (st' := [(9, some ⟨1, 3, 0, [.t (encI tick)]⟩), (10, some ⟨6, 48, 0, [.t z48]⟩), (11, some ⟨1, 4, 0, [.t (.bool false)]⟩)]) ⟨rfl, rfl, rfl, rfl, rfl, rfl, trivial⟩ ⟨rfl, okE_one rfl, rfl, okE_one rfl, rfl, okE_one rfl, trivial⟩, fun c hc => ?_, rfl⟩
      obtain ⟨hi, he⟩ := List.getElem?_eq_some_iff.1 hb
      rcases (mem_take_succ hi).1 hc with h | h
      · exact hlt c h
      · rw [h, he]; omega
  · intro D s1 hI
    obtain ⟨hlt, rfl⟩ := hI
    rw [List.length_map, List.take_length] at hlt
    refine awj_seq ?_
    refine awj_rj rfl ?_
    refine RJ.op rfl rfl (eff_buildT (ys := [_, _, _, _, _, _]) rfl rfl tz48 tg48 rfl) ?_
    refine RJ.store rfl rfl (eff_storeW (v := .t _) (els := [_]) (els' := [_]) rfl rfl ti48 rfl rfl rfl rfl rfl rfl rfl rfl rfl) ?_
    refine RJ.store rfl rfl (eff_storeW (v := .t _) (els := [_]) (els' := [_]) rfl rfl ti4 rfl rfl rfl rfl rfl rfl rfl rfl rfl) ?_
    refine RJ.nil ?_
    refine awj_ret ?_
    rw [next_never hlt]
    exact ⟨Or.inr rfl, [_, _], ⟨.cell rfl ti48 (.whole rfl rfl rfl rfl rfl rfl) (.t _), .cell (y := .t _) rfl ti4 (.one rfl rfl rfl rfl) (.t _), trivial⟩, (by repeat' first | exact trivial | exact Wk.refl _ | exact Wk.sl _ | refine And.intro ?_ ?_ | refine Wk.tupP ?_ | refine Wk.aggP ?_)⟩
  · intro D c s1 hI
    obtain ⟨rfl, w, hb, rfl⟩ := hI
    refine awj_ret ?_
    rw [hb]
    exact ⟨Or.inr rfl, [_, _], ⟨.cell rfl ti48 (.whole rfl rfl rfl rfl rfl rfl) (.t _), .cell (y := .t _) rfl ti4 (.one rfl rfl rfl rfl) (.t _), trivial⟩, .refl _⟩

theorem at_ret39 (t : List Win) (kd a b tick : Int) (ht : t.length ≤ 100000) : Ret Tryz.prog 45 [.sl (t.map encW) false, encI kd, encI a, encI b, encI tick] (.tup [encW (atF t kd a b tick).1, .bool (atF t kd a b tick).2]) := by
  refine ret_of_awp Tryz.func45 rfl (Nat.le_of_ble_eq_true rfl) ?_
  refine awp_seq ?_
  refine awp_rw rfl ?_
  refine RW.new rfl rfl (eff_allocK (k := 6) (id := 10) rfl rfl tz48 rfl rfl) ?_
  refine asT ?_
  refine RW.nil ?_
  refine awp_seq ?_
  refine awp_seq ?_
  refine awp_rw rfl ?_
  refine mvT ?_
  refine mvT ?_
  refine mvT ?_
  refine mvT ?_
  refine mvT ?_
  refine RW.op rfl rfl (eff_callT (next_ret t kd a b tick ht) co68 rfl rfl rfl rfl) ?_
  refine mvT ?_
  refine RW.op rfl rfl (eff_extract rfl rfl rfl rfl) ?_
  refine RW.op rfl rfl (eff_extract rfl rfl rfl rfl) ?_
  refine RW.new rfl rfl (eff_allocK (k := 6) (id := 12) rfl rfl tz48 rfl rfl) ?_
  refine RW.store rfl rfl (eff_storeW (v := .t _) (els := [_]) (els' := [_]) rfl rfl ti48 rfl rfl rfl rfl rfl rfl rfl rfl rfl) ?_
  refine asT ?_
  refine RW.nil ?_
  refine awp_seq ?_
  refine awp_rw rfl ?_
  refine mvT ?_
  refine mvT ?_
  refine RW.split 24 rfl (fun h1 => ?_) (fun h1 => ?_)
  · try simp only [cl] at h1
    refine RW.gop rfl rfl rfl rfl rfl rfl (eff_fieldAddr rfl rfl tf48_3 (by decide) rfl rfl rfl (Nat.le_of_ble_eq_true rfl)) ?_
    refine RW.gop rfl rfl rfl rfl rfl rfl (eff_load (y := .t _) rfl rfl ti3 rfl (.one rfl rfl rfl rfl)) ?_
    refine RW.gop rfl rfl rfl rfl rfl rfl (eff_move (v := .t _) rfl rfl rfl) ?_
    refine RW.gop rfl rfl rfl rfl rfl rfl (eff_iop rfl rfl rfl rfl rfl) ?_
    refine pkT ?_
    refine RW.nil ?_
    refine awp_cond rfl (fun h2 => ?_) (fun h2 => ?_)
    · try simp only [cl] at h2
      refine awp_seq ?_
      refine awp_rw rfl ?_
      refine RW.op rfl rfl (eff_load rfl rfl ti48 rfl (.whole rfl rfl rfl rfl rfl rfl)) ?_
      refine RW.store rfl rfl (eff_storeW (v := .t _) (els := [_]) (els' := [_]) rfl rfl ti48 rfl rfl rfl rfl rfl rfl rfl rfl rfl) ?_
      refine asT ?_
      refine RW.nil ?_
      refine awp_ret ?_
      (rw [show atF t kd a b tick = ((nextF t kd a b tick).1, true) from if_pos ⟨by assumption, by assumption⟩]; exact ⟨Or.inr rfl, [_, _], ⟨.cell rfl ti48 (.whole rfl rfl rfl rfl rfl rfl) (.t _), .tmp (.t _), trivial⟩, .refl _⟩)
    · try simp only [cl] at h2
      refine awp_skip ?_
      refine awp_seq ?_
      refine awp_rw rfl ?_
      refine RW.op rfl rfl (eff_buildT (ys := [_, _, _, _, _, _]) rfl rfl tz48 tg48 rfl) ?_
      refine RW.store rfl rfl (eff_storeW (v := .t _) (els := [_]) (els' := [_]) rfl rfl ti48 rfl rfl rfl rfl rfl rfl rfl rfl rfl) ?_
      refine asT ?_
      refine RW.nil ?_
      refine awp_ret ?_
      (rw [show atF t kd a b tick = (zw, false) from if_neg (fun hh => by simp_all)]; exact ⟨Or.inr rfl, [_, _], ⟨.cell rfl ti48 (.whole rfl rfl rfl rfl rfl rfl) (.t _), .tmp (.t _), trivial⟩, (by repeat' first | exact trivial | exact Wk.refl _ | exact Wk.sl _ | refine And.intro ?_ ?_ | refine Wk.tupP ?_ | refine Wk.aggP ?_)⟩)
  · try simp only [cl] at h1
    refine gkT ?_
    refine gkT ?_
    refine gkT ?_
    refine gkT ?_
    refine pkT ?_
    refine RW.nil ?_
    refine awp_cond rfl (fun h => nomatch h) (fun _ => ?_)
    refine awp_skip ?_
    refine awp_seq ?_
    refine awp_rw rfl ?_
    refine RW.op rfl rfl (eff_buildT (ys := [_, _, _, _, _, _]) rfl rfl tz48 tg48 rfl) ?_
    refine RW.store rfl rfl (eff_storeW (v := .t _) (els := [_]) (els' := [_]) rfl rfl ti48 rfl rfl rfl rfl rfl rfl rfl rfl rfl) ?_
    refine asT ?_
    refine RW.nil ?_
    refine awp_ret ?_
    (rw [show atF t kd a b tick = (zw, false) from if_neg (fun hh => by simp_all)]; exact ⟨Or.inr rfl, [_, _], ⟨.cell rfl ti48 (.whole rfl rfl rfl rfl rfl rfl) (.t _), .tmp (.t _), trivial⟩, (by repeat' first | exact trivial | exact Wk.refl _ | exact Wk.sl _ | refine And.intro ?_ ?_ | refine Wk.tupP ?_ | refine Wk.aggP ?_)⟩)

end Go.Tv.C37p

end
section
open Go Go.Tv Go.Tv.C37 Go.Proofs
namespace Go.Tv.C37p
set_option maxRecDepth 20000
set_option maxHeartbeats 2000000
set_option linter.unusedSimpArgs false
set_option linter.unusedVariables false
theorem wmap_succ {B : List Win} {i : Nat} (h : i < B.length) : ((B.take (i + 1)).map encW).map AV.t = ((B.take i).map encW).map AV.t ++ [.t (encW B[i])] := by
  rw [take_succ_get h, List.map_append, List.map_append]; rfl
theorem passes_len (t : List Win) (c k : Int) : (passesF t c k).length ≤ t.length := List.length_filter_le _ _

theorem appendSeqW_ret (t u : List Win) (craft tick : Int) (ht : t.length ≤ 100000) (hu : u = passesF t craft tick) : Ret Tryz.prog 52 [.sl [] true, .fn 53 [.ptr [.sl (t.map encW) false], .ptr [encI craft], .ptr [encI tick]]] (.sl (u.map encW) false) := by
  have hul : u.length ≤ 100000 := by rw [hu]; exact Nat.le_trans (passes_len t craft tick) ht
  have hit := contacts_iter t craft tick ht
  rw [show t.filter (passB craft tick) = u from hu.symm] at hit
  refine ret_of_awj Tryz.func52 rfl (Nat.le_of_ble_eq_true rfl) ?_
  intro F0 w0
  refine awj_seq ?_
  refine awj_rj rfl ?_
  refine RJ.new rfl rfl (eff_boxK (v := .t _) (k := 1) (id := 2) rfl rfl rfl rfl rfl rfl) ?_
  refine RJ.op rfl rfl (eff_assign (v := .t _) rfl rfl rfl) ?_
  refine RJ.nil ?_
  refine awj_seq ?_
  refine awj_seq ?_
  refine awj_rj rfl ?_
  refine RJ.op rfl rfl (eff_move (v := .t _) rfl rfl rfl) ?_
  refine RJ.nil ?_
  show AWJ _ _ _ _ _ _ _ _
  refine awj_weak (weak_adopt1 (id0 := 2) 1010 6 48 rfl rfl) ?_
  refine awj_block ?_
  refine awj_rangeFunc (kp' := fun j => [2].elem j) (f := 53) rfl co53 (hit) rfl rfl rfl (fun i s1 => i ≤ u.length ∧ s1 = ⟨13, [(2, .ptr 2 0 0 0)], [(2, some ⟨1, 49, 0, [.own 1010 (i) 0 (i)]⟩), (1010, some ⟨6, 48, (i), ((u.take (i)).map encW).map .t⟩)]⟩) (fun c s => False) (⟨_, weak_keep (n := 13) (fr' := [(2, .ptr 2 0 0 0)]) (st' := [(2, some ⟨1, 49, 0, [.own 1010 (0) 0 (0)]⟩), (1010, some ⟨6, 48, (0), ((u.take (0)).map encW).map .t⟩)]) ⟨rfl, rfl, trivial⟩ ⟨rfl, okE_one rfl, rfl, okE_t, trivial⟩, Nat.zero_le _, rfl⟩) (fun i s1 hI => by obtain ⟨_, rfl⟩ := hI; exact ⟨rfl, kept_of rfl⟩) (fun c s1 hI => hI.elim) ?_ ?_ ?_
  · intro rl i x s1 hI hx F1 w1
    obtain ⟨hiB, rfl⟩ := hI
    rw [List.getElem?_map] at hx
    obtain ⟨b, hb, rfl⟩ := Option.map_eq_some_iff.1 hx
    obtain ⟨hil, hbe⟩ := List.getElem?_eq_some_iff.1 hb
    have hsc := wmap_succ hil
    show AWJ _ _ _ _ _ ⟨13, _, _⟩ _ _
    refine awj_rj rfl ?_
    refine RJ.new rfl rfl (eff_allocK (k := 6) (id := 5) rfl rfl tz48 rfl rfl) ?_
    refine RJ.store rfl rfl (eff_storeW (v := .t _) (els := [_]) (els' := [_]) rfl rfl ti48 rfl rfl rfl rfl rfl rfl rfl rfl rfl) ?_
    refine RJ.nil ?_
    refine ⟨rfl, rfl, fun F2 w2 => ?_⟩
    refine awj_block ?_
    refine awj_rj rfl ?_
    refine RJ.op rfl rfl (eff_load (y := .own _ _ _ _) rfl rfl ti49 rfl (.one rfl rfl rfl rfl)) ?_
    refine RJ.op rfl rfl (eff_load rfl rfl ti48 rfl (.whole rfl rfl rfl rfl rfl rfl)) ?_
    refine RJ.new rfl rfl (eff_buildSliceL (id := 10) (els := [.t (.agg [_, _, _, _, _, _])]) rfl rfl te49 tz48 rfl (by decide) (by decide) rfl rfl rfl rfl) ?_
    refine RJ.new rfl rfl (eff_append (id := 1010) (ys := [_]) rfl rfl ta49 rfl rfl rfl (by simp; omega) rfl rfl (srcOwn rfl rfl rfl rfl rfl rfl) (by simp) (by simp; omega) (by simp; omega)) ?_
    refine RJ.store rfl rfl (eff_storeW (v := .own _ _ _ _) (els := [_]) (els' := [_]) rfl rfl ti49 rfl rfl rfl rfl rfl rfl rfl rfl rfl) ?_
    refine RJ.nil ?_
    refine ⟨rfl, _, weak_keep (n := 13) (fr' := [(2, .ptr 2 0 0 0)]) (st' := [(2, some ⟨1, 49, 0, [.own 1010 (i + 1) 0 (i + 1)]⟩), (1010, some ⟨6, 48, (i + 1), ((u.take (i + 1)).map encW).map .t⟩)]) ⟨rfl, rfl, trivial⟩ ⟨rfl, okE_one rfl, by rw [hsc, hbe]; rfl, okE_t, trivial⟩, by omega, rfl⟩
  · intro D s1 hI
    obtain ⟨_, rfl⟩ := hI
    simp only [List.length_map, List.take_length]
    refine awj_seq ?_
    refine awj_rj rfl ?_
    refine RJ.op rfl rfl (eff_load (y := .own _ _ _ _) rfl rfl ti49 rfl (.one rfl rfl rfl rfl)) ?_
    refine RJ.op rfl rfl (eff_assign (v := .own _ _ _ _) rfl rfl rfl) ?_
    refine RJ.nil ?_
    refine awj_ret ?_
    exact ⟨Or.inr rfl, [_], ⟨.tmp (Res.ownT (xs := u.map encW) rfl rfl (by simp) (by simp)), trivial⟩, .refl _⟩
  · intro D c s1 hI
    exact hI.elim

theorem collectW_ret (t : List Win) (craft tick : Int) (ht : t.length ≤ 100000) : Ret Tryz.prog 27 [.fn 53 [.ptr [.sl (t.map encW) false], .ptr [encI craft], .ptr [encI tick]]] (.sl ((passesF t craft tick).map encW) false) := by
  refine ret_of_awp Tryz.func27 rfl (Nat.le_of_ble_eq_true rfl) ?_
  refine awp_seq ?_
  refine awp_rw rfl ?_
  refine asT ?_
  refine RW.nil ?_
  refine awp_seq ?_
  refine awp_rw rfl ?_
  refine mvT ?_
  refine RW.op rfl rfl (eff_callT (appendSeqW_ret t _ craft tick ht rfl) co52 rfl rfl rfl rfl) ?_
  refine asT ?_
  refine RW.nil ?_
  refine awp_ret ?_
  exact ⟨Or.inr rfl, [_], ⟨.tmp (.t _), trivial⟩, .refl _⟩

theorem passes_ret (t : List Win) (craft tick : Int) (ht : t.length ≤ 100000) : Ret Tryz.prog 11 [.sl (t.map encW) false, encI craft, encI tick] (.sl ((passesF t craft tick).map encW) false) := by
  refine ret_of_awp Tryz.func11 rfl (Nat.le_of_ble_eq_true rfl) ?_
  refine awp_seq ?_
  refine awp_rw rfl ?_
  refine asT ?_
  refine RW.nil ?_
  refine awp_seq ?_
  refine awp_rw rfl ?_
  refine mvT ?_
  refine mvT ?_
  refine mvT ?_
  refine RW.op rfl rfl (eff_callT (contacts_ret t craft tick) co28 rfl rfl rfl rfl) ?_
  refine RW.op rfl rfl (eff_callT (collectW_ret t craft tick ht) co27 rfl rfl rfl rfl) ?_
  refine asT ?_
  refine RW.nil ?_
  refine awp_ret ?_
  exact ⟨Or.inr rfl, [_], ⟨.tmp (.t _), trivial⟩, .refl _⟩

theorem valid_ret (b : Bid) : Ret Tryz.prog 44 [encB b] (.bool (validB b)) := by
  refine ret_of_awp Tryz.func44 rfl (Nat.le_of_ble_eq_true rfl) ?_
  refine awp_seq ?_
  refine awp_rw rfl ?_
  refine RW.new rfl rfl (eff_boxK (v := .t _) (k := 5) (id := 1) rfl rfl rfl rfl rfl rfl) ?_
  refine asT ?_
  refine RW.nil ?_
  refine awp_seq ?_
  refine awp_rw rfl ?_
  refine faT tf68_0 ?_
  refine l1T ti3 rfl rfl rfl rfl rfl (.one rfl rfl rfl rfl) ?_
  refine ioT ?_
  refine mvT ?_
  refine RW.split 6 rfl (fun h1 => ?_) (fun h1 => ?_)
  · try simp only [cl] at h1
    refine RW.gop rfl rfl rfl rfl rfl rfl (eff_fieldAddr rfl rfl tf68_0 (by decide) rfl rfl rfl (Nat.le_of_ble_eq_true rfl)) ?_
    refine RW.gop rfl rfl rfl rfl rfl rfl (eff_load (y := .t _) rfl rfl ti3 rfl (.one rfl rfl rfl rfl)) ?_
    refine RW.gop rfl rfl rfl rfl rfl rfl (eff_iop rfl rfl rfl rfl rfl) ?_
    refine pkT ?_
    refine mvT ?_
    refine RW.split 11 rfl (fun h2 => ?_) (fun h2 => ?_)
    · try simp only [cl] at h2
      refine RW.gop rfl rfl rfl rfl rfl rfl (eff_fieldAddr rfl rfl tf68_1 (by decide) rfl rfl rfl (Nat.le_of_ble_eq_true rfl)) ?_
      refine RW.gop rfl rfl rfl rfl rfl rfl (eff_load (y := .t _) rfl rfl ti3 rfl (.one rfl rfl rfl rfl)) ?_
      refine RW.gop rfl rfl rfl rfl rfl rfl (eff_iop rfl rfl rfl rfl rfl) ?_
      refine pkT ?_
      refine mvT ?_
      refine RW.split 16 rfl (fun h3 => ?_) (fun h3 => ?_)
      · try simp only [cl] at h3
        refine RW.gop rfl rfl rfl rfl rfl rfl (eff_fieldAddr rfl rfl tf68_1 (by decide) rfl rfl rfl (Nat.le_of_ble_eq_true rfl)) ?_
        refine RW.gop rfl rfl rfl rfl rfl rfl (eff_load (y := .t _) rfl rfl ti3 rfl (.one rfl rfl rfl rfl)) ?_
        refine RW.gop rfl rfl rfl rfl rfl rfl (eff_iop rfl rfl rfl rfl rfl) ?_
        refine pkT ?_
        refine mvT ?_
        refine RW.split 21 rfl (fun h4 => ?_) (fun h4 => ?_)
        · try simp only [cl] at h4
          refine RW.gop rfl rfl rfl rfl rfl rfl (eff_fieldAddr rfl rfl tf68_2 (by decide) rfl rfl rfl (Nat.le_of_ble_eq_true rfl)) ?_
          refine RW.gop rfl rfl rfl rfl rfl rfl (eff_load (y := .t _) rfl rfl ti3 rfl (.one rfl rfl rfl rfl)) ?_
          refine RW.gop rfl rfl rfl rfl rfl rfl (eff_iop rfl rfl rfl rfl rfl) ?_
          refine pkT ?_
          refine mvT ?_
          refine RW.split 26 rfl (fun h5 => ?_) (fun h5 => ?_)
          · try simp only [cl] at h5
            refine RW.gop rfl rfl rfl rfl rfl rfl (eff_fieldAddr rfl rfl tf68_2 (by decide) rfl rfl rfl (Nat.le_of_ble_eq_true rfl)) ?_
            refine RW.gop rfl rfl rfl rfl rfl rfl (eff_load (y := .t _) rfl rfl ti3 rfl (.one rfl rfl rfl rfl)) ?_
            refine RW.gop rfl rfl rfl rfl rfl rfl (eff_fieldAddr rfl rfl tf68_3 (by decide) rfl rfl rfl (Nat.le_of_ble_eq_true rfl)) ?_
            refine RW.gop rfl rfl rfl rfl rfl rfl (eff_load (y := .t _) rfl rfl ti3 rfl (.one rfl rfl rfl rfl)) ?_
            refine RW.gop rfl rfl rfl rfl rfl rfl (eff_iop rfl rfl rfl rfl rfl) ?_
            refine pkT ?_
            refine mvT ?_
            refine RW.split 33 rfl (fun h6 => ?_) (fun h6 => ?_)
            · try simp only [cl] at h6
              refine RW.gop rfl rfl rfl rfl rfl rfl (eff_fieldAddr rfl rfl tf68_3 (by decide) rfl rfl rfl (Nat.le_of_ble_eq_true rfl)) ?_
              refine RW.gop rfl rfl rfl rfl rfl rfl (eff_load (y := .t _) rfl rfl ti3 rfl (.one rfl rfl rfl rfl)) ?_
              refine RW.gop rfl rfl rfl rfl rfl rfl (eff_iop rfl rfl rfl rfl rfl) ?_
              refine pkT ?_
              refine mvT ?_
              refine RW.split 38 rfl (fun h7 => ?_) (fun h7 => ?_)
              · try simp only [cl] at h7
                refine RW.gop rfl rfl rfl rfl rfl rfl (eff_fieldAddr rfl rfl tf68_4 (by decide) rfl rfl rfl (Nat.le_of_ble_eq_true rfl)) ?_
                refine RW.gop rfl rfl rfl rfl rfl rfl (eff_load (y := .t _) rfl rfl ti3 rfl (.one rfl rfl rfl rfl)) ?_
                refine RW.gop rfl rfl rfl rfl rfl rfl (eff_iop rfl rfl rfl rfl rfl) ?_
                refine pkT ?_
                refine mvT ?_
                refine RW.split 43 rfl (fun h8 => ?_) (fun h8 => ?_)
                · try simp only [cl] at h8
                  refine RW.gop rfl rfl rfl rfl rfl rfl (eff_fieldAddr rfl rfl tf68_4 (by decide) rfl rfl rfl (Nat.le_of_ble_eq_true rfl)) ?_
                  refine RW.gop rfl rfl rfl rfl rfl rfl (eff_load (y := .t _) rfl rfl ti3 rfl (.one rfl rfl rfl rfl)) ?_
                  refine RW.gop rfl rfl rfl rfl rfl rfl (eff_iop rfl rfl rfl rfl rfl) ?_
                  refine pkT ?_
                  refine asT ?_
                  refine RW.nil ?_
                  refine awp_ret ?_
                  (rw [show validB b = decide (b.val ≤ 1000000) from decide_eq_decide.2 ⟨fun h => by omega, fun h => by omega⟩]; exact ⟨Or.inr rfl, [_], ⟨.tmp (.t _), trivial⟩, .refl _⟩)
                · try simp only [cl] at h8
                  refine gkT ?_
                  refine gkT ?_
                  refine gkT ?_
                  refine pkT ?_
                  refine asT ?_
                  refine RW.nil ?_
                  refine awp_ret ?_
                  (rw [show validB b = false from decide_eq_false (by omega)]; exact ⟨Or.inr rfl, [_], ⟨.tmp (.t _), trivial⟩, .refl _⟩)
              · try simp only [cl] at h7
                refine gkT ?_
                refine gkT ?_
                refine gkT ?_
                refine pkT ?_
                refine mvT ?_
                refine gkT ?_
                refine gkT ?_
                refine gkT ?_
                refine pkT ?_
                refine asT ?_
                refine RW.nil ?_
                refine awp_ret ?_
                (rw [show validB b = false from decide_eq_false (by omega)]; exact ⟨Or.inr rfl, [_], ⟨.tmp (.t _), trivial⟩, .refl _⟩)
            · try simp only [cl] at h6
              refine gkT ?_
              refine gkT ?_
              refine gkT ?_
              refine pkT ?_
              refine mvT ?_
              refine gkT ?_
              refine gkT ?_
              refine gkT ?_
              refine pkT ?_
              refine mvT ?_
              refine gkT ?_
              refine gkT ?_
              refine gkT ?_
              refine pkT ?_
              refine asT ?_
              refine RW.nil ?_
              refine awp_ret ?_
              (rw [show validB b = false from decide_eq_false (by omega)]; exact ⟨Or.inr rfl, [_], ⟨.tmp (.t _), trivial⟩, .refl _⟩)
          · try simp only [cl] at h5
            refine gkT ?_
            refine gkT ?_
            refine gkT ?_
            refine gkT ?_
            refine gkT ?_
            refine pkT ?_
            refine mvT ?_
            refine gkT ?_
            refine gkT ?_
            refine gkT ?_
            refine pkT ?_
            refine mvT ?_
            refine gkT ?_
            refine gkT ?_
            refine gkT ?_
            refine pkT ?_
            refine mvT ?_
            refine gkT ?_
            refine gkT ?_
            refine gkT ?_
            refine pkT ?_
            refine asT ?_
            refine RW.nil ?_
            refine awp_ret ?_
            (rw [show validB b = false from decide_eq_false (by omega)]; exact ⟨Or.inr rfl, [_], ⟨.tmp (.t _), trivial⟩, .refl _⟩)
        · try simp only [cl] at h4
          refine gkT ?_
          refine gkT ?_
          refine gkT ?_
          refine pkT ?_
          refine mvT ?_
          refine gkT ?_
          refine gkT ?_
          refine gkT ?_
          refine gkT ?_
          refine gkT ?_
          refine pkT ?_
          refine mvT ?_
          refine gkT ?_
          refine gkT ?_
          refine gkT ?_
          refine pkT ?_
          refine mvT ?_
          refine gkT ?_
          refine gkT ?_
          refine gkT ?_
          refine pkT ?_
          refine mvT ?_
          refine gkT ?_
          refine gkT ?_
          refine gkT ?_
          refine pkT ?_
          refine asT ?_
          refine RW.nil ?_
          refine awp_ret ?_
          (rw [show validB b = false from decide_eq_false (by omega)]; exact ⟨Or.inr rfl, [_], ⟨.tmp (.t _), trivial⟩, .refl _⟩)
      · try simp only [cl] at h3
        refine gkT ?_
        refine gkT ?_
        refine gkT ?_
        refine pkT ?_
        refine mvT ?_
        refine gkT ?_
        refine gkT ?_
        refine gkT ?_
        refine pkT ?_
        refine mvT ?_
        refine gkT ?_
        refine gkT ?_
        refine gkT ?_
        refine gkT ?_
        refine gkT ?_
        refine pkT ?_
        refine mvT ?_
        refine gkT ?_
        refine gkT ?_
        refine gkT ?_
        refine pkT ?_
        refine mvT ?_
        refine gkT ?_
        refine gkT ?_
        refine gkT ?_
        refine pkT ?_
        refine mvT ?_
        refine gkT ?_
        refine gkT ?_
        refine gkT ?_
        refine pkT ?_
        refine asT ?_
        refine RW.nil ?_
        refine awp_ret ?_
        (rw [show validB b = false from decide_eq_false (by omega)]; exact ⟨Or.inr rfl, [_], ⟨.tmp (.t _), trivial⟩, .refl _⟩)
    · try simp only [cl] at h2
      refine gkT ?_
      refine gkT ?_
      refine gkT ?_
      refine pkT ?_
      refine mvT ?_
      refine gkT ?_
      refine gkT ?_
      refine gkT ?_
      refine pkT ?_
      refine mvT ?_
      refine gkT ?_
      refine gkT ?_
      refine gkT ?_
      refine pkT ?_
      refine mvT ?_
      refine gkT ?_
      refine gkT ?_
      refine gkT ?_
      refine gkT ?_
      refine gkT ?_
      refine pkT ?_
      refine mvT ?_
      refine gkT ?_
      refine gkT ?_
      refine gkT ?_
      refine pkT ?_
      refine mvT ?_
      refine gkT ?_
      refine gkT ?_
      refine gkT ?_
      refine pkT ?_
      refine mvT ?_
      refine gkT ?_
      refine gkT ?_
      refine gkT ?_
      refine pkT ?_
      refine asT ?_
      refine RW.nil ?_
      refine awp_ret ?_
      (rw [show validB b = false from decide_eq_false (by omega)]; exact ⟨Or.inr rfl, [_], ⟨.tmp (.t _), trivial⟩, .refl _⟩)
  · try simp only [cl] at h1
    refine gkT ?_
    refine gkT ?_
    refine gkT ?_
    refine pkT ?_
    refine mvT ?_
    refine gkT ?_
    refine gkT ?_
    refine gkT ?_
    refine pkT ?_
    refine mvT ?_
    refine gkT ?_
    refine gkT ?_
    refine gkT ?_
    refine pkT ?_
    refine mvT ?_
    refine gkT ?_
    refine gkT ?_
    refine gkT ?_
    refine pkT ?_
    refine mvT ?_
    refine gkT ?_
    refine gkT ?_
    refine gkT ?_
    refine gkT ?_
    refine gkT ?_
    refine pkT ?_
    refine mvT ?_
    refine gkT ?_
    refine gkT ?_
    refine gkT ?_
    refine pkT ?_
    refine mvT ?_
    refine gkT ?_
    refine gkT ?_
    refine gkT ?_
    refine pkT ?_
    refine mvT ?_
    refine gkT ?_
    refine gkT ?_
    refine gkT ?_
    refine pkT ?_
    refine asT ?_
    refine RW.nil ?_
    refine awp_ret ?_
    (rw [show validB b = false from decide_eq_false (by omega)]; exact ⟨Or.inr rfl, [_], ⟨.tmp (.t _), trivial⟩, .refl _⟩)

theorem check_ret (t : List Win) (l : List Bid) (ht : t.length ≤ 100000) (hl : l.length ≤ 100000) : Ret Tryz.prog 18 [.sl (t.map encW) false, .sl (l.map encB) false] (encI (errF (atB t) l)) := by
  refine ret_of_awp Tryz.func18 rfl (Nat.le_of_ble_eq_true rfl) ?_
  refine awp_seq ?_
  refine awp_rw rfl ?_
  refine asT ?_
  refine RW.nil ?_
  refine awp_seq ?_
  refine awp_seq ?_
  refine awp_rw rfl ?_
  refine mvT ?_
  refine RW.op rfl rfl (eff_lenM rfl rfl te45 rfl) ?_
  refine ioT ?_
  refine RW.nil ?_
  refine awp_cond rfl (fun h1 => ?_) (fun h1 => ?_)
  · try simp only [cl] at h1
    refine awp_seq ?_
    refine awp_rw rfl ?_
    refine asT ?_
    refine RW.nil ?_
    refine awp_ret ?_
    first
      | (rw [show errF (atB t) l = 2 from if_pos (by omega)]; exact ⟨Or.inr rfl, [_], ⟨.tmp (.t _), trivial⟩, .refl _⟩)
      | (rw [show errF (atB t) l = 5 from by unfold errF; rw [if_neg (by omega), errG_at hil ha, if_neg (by rw [(by assumption : validB (l[i]'hil) = false)]; decide)]]; exact ⟨Or.inr rfl, [_], ⟨.tmp (.t _), trivial⟩, .refl _⟩)
      | (rw [show errF (atB t) l = 32 from by unfold errF; rw [if_neg (by omega), errG_at hil ha, if_pos (by assumption), if_neg (by first | (rw [(by assumption : atB t (l[i]'hil) = false)]; decide) | exact hnf (by assumption) | (unfold atB; simp_all))]]; exact ⟨Or.inr rfl, [_], ⟨.tmp (.t _), trivial⟩, .refl _⟩)
      | (obtain rfl : i = l.length := by omega
         rw [show errF (atB t) l = 0 from by unfold errF; rw [if_neg (by omega), errG_drop hi ha, List.drop_length]; rfl]; exact ⟨Or.inr rfl, [_], ⟨.tmp (.t _), trivial⟩, .refl _⟩)
  · try simp only [cl] at h1
    refine awp_skip ?_
    refine awp_seq ?_
    refine awp_seq ?_
    refine awp_rw rfl ?_
    refine mvT ?_
    refine RW.op rfl rfl (eff_lenM rfl rfl te45 rfl) ?_
    refine mvT ?_
    refine RW.nil ?_
    refine awp_block ?_
    refine awp_loopW (fun m s => ∃ (i : Nat), (i ≤ l.length) ∧ (∀ b, b ∈ l.take i → validB b = true ∧ atB t b = true) ∧ m = l.length - i ∧ s = ⟨42, [(0, .t (.sl (t.map encW) false)), (12, .t (.sl (l.map encB) false)), (13, .t (encI l.length)), (14, .t (encI (i : Nat)))], []⟩) (_) (⟨_, weak_keep (n := 42) (fr' := [(0, .t (.sl (t.map encW) false)), (12, .t (.sl (l.map encB) false)), (13, .t (encI l.length)), (14, .t (encI (0 : Nat)))]) (st' := []) ⟨rfl, rfl, rfl, rfl, rfl, rfl, rfl, rfl, trivial⟩ trivial, 0, (by omega), (by simp), rfl, rfl⟩) ?_
    rintro m s ⟨i, hi, ha, rfl, rfl⟩
    refine awp_seq ?_
    refine awp_rw rfl ?_
    refine ioT ?_
    refine RW.nil ?_
    refine awp_seq ?_
    refine awp_cond rfl (fun h2 => ?_) (fun h2 => ?_)
    · try simp only [cl] at h2
      refine awp_skip ?_
      refine awp_seq ?_
      refine awp_block ?_
      refine awp_seq ?_
      refine awp_rw rfl ?_
      have hil : i < l.length := by omega
      refine RW.op rfl rfl (eff_indexAddrT (i := i) rfl rfl te45 rfl rfl (by first | rfl | omega) (by rw [List.getElem?_map, List.getElem?_eq_getElem hil]; rfl) rfl (by decide)) ?_
      refine RW.op rfl rfl (eff_loadW rfl rfl ti68 rfl rfl rfl) ?_
      refine RW.new rfl rfl (eff_allocK (k := 5) (id := 6) rfl rfl tz68 rfl rfl) ?_
      refine RW.store rfl rfl (eff_storeW (v := .t _) (els := [_]) (els' := [_]) rfl rfl ti68 rfl rfl rfl rfl rfl rfl rfl rfl rfl) ?_
      refine RW.nil ?_
      refine awp_seq ?_
      refine awp_seq ?_
      refine awp_rw rfl ?_
      refine RW.op rfl rfl (eff_load rfl rfl ti68 rfl (.whole rfl rfl rfl rfl rfl rfl)) ?_
      refine RW.op rfl rfl (eff_callT (valid_ret _) co44 rfl rfl rfl rfl) ?_
      refine RW.op rfl rfl (eff_unop rfl rfl rfl rfl) ?_
      refine RW.nil ?_
      refine awp_cond rfl (fun h3 => ?_) (fun h3 => ?_)
      · try simp only [cl] at h3
        refine awp_seq ?_
        refine awp_rw rfl ?_
        refine asT ?_
        refine RW.nil ?_
        refine awp_ret ?_
        first
          | (rw [show errF (atB t) l = 2 from if_pos (by omega)]; exact ⟨Or.inr rfl, [_], ⟨.tmp (.t _), trivial⟩, .refl _⟩)
          | (rw [show errF (atB t) l = 5 from by unfold errF; rw [if_neg (by omega), errG_at hil ha, if_neg (by rw [(by assumption : validB (l[i]'hil) = false)]; decide)]]; exact ⟨Or.inr rfl, [_], ⟨.tmp (.t _), trivial⟩, .refl _⟩)
          | (rw [show errF (atB t) l = 32 from by unfold errF; rw [if_neg (by omega), errG_at hil ha, if_pos (by assumption), if_neg (by first | (rw [(by assumption : atB t (l[i]'hil) = false)]; decide) | exact hnf (by assumption) | (unfold atB; simp_all))]]; exact ⟨Or.inr rfl, [_], ⟨.tmp (.t _), trivial⟩, .refl _⟩)
          | (obtain rfl : i = l.length := by omega
             rw [show errF (atB t) l = 0 from by unfold errF; rw [if_neg (by omega), errG_drop hi ha, List.drop_length]; rfl]; exact ⟨Or.inr rfl, [_], ⟨.tmp (.t _), trivial⟩, .refl _⟩)
      · try simp only [cl] at h3
        refine awp_skip ?_
        refine awp_seq ?_
        refine awp_rw rfl ?_
        refine mvT ?_
        refine faT tf68_0 ?_
        refine l1T ti3 rfl rfl rfl rfl rfl (.one rfl rfl rfl rfl) ?_
        refine faT tf68_1 ?_
        refine l1T ti3 rfl rfl rfl rfl rfl (.one rfl rfl rfl rfl) ?_
        refine faT tf68_2 ?_
        refine l1T ti3 rfl rfl rfl rfl rfl (.one rfl rfl rfl rfl) ?_
        refine RW.op rfl rfl (eff_callT (at_ret39 t 1 (l[i]'hil).craft (l[i]'hil).station (l[i]'hil).frm ht) co45 rfl rfl rfl rfl) ?_
        refine mvT ?_
        refine RW.op rfl rfl (eff_extract rfl rfl rfl rfl) ?_
        refine RW.op rfl rfl (eff_extract rfl rfl rfl rfl) ?_
        refine RW.new rfl rfl (eff_allocK (k := 6) (id := 7) rfl rfl tz48 rfl rfl) ?_
        refine RW.store rfl rfl (eff_storeW (v := .t _) (els := [_]) (els' := [_]) rfl rfl ti48 rfl rfl rfl rfl rfl rfl rfl rfl rfl) ?_
        refine asT ?_
        refine RW.nil ?_
        refine awp_seq ?_
        refine awp_rw rfl ?_
        refine mvT ?_
        refine RW.op rfl rfl (eff_unop rfl rfl rfl rfl) ?_
        refine mvT ?_
        refine RW.split 34 rfl (fun h4 => ?_) (fun h4 => ?_)
        · try simp only [cl] at h4
          refine gkT ?_
          refine gkT ?_
          refine gkT ?_
          refine gkT ?_
          refine gkT ?_
          refine pkT ?_
          refine RW.nil ?_
          refine awp_cond rfl (fun _ => ?_) (fun h => nomatch h)
          refine awp_seq ?_
          refine awp_rw rfl ?_
          refine asT ?_
          refine RW.nil ?_
          refine awp_ret ?_
          first
            | (rw [show errF (atB t) l = 2 from if_pos (by omega)]; exact ⟨Or.inr rfl, [_], ⟨.tmp (.t _), trivial⟩, .refl _⟩)
            | (rw [show errF (atB t) l = 5 from by unfold errF; rw [if_neg (by omega), errG_at hil ha, if_neg (by rw [(by assumption : validB (l[i]'hil) = false)]; decide)]]; exact ⟨Or.inr rfl, [_], ⟨.tmp (.t _), trivial⟩, .refl _⟩)
            | (rw [show errF (atB t) l = 32 from by unfold errF; rw [if_neg (by omega), errG_at hil ha, if_pos (by assumption), if_neg (by first | (rw [(by assumption : atB t (l[i]'hil) = false)]; decide) | exact hnf (by assumption) | (unfold atB; simp_all))]]; exact ⟨Or.inr rfl, [_], ⟨.tmp (.t _), trivial⟩, .refl _⟩)
            | (obtain rfl : i = l.length := by omega
               rw [show errF (atB t) l = 0 from by unfold errF; rw [if_neg (by omega), errG_drop hi ha, List.drop_length]; rfl]; exact ⟨Or.inr rfl, [_], ⟨.tmp (.t _), trivial⟩, .refl _⟩)
        · try simp only [cl] at h4
          refine RW.gop rfl rfl rfl rfl rfl rfl (eff_fieldAddr rfl rfl tf48_4 (by decide) rfl rfl rfl (Nat.le_of_ble_eq_true rfl)) ?_
          refine RW.gop rfl rfl rfl rfl rfl rfl (eff_load (y := .t _) rfl rfl ti3 rfl (.one rfl rfl rfl rfl)) ?_
          refine RW.gop rfl rfl rfl rfl rfl rfl (eff_fieldAddr rfl rfl tf68_3 (by decide) rfl rfl rfl (Nat.le_of_ble_eq_true rfl)) ?_
          refine RW.gop rfl rfl rfl rfl rfl rfl (eff_load (y := .t _) rfl rfl ti3 rfl (.one rfl rfl rfl rfl)) ?_
          refine RW.gop rfl rfl rfl rfl rfl rfl (eff_iop rfl rfl rfl rfl rfl) ?_
          refine pkT ?_
          refine RW.nil ?_
          refine awp_cond rfl (fun h5 => ?_) (fun h5 => ?_)
          · try simp only [cl] at h5
            refine awp_seq ?_
            refine awp_rw rfl ?_
            refine asT ?_
            refine RW.nil ?_
            refine awp_ret ?_
            first
              | (rw [show errF (atB t) l = 2 from if_pos (by omega)]; exact ⟨Or.inr rfl, [_], ⟨.tmp (.t _), trivial⟩, .refl _⟩)
              | (rw [show errF (atB t) l = 5 from by unfold errF; rw [if_neg (by omega), errG_at hil ha, if_neg (by rw [(by assumption : validB (l[i]'hil) = false)]; decide)]]; exact ⟨Or.inr rfl, [_], ⟨.tmp (.t _), trivial⟩, .refl _⟩)
              | (rw [show errF (atB t) l = 32 from by unfold errF; rw [if_neg (by omega), errG_at hil ha, if_pos (by assumption), if_neg (by first | (rw [(by assumption : atB t (l[i]'hil) = false)]; decide) | exact hnf (by assumption) | (unfold atB; simp_all))]]; exact ⟨Or.inr rfl, [_], ⟨.tmp (.t _), trivial⟩, .refl _⟩)
              | (obtain rfl : i = l.length := by omega
                 rw [show errF (atB t) l = 0 from by unfold errF; rw [if_neg (by omega), errG_drop hi ha, List.drop_length]; rfl]; exact ⟨Or.inr rfl, [_], ⟨.tmp (.t _), trivial⟩, .refl _⟩)
          · try simp only [cl] at h5
            refine awp_skip ?_
            refine awp_rw rfl ?_
            refine RW.op rfl rfl (eff_iop rfl rfl rfl rfl (iadd (by omega))) ?_
            refine mvT ?_
            refine RW.nil ?_
            refine ⟨_, ?_, _, weak_keep (n := 42) (fr' := [(0, .t (.sl (t.map encW) false)), (12, .t (.sl (l.map encB) false)), (13, .t (encI l.length)), (14, .t (encI ((i + 1) : Nat)))]) (st' := []) ⟨rfl, rfl, rfl, rfl, rfl, rfl, rfl, rfl, trivial⟩ trivial, i + 1, (by omega), (by intro b hb; rcases (mem_take_succ hil).1 hb with h | h; exact ha b h; rw [h]; exact ⟨by assumption, decide_eq_true ⟨by first | assumption | simp_all, by first | assumption | omega⟩⟩), rfl, rfl⟩
            omega
    · try simp only [cl] at h2
      refine awp_exit ?_
      refine awp_seq ?_
      refine awp_rw rfl ?_
      refine asT ?_
      refine RW.nil ?_
      refine awp_ret ?_
      first
        | (rw [show errF (atB t) l = 2 from if_pos (by omega)]; exact ⟨Or.inr rfl, [_], ⟨.tmp (.t _), trivial⟩, .refl _⟩)
        | (rw [show errF (atB t) l = 5 from by unfold errF; rw [if_neg (by omega), errG_at hil ha, if_neg (by rw [(by assumption : validB (l[i]'hil) = false)]; decide)]]; exact ⟨Or.inr rfl, [_], ⟨.tmp (.t _), trivial⟩, .refl _⟩)
        | (rw [show errF (atB t) l = 32 from by unfold errF; rw [if_neg (by omega), errG_at hil ha, if_pos (by assumption), if_neg (by first | (rw [(by assumption : atB t (l[i]'hil) = false)]; decide) | exact hnf (by assumption) | (unfold atB; simp_all))]]; exact ⟨Or.inr rfl, [_], ⟨.tmp (.t _), trivial⟩, .refl _⟩)
        | (obtain rfl : i = l.length := by omega
           rw [show errF (atB t) l = 0 from by unfold errF; rw [if_neg (by omega), errG_drop hi ha, List.drop_length]; rfl]; exact ⟨Or.inr rfl, [_], ⟨.tmp (.t _), trivial⟩, .refl _⟩)

end Go.Tv.C37p

end
section
open Go Go.Tv Go.Tv.C37 Go.Proofs
namespace Go.Tv.C37p
set_option linter.unusedVariables false

structure Rep where
  next : Int
  have_ : Int
  key : Int
  locked : Bool
  deriving DecidableEq, Inhabited
def encR (r : Rep) : Tr := .agg [encI r.next, encI r.have_, encI r.key, .bool r.locked]
def RepOK (r : Rep) : Prop := (0 ≤ r.next ∧ r.next ≤ 1000000) ∧ (0 ≤ r.have_ ∧ r.have_ < 4294967296)
def bitN (h k : Nat) : Nat := h / 2 ^ (min k 64) % 2
def hasB (r : Rep) (n : Int) : Bool := if n ≤ r.next then decide (n < r.next) else decide (bitN r.have_.toNat (n - r.next - 1).toNat = 1)
theorem has_low {r : Rep} {n : Int} (h : n ≤ r.next) : hasB r n = decide (n < r.next) := if_pos h
theorem has_bit {r : Rep} {n : Int} (h : ¬ n ≤ r.next) : hasB r n = decide (bitN r.have_.toNat (n - r.next - 1).toNat = 1) := if_neg h
theorem has_lowN {nx ky n : Int} {h : Nat} {lk : Bool} (hn : n ≤ nx) : hasB ⟨nx, ((h : Nat) : Int), ky, lk⟩ n = decide (n < nx) := has_low (r := ⟨nx, ((h : Nat) : Int), ky, lk⟩) (n := n) hn
theorem has_bitN {nx ky n : Int} {h : Nat} {lk : Bool} (hn : ¬ n ≤ nx) : hasB ⟨nx, ((h : Nat) : Int), ky, lk⟩ n = decide (bitN h (n - nx - 1).toNat = 1) := by
  have := has_bit (r := ⟨nx, ((h : Nat) : Int), ky, lk⟩) (n := n) hn
  rw [this, Int.toNat_natCast]
theorem shr_nat {ik : IntKind} (hb : ik.bits = 64) (h : Nat) {n : Int} (h0 : 0 ≤ n) : ((h : Nat) : Int).fdiv (2 ^ (min n.toNat ik.bits)) = ((h / 2 ^ (min n.toNat 64) : Nat) : Int) := by
  have hc : ∀ m : Nat, (2 : Int) ^ m = ((2 ^ m : Nat) : Int) := fun m => by simp
  rw [hb, hc, Int.fdiv_eq_ediv_of_nonneg _ (Int.natCast_nonneg _), ← Int.natCast_ediv]
theorem ofInt_nat (x : Nat) : BitVec.ofInt 64 (x : Int) = BitVec.ofNat 64 x := by
  apply BitVec.eq_of_toNat_eq
  simp
theorem and_one {x : Nat} (hx : x < 18446744073709551616) : iop .and .u64 (x : Int) 1 = some (.int .u64 ((x % 2 : Nat) : Int)) := by
  have h2 : (BitVec.ofInt 64 (x : Int) &&& BitVec.ofInt 64 ((1 : Nat) : Int)).toNat = x &&& 1 := by
    rw [ofInt_nat, ofInt_nat, BitVec.toNat_and, BitVec.toNat_ofNat, BitVec.toNat_ofNat, Nat.mod_eq_of_lt hx, Nat.mod_eq_of_lt (by decide)]
  show some (Tr.int .u64 (IntKind.u64.wrap ((BitVec.ofInt 64 (x : Int) &&& BitVec.ofInt 64 ((1 : Nat) : Int)).toNat : Int))) = _
  rw [h2, wu64, Nat.and_one_is_mod, show ((x % 2 : Nat) : Int) % 18446744073709551616 = ((x % 2 : Nat) : Int) from by omega]
def lackN (l : List Rep) (n : Nat) : Bool := l.any fun r => !hasB r (n : Int)
def neededN (l : List Rep) (q : Nat) : List Nat := (List.range q).filter (lackN l)
theorem needed_yes {l : List Rep} {i : Nat} (h : lackN l i = true) : neededN l (i + 1) = neededN l i ++ [i] := by
  unfold neededN; rw [List.range_succ, List.filter_append, List.filter_cons, if_pos h]; rfl
theorem needed_no {l : List Rep} {i : Nat} (h : lackN l i = false) : neededN l (i + 1) = neededN l i := by
  unfold neededN; rw [List.range_succ, List.filter_append, List.filter_cons, if_neg (by rw [h]; decide)]; simp
theorem needed_len (l : List Rep) (q : Nat) : (neededN l q).length ≤ q := by
  have := List.length_filter_le (lackN l) (List.range q)
  rw [List.length_range] at this
  exact this
def minR (m x : Rep) : Rep := if x.next < m.next then x else m
def settledF : List Rep → Int
  | [] => 0
  | r :: l => (l.foldl minR r).next
theorem minR_next (m x : Rep) : (minR m x).next = min m.next x.next := by unfold minR; split <;> omega
theorem foldl_snoc {α β : Type} (f : α → β → α) (a : α) (l : List β) (x : β) : (l ++ [x]).foldl f a = f (l.foldl f a) x := by rw [List.foldl_append]; rfl
/-- The least of some states. -/
def leastR (l : List Rep) (d : Rep) : Rep := l.foldl minR d
theorem least_step {l : List Rep} {d : Rep} {i : Nat} (h : i < l.length) : leastR (l.take (i + 1)) d = minR (leastR (l.take i) d) l[i] := by
  unfold leastR; rw [take_succ_get h, foldl_snoc]
theorem minR_self (d : Rep) : minR d d = d := by unfold minR; rw [if_neg (by omega)]
theorem settled_is {l : List Rep} (h : 0 < l.length) : settledF l = (leastR l l[0]).next := by
  cases l with
  | nil => simp at h
  | cons r l =>
    show (l.foldl minR r).next = (l.foldl minR (minR r r)).next
    rw [minR_self]
end Go.Tv.C37p

end
section
open Go Go.Tv Go.Tv.C37 Go.Proofs
namespace Go.Tv.C37p
set_option maxRecDepth 20000
set_option maxHeartbeats 2000000
set_option linter.unusedSimpArgs false
set_option linter.unusedVariables false
theorem eff_maxE {P : Program} {D : St} {o : Oper} {t t2 : TypeId} {x y : Operand} {k : IntKind} {n m r : Int} (hd : dstOK D.n o.dst = true)
    (ho : o.op = .call { callee := .builtin .max, args := #[x, y], argTypes := #[t, t2] }) (hx : D.ev x = .t (.int k n)) (hy : D.ev y = .t (.int k m)) (hr : imax n m = r) : Eff P o D ⟨.t (.int k r), []⟩ :=
  hr ▸ eff_max hd ho hx hy
theorem wk_boolR {a b : Bool} (h : a = b) : Wk (packT [.bool a]) (.bool b) := by rw [h]; exact .refl _
theorem beq_one (x : Nat) : (((x : Nat) : Int) == 1) = decide (x = 1) := by
  by_cases h : x = 1
  · subst h; rfl
  · rw [decide_eq_false h, beq_eq_false_iff_ne]; omega

theorem has65_ret (r : Rep) (n : Int) (hr : RepOK r) (hn : 0 ≤ n ∧ n ≤ 1000000) : Ret Tryz.prog 43 [encR r, encI n] (.bool (hasB r n)) := by
  obtain ⟨nx, hv0, ky, lk⟩ := r
  obtain ⟨h, rfl⟩ : ∃ h : Nat, hv0 = (h : Int) := ⟨hv0.toNat, by have := hr.2.1; simp only [] at this; omega⟩
  have hn1 := hr.1
  have hh := hr.2.2
  simp only [] at hn1 hh
  refine ret_of_awp Tryz.func43 rfl (Nat.le_of_ble_eq_true rfl) ?_
  refine awp_seq ?_
  refine awp_rw rfl ?_
  refine RW.new rfl rfl (eff_boxK (v := .t _) (k := 4) (id := 2) rfl rfl rfl rfl rfl rfl) ?_
  refine asT ?_
  refine RW.nil ?_
  refine awp_seq ?_
  refine awp_seq ?_
  refine awp_rw rfl ?_
  refine mvT ?_
  refine faT tf33_0 ?_
  refine l1T ti3 rfl rfl rfl rfl rfl (.one rfl rfl rfl rfl) ?_
  refine ioT ?_
  refine RW.nil ?_
  refine awp_cond rfl (fun h1 => ?_) (fun h1 => ?_)
  · try simp only [cl] at h1
    refine awp_seq ?_
    refine awp_rw rfl ?_
    refine mvT ?_
    refine faT tf33_0 ?_
    refine l1T ti3 rfl rfl rfl rfl rfl (.one rfl rfl rfl rfl) ?_
    refine ioT ?_
    refine asT ?_
    refine RW.nil ?_
    refine awp_ret ?_
    (rw [show hasB ⟨nx, ((h : Nat) : Int), ky, lk⟩ n = decide (n < nx) from has_lowN (by omega)]; exact ⟨Or.inr rfl, [_], ⟨.tmp (.t _), trivial⟩, .refl _⟩)
  · try simp only [cl] at h1
    refine awp_skip ?_
    refine awp_seq ?_
    refine awp_rw rfl ?_
    refine faT tf33_1 ?_
    refine l1T ti3 rfl rfl rfl rfl rfl (.one rfl rfl rfl rfl) ?_
    refine RW.op rfl rfl (eff_convIntE (m := ((h : Nat) : Int)) rfl rfl (by rw [tu3]; rfl) tu112 rfl (wrapU64 (n := ((h : Nat) : Int)) (by omega) (by omega))) ?_
    refine mvT ?_
    refine faT tf33_0 ?_
    refine l1T ti3 rfl rfl rfl rfl rfl (.one rfl rfl rfl rfl) ?_
    refine RW.op rfl rfl (eff_iop (r := encI (n - nx)) rfl rfl rfl rfl (isub (a := n) (b := nx) (by omega))) ?_
    refine RW.op rfl rfl (eff_iop (r := encI (n - nx - 1)) rfl rfl rfl rfl (isub (by omega))) ?_
    refine RW.op rfl rfl (eff_convIntE (m := (n - nx - 1)) rfl rfl (by rw [tu3]; rfl) tu112 rfl (wrapU64 (by omega) (by omega))) ?_
    refine RW.op rfl rfl (eff_shrE (r := ((h / 2 ^ (min (n - nx - 1).toNat 64) : Nat) : Int)) rfl rfl rfl rfl (by omega) (shr_nat rfl h (by omega))) ?_
    refine RW.op rfl rfl (eff_iop (r := .int .u64 ((bitN h (n - nx - 1).toNat : Nat) : Int)) rfl rfl rfl rfl (and_one (by have := Nat.div_le_self h (2 ^ (min (n - nx - 1).toNat 64)); omega))) ?_
    refine ioT ?_
    refine asT ?_
    refine RW.nil ?_
    refine awp_ret ?_
    (rw [show hasB ⟨nx, ((h : Nat) : Int), ky, lk⟩ n = decide (bitN h (n - nx - 1).toNat = 1) from has_bitN (by omega)]; exact ⟨Or.inr rfl, [_], ⟨.tmp (.t _), trivial⟩, wk_boolR (beq_one _)⟩)

theorem lack64_ret (r : Rep) (n : Int) (hr : RepOK r) (hn : 0 ≤ n ∧ n ≤ 1000000) : Ret Tryz.prog 42 [encR r, .ptr [encI n]] (.bool (!hasB r n)) := by
  refine ret_of_awp Tryz.func42 rfl (Nat.le_of_ble_eq_true rfl) ?_
  refine awp_seq ?_
  refine awp_rw rfl ?_
  refine RW.new rfl rfl (eff_boxK (v := .t _) (k := 4) (id := 2) rfl rfl rfl rfl rfl rfl) ?_
  refine asT ?_
  refine RW.nil ?_
  refine awp_seq ?_
  refine awp_rw rfl ?_
  refine RW.op rfl rfl (eff_load rfl rfl ti33 rfl (.whole rfl rfl rfl rfl rfl rfl)) ?_
  refine RW.op rfl rfl (eff_loadT1 rfl rfl ti3 rfl rfl) ?_
  refine RW.op rfl rfl (eff_callT (has65_ret r n hr hn) co43 rfl rfl rfl rfl) ?_
  refine RW.op rfl rfl (eff_unop rfl rfl rfl rfl) ?_
  refine asT ?_
  refine RW.nil ?_
  refine awp_ret ?_
  exact ⟨Or.inr rfl, [_], ⟨.tmp (.t _), trivial⟩, .refl _⟩

theorem ixfR_ret (l : List Rep) (fn : Nat) (caps : List Tr) (p : Rep → Bool) (hl : l.length ≤ 100000) (hco : callOK Tryz.prog fn = true) (hp : ∀ x, x ∈ l → Ret Tryz.prog fn (encR x :: caps) (.bool (p x))) : Ret Tryz.prog 67 [.sl (l.map encR) false, .fn fn caps] (encI (fIx p l)) := by
  refine ret_of_awp Tryz.func67 rfl (Nat.le_of_ble_eq_true rfl) ?_
  refine awp_seq ?_
  refine awp_rw rfl ?_
  refine asT ?_
  refine RW.nil ?_
  refine awp_seq ?_
  refine awp_seq ?_
  refine awp_rw rfl ?_
  refine mvT ?_
  refine RW.op rfl rfl (eff_lenM rfl rfl te25 rfl) ?_
  refine mvT ?_
  refine RW.nil ?_
  refine awp_block ?_
  refine awp_loopW (fun m s => ∃ (i : Nat), (i ≤ l.length) ∧ (∀ b, b ∈ l.take i → p b = false) ∧ m = l.length - i ∧ s = ⟨19, [(0, .t (.sl (l.map encR) false)), (1, .t (.fn fn caps)), (7, .t (encI l.length)), (8, .t (encI (i : Nat)))], []⟩) (_) (⟨_, weak_keep (n := 19) (fr' := [(0, .t (.sl (l.map encR) false)), (1, .t (.fn fn caps)), (7, .t (encI l.length)), (8, .t (encI (0 : Nat)))]) (st' := []) ⟨rfl, rfl, rfl, rfl, rfl, rfl, rfl, rfl, trivial⟩ trivial, 0, (by omega), (by simp), rfl, rfl⟩) ?_
  rintro m s ⟨i, hi, ha, rfl, rfl⟩
  refine awp_seq ?_
  refine awp_rw rfl ?_
  refine ioT ?_
  refine RW.nil ?_
  refine awp_seq ?_
  refine awp_cond rfl (fun h1 => ?_) (fun h1 => ?_)
  · try simp only [cl] at h1
    refine awp_skip ?_
    refine awp_seq ?_
    refine awp_block ?_
    refine awp_seq ?_
    refine awp_rw rfl ?_
    refine mvT ?_
    refine asT ?_
    refine RW.nil ?_
    refine awp_seq ?_
    refine awp_rw rfl ?_
    refine mvT ?_
    refine mvT ?_
    refine mvT ?_
    refine RW.op rfl rfl (eff_indexM rfl rfl te25 rfl rfl rfl (by first | assumption | exact List.getElem?_eq_getElem (by omega)) rfl (by decide)) ?_
    refine RW.op rfl rfl (eff_loadW rfl rfl ti33 rfl rfl rfl) ?_
    refine RW.op rfl rfl (eff_call (f := fn) (xs := [_]) (ys := [_]) (caps := caps) rfl rfl rfl hco rfl (WkL.cons (.refl _) .nil) (hp _ (List.getElem_mem (show i < l.length by omega)))) ?_
    refine RW.nil ?_
    refine awp_cond rfl (fun h2 => ?_) (fun h2 => ?_)
    · try simp only [cl] at h2
      refine awp_seq ?_
      refine awp_rw rfl ?_
      refine mvT ?_
      refine asT ?_
      refine RW.nil ?_
      refine awp_ret ?_
      rw [fIx_hit (by omega) ha h2]
      exact ⟨Or.inr rfl, [_], ⟨.tmp (.t _), trivial⟩, .refl _⟩
    · try simp only [cl] at h2
      refine awp_skip ?_
      refine awp_rw rfl ?_
      refine RW.op rfl rfl (eff_iop rfl rfl rfl rfl (iadd (by omega))) ?_
      refine mvT ?_
      refine RW.nil ?_
      refine ⟨_, ?_, _, weak_keep (n := 19) (fr' := [(0, .t (.sl (l.map encR) false)), (1, .t (.fn fn caps)), (7, .t (encI l.length)), (8, .t (encI ((i + 1) : Nat)))]) (st' := []) ⟨rfl, rfl, rfl, rfl, rfl, rfl, rfl, rfl, trivial⟩ trivial, i + 1, (by omega), (by intro b hb; rcases (mem_take_succ (by omega)).1 hb with h | h; exact ha b h; rw [h]; exact h2), rfl, rfl⟩
      omega
  · try simp only [cl] at h1
    refine awp_exit ?_
    refine awp_seq ?_
    refine awp_rw rfl ?_
    refine asT ?_
    refine RW.nil ?_
    refine awp_ret ?_
    have hi2 : i = l.length := by omega
    subst hi2
    rw [List.take_length] at ha
    rw [fIx_none ha]
    exact ⟨Or.inr rfl, [_], ⟨.tmp (.t _), trivial⟩, .refl _⟩

theorem anyR_ret (l : List Rep) (fn : Nat) (caps : List Tr) (p : Rep → Bool) (hl : l.length ≤ 100000) (hco : callOK Tryz.prog fn = true) (hp : ∀ x, x ∈ l → Ret Tryz.prog fn (encR x :: caps) (.bool (p x))) : Ret Tryz.prog 41 [.sl (l.map encR) false, .fn fn caps] (.bool (l.any p)) := by
  refine ret_of_awp Tryz.func41 rfl (Nat.le_of_ble_eq_true rfl) ?_
  refine awp_seq ?_
  refine awp_rw rfl ?_
  refine asT ?_
  refine RW.nil ?_
  refine awp_seq ?_
  refine awp_rw rfl ?_
  refine mvT ?_
  refine mvT ?_
  refine RW.op rfl rfl (eff_callT (ixfR_ret l fn caps p hl hco hp) co67 rfl rfl rfl rfl) ?_
  refine ioT ?_
  refine asT ?_
  refine RW.nil ?_
  refine awp_ret ?_
  rw [← any_fIx]
  exact ⟨Or.inr rfl, [_], ⟨.tmp (.t _), trivial⟩, .refl _⟩

theorem needed_ret (l : List Rep) (ss : List Tr) (fl : Bool) (q : Nat) (hl : l.length ≤ 100000) (hR : ∀ r, r ∈ l → RepOK r) (hq : q ≤ 1000) : Ret Tryz.prog 17 [.agg [.sl ss fl, .sl (l.map encR) false], encI (q : Nat)] (.sl ((neededN l q).map encN) false) := by
  refine ret_of_awp Tryz.func17 rfl (Nat.le_of_ble_eq_true rfl) ?_
  refine awp_seq ?_
  refine awp_rw rfl ?_
  refine RW.new rfl rfl (eff_boxK (v := .t _) (k := 2) (id := 2) rfl rfl rfl rfl rfl rfl) ?_
  refine asT ?_
  refine RW.nil ?_
  refine awp_seq ?_
  refine awp_rw rfl ?_
  refine asT ?_
  refine RW.nil ?_
  show AWP _ _ _ _
  refine awp_weak (weak_adopt (d := 5) (id := 5) (k := 1) (ty := 3) rfl rfl) ?_
  refine awp_seq ?_
  refine awp_seq ?_
  refine awp_rw rfl ?_
  refine mvT ?_
  refine RW.op rfl rfl (eff_maxE (r := (q : Int)) rfl rfl rfl rfl (by unfold imax; split <;> omega)) ?_
  refine mvT ?_
  refine RW.nil ?_
  refine awp_block ?_
  refine awp_loopW (fun m s => ∃ (i : Nat) (gn : Nat) (n : Nat) (els : List AV), (i ≤ q) ∧ (n = (neededN l i).length) ∧ (els = ((neededN l i).map encN).map .t) ∧ m = q - i ∧ s = ⟨22, [(2, .ptr 2 0 0 0), (5, .own 5 gn 0 n), (8, .t (encI (q : Nat))), (9, .t (encI (i : Nat)))], [(2, some ⟨2, 27, 0, [.t (.agg [.sl ss fl, .sl (l.map encR) false])]⟩), (5, some ⟨1, 3, gn, els⟩)]⟩) (_) (⟨_, weak_keep (n := 22) (fr' := [(2, .ptr 2 0 0 0), (5, .own 5 0 0 0), (8, .t (encI (q : Nat))), (9, .t (encI (0 : Nat)))]) (st' := [(2, some ⟨2, 27, 0, [.t (.agg [.sl ss fl, .sl (l.map encR) false])]⟩), (5, some ⟨1, 3, 0, ([])⟩)]) ⟨rfl, rfl, rfl, rfl, rfl, rfl, rfl, rfl, trivial⟩ ⟨rfl, okE_one rfl, rfl, (by first | exact okE_nil | (rw [he]; exact okE_t) | (rw [he]; intro x hx; simp only [List.mem_append, List.mem_map, List.mem_singleton] at hx; rcases hx with ⟨y, _, rfl⟩ | rfl <;> rfl)), trivial⟩, 0, 0, 0, [], (by omega), (by rfl), (by rfl), rfl, rfl⟩) ?_
  rintro m s ⟨i, gn, n, els, hi, hnn, he, rfl, rfl⟩
  have hnl := needed_len l i
  refine awp_seq ?_
  refine awp_rw rfl ?_
  refine ioT ?_
  refine RW.nil ?_
  refine awp_seq ?_
  refine awp_cond rfl (fun h1 => ?_) (fun h1 => ?_)
  · try simp only [cl] at h1
    refine awp_skip ?_
    refine awp_seq ?_
    refine awp_block ?_
    refine awp_seq ?_
    refine awp_rw rfl ?_
    refine mvT ?_
    refine RW.new rfl rfl (eff_allocK (k := 1) (id := 6) rfl rfl tz3 rfl rfl) ?_
    refine RW.store rfl rfl (eff_storeW (v := .t _) (els := [_]) (els' := [_]) rfl rfl ti3 rfl rfl rfl rfl rfl rfl rfl rfl rfl) ?_
    refine RW.nil ?_
    show AWP _ _ _ _
    refine awp_weak (weak_frz (n := 22) (fr' := [(2, .ptr 2 0 0 0), (5, .own 5 gn 0 n), (8, .t (encI (q : Nat))), (9, .t (encI (i : Nat))), (6, .t (.ptr [encI (i : Nat)]))]) (st' := [(2, some ⟨2, 27, 0, [.t (.agg [.sl ss fl, .sl (l.map encR) false])]⟩), (5, some ⟨1, 3, gn, els⟩)]) [(6, some ⟨1, 3, 0, [.t (encI (i : Nat))]⟩)] ⟨rfl, trivial⟩ ⟨rfl, rfl, trivial⟩ ⟨wa_eq rfl rfl, wa_eq rfl rfl, wa_eq rfl rfl, wa_eq rfl rfl, .res (Res.ptrT (x := encI (i : Nat)) rfl rfl rfl) (.refl _), trivial⟩ ⟨rfl, okE_one rfl, rfl, (by first | exact okE_nil | (rw [he]; exact okE_t) | (rw [he]; intro x hx; simp only [List.mem_append, List.mem_map, List.mem_singleton] at hx; rcases hx with ⟨y, _, rfl⟩ | rfl <;> rfl)), trivial⟩) ?_
    refine awp_seq ?_
    refine awp_rw rfl ?_
    refine faT tf27_1 ?_
    refine l1T ti25 rfl rfl rfl rfl rfl (.one rfl rfl rfl rfl) ?_
    refine RW.op rfl rfl (eff_makeFunc rfl rfl rfl rfl) ?_
    refine RW.op rfl rfl (eff_callT (anyR_ret l 42 [.ptr [encI (i : Nat)]] (fun r => !hasB r (i : Nat)) hl co42 (fun r hr => lack64_ret r (i : Nat) (hR r hr) (by omega))) co41 rfl rfl rfl rfl) ?_
    refine RW.nil ?_
    have hla : lackN l i = (l.any fun r => !hasB r (i : Nat)) := rfl
    refine awp_cond rfl (fun h2 => ?_) (fun h2 => ?_)
    · try simp only [cl] at h2
      refine awp_rw rfl ?_
      refine mvO ?_
      refine RW.op rfl rfl (eff_loadT1 rfl rfl ti3 rfl rfl) ?_
      refine RW.new rfl rfl (eff_buildSlice1 (id := 18) (els := [_]) rfl rfl te52 tz3 rfl (by decide) rfl rfl rfl rfl) ?_
      refine RW.new rfl rfl (eff_append (id := 5) (ys := [_]) rfl rfl ta52 rfl rfl rfl (by rw [he, hnn]; simp) rfl rfl (srcOwn rfl rfl rfl rfl rfl rfl) (by simp) (by simp; omega) (by simp; omega)) ?_
      refine asO ?_
      refine RW.nil ?_
      refine awp_rw rfl ?_
      refine RW.op rfl rfl (eff_iop rfl rfl rfl rfl (iadd (by omega))) ?_
      refine mvT ?_
      refine RW.nil ?_
      refine ⟨_, ?_, _, weak_keep (n := 22) (fr' := [(2, .ptr 2 0 0 0), (5, .own 5 _ 0 _), (8, .t (encI (q : Nat))), (9, .t (encI ((i + 1) : Nat)))]) (st' := [(2, some ⟨2, 27, 0, [.t (.agg [.sl ss fl, .sl (l.map encR) false])]⟩), (5, some ⟨1, 3, _, _⟩)]) ⟨rfl, rfl, rfl, rfl, rfl, rfl, rfl, rfl, trivial⟩ ⟨rfl, okE_one rfl, rfl, (by first | exact okE_nil | (rw [he]; exact okE_t) | (rw [he]; intro x hx; simp only [List.mem_append, List.mem_map, List.mem_singleton] at hx; rcases hx with ⟨y, _, rfl⟩ | rfl <;> rfl)), trivial⟩, i + 1, _, _, _, (by omega), (by first | (rw [needed_yes (by first | assumption | exact hla.trans (by assumption)), hnn]; simp <;> rfl) | (rw [needed_no (by first | assumption | exact hla.trans (by assumption))]; exact hnn)), (by first | (rw [needed_yes (by first | assumption | exact hla.trans (by assumption)), he]; simp <;> rfl) | (rw [needed_no (by first | assumption | exact hla.trans (by assumption))]; exact he)), rfl, rfl⟩
      omega
    · try simp only [cl] at h2
      refine awp_skip ?_
      refine awp_rw rfl ?_
      refine RW.op rfl rfl (eff_iop rfl rfl rfl rfl (iadd (by omega))) ?_
      refine mvT ?_
      refine RW.nil ?_
      refine ⟨_, ?_, _, weak_keep (n := 22) (fr' := [(2, .ptr 2 0 0 0), (5, .own 5 _ 0 _), (8, .t (encI (q : Nat))), (9, .t (encI ((i + 1) : Nat)))]) (st' := [(2, some ⟨2, 27, 0, [.t (.agg [.sl ss fl, .sl (l.map encR) false])]⟩), (5, some ⟨1, 3, _, _⟩)]) ⟨rfl, rfl, rfl, rfl, rfl, rfl, rfl, rfl, trivial⟩ ⟨rfl, okE_one rfl, rfl, (by first | exact okE_nil | (rw [he]; exact okE_t) | (rw [he]; intro x hx; simp only [List.mem_append, List.mem_map, List.mem_singleton] at hx; rcases hx with ⟨y, _, rfl⟩ | rfl <;> rfl)), trivial⟩, i + 1, _, _, _, (by omega), (by first | (rw [needed_yes (by first | assumption | exact hla.trans (by assumption)), hnn]; simp <;> rfl) | (rw [needed_no (by first | assumption | exact hla.trans (by assumption))]; exact hnn)), (by first | (rw [needed_yes (by first | assumption | exact hla.trans (by assumption)), he]; simp <;> rfl) | (rw [needed_no (by first | assumption | exact hla.trans (by assumption))]; exact he)), rfl, rfl⟩
      omega
  · try simp only [cl] at h1
    refine awp_exit ?_
    refine awp_seq ?_
    refine awp_rw rfl ?_
    refine mvO ?_
    refine asO ?_
    refine RW.nil ?_
    refine awp_ret ?_
    obtain rfl : i = q := by omega
    exact ⟨Or.inr rfl, [_], ⟨.tmp (Res.ownT (xs := (neededN l i).map encN) rfl rfl he (by rw [hnn]; simp)), trivial⟩, .refl _⟩

theorem cmp67_ret (x y : Rep) : Ret Tryz.prog 20 [encR x, encR y] (encI (cmpI x.next y.next)) := by
  refine ret_of_awp Tryz.func20 rfl (Nat.le_of_ble_eq_true rfl) ?_
  refine awp_seq ?_
  refine awp_rw rfl ?_
  refine RW.new rfl rfl (eff_boxK (v := .t _) (k := 4) (id := 2) rfl rfl rfl rfl rfl rfl) ?_
  refine RW.new rfl rfl (eff_boxK (v := .t _) (k := 4) (id := 3) rfl rfl rfl rfl rfl rfl) ?_
  refine asT ?_
  refine RW.nil ?_
  refine awp_seq ?_
  refine awp_rw rfl ?_
  refine faT tf33_0 ?_
  refine l1T ti3 rfl rfl rfl rfl rfl (.one rfl rfl rfl rfl) ?_
  refine faT tf33_0 ?_
  refine l1T ti3 rfl rfl rfl rfl rfl (.one rfl rfl rfl rfl) ?_
  refine RW.op rfl rfl (eff_callT (cmp_ret x.next y.next) co21 rfl rfl rfl rfl) ?_
  refine asT ?_
  refine RW.nil ?_
  refine awp_ret ?_
  exact ⟨Or.inr rfl, [_], ⟨.tmp (.t _), trivial⟩, .refl _⟩

theorem min_ret (l : List Rep) (h0 : 0 < l.length) (hl : l.length ≤ 100000) : Ret Tryz.prog 19 [.sl (l.map encR) false, .fn 20 []] (encR (leastR l (l[0]'h0))) := by
  refine ret_of_awp Tryz.func19 rfl (Nat.le_of_ble_eq_true rfl) ?_
  refine awp_seq ?_
  refine awp_rw rfl ?_
  refine RW.new rfl rfl (eff_allocK (k := 4) (id := 4) rfl rfl tz33 rfl rfl) ?_
  refine RW.nil ?_
  refine awp_seq ?_
  refine awp_seq ?_
  refine awp_rw rfl ?_
  refine mvT ?_
  refine RW.op rfl rfl (eff_lenM rfl rfl te25 rfl) ?_
  refine RW.op rfl rfl (eff_iop (r := .bool false) rfl rfl rfl rfl (by exact iop_lss_f (by omega))) ?_
  refine RW.nil ?_
  refine awp_cond rfl (fun h => nomatch h) (fun _ => ?_)
  refine awp_skip ?_
  refine awp_seq ?_
  refine awp_rw rfl ?_
  refine mvT ?_
  refine RW.op rfl rfl (eff_indexAddrT (i := 0) rfl rfl te25 rfl rfl (by first | rfl | omega) (by rw [List.getElem?_map, List.getElem?_eq_getElem h0]; rfl) rfl (by decide)) ?_
  refine RW.op rfl rfl (eff_loadW rfl rfl ti33 rfl rfl rfl) ?_
  refine RW.new rfl rfl (eff_allocK (k := 4) (id := 5) rfl rfl tz33 rfl rfl) ?_
  refine RW.store rfl rfl (eff_storeW (v := .t _) (els := [_]) (els' := [_]) rfl rfl ti33 rfl rfl rfl rfl rfl rfl rfl rfl rfl) ?_
  refine RW.nil ?_
  refine awp_seq ?_
  refine awp_seq ?_
  refine awp_rw rfl ?_
  refine asT ?_
  refine RW.nil ?_
  refine awp_block ?_
  refine awp_loopW (fun m s => ∃ (i : Nat), (i ≤ l.length) ∧ (1 ≤ i) ∧ m = l.length - i ∧ s = ⟨33, [(0, .t (.sl (l.map encR) false)), (1, .t (.fn 20 [])), (4, .ptr 4 0 0 0), (5, .ptr 5 0 0 0), (6, .t (encI (i : Nat)))], [(4, some ⟨4, 33, 0, [.t z33]⟩), (5, some ⟨4, 33, 0, [.t (encR (leastR (l.take i) (l[0]'h0)))]⟩)]⟩) (_) (⟨_, weak_keep (n := 33) (fr' := [(0, .t (.sl (l.map encR) false)), (1, .t (.fn 20 [])), (4, .ptr 4 0 0 0), (5, .ptr 5 0 0 0), (6, .t (encI (1 : Nat)))]) (st' := [(4, some ⟨4, 33, 0, [.t z33]⟩), (5, some ⟨4, 33, 0, [.t (encR (leastR (l.take 1) (l[0]'h0)))]⟩)]) ⟨rfl, rfl, rfl, rfl, rfl, rfl, rfl, rfl, rfl, rfl, trivial⟩ ⟨rfl, okE_one rfl, by first | rfl | (rw [show leastR (l.take 1) (l[0]'h0) = l[0]'h0 from by rw [show (1 : Nat) = 0 + 1 from rfl, least_step h0]; exact minR_self _]; rfl) | (rw [show leastR (l.take (i + 1)) (l[0]'h0) = (l[i]'hil) from by rw [least_step hil]; exact if_pos (cmpI_neg.1 (by assumption))]; rfl) | (rw [show leastR (l.take (i + 1)) (l[0]'h0) = (leastR (l.take i) (l[0]'h0)) from by rw [least_step hil]; exact if_neg (fun hh => (by assumption : ¬ _) (cmpI_neg.2 hh))]; rfl), okE_one rfl, trivial⟩, 1, (by omega), (by omega), rfl, rfl⟩) ?_
  rintro m s ⟨i, hi, hi1, rfl, rfl⟩
  refine awp_seq ?_
  refine awp_seq ?_
  refine awp_rw rfl ?_
  refine mvT ?_
  refine mvT ?_
  refine RW.op rfl rfl (eff_lenM rfl rfl te25 rfl) ?_
  refine ioT ?_
  refine RW.nil ?_
  refine awp_cond rfl (fun h1 => ?_) (fun h1 => ?_)
  · try simp only [cl] at h1
    refine awp_skip ?_
    refine awp_seq ?_
    refine awp_block ?_
    refine awp_seq ?_
    have hil : i < l.length := by omega
    refine awp_rd [(some 20, []), (some 21, []), (some 22, []), (some 23, []), (some 24, []), (some 25, []), (some 26, []), (some 27, [])] [[], [], [], [1, 2], [1, 2, 3], [], [0, 1, 2, 3, 4, 5], [0, 1, 2, 3, 4, 5, 6]] tm rfl rfl rfl rfl ?_
    refine mvD ?_
    refine mvD ?_
    refine mvD ?_
    refine RD.op rfl rfl rfl (eff_indexAddrT (i := i) rfl rfl te25 rfl rfl (by first | rfl | omega) (by rw [List.getElem?_map, List.getElem?_eq_getElem hil]; rfl) rfl (by decide)) ?_
    refine RD.op rfl rfl rfl (eff_loadW rfl rfl ti33 rfl rfl rfl) ?_
    refine RD.op rfl rfl rfl (eff_load rfl rfl ti33 rfl (.whole rfl rfl rfl rfl rfl rfl)) ?_
    refine RD.op rfl rfl rfl (eff_callT (cmp67_ret (l[i]'hil) (leastR (l.take i) (l[0]'h0))) co20 rfl rfl rfl rfl) ?_
    refine RD.op rfl rfl rfl (eff_iop rfl rfl rfl rfl rfl) ?_
    refine RD.nil ?_
    refine awp_cond rfl (fun h2 => ?_) (fun h2 => ?_)
    · try simp only [cl] at h2
      refine awp_rw rfl ?_
      refine mvT ?_
      refine mvT ?_
      refine RW.op rfl rfl (eff_indexAddrT (i := i) rfl rfl te25 rfl rfl (by first | rfl | omega) (by rw [List.getElem?_map, List.getElem?_eq_getElem hil]; rfl) rfl (by decide)) ?_
      refine RW.op rfl rfl (eff_loadW rfl rfl ti33 rfl rfl rfl) ?_
      refine RW.store rfl rfl (eff_storeW (v := .t _) (els := [_]) (els' := [_]) rfl rfl ti33 rfl rfl rfl rfl rfl rfl rfl rfl rfl) ?_
      refine RW.nil ?_
      refine awp_rw rfl ?_
      refine mvT ?_
      refine RW.op rfl rfl (eff_iop rfl rfl rfl rfl (iadd (by omega))) ?_
      refine asT ?_
      refine RW.nil ?_
      refine ⟨_, ?_, _, weak_keep (n := 33) (fr' := [(0, .t (.sl (l.map encR) false)), (1, .t (.fn 20 [])), (4, .ptr 4 0 0 0), (5, .ptr 5 0 0 0), (6, .t (encI ((i + 1) : Nat)))]) (st' := [(4, some ⟨4, 33, 0, [.t z33]⟩), (5, some ⟨4, 33, 0, [.t (encR (leastR (l.take (i + 1)) (l[0]'h0)))]⟩)]) ⟨rfl, rfl, rfl, rfl, rfl, rfl, rfl, rfl, rfl, rfl, trivial⟩ ⟨rfl, okE_one rfl, by first | rfl | (rw [show leastR (l.take 1) (l[0]'h0) = l[0]'h0 from by rw [show (1 : Nat) = 0 + 1 from rfl, least_step h0]; exact minR_self _]; rfl) | (rw [show leastR (l.take (i + 1)) (l[0]'h0) = (l[i]'hil) from by rw [least_step hil]; exact if_pos (cmpI_neg.1 (by assumption))]; rfl) | (rw [show leastR (l.take (i + 1)) (l[0]'h0) = (leastR (l.take i) (l[0]'h0)) from by rw [least_step hil]; exact if_neg (fun hh => (by assumption : ¬ _) (cmpI_neg.2 hh))]; rfl), okE_one rfl, trivial⟩, i + 1, (by omega), (by omega), rfl, rfl⟩
      omega
    · try simp only [cl] at h2
      refine awp_skip ?_
      refine awp_rw rfl ?_
      refine mvT ?_
      refine RW.op rfl rfl (eff_iop rfl rfl rfl rfl (iadd (by omega))) ?_
      refine asT ?_
      refine RW.nil ?_
      refine ⟨_, ?_, _, weak_keep (n := 33) (fr' := [(0, .t (.sl (l.map encR) false)), (1, .t (.fn 20 [])), (4, .ptr 4 0 0 0), (5, .ptr 5 0 0 0), (6, .t (encI ((i + 1) : Nat)))]) (st' := [(4, some ⟨4, 33, 0, [.t z33]⟩), (5, some ⟨4, 33, 0, [.t (encR (leastR (l.take (i + 1)) (l[0]'h0)))]⟩)]) ⟨rfl, rfl, rfl, rfl, rfl, rfl, rfl, rfl, rfl, rfl, trivial⟩ ⟨rfl, okE_one rfl, by first | rfl | (rw [show leastR (l.take 1) (l[0]'h0) = l[0]'h0 from by rw [show (1 : Nat) = 0 + 1 from rfl, least_step h0]; exact minR_self _]; rfl) | (rw [show leastR (l.take (i + 1)) (l[0]'h0) = (l[i]'hil) from by rw [least_step hil]; exact if_pos (cmpI_neg.1 (by assumption))]; rfl) | (rw [show leastR (l.take (i + 1)) (l[0]'h0) = (leastR (l.take i) (l[0]'h0)) from by rw [least_step hil]; exact if_neg (fun hh => (by assumption : ¬ _) (cmpI_neg.2 hh))]; rfl), okE_one rfl, trivial⟩, i + 1, (by omega), (by omega), rfl, rfl⟩
      omega
  · try simp only [cl] at h1
    refine awp_exit ?_
    refine awp_seq ?_
    obtain rfl : i = l.length := by omega
    rw [List.take_length]
    refine awp_rw rfl ?_
    refine RW.op rfl rfl (eff_load rfl rfl ti33 rfl (.whole rfl rfl rfl rfl rfl rfl)) ?_
    refine RW.store rfl rfl (eff_storeW (v := .t _) (els := [_]) (els' := [_]) rfl rfl ti33 rfl rfl rfl rfl rfl rfl rfl rfl rfl) ?_
    refine RW.nil ?_
    refine awp_ret ?_
    exact ⟨Or.inr rfl, [_], ⟨.cell rfl ti33 (.whole rfl rfl rfl rfl rfl rfl) (.t _), trivial⟩, .refl _⟩

theorem settled_ret (l : List Rep) (ss : List Tr) (fl : Bool) (hl : l.length ≤ 100000) : Ret Tryz.prog 6 [.agg [.sl ss fl, .sl (l.map encR) false]] (encI (settledF l)) := by
  refine ret_of_awp Tryz.func6 rfl (Nat.le_of_ble_eq_true rfl) ?_
  refine awp_seq ?_
  refine awp_rw rfl ?_
  refine RW.new rfl rfl (eff_boxK (v := .t _) (k := 2) (id := 1) rfl rfl rfl rfl rfl rfl) ?_
  refine asT ?_
  refine RW.nil ?_
  refine awp_seq ?_
  refine awp_seq ?_
  by_cases hc1 : l.length = 0
  · refine awp_rw rfl ?_
    refine faT tf27_1 ?_
    refine l1T ti25 rfl rfl rfl rfl rfl (.one rfl rfl rfl rfl) ?_
    refine RW.op rfl rfl (eff_lenM rfl rfl te25 rfl) ?_
    refine RW.op rfl rfl (eff_iop (r := .bool true) rfl rfl rfl rfl (by exact congrArg (fun x => some (Tr.bool x)) (beq_iff_eq.2 (by rw [hc1]; rfl)))) ?_
    refine RW.nil ?_
    refine awp_cond rfl (fun _ => ?_) (fun h => nomatch h)
    refine awp_seq ?_
    refine awp_rw rfl ?_
    refine asT ?_
    refine RW.nil ?_
    refine awp_ret ?_
    rw [List.length_eq_zero_iff.1 hc1]
    exact ⟨Or.inr rfl, [_], ⟨.tmp (.t _), trivial⟩, .refl _⟩
  · refine awp_rw rfl ?_
    refine faT tf27_1 ?_
    refine l1T ti25 rfl rfl rfl rfl rfl (.one rfl rfl rfl rfl) ?_
    refine RW.op rfl rfl (eff_lenM rfl rfl te25 rfl) ?_
    refine RW.op rfl rfl (eff_iop (r := .bool false) rfl rfl rfl rfl (by exact congrArg (fun x => some (Tr.bool x)) (beq_eq_false_iff_ne.2 (by omega)))) ?_
    refine RW.nil ?_
    refine awp_cond rfl (fun h => nomatch h) (fun _ => ?_)
    refine awp_skip ?_
    refine awp_seq ?_
    refine awp_rw rfl ?_
    refine faT tf27_1 ?_
    refine l1T ti25 rfl rfl rfl rfl rfl (.one rfl rfl rfl rfl) ?_
    refine RW.op rfl rfl (eff_callT (min_ret l (by omega) hl) co19 rfl rfl rfl rfl) ?_
    refine RW.op rfl rfl (eff_field rfl rfl tf33_0 rfl rfl) ?_
    refine asT ?_
    refine RW.nil ?_
    refine awp_ret ?_
    rw [settled_is (by omega)]
    exact ⟨Or.inr rfl, [_], ⟨.tmp (.t _), trivial⟩, .refl _⟩

end Go.Tv.C37p

end
section
open Go Go.Tv Go.Tv.C37 Go.Proofs
namespace Go.Tv.C37p
set_option linter.unusedVariables false

def tailsC (B : List Bid) (s : Int) : Nat → List Nat → Nat → List (List Nat)
  | 0, _, _ => []
  | n + 1, head, i => if i < B.length then (if compI B s (head ++ [i]) then (head ++ [i]) :: tailsC B s n (head ++ [i]) (i + 1) else []) ++ tailsC B s n head (i + 1) else []
theorem tailsC_eq {B : List Bid} {s : Int} : ∀ (n : Nat) (head : List Nat) (i : Nat), B.length - i ≤ n → tailsC B s n head i = tailsF B s head i
  | 0, head, i, h => by rw [tailsF, dif_neg (by omega)]; rfl
  | n + 1, head, i, h => by
    unfold tailsC
    by_cases hi : i < B.length
    · rw [if_pos hi, tailsF, dif_pos hi, tailsC_eq n _ _ (by omega), tailsC_eq n _ _ (by omega)]
    · rw [if_neg hi, tailsF, dif_neg hi]
def bestC (B : List Bid) (s : Int) : List Nat := pick B [] ([] :: tailsC B s B.length [] 0)
theorem best_C {B : List Bid} {s : Int} (ho : ∀ b, b ∈ B → Ok b) : bestF B s = bestC B s := by
  rw [← pick_best ho]
  unfold bestC
  rw [tailsC_eq _ _ _ (by omega)]; rfl
theorem opt_C {B : List Bid} {s : Int} (ho : ∀ b, b ∈ B → Ok b) : optOf (atS B s) = vI B (bestC B s) := by
  rw [← best_val ho, best_C ho]
def outC (B : List Bid) : Nat → List Nat
  | 0 => []
  | s + 1 => outC B s ++ bestC (blockF B (outC B s) s) s
theorem out_C {B : List Bid} (ho : ∀ b, b ∈ B → Ok b) : ∀ s : Nat, outF B s = outC B s
  | 0 => rfl
  | s + 1 => by
    show outF B s ++ bestF (blockF B (outF B s) s) s = outC B s ++ bestC (blockF B (outC B s) s) s
    rw [out_C ho s, best_C (block_ok ho)]
def threeF (v : Int) : List Bid := [⟨0, 0, 0, 10, 5⟩, ⟨1, 0, 5, 15, v⟩, ⟨2, 0, 10, 20, 4⟩]
theorem three_ok {v : Int} (h : 1 ≤ v) : ∀ b, b ∈ threeF v → Ok b := by
  intro b hb
  simp only [threeF, List.mem_cons, List.not_mem_nil, or_false] at hb
  rcases hb with rfl | rfl | rfl
  · exact ⟨by decide, by decide⟩
  · exact ⟨(by show (5 : Int) < 15; decide), h⟩
  · exact ⟨by decide, by decide⟩
theorem three_okl {v : Int} (h : 1 ≤ v ∧ v ≤ 1000000) : OkL (threeF v) := ⟨three_ok h.1, by simp [threeF], fun b hb => by
  simp only [threeF, List.mem_cons, List.not_mem_nil, or_false] at hb
  rcases hb with rfl | rfl | rfl
  · exact ⟨by decide, by decide, by decide⟩
  · exact ⟨h.2, (by show (0 : Int) ≤ 5; decide), (by show (5 : Int) ≤ 1000000; decide)⟩
  · exact ⟨by decide, by decide, by decide⟩⟩
theorem lb8 : bestF (threeF 8) 0 = [0, 2] := by rw [best_C (three_ok (by decide))]; decide +kernel
theorem lb9 : bestF (threeF 9) 0 = [0, 2] := by rw [best_C (three_ok (by decide))]; decide +kernel
theorem lb10 : bestF (threeF 10) 0 = [1] := by rw [best_C (three_ok (by decide))]; decide +kernel
theorem lb81 : bestF (threeF 8) 1 = [] := by rw [best_C (three_ok (by decide))]; decide +kernel
theorem lo8 (i : Nat) : ∀ b, b ∈ othersF (threeF 8) i → Ok b := fun b hb => three_ok (by decide) b (others_mem hb)
theorem lp0 : priceZ (threeF 8) 0 0 = 4 := by
  unfold priceZ priceF oF
  rw [lb8, opt_C (lo8 _), opt_C (three_ok (by decide))]
  decide +kernel
theorem lp2 : priceZ (threeF 8) 0 2 = 3 := by
  unfold priceZ priceF oF
  rw [lb8, opt_C (lo8 _), opt_C (three_ok (by decide))]
  decide +kernel
theorem lp1 : priceZ (threeF 8) 0 1 = 0 := by
  unfold priceZ
  rw [lb8]
  decide
theorem lv14 : valZ (threeF 8) [0, 2, 7, 0] = 14 := by decide +kernel
theorem la8 : sortI (toI (outF (threeF 8) 9)) = [0, 2] := by
  have h : outF (threeF 8) 9 = [0, 2] := by rw [out_C (three_ok (by decide))]; decide +kernel
  rw [h]
  exact (sortI_eq (l := toI [0, 2]) (X := [0, 2]) (by decide) (List.Perm.refl _)).symm
def winF : List Win := [⟨1, 0, 0, 0, 12, 1⟩, ⟨1, 1, 0, 5, 15, 1⟩, ⟨1, 2, 0, 10, 19, 1⟩]
def repF : List Rep := [⟨2, 2, 0, false⟩, ⟨3, 0, 0, false⟩]
theorem repF_ok : ∀ r, r ∈ repF → RepOK r := by
  intro r hr
  simp only [repF, List.mem_cons, List.not_mem_nil, or_false] at hr
  rcases hr with rfl | rfl <;> exact ⟨⟨by decide, by decide⟩, by decide, by decide⟩
theorem ln6 : neededN repF 6 = [2, 3, 4, 5] := by decide +kernel
theorem lset : settledF repF = 2 := by decide +kernel
theorem lpa : passesF winF 1 14 = [⟨1, 1, 0, 5, 15, 1⟩] := by decide +kernel
theorem lpb : passesF winF 1 15 = [] := by decide +kernel
theorem lc2 : errF (atB winF) ((threeF 8).take 2) = 0 := by decide +kernel
theorem lc3 : errF (atB winF) (threeF 8) = 32 := by decide +kernel
theorem lc0 : errF (atB winF) (threeF 0) = 5 := by decide +kernel
theorem lc65 : errF (atB winF) (List.replicate 65 zb) = 2 := by decide +kernel
theorem same_true {l q : List Int} (hl : l.length ≤ 1000000) (hq : q.length ≤ 1000000) (h : l = q) : Ret Tryz.prog 12 [.sl (l.map encI) false, .sl (q.map encI) false] (.bool true) := by
  have := sameInts_ret l q hl hq
  rwa [decide_eq_true h] at this
end Go.Tv.C37p

end
section
open Go Go.Tv Go.Tv.C37 Go.Proofs
namespace Go.Tv.C37p
set_option maxRecDepth 20000
set_option maxHeartbeats 2000000
set_option linter.unusedSimpArgs false
set_option linter.unusedVariables false
theorem three_ret (v : Int) : Ret Tryz.prog 10 [encI v] (.sl ((threeF v).map encB) false) := by
  refine ret_of_awp Tryz.func10 rfl (Nat.le_of_ble_eq_true rfl) ?_
  refine awp_seq ?_
  refine awp_rw rfl ?_
  refine asT ?_
  refine RW.nil ?_
  refine awp_seq ?_
  refine awp_rw rfl ?_
  refine RW.op rfl rfl (eff_buildT (ys := [_, _, _, _, _]) rfl rfl tz68 tg68 rfl) ?_
  refine mvT ?_
  refine RW.op rfl rfl (eff_buildT (ys := [_, _, _, _, _]) rfl rfl tz68 tg68 rfl) ?_
  refine RW.op rfl rfl (eff_buildT (ys := [_, _, _, _, _]) rfl rfl tz68 tg68 rfl) ?_
  refine RW.new rfl rfl (eff_buildSliceL (id := 7) (els := [.t (.agg [_, _, _, _, _]), .t (.agg [_, _, _, _, _]), .t (.agg [_, _, _, _, _])]) rfl rfl te45 tz68 rfl (by decide) (by decide) rfl rfl rfl rfl) ?_
  refine asO ?_
  refine RW.nil ?_
  refine awp_ret ?_
  exact ⟨Or.inr rfl, [_], ⟨.tmp (Res.ownT (xs := (threeF v).map encB) rfl rfl rfl rfl), trivial⟩, .refl _⟩

theorem needed_reti (l : List Rep) (ss : List Tr) (fl : Bool) (q : Nat) (hl : l.length ≤ 100000) (hR : ∀ r, r ∈ l → RepOK r) (hq : q ≤ 1000) : Ret Tryz.prog 17 [.agg [.sl ss fl, .sl (l.map encR) false], encI (q : Nat)] (.sl ((toI (neededN l q)).map encI) false) := by
  have h := needed_ret l ss fl q hl hR hq
  rw [encN_map] at h
  exact h

theorem lives_ret  : Ret Tryz.prog 4 [] (.bool true) := by
  refine ret_of_awp Tryz.func4 rfl (Nat.le_of_ble_eq_true rfl) ?_
  refine awp_seq ?_
  refine awp_rw rfl ?_
  refine asT ?_
  refine RW.nil ?_
  refine awp_seq ?_
  refine awp_rw rfl ?_
  refine RW.op rfl rfl (eff_callT (three_ret 8) co10 rfl rfl rfl rfl) ?_
  refine asT ?_
  refine RW.nil ?_
  refine awp_seq ?_
  refine awp_rw rfl ?_
  refine RW.op rfl rfl (eff_buildT (ys := [_, _, _, _]) rfl rfl tz33 tg33 rfl) ?_
  refine RW.op rfl rfl (eff_buildT (ys := [_, _, _, _]) rfl rfl tz33 tg33 rfl) ?_
  refine RW.new rfl rfl (eff_buildSliceL (id := 8) (els := [.t (.agg [_, _, _, _]), .t (.agg [_, _, _, _])]) rfl rfl te25 tz33 rfl (by decide) (by decide) rfl rfl rfl rfl) ?_
  refine RW.op rfl rfl (eff_buildA (ys := [_, _]) rfl rfl tz27 tg27 rfl rfl) ?_
  refine RW.new rfl rfl (eff_allocK (k := 2) (id := 2) rfl rfl tz27 rfl rfl) ?_
  refine RW.store rfl rfl (eff_storeW (v := .agg _) (els := [_]) (els' := [_]) rfl rfl ti27 rfl rfl rfl rfl rfl rfl rfl rfl rfl) ?_
  refine RW.nil ?_
  show AWP _ _ _ _
  refine awp_weak (weak_frz (n := 124) (fr' := [(0, .t (.bool false)), (1, .t (.sl ((threeF 8).map encB) false)), (2, .t (.ptr [.sl [] true, .sl (repF.map encR) false]))]) (st' := []) [(2, some ⟨2, 27, 0, [.agg [.t (.sl [] true), .own 8 0 0 2]]⟩), (8, some ⟨4, 33, 0, (repF.map encR).map .t⟩)] ⟨rfl, rfl, trivial⟩ trivial ⟨wa_eq rfl rfl, wa_eq rfl rfl, .res (.ptr 2 0 0 0 _ _ [.sl [] true, .sl (repF.map encR) false] rfl rfl rfl (Nat.le_refl 2) (fun n e x he hx => ResP.get [.t (.sl [] true), .own 8 0 0 2] [.sl [] true, .sl (repF.map encR) false] ⟨.t _, Res.ownT (xs := repF.map encR) rfl rfl rfl rfl, trivial⟩ n e x (by simpa [AV.cells] using he) hx)) (.refl _), trivial⟩ trivial) ?_
  refine awp_seq ?_
  refine awp_rw rfl ?_
  refine RW.op rfl rfl (eff_buildT (ys := [_, _, _, _, _, _]) rfl rfl tz48 tg48 rfl) ?_
  refine RW.op rfl rfl (eff_buildT (ys := [_, _, _, _, _, _]) rfl rfl tz48 tg48 rfl) ?_
  refine RW.op rfl rfl (eff_buildT (ys := [_, _, _, _, _, _]) rfl rfl tz48 tg48 rfl) ?_
  refine RW.new rfl rfl (eff_buildSliceL (id := 13) (els := [.t (.agg [_, _, _, _, _, _]), .t (.agg [_, _, _, _, _, _]), .t (.agg [_, _, _, _, _, _])]) rfl rfl te49 tz48 rfl (by decide) (by decide) rfl rfl rfl rfl) ?_
  refine asO ?_
  refine RW.nil ?_
  show AWP _ _ _ _
  refine awp_weak (weak_frz (n := 124) (fr' := [(0, .t (.bool false)), (1, .t (.sl ((threeF 8).map encB) false)), (2, .t (.ptr [.sl [] true, .sl (repF.map encR) false])), (3, .t (.sl (winF.map encW) false))]) (st' := []) [(13, some ⟨6, 48, 0, (winF.map encW).map .t⟩)] ⟨rfl, trivial⟩ trivial ⟨wa_eq rfl rfl, wa_eq rfl rfl, wa_eq rfl rfl, .res (Res.ownT (xs := winF.map encW) rfl rfl rfl rfl) (.refl _), trivial⟩ trivial) ?_
  refine awp_seq ?_
  refine awp_rw rfl ?_
  refine mvT ?_
  refine RW.op rfl rfl (eff_callT (passes_ret winF 1 14 (by decide)) co11 rfl rfl rfl rfl) ?_
  refine asT ?_
  refine RW.nil ?_
  refine awp_seq ?_
  refine awp_seq ?_
  rw [lpa]
  refine awp_rd [(some 16, []), (some 17, []), (some 18, []), (some 19, []), (some 20, []), (some 21, []), (some 22, []), (some 23, []), (some 24, []), (some 25, []), (some 26, []), (some 27, []), (some 28, []), (some 29, []), (some 30, []), (some 31, []), (some 32, []), (some 33, [])] [[], [0], [0, 1], [0, 1, 2], [0, 1, 2, 3], [0, 1, 2, 3, 4], [0, 1, 2, 3, 4, 5], [0, 1, 2, 3], [0, 1, 2, 3, 7], [0, 1, 2, 3, 7, 8], [0, 1, 2, 3, 4, 5, 6, 7, 8, 9], [0, 1, 2, 3, 4, 5, 6, 7, 8, 9, 10], [0, 1, 2, 3, 4, 5, 6, 7, 8, 9, 10, 11], [0, 1, 2, 3, 4, 5, 6, 7, 8, 9, 10, 11, 12], [0, 1, 2, 3, 4, 5, 6, 7, 8, 9, 10, 11, 12, 13], [0, 1, 2, 3, 4, 5, 6, 7, 8, 9, 10, 11, 12, 13, 14], [0, 1, 2, 3, 4, 5, 6, 7, 8, 9, 10, 11, 12, 13, 14, 15], [0, 1, 2, 3, 4, 5, 6, 7, 8, 9, 10, 11, 12, 13, 14, 15, 16]] tm rfl rfl rfl rfl ?_
  refine mvD ?_
  refine RD.op rfl rfl rfl (eff_lenM rfl rfl te49 rfl) ?_
  refine RD.op rfl rfl rfl (eff_iop (r := .bool false) rfl rfl rfl rfl (by rfl)) ?_
  refine mvD ?_
  refine RD.gop rfl rfl rfl rfl rfl rfl rfl (eff_move (v := .t _) rfl rfl rfl) ?_
  refine RD.gop rfl rfl rfl rfl rfl rfl rfl (eff_indexM (i := 0) rfl rfl te49 rfl rfl (by first | rfl | omega) (by rfl) rfl (by decide)) ?_
  refine RD.gop rfl rfl rfl rfl rfl rfl rfl (eff_loadW rfl rfl ti48 rfl rfl rfl) ?_
  refine RD.gop rfl rfl rfl rfl rfl rfl rfl (eff_move (v := .t _) rfl rfl rfl) ?_
  refine RD.gop rfl rfl rfl rfl rfl rfl rfl (eff_indexM (i := 1) rfl rfl te49 rfl rfl (by first | rfl | omega) (by rfl) rfl (by decide)) ?_
  refine RD.gop rfl rfl rfl rfl rfl rfl rfl (eff_loadW rfl rfl ti48 rfl rfl rfl) ?_
  refine RD.gop rfl rfl rfl rfl rfl rfl rfl (eff_structNeqA (cells := cellsW) (a := ⟨1, 1, 0, 5, 15, 1⟩) (b := ⟨1, 1, 0, 5, 15, 1⟩) rfl rfl ts48s ti48 th48 cellsW_inj cellsW_kind rfl rfl) ?_
  refine RD.op rfl rfl rfl (eff_pick (v := .t _) rfl rfl rfl rfl) ?_
  refine mvD ?_
  refine RD.gop rfl rfl rfl rfl rfl rfl rfl (eff_move (v := .t _) rfl rfl rfl) ?_
  refine RD.gop rfl rfl rfl rfl rfl rfl rfl (eff_callT (passes_ret winF 1 15 (by decide)) co11 rfl rfl rfl rfl) ?_
  refine RD.gop rfl rfl rfl rfl rfl rfl rfl (eff_lenM rfl rfl te49 rfl) ?_
  refine RD.gop rfl rfl rfl rfl rfl rfl rfl (eff_iop (r := .bool false) rfl rfl rfl rfl (by rw [lpb]; rfl)) ?_
  refine RD.op rfl rfl rfl (eff_pick (v := .t _) rfl rfl rfl rfl) ?_
  refine RD.nil ?_
  refine awp_cond rfl (fun h => nomatch h) (fun _ => ?_)
  refine awp_skip ?_
  refine awp_seq ?_
  refine awp_rw rfl ?_
  refine mvT ?_
  refine RW.op rfl rfl (eff_callT (best_reti (threeF 8) 0 (three_okl (by decide))) co13 rfl rfl rfl rfl) ?_
  refine RW.op rfl rfl (eff_buildSliceT (xs := ([0, 2] : List Int).map encI) rfl rfl te52 tz3 rfl (by decide) rfl rfl rfl (by decide)) ?_
  refine RW.op rfl rfl (eff_callW (xs := [_, _]) (same_true (l := toI (bestF (threeF 8) 0)) (q := [0, 2]) (by rw [lb8]; decide) (by decide) (by rw [lb8]; rfl)) co12 rfl rfl rfl rfl (by repeat' first | exact trivial | exact Wk.refl _ | exact Wk.sl _ | refine And.intro ?_ ?_ | refine Wk.aggP ?_)) ?_
  refine mvT ?_
  refine RW.gop rfl rfl rfl rfl rfl rfl (eff_callT (three_ret 9) co10 rfl rfl rfl rfl) ?_
  refine RW.gop rfl rfl rfl rfl rfl rfl (eff_callT (best_reti (threeF 9) 0 (three_okl (by decide))) co13 rfl rfl rfl rfl) ?_
  refine RW.gop rfl rfl rfl rfl rfl rfl (eff_buildSliceT (xs := ([0, 2] : List Int).map encI) rfl rfl te52 tz3 rfl (by decide) rfl rfl rfl (by decide)) ?_
  refine RW.gop rfl rfl rfl rfl rfl rfl (eff_callW (xs := [_, _]) (same_true (l := toI (bestF (threeF 9) 0)) (q := [0, 2]) (by rw [lb9]; decide) (by decide) (by rw [lb9]; rfl)) co12 rfl rfl rfl rfl (by repeat' first | exact trivial | exact Wk.refl _ | exact Wk.sl _ | refine And.intro ?_ ?_ | refine Wk.aggP ?_)) ?_
  refine pkT ?_
  refine mvT ?_
  refine RW.gop rfl rfl rfl rfl rfl rfl (eff_callT (three_ret 10) co10 rfl rfl rfl rfl) ?_
  refine RW.gop rfl rfl rfl rfl rfl rfl (eff_callT (best_reti (threeF 10) 0 (three_okl (by decide))) co13 rfl rfl rfl rfl) ?_
  refine RW.gop rfl rfl rfl rfl rfl rfl (eff_buildSliceT (xs := ([1] : List Int).map encI) rfl rfl te52 tz3 rfl (by decide) rfl rfl rfl (by decide)) ?_
  refine RW.gop rfl rfl rfl rfl rfl rfl (eff_callW (xs := [_, _]) (same_true (l := toI (bestF (threeF 10) 0)) (q := [1]) (by rw [lb10]; decide) (by decide) (by rw [lb10]; rfl)) co12 rfl rfl rfl rfl (by repeat' first | exact trivial | exact Wk.refl _ | exact Wk.sl _ | refine And.intro ?_ ?_ | refine Wk.aggP ?_)) ?_
  refine pkT ?_
  refine mvT ?_
  refine RW.gop rfl rfl rfl rfl rfl rfl (eff_move (v := .t _) rfl rfl rfl) ?_
  refine RW.gop rfl rfl rfl rfl rfl rfl (eff_callT (best_reti (threeF 8) 1 (three_okl (by decide))) co13 rfl rfl rfl rfl) ?_
  refine RW.gop rfl rfl rfl rfl rfl rfl (eff_lenM rfl rfl te52 rfl) ?_
  refine RW.gop rfl rfl rfl rfl rfl rfl (eff_iop (r := .bool true) rfl rfl rfl rfl (by rw [lb81]; rfl)) ?_
  refine pkT ?_
  refine mvT ?_
  refine RW.gop rfl rfl rfl rfl rfl rfl (eff_move (v := .t _) rfl rfl rfl) ?_
  refine RW.gop rfl rfl rfl rfl rfl rfl (eff_buildSliceT (xs := ([0, 2, 7, 0] : List Int).map encI) rfl rfl te52 tz3 rfl (by decide) rfl rfl rfl (by decide)) ?_
  refine RW.gop rfl rfl rfl rfl rfl rfl (eff_callW (xs := [_, _]) (value_ret (threeF 8) [0, 2, 7, 0] (three_okl (by decide)).vb (by decide) (by decide)) co14 rfl rfl rfl rfl (by repeat' first | exact trivial | exact Wk.refl _ | exact Wk.sl _ | refine And.intro ?_ ?_ | refine Wk.aggP ?_)) ?_
  refine RW.gop rfl rfl rfl rfl rfl rfl (eff_iop (r := .bool true) rfl rfl rfl rfl (by rw [lv14]; rfl)) ?_
  refine pkT ?_
  refine mvT ?_
  refine RW.gop rfl rfl rfl rfl rfl rfl (eff_move (v := .t _) rfl rfl rfl) ?_
  refine RW.gop rfl rfl rfl rfl rfl rfl (eff_callT (price_ret (threeF 8) 0 0 (three_okl (by decide))) co15 rfl rfl rfl rfl) ?_
  refine RW.gop rfl rfl rfl rfl rfl rfl (eff_iop (r := .bool true) rfl rfl rfl rfl (by rw [lp0]; rfl)) ?_
  refine pkT ?_
  refine mvT ?_
  refine RW.gop rfl rfl rfl rfl rfl rfl (eff_move (v := .t _) rfl rfl rfl) ?_
  refine RW.gop rfl rfl rfl rfl rfl rfl (eff_callT (price_ret (threeF 8) 0 2 (three_okl (by decide))) co15 rfl rfl rfl rfl) ?_
  refine RW.gop rfl rfl rfl rfl rfl rfl (eff_iop (r := .bool true) rfl rfl rfl rfl (by rw [lp2]; rfl)) ?_
  refine pkT ?_
  refine mvT ?_
  refine RW.gop rfl rfl rfl rfl rfl rfl (eff_move (v := .t _) rfl rfl rfl) ?_
  refine RW.gop rfl rfl rfl rfl rfl rfl (eff_callT (price_ret (threeF 8) 0 1 (three_okl (by decide))) co15 rfl rfl rfl rfl) ?_
  refine RW.gop rfl rfl rfl rfl rfl rfl (eff_iop (r := .bool true) rfl rfl rfl rfl (by rw [lp1]; rfl)) ?_
  refine pkT ?_
  refine mvT ?_
  refine RW.gop rfl rfl rfl rfl rfl rfl (eff_move (v := .t _) rfl rfl rfl) ?_
  refine RW.gop rfl rfl rfl rfl rfl rfl (eff_callT (assign_ret (threeF 8) (three_okl (by decide))) co16 rfl rfl rfl rfl) ?_
  refine RW.gop rfl rfl rfl rfl rfl rfl (eff_buildSliceT (xs := ([0, 2] : List Int).map encI) rfl rfl te52 tz3 rfl (by decide) rfl rfl rfl (by decide)) ?_
  refine RW.gop rfl rfl rfl rfl rfl rfl (eff_callW (xs := [_, _]) (same_true (l := sortI (toI (outF (threeF 8) 9))) (q := [0, 2]) (by rw [la8]; decide) (by decide) la8) co12 rfl rfl rfl rfl (by repeat' first | exact trivial | exact Wk.refl _ | exact Wk.sl _ | refine And.intro ?_ ?_ | refine Wk.aggP ?_)) ?_
  refine pkT ?_
  refine mvT ?_
  refine RW.gop rfl rfl rfl rfl rfl rfl (eff_loadT (ys := [_, _]) rfl rfl ti27 rfl rfl rfl) ?_
  refine RW.gop rfl rfl rfl rfl rfl rfl (eff_callT (needed_reti repF [] true 6 (by decide) repF_ok (by decide)) co17 rfl rfl rfl rfl) ?_
  refine RW.gop rfl rfl rfl rfl rfl rfl (eff_buildSliceT (xs := ([2, 3, 4, 5] : List Int).map encI) rfl rfl te52 tz3 rfl (by decide) rfl rfl rfl (by decide)) ?_
  refine RW.gop rfl rfl rfl rfl rfl rfl (eff_callW (xs := [_, _]) (same_true (l := toI (neededN repF 6)) (q := [2, 3, 4, 5]) (by rw [ln6]; decide) (by decide) (by rw [ln6]; rfl)) co12 rfl rfl rfl rfl (by repeat' first | exact trivial | exact Wk.refl _ | exact Wk.sl _ | refine And.intro ?_ ?_ | refine Wk.aggP ?_)) ?_
  refine pkT ?_
  refine mvT ?_
  refine RW.gop rfl rfl rfl rfl rfl rfl (eff_loadT (ys := [_, _]) rfl rfl ti27 rfl rfl rfl) ?_
  refine RW.gop rfl rfl rfl rfl rfl rfl (eff_callT (settled_ret repF [] true (by decide)) co6 rfl rfl rfl rfl) ?_
  refine RW.gop rfl rfl rfl rfl rfl rfl (eff_iop (r := .bool true) rfl rfl rfl rfl (by rw [lset]; rfl)) ?_
  refine pkT ?_
  refine mvT ?_
  refine RW.gop rfl rfl rfl rfl rfl rfl (eff_buildT (ys := [_, _]) rfl rfl tz27 tg27 rfl) ?_
  refine RW.gop rfl rfl rfl rfl rfl rfl (eff_callW (xs := [_]) (settled_ret [] [] true (by decide)) co6 rfl rfl rfl rfl (by repeat' first | exact trivial | exact Wk.refl _ | exact Wk.sl _ | refine And.intro ?_ ?_ | refine Wk.aggP ?_)) ?_
  refine RW.gop rfl rfl rfl rfl rfl rfl (eff_iop (r := .bool true) rfl rfl rfl rfl (by rfl)) ?_
  refine pkT ?_
  refine mvT ?_
  refine RW.gop rfl rfl rfl rfl rfl rfl (eff_move (v := .t _) rfl rfl rfl) ?_
  refine RW.gop rfl rfl rfl rfl rfl rfl (eff_move (v := .t _) rfl rfl rfl) ?_
  refine RW.gop rfl rfl rfl rfl rfl rfl (eff_sliceM (l := none) (h := some 2) (r := (threeF 8).take 2) rfl rfl te45 rfl (fun _ => rfl) .no (.yes rfl rfl) (Nat.zero_le _) (by decide) (by rfl)) ?_
  refine RW.gop rfl rfl rfl rfl rfl rfl (eff_callT (check_ret winF ((threeF 8).take 2) (by decide) (by decide)) co18 rfl rfl rfl rfl) ?_
  refine RW.gop rfl rfl rfl rfl rfl rfl (eff_iop (r := .bool true) rfl rfl rfl rfl (by rw [lc2]; rfl)) ?_
  refine pkT ?_
  refine mvT ?_
  refine RW.gop rfl rfl rfl rfl rfl rfl (eff_move (v := .t _) rfl rfl rfl) ?_
  refine RW.gop rfl rfl rfl rfl rfl rfl (eff_move (v := .t _) rfl rfl rfl) ?_
  refine RW.gop rfl rfl rfl rfl rfl rfl (eff_callT (check_ret winF (threeF 8) (by decide) (by decide)) co18 rfl rfl rfl rfl) ?_
  refine RW.gop rfl rfl rfl rfl rfl rfl (eff_iop (r := .bool true) rfl rfl rfl rfl (by rw [lc3]; rfl)) ?_
  refine pkT ?_
  refine mvT ?_
  refine RW.gop rfl rfl rfl rfl rfl rfl (eff_move (v := .t _) rfl rfl rfl) ?_
  refine RW.gop rfl rfl rfl rfl rfl rfl (eff_callT (three_ret 0) co10 rfl rfl rfl rfl) ?_
  refine RW.gop rfl rfl rfl rfl rfl rfl (eff_callT (check_ret winF (threeF 0) (by decide) (by decide)) co18 rfl rfl rfl rfl) ?_
  refine RW.gop rfl rfl rfl rfl rfl rfl (eff_iop (r := .bool true) rfl rfl rfl rfl (by rw [lc0]; rfl)) ?_
  refine pkT ?_
  refine mvT ?_
  refine RW.gop rfl rfl rfl rfl rfl rfl (eff_move (v := .t _) rfl rfl rfl) ?_
  refine RW.gnew rfl rfl rfl rfl rfl rfl (eff_makeSliceM (id := 120) (l := 65) rfl rfl te45 tz68 rfl (by decide) tb68 rfl rfl rfl rfl (by decide) (by decide) rfl rfl) ?_
  refine RW.gop rfl rfl rfl rfl rfl rfl (eff_callB (ys := [.sl (winF.map encW) false, .sl ((List.replicate 65 zb).map encB) false]) (caps := []) rfl rfl rfl (.t _) co18 (ResL.cons (.t _) (.refl _) (ResL.cons (Res.ownT (xs := (List.replicate 65 zb).map encB) rfl rfl rfl rfl) (.refl _) .nil)) (by rw [List.append_nil]; exact check_ret winF (List.replicate 65 zb) (by decide) (by decide)) rfl) ?_
  refine RW.gop rfl rfl rfl rfl rfl rfl (eff_iop (r := .bool true) rfl rfl rfl rfl (by rw [lc65]; rfl)) ?_
  refine pkT ?_
  refine asT ?_
  refine RW.nil ?_
  refine awp_ret ?_
  exact ⟨Or.inr rfl, [_], ⟨.tmp (.t _), trivial⟩, .refl _⟩

end Go.Tv.C37p

end
section
open Go Go.Tv Go.Tv.C37 Go.Proofs
namespace Go.Tv.C37t
set_option linter.unusedVariables false

/-! The least number. -/
def cR (r : Rep) : C37p.Rep := ⟨r.next, r.have_, r.key, r.locked⟩
theorem cR_map (l : List Rep) : l.map encR = (l.map cR).map C37p.encR := by rw [List.map_map]; rfl
def lo (l : List Rep) : Int := C37p.settledF (l.map cR)
theorem fold_min (l : List C37p.Rep) : ∀ m : C37p.Rep, ((l.foldl C37p.minR m).next ≤ m.next ∧ ∀ r, r ∈ l → (l.foldl C37p.minR m).next ≤ r.next) ∧ ((l.foldl C37p.minR m).next = m.next ∨ ∃ r, r ∈ l ∧ (l.foldl C37p.minR m).next = r.next) := by
  induction l with
  | nil => exact fun m => ⟨⟨Int.le_refl _, fun r h => by simp at h⟩, .inl rfl⟩
  | cons a l ih =>
    intro m
    obtain ⟨⟨h1, h2⟩, h3⟩ := ih (C37p.minR m a)
    have e := C37p.minR_next m a
    rw [e] at h1 h3
    refine ⟨⟨by show (l.foldl C37p.minR (C37p.minR m a)).next ≤ _; omega, fun r hr => ?_⟩, ?_⟩
    · show (l.foldl C37p.minR (C37p.minR m a)).next ≤ _
      rcases List.mem_cons.1 hr with rfl | h
      · omega
      · exact h2 r h
    · show (l.foldl C37p.minR (C37p.minR m a)).next = _ ∨ ∃ r, _ ∧ (l.foldl C37p.minR (C37p.minR m a)).next = _
      rcases h3 with h | ⟨r, hr, h⟩
      · by_cases hh : m.next ≤ a.next
        · left; omega
        · right; exact ⟨a, List.mem_cons_self, by omega⟩
      · right; exact ⟨r, List.mem_cons_of_mem _ hr, h⟩
theorem lo_le {l : List Rep} {r : Rep} (h : r ∈ l) : lo l ≤ r.next := by
  cases l with
  | nil => simp at h
  | cons a l =>
    obtain ⟨⟨h1, h2⟩, _⟩ := fold_min (l.map cR) (cR a)
    show ((l.map cR).foldl C37p.minR (cR a)).next ≤ _
    rcases List.mem_cons.1 h with rfl | h
    · exact h1
    · exact h2 (cR r) (List.mem_map.2 ⟨r, h, rfl⟩)
theorem lo_mem {l : List Rep} (h : 0 < l.length) : ∃ r, r ∈ l ∧ lo l = r.next := by
  cases l with
  | nil => simp at h
  | cons a l =>
    obtain ⟨_, h3⟩ := fold_min (l.map cR) (cR a)
    rcases h3 with h3 | ⟨r, hr, h3⟩
    · exact ⟨a, List.mem_cons_self, h3⟩
    · obtain ⟨b, hb, rfl⟩ := List.mem_map.1 hr
      exact ⟨b, List.mem_cons_of_mem _ hb, h3⟩
theorem loP_min (l : List Rep) : ∀ x : Int, (loP l x ≤ x ∧ ∀ r, r ∈ l → loP l x ≤ r.next) ∧ (loP l x = x ∨ ∃ r, r ∈ l ∧ loP l x = r.next) := by
  induction l with
  | nil => exact fun x => ⟨⟨Int.le_refl _, fun r h => by simp at h⟩, .inl rfl⟩
  | cons a l ih =>
    intro x
    obtain ⟨⟨h1, h2⟩, h3⟩ := ih (imin x a.next)
    have e : imin x a.next ≤ x ∧ imin x a.next ≤ a.next ∧ (imin x a.next = x ∨ imin x a.next = a.next) := by unfold imin; split <;> omega
    refine ⟨⟨by show loP l (imin x a.next) ≤ _; omega, fun r hr => ?_⟩, ?_⟩
    · show loP l (imin x a.next) ≤ _
      rcases List.mem_cons.1 hr with rfl | h
      · omega
      · exact h2 r h
    · show loP l (imin x a.next) = _ ∨ ∃ r, _ ∧ loP l (imin x a.next) = _
      rcases h3 with h | ⟨r, hr, h⟩
      · rcases e.2.2 with h4 | h4
        · left; omega
        · right; exact ⟨a, List.mem_cons_self, by omega⟩
      · right; exact ⟨r, List.mem_cons_of_mem _ hr, h⟩
/-- What Delivered tells first is what Settled tells. -/
theorem lo_loP (x0 : Rep) (rest : List Rep) : loP (x0 :: rest) x0.next = lo (x0 :: rest) := by
  obtain ⟨⟨_, h2⟩, h3⟩ := loP_min (x0 :: rest) x0.next
  obtain ⟨r, hr, h4⟩ := lo_mem (l := x0 :: rest) (by simp)
  have h5 := h2 r hr
  rcases h3 with h | ⟨q, hq, h⟩
  · have := lo_le (l := x0 :: rest) (r := x0) List.mem_cons_self; omega
  · have := lo_le hq; omega

/-! The steps. -/
theorem w64_is {n : Int} (h : -9223372036854775808 ≤ n) (h2 : n ≤ 9223372036854775807) : w64 n = n := wrap64 h h2
theorem apply_next {s : Rep} {f : Frm} (h : 0 ≤ s.next ∧ s.next ≤ 100000) : s.next ≤ (apply s f).next ∧ (apply s f).next ≤ s.next + 128 := by
  have hd : 0 ≤ dist f s ∧ dist f s ≤ 255 := by unfold dist; omega
  have ho := ones_le s.have_
  unfold apply
  split
  · omega
  · split
    · show s.next ≤ (if dist f s < 128 then w64 (s.next + dist f s) else s.next) ∧ (if dist f s < 128 then w64 (s.next + dist f s) else s.next) ≤ _
      split
      · rw [w64_is (by omega) (by omega)]; omega
      · omega
    · split
      · show s.next ≤ s.next ∧ s.next ≤ _; omega
      · split
        · show s.next ≤ w64 (s.next + (1 + (ones s.have_ : Nat))) ∧ w64 (s.next + (1 + (ones s.have_ : Nat))) ≤ _
          rw [w64_is (by omega) (by omega)]; omega
        · split
          · show s.next ≤ s.next ∧ s.next ≤ _; omega
          · show s.next ≤ s.next ∧ s.next ≤ _; omega
structure KG (i : Nat) (ky : Int) (T : Twn) : Prop where
  srt : Srt T.poss
  hp : ∀ y, y ∈ T.poss → HP y
  len : T.poss.length ≤ 256
  ne : 0 < T.poss.length
  bod : ∀ x, x ∈ T.sent → x.body.length ≤ 1000000
  sl : T.sent.length ≤ i
  last : ∀ x, T.sent.getLast? = some x → x.key < ky
  nx : ∀ y, y ∈ T.poss → 0 ≤ y.next ∧ y.next ≤ 128 * (i : Int)
  kb : 0 ≤ ky ∧ ky ≤ 3 * (i : Int)
theorem kg0 : KG 0 0 ⟨[], [zr]⟩ where
  srt := List.pairwise_singleton _ _
  hp := by intro y hy; rw [List.mem_singleton.1 hy]; exact ⟨by decide, by decide⟩
  len := by decide
  ne := by decide
  bod := by intro x hx; cases hx
  sl := by decide
  last := by intro x hx; cases hx
  nx := by intro y hy; rw [List.mem_singleton.1 hy]; exact ⟨by decide, by decide⟩
  kb := by decide
theorem KG.keep {i : Nat} {ky k2 : Int} {T : Twn} (h : KG i ky T) (hk : ky ≤ k2) (hk2 : k2 ≤ 3 * ((i + 1 : Nat) : Int)) : KG (i + 1) k2 T :=
  ⟨h.srt, h.hp, h.len, h.ne, h.bod, by have := h.sl; omega, fun x hx => by have := h.last x hx; omega, fun y hy => by have := h.nx y hy; omega, by have := h.kb; omega⟩
theorem not_late {i : Nat} {ky : Int} {T : Twn} (h : KG i ky T) {f : Frm} (hf : ky ≤ f.key) : late T.sent f = false := by
  unfold late
  cases e : T.sent.getLast? with
  | none => rfl
  | some x => have := h.last x e; exact decide_eq_false (by omega)
theorem send_kinds {i : Nat} {ky : Int} {T : Twn} (h : KG i ky T) {f : Frm} (hf : ky ≤ f.key) : (send T f).2 = 0 ∨ (send T f).2 = 2 := by
  unfold send
  rw [if_neg (by rw [not_late h hf]; decide)]
  split
  · exact .inr rfl
  · exact .inl rfl
theorem send_good {i : Nat} {ky : Int} {T : Twn} (h : KG i ky T) (hi : i ≤ 100) {f : Frm} (hf : ky ≤ f.key) (hf2 : f.key + 1 ≤ 3 * ((i + 1 : Nat) : Int)) (hb : f.body.length ≤ 1000000) (he : (send T f).2 = 0) :
    KG (i + 1) (f.key + 1) (send T f).1 ∧ lo T.poss ≤ lo (send T f).1.poss := by
  unfold send at he ⊢
  rw [if_neg (by rw [not_late h hf]; decide)] at he ⊢
  by_cases hm : (stepF T.poss f).length > 256
  · rw [if_pos hm] at he; exact absurd he (by decide)
  · rw [if_neg hm]
    have hmem : ∀ y, y ∈ stepF T.poss f ↔ y ∈ T.poss ∨ ∃ x, x ∈ T.poss ∧ y = apply x f := fun y => stepF_mem
    have hpos : 0 < (stepF T.poss f).length := by
      obtain ⟨y, hy⟩ := List.length_pos_iff_exists_mem.1 h.ne
      exact List.length_pos_of_mem ((hmem y).2 (.inl hy))
    have hnx : ∀ y, y ∈ stepF T.poss f → (0 ≤ y.next ∧ y.next ≤ 128 * ((i + 1 : Nat) : Int)) ∧ lo T.poss ≤ y.next := by
      intro y hy
      rcases (hmem y).1 hy with h1 | ⟨x, hx, rfl⟩
      · have := h.nx y h1; have := lo_le h1; omega
      · have h1 := h.nx x hx
        have h2 := apply_next (s := x) (f := f) (by omega)
        have := lo_le hx
        omega
    refine ⟨⟨srt_stepF h.srt, stepF_hp h.hp, by show (stepF T.poss f).length ≤ 256; omega, hpos, ?_, ?_, ?_, fun y hy => (hnx y hy).1, ?_⟩, ?_⟩
    · intro x hx
      rcases List.mem_append.1 hx with hx | hx
      · exact h.bod x hx
      · rw [List.mem_singleton.1 hx]; exact hb
    · show (T.sent ++ [f]).length ≤ _
      rw [List.length_append, List.length_singleton]; have := h.sl; omega
    · intro x hx
      have e : (T.sent ++ [f]).getLast? = some f := by simp
      have e2 : some f = some x := e.symm.trans hx
      cases e2
      omega
    · have := h.kb; omega
    · obtain ⟨r, hr, e⟩ := lo_mem hpos
      show lo T.poss ≤ lo (stepF T.poss f)
      rw [e]; exact (hnx r hr).2
theorem fold_self : ∀ (l : List Frm) (out : List Rep) (x : Rep), x ∈ out → x ∈ l.foldl stepF out
  | [], out, x, h => h
  | f :: l, out, x, h => fold_self l (stepF out f) x (stepF_mem.2 (.inl h))
theorem hear_good {i : Nat} {ky : Int} {T : Twn} (h : KG i ky T) {r : Rep} (hr : r ∈ T.poss) : (hear T r).2 = 0 ∧ KG (i + 1) ky (hear T r).1 ∧ lo T.poss ≤ lo (hear T r).1.poss := by
  have hm : r ∈ left_ T r := List.mem_filter.2 ⟨hr, decide_eq_true (fold_self (open_ T.sent r) [r] r (List.mem_singleton.2 rfl))⟩
  unfold hear
  rw [if_neg (fun e => by rw [e] at hm; cases hm)]
  have hsub : ∀ y, y ∈ left_ T r → y ∈ T.poss := fun y hy => (List.mem_filter.1 hy).1
  have hpos : 0 < (left_ T r).length := List.length_pos_of_mem hm
  have hle : (left_ T r).length ≤ T.poss.length := List.length_filter_le _ _
  refine ⟨rfl, ⟨h.srt.filter _, fun y hy => h.hp y (hsub y hy), Nat.le_trans hle h.len, hpos, h.bod, ?_, h.last, fun y hy => ?_, ?_⟩, ?_⟩
  · have := h.sl; show T.sent.length ≤ _; omega
  · have := h.nx y (hsub y hy); omega
  · have := h.kb; omega
  · obtain ⟨q, hq, e⟩ := lo_mem hpos
    show lo T.poss ≤ lo (left_ T r)
    rw [e]; exact lo_le (hsub q hq)
theorem tsettled_ret (T : Twn) (hl : T.poss.length ≤ 100000) : Ret Tryz.prog 6 [encT T] (encI (lo T.poss)) := by
  have h := C37p.settled_ret (T.poss.map cR) (T.sent.map encF) false (by rw [List.length_map]; exact hl)
  rw [← cR_map] at h
  exact h
theorem tdelivered_ret (T : Twn) (h : 0 < T.poss.length) (hl : T.poss.length ≤ 1000) : ∃ hi : Int, Ret Tryz.prog 9 [encT T] (.tup [encI (lo T.poss), encI hi]) := by
  obtain ⟨snt, poss⟩ := T
  cases poss with
  | nil => simp at h
  | cons x0 rest =>
    have hl' : rest.length + 1 ≤ 1000 := hl
    have hd := delivered_ret snt x0 rest (by omega)
    rw [lo_loP] at hd
    exact ⟨_, hd⟩
end Go.Tv.C37t

end
section
open Go Go.Tv Go.Tv.C37 Go.Proofs
namespace Go.Tv.C37t

structure Ev where
  seq : Nat
  skip : Nat
  pick : Nat
  unlock : Bool
  heard : Bool
def encE (e : Ev) : Tr := .agg [encBy (e.seq : Nat), encBy (e.skip : Nat), encBy (e.pick : Nat), .bool e.unlock, .bool e.heard]
def EvOK (e : Ev) : Prop := e.seq < 256 ∧ e.skip < 256 ∧ e.pick < 256
end Go.Tv.C37t

end
section
open Go Go.Tv Go.Tv.C37 Go.Proofs
namespace Go.Tv.C37t
set_option maxRecDepth 20000
set_option maxHeartbeats 2000000
set_option linter.unusedSimpArgs false
set_option linter.unusedVariables false
theorem tmod_nat (a b : Nat) : Int.tmod (a : Int) (b : Int) = ((a % b : Nat) : Int) := by
  rw [Int.tmod_eq_emod_of_nonneg (Int.natCast_nonneg a)]; simp

theorem law3 (l : List Ev) (hE : ∀ e, e ∈ l → EvOK e) (hl : l.length ≤ 9223372036854775807) : RetT Tryz.prog 3 [(1, deT)] [.sl (l.map encE) false] (.bool true) := by
  refine retT_of_awp Tryz.func3 rfl (Nat.le_of_ble_eq_true rfl) ?_
  refine awp_seq ?_
  refine awp_rw rfl ?_
  refine asT ?_
  refine RW.nil ?_
  refine awp_seq ?_
  refine awp_seq ?_
  refine awp_rw rfl ?_
  refine mvT ?_
  refine RW.op rfl rfl (eff_lenM rfl rfl te22 rfl) ?_
  refine ioT ?_
  refine RW.nil ?_
  refine awp_cond rfl (fun h1 => ?_) (fun h1 => ?_)
  · try simp only [cl] at h1
    refine awp_seq ?_
    refine awp_rw rfl ?_
    refine RW.op rfl rfl (eff_callT (C37p.lives_ret) co4 rfl rfl rfl rfl) ?_
    refine asT ?_
    refine RW.nil ?_
    refine awp_ret ?_
    exact ⟨Or.inr rfl, [_], ⟨.tmp (.t _), trivial⟩, .refl _⟩
  · try simp only [cl] at h1
    refine awp_skip ?_
    refine awp_seq ?_
    refine awp_rw rfl ?_
    refine RW.op rfl rfl (eff_callT (new17_ret) co5 rfl rfl rfl rfl) ?_
    refine RW.new rfl rfl (eff_allocK (k := 2) (id := 3) rfl rfl tz27 rfl rfl) ?_
    refine RW.store rfl rfl (eff_storeW (v := .t _) (els := [_]) (els' := [_]) rfl rfl ti27 rfl rfl rfl rfl rfl rfl rfl rfl rfl) ?_
    refine asT ?_
    refine RW.nil ?_
    refine awp_seq ?_
    refine awp_seq ?_
    refine awp_rw rfl ?_
    refine asT ?_
    refine RW.nil ?_
    refine awp_block ?_
    refine awp_loopW (fun m s => ∃ (i : Nat) (T : Twn) (ky : Int), (i ≤ l.length) ∧ (KG i ky T) ∧ m = l.length - i ∧ s = ⟨114, [(0, .t (.sl (l.map encE) false)), (3, .ptr 3 0 0 0), (4, .t (encI ky)), (5, .t (encI (i : Nat))), (115, .t deT)], [(3, some ⟨2, 27, 0, [.t (encT T)]⟩)]⟩) (_) (⟨_, weak_keep (n := 114) (fr' := [(0, .t (.sl (l.map encE) false)), (3, .ptr 3 0 0 0), (4, .t (encI 0)), (5, .t (encI (0 : Nat))), (115, .t deT)]) (st' := [(3, some ⟨2, 27, 0, [.t (encT (⟨[], [zr]⟩))]⟩)]) ⟨rfl, rfl, rfl, rfl, rfl, rfl, rfl, rfl, rfl, rfl, trivial⟩ ⟨rfl, okE_one rfl, trivial⟩, 0, ⟨[], [zr]⟩, 0, (by omega), (by exact kg0), rfl, rfl⟩) ?_
    rintro m s ⟨i, T, ky, hi, hg, rfl, rfl⟩
    have hgl := hg.len
    have hgs := hg.sl
    have hgk := hg.kb
    have hgn := hg.ne
    refine awp_seq ?_
    refine awp_seq ?_
    refine awp_rw rfl ?_
    refine mvT ?_
    refine mvT ?_
    refine RW.op rfl rfl (eff_lenM rfl rfl te22 rfl) ?_
    refine ioT ?_
    refine RW.nil ?_
    refine awp_cond rfl (fun h2 => ?_) (fun h2 => ?_)
    · try simp only [cl] at h2
      refine awp_skip ?_
      refine awp_seq ?_
      refine awp_block ?_
      refine awp_seq ?_
      refine awp_rw rfl ?_
      refine RW.op rfl rfl (eff_load rfl rfl ti27 rfl (.whole rfl rfl rfl rfl rfl rfl)) ?_
      refine RW.op rfl rfl (eff_callT (tsettled_ret T (by omega)) co6 rfl rfl rfl rfl) ?_
      refine asT ?_
      refine RW.nil ?_
      refine awp_seq_mid (fun s => ∃ (T2 : Twn) (k2 : Int), KG (i + 1) k2 T2 ∧ lo T.poss ≤ lo T2.poss ∧ Weak s ⟨114, [(0, .t (.sl (l.map encE) false)), (3, .ptr 3 0 0 0), (4, .t (encI k2)), (5, .t (encI (i : Nat))), (6, .t (encI (lo T.poss))), (115, .t deT)], [(3, some ⟨2, 27, 0, [.t (encT T2)]⟩)]⟩) ?_ ?_
      · refine awp_seq ?_
        have hil : i < l.length := by omega
        have hev := hE _ (List.getElem_mem hil)
        unfold EvOK at hev
        refine awp_rw rfl ?_
        refine mvT ?_
        refine mvT ?_
        refine RW.op rfl rfl (eff_indexAddrT (i := i) rfl rfl te22 rfl rfl (by first | rfl | omega) (by rw [List.getElem?_map, List.getElem?_eq_getElem hil]; rfl) rfl (by decide)) ?_
        refine RW.op rfl rfl (eff_fieldAddrT rfl rfl tf31_4 (by decide) rfl) ?_
        refine RW.op rfl rfl (eff_loadT1 rfl rfl ti4 rfl rfl) ?_
        refine RW.nil ?_
        refine awp_cond rfl (fun h3 => ?_) (fun h3 => ?_)
        · try simp only [cl] at h3
          refine awp_seq ?_
          refine awp_seq ?_
          refine awp_rw rfl ?_
          refine faT tf27_1 ?_
          refine l1T ti25 rfl rfl rfl rfl rfl (.one rfl rfl rfl rfl) ?_
          refine RW.op rfl rfl (eff_lenM rfl rfl te25 rfl) ?_
          refine RW.op rfl rfl (eff_iop (r := .bool false) rfl rfl rfl rfl (by exact congrArg (fun x => some (Tr.bool x)) (beq_eq_false_iff_ne.2 (by show ((T.poss.length : Nat) : Int) ≠ 0; omega)))) ?_
          refine RW.nil ?_
          refine awp_cond rfl (fun h => nomatch h) (fun _ => ?_)
          refine awp_skip ?_
          refine awp_seq ?_
          have hpk : ((l[i]'hil).pick % T.poss.length) < T.poss.length := Nat.mod_lt _ hgn
          have hrm : (T.poss[((l[i]'hil).pick % T.poss.length)]'hpk) ∈ T.poss := List.getElem_mem hpk
          obtain ⟨hh0, hm1, hm2⟩ := hear_good hg hrm
          refine awp_rd [(some 36, []), (some 37, []), (some 38, []), (some 39, []), (some 40, []), (some 41, []), (some 42, []), (some 43, []), (some 44, []), (some 45, []), (some 46, []), (some 47, []), (some 48, []), (some 49, []), (some 7, [7]), (none, [7])] [[], [0], [], [], [2, 3], [2, 3, 4], [2, 3, 4, 5], [2, 3, 4, 5, 6], [], [8], [8, 9], [2, 3, 4, 5, 6, 7, 8, 9, 10], [0, 1, 2, 3, 4, 5, 6, 7, 8, 9, 10, 11], [0, 1, 2, 3, 4, 5, 6, 7, 8, 9, 10, 11, 12], [], [0, 1, 2, 3, 4, 5, 6, 7, 8, 9, 10, 11, 12, 13, 14]] tm rfl rfl rfl rfl ?_
          refine RD.op rfl rfl rfl (eff_fieldAddr rfl rfl tf27_1 (by decide) rfl rfl rfl (Nat.le_of_ble_eq_true rfl)) ?_
          refine RD.op rfl rfl rfl (eff_load (y := .t _) rfl rfl ti25 rfl (.one rfl rfl rfl rfl)) ?_
          refine mvD ?_
          refine mvD ?_
          refine RD.op rfl rfl rfl (eff_indexAddrT (i := i) rfl rfl te22 rfl rfl (by first | rfl | omega) (by rw [List.getElem?_map, List.getElem?_eq_getElem hil]; rfl) rfl (by decide)) ?_
          refine RD.op rfl rfl rfl (eff_fieldAddrT rfl rfl tf31_2 (by decide) rfl) ?_
          refine RD.op rfl rfl rfl (eff_loadT1 rfl rfl ti5 rfl rfl) ?_
          refine RD.op rfl rfl rfl (eff_convIntE (m := (((l[i]'hil).pick : Nat) : Int)) rfl rfl (by rw [tu5]; rfl) tu3 rfl (wrap64 (by omega) (by omega))) ?_
          refine RD.op rfl rfl rfl (eff_fieldAddr rfl rfl tf27_1 (by decide) rfl rfl rfl (Nat.le_of_ble_eq_true rfl)) ?_
          refine RD.op rfl rfl rfl (eff_load (y := .t _) rfl rfl ti25 rfl (.one rfl rfl rfl rfl)) ?_
          refine RD.op rfl rfl rfl (eff_lenM rfl rfl te25 rfl) ?_
          refine RD.op rfl rfl rfl (eff_remE (r := ((((l[i]'hil).pick % T.poss.length) : Nat) : Int)) rfl rfl rfl rfl (by omega) (tmod_nat _ _)) ?_
          refine RD.op rfl rfl rfl (eff_indexAddrT (i := ((l[i]'hil).pick % T.poss.length)) rfl rfl te25 rfl rfl (by first | rfl | omega) (by rw [List.getElem?_map, List.getElem?_eq_getElem hpk]; rfl) rfl (by decide)) ?_
          refine RD.op rfl rfl rfl (eff_loadW rfl rfl ti33 rfl rfl rfl) ?_
          refine RD.new rfl rfl rfl (eff_allocK (k := 4) (id := 7) rfl rfl tz33 rfl rfl) ?_
          refine RD.store rfl rfl rfl (eff_storeW (v := .t _) (els := [_]) (els' := [_]) rfl rfl ti33 rfl rfl rfl rfl rfl rfl rfl rfl rfl) ?_
          refine RD.nil ?_
          refine awp_seq ?_
          refine awp_rw rfl ?_
          refine RW.op rfl rfl (eff_load rfl rfl ti27 rfl (.whole rfl rfl rfl rfl rfl rfl)) ?_
          refine RW.op rfl rfl (eff_load rfl rfl ti33 rfl (.whole rfl rfl rfl rfl rfl rfl)) ?_
          refine RW.op rfl rfl (eff_callXT (thear_ret T (T.poss[((l[i]'hil).pick % T.poss.length)]'hpk) (hg.hp _ hrm) (by omega) (by omega) hg.bod) co7 rfl rfl rfl ⟨rfl, trivial⟩ rfl) ?_
          refine mvT ?_
          refine RW.op rfl rfl (eff_extract rfl rfl rfl rfl) ?_
          refine RW.op rfl rfl (eff_extract rfl rfl rfl rfl) ?_
          refine RW.new rfl rfl (eff_allocK (k := 2) (id := 8) rfl rfl tz27 rfl rfl) ?_
          refine RW.store rfl rfl (eff_storeW (v := .t _) (els := [_]) (els' := [_]) rfl rfl ti27 rfl rfl rfl rfl rfl rfl rfl rfl rfl) ?_
          refine asT ?_
          refine RW.nil ?_
          refine awp_seq ?_
          refine awp_seq ?_
          refine awp_rw rfl ?_
          refine mvT ?_
          refine RW.op rfl rfl (eff_iop (r := .bool false) rfl rfl rfl rfl (by exact congrArg (fun x => some (Tr.bool x)) (bne_eq_false_iff_eq.2 hh0))) ?_
          refine RW.nil ?_
          refine awp_cond rfl (fun h => nomatch h) (fun _ => ?_)
          refine awp_skip ?_
          refine awp_rw rfl ?_
          refine RW.op rfl rfl (eff_load rfl rfl ti27 rfl (.whole rfl rfl rfl rfl rfl rfl)) ?_
          refine RW.store rfl rfl (eff_storeW (v := .t _) (els := [_]) (els' := [_]) rfl rfl ti27 rfl rfl rfl rfl rfl rfl rfl rfl rfl) ?_
          refine RW.nil ?_
          exact ⟨_, _, hm1, hm2, weak_keep (n := 114) ⟨rfl, rfl, rfl, rfl, rfl, rfl, rfl, rfl, rfl, rfl, rfl, rfl, trivial⟩ ⟨rfl, okE_one rfl, trivial⟩⟩
        · try simp only [cl] at h3
          refine awp_seq ?_
          refine awp_rw rfl ?_
          refine mvT ?_
          refine mvT ?_
          refine mvT ?_
          refine RW.op rfl rfl (eff_indexAddrT (i := i) rfl rfl te22 rfl rfl (by first | rfl | omega) (by rw [List.getElem?_map, List.getElem?_eq_getElem hil]; rfl) rfl (by decide)) ?_
          refine RW.op rfl rfl (eff_fieldAddrT rfl rfl tf31_1 (by decide) rfl) ?_
          refine RW.op rfl rfl (eff_loadT1 rfl rfl ti5 rfl rfl) ?_
          refine RW.op rfl rfl (eff_remE (r := (((l[i]'hil).skip % 3 : Nat) : Int)) rfl rfl rfl rfl (by decide) (tmod_nat _ 3)) ?_
          refine RW.op rfl rfl (eff_convIntE (m := (((l[i]'hil).skip % 3 : Nat) : Int)) rfl rfl (by rw [tu5]; rfl) tu3 rfl (wrap64 (by omega) (by omega))) ?_
          refine RW.op rfl rfl (eff_iop (r := encI (ky + (((l[i]'hil).skip % 3 : Nat) : Int))) rfl rfl rfl rfl (iadd (by omega))) ?_
          refine asT ?_
          refine RW.nil ?_
          refine awp_seq ?_
          refine awp_rd [(some 69, []), (some 70, []), (some 71, []), (some 72, []), (some 73, []), (some 74, []), (some 75, []), (some 76, []), (some 77, []), (some 78, []), (some 79, []), (some 80, []), (some 81, []), (some 82, []), (some 83, []), (some 84, []), (some 68, []), (some 85, []), (some 86, []), (some 10, [10]), (none, [10]), (some 11, [])] [[], [], [], [1, 2], [1, 2, 3], [1, 2, 3, 4], [1, 2, 3, 4, 5], [1, 2, 3, 4, 5, 6], [], [], [], [9, 10], [9, 10, 11], [9, 10, 11, 12], [1, 2, 3, 4, 5, 6, 7, 8, 9, 10, 11, 12, 13], [0, 1, 2, 3, 4, 5, 6, 7, 8, 9, 10, 11, 12, 13, 14], [0, 1, 2, 3, 4, 5, 6, 7, 8, 9, 10, 11, 12, 13, 14, 15], [0, 1, 2, 3, 4, 5, 6, 7, 8, 9, 10, 11, 12, 13, 14, 15, 16], [0, 1, 2, 3, 4, 5, 6, 7, 8, 9, 10, 11, 12, 13, 14, 15, 16], [], [0, 1, 2, 3, 4, 5, 6, 7, 8, 9, 10, 11, 12, 13, 14, 15, 16, 17, 19], [0, 1, 2, 3, 4, 5, 6, 7, 8, 9, 10, 11, 12, 13, 14, 15, 16, 17, 18, 19, 20]] tm rfl rfl rfl rfl ?_
          refine RD.op rfl rfl rfl (eff_load rfl rfl ti27 rfl (.whole rfl rfl rfl rfl rfl rfl)) ?_
          refine mvD ?_
          refine mvD ?_
          refine RD.op rfl rfl rfl (eff_indexAddrT (i := i) rfl rfl te22 rfl rfl (by first | rfl | omega) (by rw [List.getElem?_map, List.getElem?_eq_getElem hil]; rfl) rfl (by decide)) ?_
          refine RD.op rfl rfl rfl (eff_fieldAddrT rfl rfl tf31_0 (by decide) rfl) ?_
          refine RD.op rfl rfl rfl (eff_loadT1 rfl rfl ti5 rfl rfl) ?_
          refine RD.op rfl rfl rfl (eff_remE (r := (((l[i]'hil).seq % 20 : Nat) : Int)) rfl rfl rfl rfl (by decide) (tmod_nat _ 20)) ?_
          refine RD.op rfl rfl rfl (eff_convIntE (m := (((l[i]'hil).seq % 20 : Nat) : Int)) rfl rfl (by rw [tu5]; rfl) tu3 rfl (wrap64 (by omega) (by omega))) ?_
          refine mvD ?_
          refine mvD ?_
          refine mvD ?_
          refine RD.op rfl rfl rfl (eff_indexAddrT (i := i) rfl rfl te22 rfl rfl (by first | rfl | omega) (by rw [List.getElem?_map, List.getElem?_eq_getElem hil]; rfl) rfl (by decide)) ?_
          refine RD.op rfl rfl rfl (eff_fieldAddrT rfl rfl tf31_3 (by decide) rfl) ?_
          refine RD.op rfl rfl rfl (eff_loadT1 rfl rfl ti4 rfl rfl) ?_
          refine RD.op rfl rfl rfl (eff_buildT (ys := [_, _, _, _, _]) rfl rfl tz41 tg41 rfl) ?_
          refine RD.op rfl rfl rfl (eff_callXW (xs := [_, _]) (tsend_ret T ⟨(((l[i]'hil).seq % 20 : Nat) : Int), (ky + (((l[i]'hil).skip % 3 : Nat) : Int)), (l[i]'hil).unlock, [], 0⟩ hg.srt hg.hp (by omega) (by omega) hg.bod (Nat.zero_le _)) co8 rfl rfl rfl ⟨rfl, trivial⟩ rfl (by repeat' first | exact trivial | exact Wk.refl _ | exact Wk.sl _ | refine And.intro ?_ ?_ | refine Wk.aggP ?_)) ?_
          refine mvD ?_
          refine RD.op rfl rfl rfl (eff_extract rfl rfl rfl rfl) ?_
          refine RD.op rfl rfl rfl (eff_extract rfl rfl rfl rfl) ?_
          refine RD.new rfl rfl rfl (eff_allocK (k := 2) (id := 10) rfl rfl tz27 rfl rfl) ?_
          refine RD.store rfl rfl rfl (eff_storeW (v := .t _) (els := [_]) (els' := [_]) rfl rfl ti27 rfl rfl rfl rfl rfl rfl rfl rfl rfl) ?_
          refine RD.op rfl rfl rfl (eff_assign (v := .t _) rfl rfl rfl) ?_
          refine RD.nil ?_
          refine awp_seq ?_
          refine awp_seq ?_
          by_cases hc4 : (send T ⟨(((l[i]'hil).seq % 20 : Nat) : Int), (ky + (((l[i]'hil).skip % 3 : Nat) : Int)), (l[i]'hil).unlock, [], 0⟩).2 = 0
          · have hsg := send_good hg (by omega) (f := ⟨(((l[i]'hil).seq % 20 : Nat) : Int), (ky + (((l[i]'hil).skip % 3 : Nat) : Int)), (l[i]'hil).unlock, [], 0⟩) (by show ky ≤ (ky + (((l[i]'hil).skip % 3 : Nat) : Int)); omega) (by show (ky + (((l[i]'hil).skip % 3 : Nat) : Int)) + 1 ≤ _; omega) (Nat.zero_le _) hc4
            obtain ⟨hm1, hm2⟩ := hsg
            refine awp_rw rfl ?_
            refine mvT ?_
            refine RW.op rfl rfl (eff_iop (r := .bool false) rfl rfl rfl rfl (by exact congrArg (fun x => some (Tr.bool x)) (bne_eq_false_iff_eq.2 hc4))) ?_
            refine mvT ?_
            refine gkT ?_
            refine gkT ?_
            refine pkT ?_
            refine RW.nil ?_
            refine awp_cond rfl (fun h => nomatch h) (fun _ => ?_)
            refine awp_skip ?_
            refine awp_seq ?_
            refine awp_seq ?_
            refine awp_rw rfl ?_
            refine mvT ?_
            refine RW.op rfl rfl (eff_iop (r := .bool true) rfl rfl rfl rfl (by exact congrArg (fun x => some (Tr.bool x)) (beq_iff_eq.2 hc4))) ?_
            refine RW.nil ?_
            refine awp_cond rfl (fun _ => ?_) (fun h => nomatch h)
            refine awp_rw rfl ?_
            refine RW.op rfl rfl (eff_load rfl rfl ti27 rfl (.whole rfl rfl rfl rfl rfl rfl)) ?_
            refine RW.store rfl rfl (eff_storeW (v := .t _) (els := [_]) (els' := [_]) rfl rfl ti27 rfl rfl rfl rfl rfl rfl rfl rfl rfl) ?_
            refine RW.nil ?_
            refine awp_rw rfl ?_
            refine mvT ?_
            refine RW.op rfl rfl (eff_iop (r := encI ((ky + (((l[i]'hil).skip % 3 : Nat) : Int)) + 1)) rfl rfl rfl rfl (iadd (by omega))) ?_
            refine asT ?_
            refine RW.nil ?_
            exact ⟨_, _, hm1, hm2, weak_keep (n := 114) ⟨rfl, rfl, rfl, rfl, rfl, rfl, rfl, rfl, rfl, rfl, rfl, rfl, trivial⟩ ⟨rfl, okE_one rfl, trivial⟩⟩
          · have hc2 : (send T ⟨(((l[i]'hil).seq % 20 : Nat) : Int), (ky + (((l[i]'hil).skip % 3 : Nat) : Int)), (l[i]'hil).unlock, [], 0⟩).2 = 2 := (send_kinds hg (f := ⟨(((l[i]'hil).seq % 20 : Nat) : Int), (ky + (((l[i]'hil).skip % 3 : Nat) : Int)), (l[i]'hil).unlock, [], 0⟩) (by show ky ≤ (ky + (((l[i]'hil).skip % 3 : Nat) : Int)); omega)).resolve_left hc4
            have hm1 : KG (i + 1) ((ky + (((l[i]'hil).skip % 3 : Nat) : Int)) + 1) T := hg.keep (by omega) (by omega)
            have hm2 : lo T.poss ≤ lo T.poss := Int.le_refl _
            refine awp_rw rfl ?_
            refine mvT ?_
            refine RW.op rfl rfl (eff_iop (r := .bool true) rfl rfl rfl rfl (by exact congrArg (fun x => some (Tr.bool x)) (bne_iff_ne.2 hc4))) ?_
            refine mvT ?_
            refine RW.gop rfl rfl rfl rfl rfl rfl (eff_move (v := .t _) rfl rfl rfl) ?_
            refine RW.gop rfl rfl rfl rfl rfl rfl (eff_iop (r := .bool false) rfl rfl rfl rfl (by exact congrArg (fun x => some (Tr.bool x)) (bne_eq_false_iff_eq.2 hc2))) ?_
            refine pkT ?_
            refine RW.nil ?_
            refine awp_cond rfl (fun h => nomatch h) (fun _ => ?_)
            refine awp_skip ?_
            refine awp_seq ?_
            refine awp_seq ?_
            refine awp_rw rfl ?_
            refine mvT ?_
            refine RW.op rfl rfl (eff_iop (r := .bool false) rfl rfl rfl rfl (by exact congrArg (fun x => some (Tr.bool x)) (beq_eq_false_iff_ne.2 hc4))) ?_
            refine RW.nil ?_
            refine awp_cond rfl (fun h => nomatch h) (fun _ => ?_)
            refine awp_skip ?_
            refine awp_rw rfl ?_
            refine mvT ?_
            refine RW.op rfl rfl (eff_iop (r := encI ((ky + (((l[i]'hil).skip % 3 : Nat) : Int)) + 1)) rfl rfl rfl rfl (iadd (by omega))) ?_
            refine asT ?_
            refine RW.nil ?_
            exact ⟨_, _, hm1, hm2, weak_keep (n := 114) ⟨rfl, rfl, rfl, rfl, rfl, rfl, rfl, rfl, rfl, rfl, rfl, rfl, trivial⟩ ⟨rfl, okE_one rfl, trivial⟩⟩
      · rintro s1 ⟨T2, k2, hm1, hm2, hw⟩
        refine awp_weak hw ?_
        clear hw
        have hml := hm1.len
        obtain ⟨hi9, hdel⟩ := tdelivered_ret T2 hm1.ne (by omega)
        refine awp_seq ?_
        refine awp_rw rfl ?_
        refine RW.op rfl rfl (eff_load rfl rfl ti27 rfl (.whole rfl rfl rfl rfl rfl rfl)) ?_
        refine RW.op rfl rfl (eff_callT (hdel) co9 rfl rfl rfl rfl) ?_
        refine mvT ?_
        refine RW.op rfl rfl (eff_extract rfl rfl rfl rfl) ?_
        refine RW.op rfl rfl (eff_extract rfl rfl rfl rfl) ?_
        refine asT ?_
        refine asT ?_
        refine RW.nil ?_
        refine awp_seq ?_
        refine awp_rw rfl ?_
        refine RW.op rfl rfl (eff_load rfl rfl ti27 rfl (.whole rfl rfl rfl rfl rfl rfl)) ?_
        refine RW.op rfl rfl (eff_callT (tsettled_ret T2 (by omega)) co6 rfl rfl rfl rfl) ?_
        refine mvT ?_
        refine RW.op rfl rfl (eff_iop (r := .bool false) rfl rfl rfl rfl (by exact congrArg (fun x => some (Tr.bool x)) (decide_eq_false (by omega)))) ?_
        refine mvT ?_
        refine RW.gop rfl rfl rfl rfl rfl rfl (eff_load rfl rfl ti27 rfl (.whole rfl rfl rfl rfl rfl rfl)) ?_
        refine RW.gop rfl rfl rfl rfl rfl rfl (eff_callT (tsettled_ret T2 (by omega)) co6 rfl rfl rfl rfl) ?_
        refine RW.gop rfl rfl rfl rfl rfl rfl (eff_move (v := .t _) rfl rfl rfl) ?_
        refine RW.gop rfl rfl rfl rfl rfl rfl (eff_iop (r := .bool false) rfl rfl rfl rfl (by exact congrArg (fun x => some (Tr.bool x)) (bne_self_eq_false _))) ?_
        refine pkT ?_
        refine RW.nil ?_
        refine awp_cond rfl (fun h => nomatch h) (fun _ => ?_)
        refine awp_skip ?_
        refine awp_rw rfl ?_
        refine mvT ?_
        refine RW.op rfl rfl (eff_iop rfl rfl rfl rfl (iadd (by omega))) ?_
        refine asT ?_
        refine RW.nil ?_
        refine ⟨_, ?_, _, weak_keep (n := 114) (fr' := [(0, .t (.sl (l.map encE) false)), (3, .ptr 3 0 0 0), (4, .t (encI k2)), (5, .t (encI ((i + 1) : Nat))), (115, .t deT)]) (st' := [(3, some ⟨2, 27, 0, [.t (encT T2)]⟩)]) ⟨rfl, rfl, rfl, rfl, rfl, rfl, rfl, rfl, rfl, rfl, trivial⟩ ⟨rfl, okE_one rfl, trivial⟩, i + 1, T2, k2, (by omega), (by exact hm1), rfl, rfl⟩
        omega
    · try simp only [cl] at h2
      refine awp_exit ?_
      refine awp_seq ?_
      refine awp_rw rfl ?_
      refine RW.op rfl rfl (eff_callT (C37p.lives_ret) co4 rfl rfl rfl rfl) ?_
      refine asT ?_
      refine RW.nil ?_
      refine awp_ret ?_
      exact ⟨Or.inr rfl, [_], ⟨.tmp (.t _), trivial⟩, .refl _⟩

end Go.Tv.C37t

end
section
open Go Go.Tv Go.Tv.C37 Go.Proofs Go.ChangeShapes Go.WideShapes Go.ChangeAt Go.RowKit
namespace Go.Tv.C37t
set_option maxRecDepth 100000

theorem rd4 : Reads Tryz.prog 4 1 (fun ts => ∃ b, ts = [.bool b] ∧ True) := (reads_bool Tryz.underlying4 (by kernel_rfl)).mono (fun ts ⟨n, h⟩ => ⟨n, h, trivial⟩)
theorem rd5 : Reads Tryz.prog 5 1 (fun ts => ∃ n : Nat, ts = [encBy (n : Nat)] ∧ n < 256) := (reads_int Tryz.underlying5 (by kernel_rfl)).mono (fun ts ⟨n, h, hw⟩ => by
  have hu := wf_u8 hw
  obtain ⟨m, rfl⟩ := Int.eq_ofNat_of_zero_le hu.1
  exact ⟨m, h, by omega⟩)
theorem rd31 : Reads Tryz.prog 31 5 (fun ts => ∃ e : Ev, encE e = .agg ts ∧ EvOK e) :=
  (reads_struct Tryz.underlying31 (by kernel_rfl) (rdfs_cons rfl rd5 (rdfs_cons rfl rd5 (rdfs_cons rfl rd5 (rdfs_cons rfl rd4 (rdfs_cons rfl rd4 rdfs_nil)))))).mono (by
    rintro ts ⟨_, _, rfl, ⟨a, rfl, h1⟩, _, _, rfl, ⟨b, rfl, h2⟩, _, _, rfl, ⟨c, rfl, h3⟩, _, _, rfl, ⟨d, rfl, _⟩, _, _, rfl, ⟨e, rfl, _⟩, rfl⟩
    exact ⟨⟨a, b, c, d, e⟩, rfl, h1, h2, h3⟩)
theorem rd22 : Reads Tryz.prog 22 1 (fun ts => ∃ l : List Ev, ts = [.sl (l.map encE) false] ∧ l.length ≤ maxLen ∧ ∀ x, x ∈ l → EvOK x) := reads_slices Tryz.underlying22 (by kernel_rfl) (by decide) rd31
def laid1 : List (String × DataW Unit) := [("math/bits.deBruijn32tab", Go.Proofs.YtheklenmejhdoaaGreatDoor.Rows.laid_math_bits_deBruijn32tab), ("math/bits.deBruijn64tab", Go.Proofs.YtheklenmejhdoaaGreatDoor.Rows.laid_math_bits_deBruijn64tab)]
theorem gDe : Tryz.prog.globalNamed "math/bits.deBruijn64tab" = some 1 := by kernel_rfl
theorem tDe : (Tryz.prog.globals[1]?).map (·.type) = some 145 := by kernel_rfl
theorem door_met (os : Os) (args : Array Value) : laidMetH Tryz.prog laid1 ((World.doorLaid Tryz.prog 400 os).forCall (fun _ _ => 0) ⟨#[], args, []⟩).memory :=
  laidMetH_of_parts3 (fuel := 8) (laidMet_of_run' 8 (by kernel_rfl) (by kernel_rfl)) (by kernel_rfl) (by kernel_rfl)
theorem tabs_of_laid {W : World} (h : laidMetH Tryz.prog laid1 W) : TabOK W (fun _ => False) [(1, deT)] := by
  intro g x hm
  simp only [List.mem_singleton, Prod.mk.injEq] at hm
  obtain ⟨rfl, rfl⟩ := hm
  exact tab_of_laid (l := deB) (k := .u8) h rfl (List.mem_cons_of_mem _ (List.mem_singleton.2 rfl)) (by intro e; cases e) gDe tDe Tryz.underlying145 Tryz.underlying5 (by kernel_rfl)
end Go.Tv.C37t

end
section
namespace Go.Proofs.YtheklenmejhdoaaGreatDoor
open Go Go.Tv Go.Tv.C37t Go.ChangeShapes Go.WideShapes Go.ChangeAt Go.RowKit
set_option linter.unusedVariables false
set_option maxRecDepth 100000
theorem planTwin_contract (H : Type) (enc : TypeId × Value → H) (W : World) (base : Nat) (args : Array Value) (ds gs : List (DataW H)) (before : List MemPlace)
    (hval : ∀ (j : Nat) t v, Tryz.f3.params[j]? = some t → args[j]? = some v → Value.okWide Tryz.prog W .any base t v)
    (hW : DataW.Whole enc Tryz.prog Tryz.f3.params.toList Rows.planTwinSpec.vars false W args.toList ds gs before) (hL : laidMetH Tryz.prog laid1 W) :
    Calls Tryz.prog 3 args W fun e W' => ∃ v, e = .returned v ∧ Rows.planTwinSpec.post enc Tryz.prog Tryz.f3 false true false false W args v W' := by
  have hW' := hW
  obtain ⟨p, q, hA0, hV, rfl, hfz, hnd⟩ := hW
  have hA : DataW.TrodAll enc Tryz.prog W 0 (fun _ => true) true Tryz.f3.params.toList args.toList ds p := hA0
  rw [Tryz.params3] at hA hval
  obtain ⟨v0, vs0, d0, ds0, p0, q0, hargs, rfl, rfl, h0, r0⟩ := trodAll_cons hA
  obtain ⟨rfl, rfl, rfl⟩ := trodAll_nil r0
  obtain rfl : args = #[v0] := by cases args; simp_all
  obtain ⟨rfl, rfl⟩ := trodVars_none hV
  have k0 := hval 0 22 v0 rfl rfl
  obtain ⟨x0, hx0, l, e0, m0, b0⟩ := arg_slice Tryz.underlying22 rd22 k0 h0
  obtain rfl : x0 = .sl (l.map encE) false := by simpa using e0
  unfold maxLen at m0
  have n0 : l.length ≤ 9223372036854775807 := by simpa using m0
  refine (law_callsT (law3 l b0 n0) (tabs_of_laid hL) (vl_cons hx0 vl_nil)).mono ?_
  rintro e W' ⟨rfl, hb⟩
  refine ⟨_, rfl, law_post (P := Tryz.prog) (by kernel_rfl) rfl (fun t ht => ?_) rfl Tryz.underlying4 hW' ⟨rfl, rfl, rfl⟩ hb⟩
  rw [Tryz.params3] at ht
  simp only [List.mem_cons, List.not_mem_nil, or_false] at ht
  subst ht <;> exact ⟨by kernel_rfl, Nat.le_of_ble_eq_true (by kernel_rfl)⟩

theorem planTwin_lifted (os : Os) (started : os.Started) (H : Type) (enc : TypeId × Value → H) :
    ReturnsInHanded {} Tryz.checked os 3 .any (fun w args => (Rows.planTwinSpec.pre enc Tryz.prog Tryz.f3 [] false w args ∧ laidMetH Tryz.prog laid1 w) ∧ sizedMet enc Tryz.prog Tryz.f3 (OpenSpec.ofChange Rows.planTwinSpec) false w args)
      (Rows.planTwinSpec.post enc Tryz.prog Tryz.f3 false true false false) := by
  refine returnsInHanded_of_change_and (C := Tryz.checked) (X := fun w _ => laidMetH Tryz.prog laid1 w) (fun _ _ _ hh h => h.of_heap hh) (by kernel_rfl) started (by kernel_rfl) Tryz.func3
    (ChangeSpec.witness_shaped (enc := enc) (C := Tryz.checked) (os := os) (X := fun w _ => laidMetH Tryz.prog laid1 w) false (World.doorLaid Tryz.prog 400 os) #[.slice none 0 0] 8 rfl (World.shaped_of_RefB (by kernel_rfl) (by kernel_rfl)) (by kernel_rfl) (by kernel_rfl) (by kernel_rfl) (door_met os _)) ?_
  intro W base args ds gs before hval hW _ _ hL _
  exact planTwin_contract H enc W base args ds gs before hval hW hL

theorem planTwin_row_holds : Rows.PlanTwinSaid :=
  OpenClaim.holds_of_wide 3 Tryz.f3 rfl rfl rfl rfl rfl rfl rfl ⟨rfl, rfl, rfl, rfl, rfl⟩ rfl rfl rfl rfl rfl (by kernel_rfl) Tryz.func3 (by kernel_rfl)
    (of_decide_eq_true (by kernel_rfl)) (by unfold Func.isWrapper; first | (rw [if_pos (by decide +kernel)]; kernel_rfl) | (rw [if_neg (by decide +kernel)]; exact ⟨rfl, rfl⟩))
    (fun os started H enc _ => planTwin_lifted os started H enc)

theorem planTwinCard_holds : Rows.PlanTwinCardSaid :=
  Claim7.holds_tied_plain_at .later [] [.data, .data] true _ false
    planTwin_row_holds (fun _ h => by cases h) (by kernel_rfl) (fun _ h => by cases h) planTwin_row_tie rfl ⟨rfl, rfl⟩ (by kernel_rfl) rfl
    (fun f fn hf hfn => by
      obtain rfl : f = 3 := Option.some.inj ((show Tryz.prog.funcNamed "perigee/perigeelaw35.PlanTwin" = some 3 by kernel_rfl).symm.trans hf) |>.symm
      obtain rfl : fn = Tryz.f3 := (Option.some.inj (Tryz.func3.symm.trans hfn)).symm
      exact ⟨by kernel_rfl, fun j t ht => by
        rw [Tryz.params3] at ht
        have hm : t ∈ [22] := by simpa using Array.mem_of_getElem? ht
        have hall : ([22].all fun u => !Tryz.prog.wantsStandIn u) = true := by kernel_rfl
        exact (show Tryz.prog.wantsStandIn t = false by simpa using List.all_eq_true.1 hall t hm)⟩)
    (by kernel_rfl)

end Go.Proofs.YtheklenmejhdoaaGreatDoor

end
