/- CourtRights: for every input that reads as data, the call returns true and leaves its arguments as they were. No condition. -/
import Derived.Test.YtiphgohbnhinnaaDoorT3
import Derived.Test.YtiphgohbnhinnaaDoorT2
import Derived.Test.YtiphgohbnhinnaaDoorT1
import Derived.Test.YtiphgohbnhinnaaDoorRows
import Derived.ProofKit
import Derived.Test.YtiphgohbnhinnaaDoorTie
import Derived.Test.YtiphgohbnhinnaaDoorCards
import Derived.SevenTiedAt
set_option linter.unnecessarySimpa false
set_option linter.unusedVariables false
set_option linter.unusedSimpArgs false
section
open Go Go.Tv Go.Proofs
namespace Go.Tv.C36
set_option maxRecDepth 20000
set_option maxHeartbeats 2000000
set_option linter.unusedSimpArgs false
set_option linter.unusedVariables false
theorem two_mem {α : Type} {p : α → Prop} {a b : α} (ha : p a) (hb : p b) : ∀ x, x ∈ [a, b] → p x := by
  intro x hx
  rcases List.mem_cons.1 hx with rfl | hx
  · exact ha
  · rw [List.mem_singleton.1 hx]; exact hb

theorem law3 (kind seq next have_ : Int) (lk : Bool) (sent : Int) (hk : I64 kind) (hsq : I64 seq) (hn : I64 next) (hh : I64 have_) (hsn : I64 sent) : RetT Tryd.prog 3 [(1, deT)] [encI kind, encI seq, encI next, encI have_, .bool lk, encI sent] (.bool true) := by
  refine retT_of_awp Tryd.func3 rfl (Nat.le_of_ble_eq_true rfl) ?_
  refine awp_seq ?_
  refine awp_rw rfl ?_
  refine RW.op rfl rfl (eff_assign (v := .t _) rfl rfl rfl) ?_
  refine RW.nil ?_
  refine awp_seq ?_
  refine awp_rw rfl ?_
  refine RW.op rfl rfl (eff_move (v := .t _) rfl rfl rfl) ?_
  refine RW.op rfl rfl (eff_move (v := .t _) rfl rfl rfl) ?_
  refine RW.op rfl rfl (eff_move (v := .t _) rfl rfl rfl) ?_
  refine RW.op rfl rfl (eff_callT (state_ret next have_ 0 lk hn hh (by unfold I64; decide)) co12 rfl rfl rfl rfl) ?_
  refine RW.new rfl rfl (eff_allocK (k := 4) (id := 13) rfl rfl tz23 rfl rfl) ?_
  refine RW.store rfl rfl (eff_storeW (v := .t _) (els := [_]) (els' := [_]) rfl rfl ti23 rfl rfl rfl rfl rfl rfl rfl rfl rfl) ?_
  refine RW.nil ?_
  refine awp_seq ?_
  refine awp_rw rfl ?_
  refine RW.op rfl rfl (eff_move (v := .t _) rfl rfl rfl) ?_
  refine RW.op rfl rfl (eff_move (v := .t _) rfl rfl rfl) ?_
  refine RW.op rfl rfl (eff_callT (around_ret kind 4 hk (by decide)) co13 rfl rfl rfl rfl) ?_
  refine RW.op rfl rfl (eff_buildSliceT (xs := [kind, around kind 4].map encI) rfl rfl te26 tz3 rfl (by decide) rfl rfl rfl (by decide)) ?_
  refine RW.op rfl rfl (eff_assign (v := .t _) rfl rfl rfl) ?_
  refine RW.nil ?_
  refine awp_seq ?_
  have hr1 := around_range (n := next) (m := 600) (by decide)
  have hr2 := around_range (n := seq) (m := 20) (by decide)
  have hSn : (state next have_ 0 lk).next = around next 600 := rfl
  have hs2 : ∀ x, x ∈ [around seq 1000001, imax 0 ((state next have_ 0 lk).next - 3 + around seq 20)] → 0 ≤ x ∧ x ≤ 1000000 := two_mem (by have := around_range (n := seq) (m := 1000001) (by decide); omega) (by unfold imax; split <;> omega)
  have hNX : NX 1000000 (state next have_ 0 lk) := ⟨by rw [hSn]; omega, by rw [hSn]; omega⟩
  refine awp_rd [(some 28, []), (some 29, []), (some 30, []), (some 31, []), (some 32, []), (some 33, []), (some 34, []), (some 35, []), (some 36, []), (some 37, []), (some 15, [])] [[], [0], [], [2], [2, 3], [], [0, 1, 5], [0, 1, 2, 3, 4, 5, 6], [0, 1, 2, 3, 4, 5, 6, 7], [0, 1, 2, 3, 4, 5, 6, 7, 8], [0, 1, 2, 3, 4, 5, 6, 7, 8, 9]] tm rfl rfl rfl rfl ?_
  refine RD.op rfl rfl rfl (eff_move (v := .t _) rfl rfl rfl) ?_
  refine RD.op rfl rfl rfl (eff_callT (around_ret seq 1000001 hsq (by decide)) co13 rfl rfl rfl rfl) ?_
  refine RD.op rfl rfl rfl (eff_fieldAddr rfl rfl tf23_0 (by decide) rfl rfl rfl (Nat.le_of_ble_eq_true rfl)) ?_
  refine RD.op rfl rfl rfl (eff_load (y := .t _) rfl rfl ti3 rfl (.one rfl rfl rfl rfl)) ?_
  refine RD.op rfl rfl rfl (eff_iop (r := encI ((state next have_ 0 lk).next - 3)) rfl rfl rfl rfl (isub (by omega))) ?_
  refine RD.op rfl rfl rfl (eff_move (v := .t _) rfl rfl rfl) ?_
  refine RD.op rfl rfl rfl (eff_callT (around_ret seq 20 hsq (by decide)) co13 rfl rfl rfl rfl) ?_
  refine RD.op rfl rfl rfl (eff_iop (r := encI ((state next have_ 0 lk).next - 3 + around seq 20)) rfl rfl rfl rfl (iadd (by omega))) ?_
  refine RD.op rfl rfl rfl (eff_max rfl rfl rfl rfl) ?_
  refine RD.op rfl rfl rfl (eff_buildSliceT (xs := [around seq 1000001, imax 0 ((state next have_ 0 lk).next - 3 + around seq 20)].map encI) rfl rfl te26 tz3 rfl (by decide) rfl rfl rfl (by decide)) ?_
  refine RD.op rfl rfl rfl (eff_assign (v := .t _) rfl rfl rfl) ?_
  refine RD.nil ?_
  refine awp_seq ?_
  refine awp_seq ?_
  refine awp_rw rfl ?_
  refine RW.op rfl rfl (eff_assign (v := .t _) rfl rfl rfl) ?_
  refine RW.nil ?_
  refine awp_block ?_
  refine awp_loopW (fun m s => ∃ (i : Nat), (i ≤ 2) ∧ m = 2 - i ∧ s = ⟨86, [(5, .t (encI sent)), (13, .ptr 13 0 0 0), (14, .t (.sl ([kind, around kind 4].map encI) true)), (15, .t (.sl ([around seq 1000001, imax 0 ((state next have_ 0 lk).next - 3 + around seq 20)].map encI) true)), (16, .t (encI (i : Nat))), (87, .t deT)], [(13, some ⟨4, 23, 0, [.t (encR (state next have_ 0 lk))]⟩)]⟩) (_) (⟨_, weak_keep (n := 86) (fr' := [(5, .t (encI sent)), (13, .ptr 13 0 0 0), (14, .t (.sl ([kind, around kind 4].map encI) true)), (15, .t (.sl ([around seq 1000001, imax 0 ((state next have_ 0 lk).next - 3 + around seq 20)].map encI) true)), (16, .t (encI (0 : Nat))), (87, .t deT)]) (st' := [(13, some ⟨4, 23, 0, [.t (encR (state next have_ 0 lk))]⟩)]) ⟨rfl, rfl, rfl, rfl, rfl, rfl, rfl, rfl, rfl, rfl, rfl, rfl, trivial⟩ ⟨rfl, okE_one rfl, trivial⟩, 0, (by omega), rfl, rfl⟩) ?_
  rintro m s ⟨i, hi, rfl, rfl⟩
  refine awp_seq ?_
  refine awp_seq ?_
  refine awp_rw rfl ?_
  refine RW.op rfl rfl (eff_move (v := .t _) rfl rfl rfl) ?_
  refine RW.op rfl rfl (eff_iop rfl rfl rfl rfl rfl) ?_
  refine RW.nil ?_
  refine awp_cond rfl (fun h1 => ?_) (fun h1 => ?_)
  · try simp only [cl] at h1
    refine awp_skip ?_
    refine awp_seq ?_
    refine awp_block ?_
    refine awp_seq ?_
    refine awp_rw rfl ?_
    refine RW.op rfl rfl (eff_assign (v := .t _) rfl rfl rfl) ?_
    refine RW.nil ?_
    refine awp_block ?_
    refine awp_loopW (fun m s => ∃ (q : Nat), (q ≤ 2) ∧ m = 2 - q ∧ s = ⟨86, [(5, .t (encI sent)), (13, .ptr 13 0 0 0), (14, .t (.sl ([kind, around kind 4].map encI) true)), (15, .t (.sl ([around seq 1000001, imax 0 ((state next have_ 0 lk).next - 3 + around seq 20)].map encI) true)), (16, .t (encI (i : Nat))), (17, .t (encI (q : Nat))), (87, .t deT)], [(13, some ⟨4, 23, 0, [.t (encR (state next have_ 0 lk))]⟩)]⟩) (_) (⟨_, weak_keep (n := 86) (fr' := [(5, .t (encI sent)), (13, .ptr 13 0 0 0), (14, .t (.sl ([kind, around kind 4].map encI) true)), (15, .t (.sl ([around seq 1000001, imax 0 ((state next have_ 0 lk).next - 3 + around seq 20)].map encI) true)), (16, .t (encI (i : Nat))), (17, .t (encI (0 : Nat))), (87, .t deT)]) (st' := [(13, some ⟨4, 23, 0, [.t (encR (state next have_ 0 lk))]⟩)]) ⟨rfl, rfl, rfl, rfl, rfl, rfl, rfl, rfl, rfl, rfl, rfl, rfl, rfl, rfl, trivial⟩ ⟨rfl, okE_one rfl, trivial⟩, 0, (by omega), rfl, rfl⟩) ?_
    rintro m s ⟨q, hq, rfl, rfl⟩
    refine awp_seq ?_
    refine awp_seq ?_
    refine awp_rw rfl ?_
    refine RW.op rfl rfl (eff_move (v := .t _) rfl rfl rfl) ?_
    refine RW.op rfl rfl (eff_iop rfl rfl rfl rfl rfl) ?_
    refine RW.nil ?_
    refine awp_cond rfl (fun h2 => ?_) (fun h2 => ?_)
    · try simp only [cl] at h2
      refine awp_skip ?_
      refine awp_seq ?_
      refine awp_block ?_
      refine awp_seq ?_
      refine awp_rd [(some 46, []), (some 47, []), (some 48, []), (some 49, []), (some 50, []), (some 51, []), (some 52, []), (some 53, []), (some 54, []), (some 18, [18]), (none, [18])] [[], [], [0, 1], [0, 1, 2], [], [], [4, 5], [4, 5, 6], [0, 1, 2, 3, 4, 5, 6, 7], [], [0, 1, 2, 3, 4, 5, 6, 7, 8, 9]] tm rfl rfl rfl rfl ?_
      refine RD.op rfl rfl rfl (eff_move (v := .t _) rfl rfl rfl) ?_
      refine RD.op rfl rfl rfl (eff_move (v := .t _) rfl rfl rfl) ?_
      refine RD.op rfl rfl rfl (eff_indexM (i := i) rfl rfl te26 rfl rfl (by first | rfl | omega) (by exact List.getElem?_eq_getElem (show i < [kind, around kind 4].length by show i < 2; omega)) rfl (by decide)) ?_
      refine RD.op rfl rfl rfl (eff_loadW1 rfl rfl ti3 rfl rfl) ?_
      refine RD.op rfl rfl rfl (eff_move (v := .t _) rfl rfl rfl) ?_
      refine RD.op rfl rfl rfl (eff_move (v := .t _) rfl rfl rfl) ?_
      refine RD.op rfl rfl rfl (eff_indexM (i := q) rfl rfl te26 rfl rfl (by first | rfl | omega) (by exact List.getElem?_eq_getElem (show q < [around seq 1000001, imax 0 ((state next have_ 0 lk).next - 3 + around seq 20)].length by show q < 2; omega)) rfl (by decide)) ?_
      refine RD.op rfl rfl rfl (eff_loadW1 rfl rfl ti3 rfl rfl) ?_
      refine RD.op rfl rfl rfl (eff_buildT (ys := [_, _, _, _]) rfl rfl tz28 tg28 rfl) ?_
      refine RD.new rfl rfl rfl (eff_allocK (k := 4) (id := 18) rfl rfl tz28 rfl rfl) ?_
      refine RD.store rfl rfl rfl (eff_storeW (v := .t _) (els := [_]) (els' := [_]) rfl rfl ti28 rfl rfl rfl rfl rfl rfl rfl rfl rfl) ?_
      refine RD.nil ?_
      refine awp_seq ?_
      refine awp_rw rfl ?_
      refine RW.op rfl rfl (eff_move (v := .t _) rfl rfl rfl) ?_
      refine RW.op rfl rfl (eff_callT (around_ret sent 700 hsn (by decide)) co13 rfl rfl rfl rfl) ?_
      refine RW.op rfl rfl (eff_assign (v := .t _) rfl rfl rfl) ?_
      refine RW.nil ?_
      refine awp_seq ?_
      have hsq2 := hs2 _ (List.getElem_mem (show q < [around seq 1000001, imax 0 ((state next have_ 0 lk).next - 3 + around seq 20)].length by show q < 2; omega))
      refine awp_rd [(some 57, []), (some 58, []), (some 59, []), (some 60, []), (some 61, []), (some 62, []), (some 63, []), (some 64, []), (some 65, []), (some 66, []), (some 67, []), (some 68, []), (some 69, []), (some 70, []), (some 71, []), (some 72, []), (some 73, []), (some 74, []), (some 75, []), (some 76, []), (some 77, []), (some 78, []), (some 79, []), (some 80, []), (some 81, []), (some 82, []), (some 83, []), (some 84, [])] [[], [], [], [0, 1, 2], [], [], [], [0, 1, 2, 3, 4, 5, 6], [0, 1, 2, 3, 4, 5, 6, 7], [0, 1, 2, 3, 4, 5, 6, 7, 8], [0, 1, 2, 3, 4, 5, 6, 7, 8, 9], [0, 1, 2, 3, 4, 5, 6, 7, 8, 9], [0, 1, 2, 3, 4, 5, 6, 7, 8, 9], [0, 1, 2, 3, 4, 5, 6, 7, 8, 9], [0, 1, 2, 3, 4, 5, 6, 7, 8, 9, 12, 13], [0, 1, 2, 3, 4, 5, 6, 7, 8, 9, 12, 13, 14], [0, 1, 2, 3, 4, 5, 6, 7, 8, 9, 12, 13, 14, 15], [0, 1, 2, 3, 4, 5, 6, 7, 8, 9, 10, 11, 12, 13, 14, 15, 16], [0, 1, 2, 3, 4, 5, 6, 7, 8, 9], [0, 1, 2, 3, 4, 5, 6, 7, 8, 9], [0, 1, 2, 3, 4, 5, 6, 7, 8, 9], [0, 1, 2, 3, 4, 5, 6, 7, 8, 9], [0, 1, 2, 3, 4, 5, 6, 7, 8, 9, 20, 21], [0, 1, 2, 3, 4, 5, 6, 7, 8, 9, 20, 21, 22], [0, 1, 2, 3, 4, 5, 6, 7, 8, 9, 20, 21, 22, 23], [0, 1, 2, 3, 4, 5, 6, 7, 8, 9, 10, 11, 12, 13, 14, 15, 16, 17, 18, 19, 20, 21, 22, 23, 24], [0, 1, 2, 3, 4, 5, 6, 7, 8, 9, 10, 11, 12, 13, 14, 15, 16, 17, 18, 19, 20, 21, 22, 23, 24, 25], [0, 1, 2, 3, 4, 5, 6, 7, 8, 9, 10, 11, 12, 13, 14, 15, 16, 17, 18, 19, 20, 21, 22, 23, 24, 25, 26]] tm rfl rfl rfl rfl ?_
      refine RD.op rfl rfl rfl (eff_load rfl rfl ti28 rfl (.whole rfl rfl rfl rfl rfl rfl)) ?_
      refine RD.op rfl rfl rfl (eff_load rfl rfl ti23 rfl (.whole rfl rfl rfl rfl rfl rfl)) ?_
      refine RD.op rfl rfl rfl (eff_move (v := .t _) rfl rfl rfl) ?_
      refine RD.op rfl rfl rfl (eff_callT (right_ret ⟨0, 0, ([kind, around kind 4][i]'(by show i < 2; omega)), ([around seq 1000001, imax 0 ((state next have_ 0 lk).next - 3 + around seq 20)][q]'(by show q < 2; omega))⟩ (state next have_ 0 lk) (around sent 700) (state_hp _ _ _ _) hNX (by show -2000000 ≤ ([around seq 1000001, imax 0 ((state next have_ 0 lk).next - 3 + around seq 20)][q]'(by show q < 2; omega)) ∧ ([around seq 1000001, imax 0 ((state next have_ 0 lk).next - 3 + around seq 20)][q]'(by show q < 2; omega)) ≤ 2000000; omega)) co14 rfl rfl rfl rfl) ?_
      refine RD.op rfl rfl rfl (eff_load rfl rfl ti28 rfl (.whole rfl rfl rfl rfl rfl rfl)) ?_
      refine RD.op rfl rfl rfl (eff_load rfl rfl ti23 rfl (.whole rfl rfl rfl rfl rfl rfl)) ?_
      refine RD.op rfl rfl rfl (eff_move (v := .t _) rfl rfl rfl) ?_
      refine RD.op rfl rfl rfl (eff_callT (rright_ret ⟨0, 0, ([kind, around kind 4][i]'(by show i < 2; omega)), ([around seq 1000001, imax 0 ((state next have_ 0 lk).next - 3 + around seq 20)][q]'(by show q < 2; omega))⟩ (state next have_ 0 lk) (around sent 700) (state_hp _ _ _ _) hNX (by show -2000000 ≤ ([around seq 1000001, imax 0 ((state next have_ 0 lk).next - 3 + around seq 20)][q]'(by show q < 2; omega)) ∧ ([around seq 1000001, imax 0 ((state next have_ 0 lk).next - 3 + around seq 20)][q]'(by show q < 2; omega)) ≤ 2000000; omega)) co15 rfl rfl rfl rfl) ?_
      refine RD.op rfl rfl rfl (eff_boolEq (b := false) rfl rfl (.inr rfl) tu4 rfl rfl (by simp)) ?_
      refine RD.op rfl rfl rfl (eff_move (v := .t _) rfl rfl rfl) ?_
      refine RD.gop rfl rfl rfl rfl rfl rfl rfl (eff_load rfl rfl ti28 rfl (.whole rfl rfl rfl rfl rfl rfl)) ?_
      refine RD.gop rfl rfl rfl rfl rfl rfl rfl (eff_load rfl rfl ti23 rfl (.whole rfl rfl rfl rfl rfl rfl)) ?_
      refine RD.gop rfl rfl rfl rfl rfl rfl rfl (eff_move (v := .t _) rfl rfl rfl) ?_
      refine RD.gop rfl rfl rfl rfl rfl rfl rfl (eff_move (v := .t _) rfl rfl rfl) ?_
      refine RD.gop rfl rfl rfl rfl rfl rfl rfl (eff_indexM (i := q) rfl rfl te26 rfl rfl (by first | rfl | omega) (by exact List.getElem?_eq_getElem (show q < [around seq 1000001, imax 0 ((state next have_ 0 lk).next - 3 + around seq 20)].length by show q < 2; omega)) rfl (by decide)) ?_
      refine RD.gop rfl rfl rfl rfl rfl rfl rfl (eff_loadW1 rfl rfl ti3 rfl rfl) ?_
      refine RD.gop rfl rfl rfl rfl rfl rfl rfl (eff_iop (r := encI (([around seq 1000001, imax 0 ((state next have_ 0 lk).next - 3 + around seq 20)][q]'(by show q < 2; omega)) + 1)) rfl rfl rfl rfl (iadd (by omega))) ?_
      refine RD.gop rfl rfl rfl rfl rfl rfl rfl (eff_callT (right_ret ⟨0, 0, ([kind, around kind 4][i]'(by show i < 2; omega)), ([around seq 1000001, imax 0 ((state next have_ 0 lk).next - 3 + around seq 20)][q]'(by show q < 2; omega))⟩ (state next have_ 0 lk) (([around seq 1000001, imax 0 ((state next have_ 0 lk).next - 3 + around seq 20)][q]'(by show q < 2; omega)) + 1) (state_hp _ _ _ _) hNX (by show -2000000 ≤ ([around seq 1000001, imax 0 ((state next have_ 0 lk).next - 3 + around seq 20)][q]'(by show q < 2; omega)) ∧ ([around seq 1000001, imax 0 ((state next have_ 0 lk).next - 3 + around seq 20)][q]'(by show q < 2; omega)) ≤ 2000000; omega)) co14 rfl rfl rfl rfl) ?_
      refine RD.gop rfl rfl rfl rfl rfl rfl rfl (eff_load rfl rfl ti28 rfl (.whole rfl rfl rfl rfl rfl rfl)) ?_
      refine RD.gop rfl rfl rfl rfl rfl rfl rfl (eff_load rfl rfl ti23 rfl (.whole rfl rfl rfl rfl rfl rfl)) ?_
      refine RD.gop rfl rfl rfl rfl rfl rfl rfl (eff_move (v := .t _) rfl rfl rfl) ?_
      refine RD.gop rfl rfl rfl rfl rfl rfl rfl (eff_move (v := .t _) rfl rfl rfl) ?_
      refine RD.gop rfl rfl rfl rfl rfl rfl rfl (eff_indexM (i := q) rfl rfl te26 rfl rfl (by first | rfl | omega) (by exact List.getElem?_eq_getElem (show q < [around seq 1000001, imax 0 ((state next have_ 0 lk).next - 3 + around seq 20)].length by show q < 2; omega)) rfl (by decide)) ?_
      refine RD.gop rfl rfl rfl rfl rfl rfl rfl (eff_loadW1 rfl rfl ti3 rfl rfl) ?_
      refine RD.gop rfl rfl rfl rfl rfl rfl rfl (eff_iop (r := encI (([around seq 1000001, imax 0 ((state next have_ 0 lk).next - 3 + around seq 20)][q]'(by show q < 2; omega)) + 1)) rfl rfl rfl rfl (iadd (by omega))) ?_
      refine RD.gop rfl rfl rfl rfl rfl rfl rfl (eff_callT (rright_ret ⟨0, 0, ([kind, around kind 4][i]'(by show i < 2; omega)), ([around seq 1000001, imax 0 ((state next have_ 0 lk).next - 3 + around seq 20)][q]'(by show q < 2; omega))⟩ (state next have_ 0 lk) (([around seq 1000001, imax 0 ((state next have_ 0 lk).next - 3 + around seq 20)][q]'(by show q < 2; omega)) + 1) (state_hp _ _ _ _) hNX (by show -2000000 ≤ ([around seq 1000001, imax 0 ((state next have_ 0 lk).next - 3 + around seq 20)][q]'(by show q < 2; omega)) ∧ ([around seq 1000001, imax 0 ((state next have_ 0 lk).next - 3 + around seq 20)][q]'(by show q < 2; omega)) ≤ 2000000; omega)) co15 rfl rfl rfl rfl) ?_
      refine RD.gop rfl rfl rfl rfl rfl rfl rfl (eff_boolEq (b := false) rfl rfl (.inr rfl) tu4 rfl rfl (by simp)) ?_
      refine RD.op rfl rfl rfl (eff_pick (v := .t _) rfl rfl rfl rfl) ?_
      refine RD.nil ?_
      refine awp_cond rfl (fun h => nomatch h) (fun _ => ?_)
      refine awp_skip ?_
      refine awp_rw rfl ?_
      refine RW.op rfl rfl (eff_move (v := .t _) rfl rfl rfl) ?_
      refine RW.op rfl rfl (eff_iop rfl rfl rfl rfl (iadd (by omega))) ?_
      refine RW.op rfl rfl (eff_assign (v := .t _) rfl rfl rfl) ?_
      refine RW.nil ?_
      refine ⟨_, ?_, _, weak_keep (n := 86) (fr' := [(5, .t (encI sent)), (13, .ptr 13 0 0 0), (14, .t (.sl ([kind, around kind 4].map encI) true)), (15, .t (.sl ([around seq 1000001, imax 0 ((state next have_ 0 lk).next - 3 + around seq 20)].map encI) true)), (16, .t (encI (i : Nat))), (17, .t (encI ((q + 1) : Nat))), (87, .t deT)]) (st' := [(13, some ⟨4, 23, 0, [.t (encR (state next have_ 0 lk))]⟩)]) ⟨rfl, rfl, rfl, rfl, rfl, rfl, rfl, rfl, rfl, rfl, rfl, rfl, rfl, rfl, trivial⟩ ⟨rfl, okE_one rfl, trivial⟩, q + 1, (by omega), rfl, rfl⟩
      omega
    · try simp only [cl] at h2
      refine awp_exit ?_
      refine awp_rw rfl ?_
      refine RW.op rfl rfl (eff_move (v := .t _) rfl rfl rfl) ?_
      refine RW.op rfl rfl (eff_iop rfl rfl rfl rfl (iadd (by omega))) ?_
      refine RW.op rfl rfl (eff_assign (v := .t _) rfl rfl rfl) ?_
      refine RW.nil ?_
      refine ⟨_, ?_, _, weak_keep (n := 86) (fr' := [(5, .t (encI sent)), (13, .ptr 13 0 0 0), (14, .t (.sl ([kind, around kind 4].map encI) true)), (15, .t (.sl ([around seq 1000001, imax 0 ((state next have_ 0 lk).next - 3 + around seq 20)].map encI) true)), (16, .t (encI ((i + 1) : Nat))), (87, .t deT)]) (st' := [(13, some ⟨4, 23, 0, [.t (encR (state next have_ 0 lk))]⟩)]) ⟨rfl, rfl, rfl, rfl, rfl, rfl, rfl, rfl, rfl, rfl, rfl, rfl, trivial⟩ ⟨rfl, okE_one rfl, trivial⟩, i + 1, (by omega), rfl, rfl⟩
      omega
  · try simp only [cl] at h1
    refine awp_exit ?_
    refine awp_seq ?_
    refine awp_rw rfl ?_
    refine RW.op rfl rfl (eff_callXT (lives_ret) co16 rfl rfl rfl ⟨rfl, trivial⟩ rfl) ?_
    refine RW.op rfl rfl (eff_assign (v := .t _) rfl rfl rfl) ?_
    refine RW.nil ?_
    refine awp_ret ?_
    exact ⟨Or.inr rfl, [_], ⟨.tmp (.t _), trivial⟩, .refl _⟩

end Go.Tv.C36

end
section
open Go Go.Tv Go.Proofs Go.ChangeShapes Go.WideShapes Go.ChangeAt Go.RowKit
namespace Go.Tv.C36
set_option maxRecDepth 100000

theorem wfI64 {n : Int} (h : (Lit.int .i64 n).wf = true) : I64 n := by
  unfold I64
  simp [Lit.wf, IntKind.min, IntKind.max, IntKind.signed, IntKind.bits] at h; omega
def laid1 : List (String × DataW Unit) := [("math/bits.deBruijn32tab", Go.Proofs.YtiphgohbnhinnaaDoor.Rows.laid_math_bits_deBruijn32tab), ("math/bits.deBruijn64tab", Go.Proofs.YtiphgohbnhinnaaDoor.Rows.laid_math_bits_deBruijn64tab)]
theorem gDe : Tryd.prog.globalNamed "math/bits.deBruijn64tab" = some 1 := by kernel_rfl
theorem tDe : (Tryd.prog.globals[1]?).map (·.type) = some 125 := by kernel_rfl
theorem door_met (os : Os) (args : Array Value) : laidMetH Tryd.prog laid1 ((World.doorLaid Tryd.prog 400 os).forCall (fun _ _ => 0) ⟨#[], args, []⟩).memory :=
  laidMetH_of_parts3 (fuel := 8) (laidMet_of_run' 8 (by kernel_rfl) (by kernel_rfl)) (by kernel_rfl) (by kernel_rfl)
theorem tabs_of_laid {W : World} (h : laidMetH Tryd.prog laid1 W) : TabOK W (fun _ => False) [(1, deT)] := by
  intro g x hm
  simp only [List.mem_singleton, Prod.mk.injEq] at hm
  obtain ⟨rfl, rfl⟩ := hm
  exact tab_of_laid (l := deB) (k := .u8) h rfl (List.mem_cons_of_mem _ (List.mem_singleton.2 rfl)) (by intro e; cases e) gDe tDe Tryd.underlying125 Tryd.underlying5 (by kernel_rfl)
end Go.Tv.C36

end
section
namespace Go.Proofs.YtiphgohbnhinnaaDoor
open Go Go.Tv Go.Tv.C36 Go.ChangeShapes Go.WideShapes Go.ChangeAt Go.RowKit
set_option linter.unusedVariables false
set_option maxRecDepth 100000
theorem courtRights_contract (H : Type) (enc : TypeId × Value → H) (W : World) (base : Nat) (args : Array Value) (ds gs : List (DataW H)) (before : List MemPlace)
    (hval : ∀ (j : Nat) t v, Tryd.f3.params[j]? = some t → args[j]? = some v → Value.okWide Tryd.prog W .any base t v)
    (hW : DataW.Whole enc Tryd.prog Tryd.f3.params.toList Rows.courtRightsSpec.vars false W args.toList ds gs before) (hL : laidMetH Tryd.prog laid1 W) :
    Calls Tryd.prog 3 args W fun e W' => ∃ v, e = .returned v ∧ Rows.courtRightsSpec.post enc Tryd.prog Tryd.f3 false true false false W args v W' := by
  have hW' := hW
  obtain ⟨p, q, hA0, hV, rfl, hfz, hnd⟩ := hW
  have hA : DataW.TrodAll enc Tryd.prog W 0 (fun _ => true) true Tryd.f3.params.toList args.toList ds p := hA0
  rw [Tryd.params3] at hA hval
  obtain ⟨v0, vs0, d0, ds0, p0, q0, hargs, rfl, rfl, h0, r0⟩ := trodAll_cons hA
  obtain ⟨v1, vs1, d1, ds1, p1, q1, rfl, rfl, rfl, h1, r1⟩ := trodAll_cons r0
  obtain ⟨v2, vs2, d2, ds2, p2, q2, rfl, rfl, rfl, h2, r2⟩ := trodAll_cons r1
  obtain ⟨v3, vs3, d3, ds3, p3, q3, rfl, rfl, rfl, h3, r3⟩ := trodAll_cons r2
  obtain ⟨v4, vs4, d4, ds4, p4, q4, rfl, rfl, rfl, h4, r4⟩ := trodAll_cons r3
  obtain ⟨v5, vs5, d5, ds5, p5, q5, rfl, rfl, rfl, h5, r5⟩ := trodAll_cons r4
  obtain ⟨rfl, rfl, rfl⟩ := trodAll_nil r5
  obtain rfl : args = #[v0, v1, v2, v3, v4, v5] := by cases args; simp_all
  obtain ⟨rfl, rfl⟩ := trodVars_none hV
  have k0 := hval 0 3 v0 rfl rfl
  have k1 := hval 1 3 v1 rfl rfl
  have k2 := hval 2 3 v2 rfl rfl
  have k3 := hval 3 3 v3 rfl rfl
  have k4 := hval 4 4 v4 rfl rfl
  have k5 := hval 5 3 v5 rfl rfl
  obtain ⟨kd, rfl, wkd⟩ := arg_int Tryd.underlying3 k0 h0
  have i_kd := wfI64 wkd
  obtain ⟨sq, rfl, wsq⟩ := arg_int Tryd.underlying3 k1 h1
  have i_sq := wfI64 wsq
  obtain ⟨nx, rfl, wnx⟩ := arg_int Tryd.underlying3 k2 h2
  have i_nx := wfI64 wnx
  obtain ⟨hv, rfl, whv⟩ := arg_int Tryd.underlying3 k3 h3
  have i_hv := wfI64 whv
  obtain ⟨lk, rfl⟩ := arg_bool Tryd.underlying4 k4 h4
  obtain ⟨se, rfl, wse⟩ := arg_int Tryd.underlying3 k5 h5
  have i_se := wfI64 wse
  refine (law_callsT (law3 kd sq nx hv lk se i_kd i_sq i_nx i_hv i_se) (tabs_of_laid hL) (vl_cons (.int _ _) (vl_cons (.int _ _) (vl_cons (.int _ _) (vl_cons (.int _ _) (vl_cons (.bool _) (vl_cons (.int _ _) vl_nil))))))).mono ?_
  rintro e W' ⟨rfl, hb⟩
  refine ⟨_, rfl, law_post (P := Tryd.prog) (by kernel_rfl) rfl (fun t ht => ?_) rfl Tryd.underlying4 hW' ⟨rfl, rfl, rfl⟩ hb⟩
  rw [Tryd.params3] at ht
  simp only [List.mem_cons, List.not_mem_nil, or_false] at ht
  rcases ht with rfl | rfl | rfl | rfl | rfl | rfl <;> exact ⟨by kernel_rfl, Nat.le_of_ble_eq_true (by kernel_rfl)⟩

theorem courtRights_lifted (os : Os) (started : os.Started) (H : Type) (enc : TypeId × Value → H) :
    ReturnsInHanded {} Tryd.checked os 3 .any (fun w args => (Rows.courtRightsSpec.pre enc Tryd.prog Tryd.f3 [] false w args ∧ laidMetH Tryd.prog laid1 w) ∧ sizedMet enc Tryd.prog Tryd.f3 (OpenSpec.ofChange Rows.courtRightsSpec) false w args)
      (Rows.courtRightsSpec.post enc Tryd.prog Tryd.f3 false true false false) := by
  refine returnsInHanded_of_change_and (C := Tryd.checked) (X := fun w _ => laidMetH Tryd.prog laid1 w) (fun _ _ _ hh h => h.of_heap hh) (by kernel_rfl) started (by kernel_rfl) Tryd.func3
    (ChangeSpec.witness_shaped (enc := enc) (C := Tryd.checked) (os := os) (X := fun w _ => laidMetH Tryd.prog laid1 w) false (World.doorLaid Tryd.prog 400 os) #[.int .i64 0, .int .i64 0, .int .i64 0, .int .i64 0, .bool false, .int .i64 0] 8 rfl (World.shaped_of_RefB (by kernel_rfl) (by kernel_rfl)) (by kernel_rfl) (by kernel_rfl) (by kernel_rfl) (door_met os _)) ?_
  intro W base args ds gs before hval hW _ _ hL _
  exact courtRights_contract H enc W base args ds gs before hval hW hL

theorem courtRights_row_holds : Rows.CourtRightsSaid :=
  OpenClaim.holds_of_wide 3 Tryd.f3 rfl rfl rfl rfl rfl rfl rfl ⟨rfl, rfl, rfl, rfl, rfl⟩ rfl rfl rfl rfl rfl (by kernel_rfl) Tryd.func3 (by kernel_rfl)
    (of_decide_eq_true (by kernel_rfl)) (by unfold Func.isWrapper; first | (rw [if_pos (by decide +kernel)]; kernel_rfl) | (rw [if_neg (by decide +kernel)]; exact ⟨rfl, rfl⟩))
    (fun os started H enc _ => courtRights_lifted os started H enc)

theorem courtRightsCard_holds : Rows.CourtRightsCardSaid :=
  Claim7.holds_tied_plain_at .later [] [.data, .data] true _ false
    courtRights_row_holds (fun _ h => by cases h) (by kernel_rfl) (fun _ h => by cases h) courtRights_row_tie rfl ⟨rfl, rfl⟩ (by kernel_rfl) rfl
    (fun f fn hf hfn => by
      obtain rfl : f = 3 := Option.some.inj ((show Tryd.prog.funcNamed "perigee/perigeelaw36.CourtRights" = some 3 by kernel_rfl).symm.trans hf) |>.symm
      obtain rfl : fn = Tryd.f3 := (Option.some.inj (Tryd.func3.symm.trans hfn)).symm
      exact ⟨by kernel_rfl, fun j t ht => by
        rw [Tryd.params3] at ht
        have hm : t ∈ [3, 3, 3, 3, 4, 3] := by simpa using Array.mem_of_getElem? ht
        have hall : ([3, 3, 3, 3, 4, 3].all fun u => !Tryd.prog.wantsStandIn u) = true := by kernel_rfl
        exact (show Tryd.prog.wantsStandIn t = false by simpa using List.all_eq_true.1 hall t hm)⟩)
    (by kernel_rfl)

end Go.Proofs.YtiphgohbnhinnaaDoor

end
