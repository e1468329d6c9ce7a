/- CustodyValid: for every input that reads as data, the call returns true and leaves its arguments as they were. No condition. -/
import Derived.Test.YtgicknpbpdfadaaT3
import Derived.Test.YtgicknpbpdfadaaRows
section
open Go Go.Tv Go.Proofs
namespace Go.Tv.C27
set_option maxRecDepth 20000
set_option maxHeartbeats 2000000
set_option linter.unusedSimpArgs false
set_option linter.unusedVariables false
theorem doublesN1 (q : Int) (hq : 0 ≤ q ∧ q < 65536) (l : List Opn) (hl : l.length ≤ 9223372036854775807) (hB : OpsOK l) (b : Bundle) (hbb : Bytes b.data) (hsh : ¬ ((∀ o, o ∈ l → o.bundle.data.length ≤ 300) ∧ (l.length : Int) ≤ 40)) : Ret Try.prog 5 [.int .u16 q, .sl (l.map encO) false, encB b] (.bool true) := by
  refine ret_of_awp Try.func5 rfl (Nat.le_of_ble_eq_true rfl) ?_
  refine awp_seq ?_
  refine awp_rw rfl ?_
  refine RW.new rfl rfl (eff_boxK (v := .t _) (k := 8) (id := 5) rfl rfl rfl rfl rfl rfl) ?_
  refine RW.op rfl rfl (eff_assign (v := .t _) rfl rfl rfl) ?_
  refine RW.nil ?_
  refine awp_seq ?_
  refine awp_seq ?_
  refine awp_rw rfl ?_
  refine RW.op rfl rfl (eff_move (v := .t _) rfl rfl rfl) ?_
  refine RW.op rfl rfl (eff_callT ((by have h := short_ret l 40 hl; rw [decide_eq_false hsh] at h; exact h)) co9 rfl rfl rfl rfl) ?_
  refine RW.op rfl rfl (eff_unop rfl rfl rfl rfl) ?_
  refine RW.op rfl rfl (eff_move (v := .t _) rfl rfl rfl) ?_
  refine RW.gskip rfl rfl rfl rfl rfl (by decide) ?_
  refine RW.gskip rfl rfl rfl rfl rfl (by decide) ?_
  refine RW.gskip rfl rfl rfl rfl rfl (by decide) ?_
  refine RW.gskip rfl rfl rfl rfl rfl (by decide) ?_
  refine RW.gskip rfl rfl rfl rfl rfl (by decide) ?_
  refine RW.op rfl rfl (eff_pick (v := .t _) rfl rfl rfl rfl) ?_
  refine RW.nil ?_
  refine awp_cond rfl (fun _ => ?_) (fun h => nomatch h)
  refine awp_seq ?_
  refine awp_rw rfl ?_
  refine RW.op rfl rfl (eff_callT (lives_ret) co10 rfl rfl rfl rfl) ?_
  refine RW.op rfl rfl (eff_assign (v := .t _) rfl rfl rfl) ?_
  refine RW.nil ?_
  refine awp_ret ?_
  exact ⟨Or.inr rfl, [_], ⟨.tmp (.t _), trivial⟩, .refl _⟩

theorem doublesN2 (q : Int) (hq : 0 ≤ q ∧ q < 65536) (l : List Opn) (hl : l.length ≤ 9223372036854775807) (hB : OpsOK l) (b : Bundle) (hbb : Bytes b.data) (hsh : (∀ o, o ∈ l → o.bundle.data.length ≤ 300) ∧ (l.length : Int) ≤ 40) (hb : 256 < b.data.length) : Ret Try.prog 5 [.int .u16 q, .sl (l.map encO) false, encB b] (.bool true) := by
  refine ret_of_awp Try.func5 rfl (Nat.le_of_ble_eq_true rfl) ?_
  refine awp_seq ?_
  refine awp_rw rfl ?_
  refine RW.new rfl rfl (eff_boxK (v := .t _) (k := 8) (id := 5) rfl rfl rfl rfl rfl rfl) ?_
  refine RW.op rfl rfl (eff_assign (v := .t _) rfl rfl rfl) ?_
  refine RW.nil ?_
  refine awp_seq ?_
  refine awp_seq ?_
  refine awp_rw rfl ?_
  refine RW.op rfl rfl (eff_move (v := .t _) rfl rfl rfl) ?_
  refine RW.op rfl rfl (eff_callT ((by have h := short_ret l 40 hl; rw [decide_eq_true hsh] at h; exact h)) co9 rfl rfl rfl rfl) ?_
  refine RW.op rfl rfl (eff_unop rfl rfl rfl rfl) ?_
  refine RW.op rfl rfl (eff_move (v := .t _) rfl rfl rfl) ?_
  refine RW.gop rfl rfl rfl rfl rfl rfl (eff_fieldAddr rfl rfl tf38_3 (by decide) rfl rfl rfl (Nat.le_of_ble_eq_true rfl)) ?_
  refine RW.gop rfl rfl rfl rfl rfl rfl (eff_fieldAddr rfl rfl tf36_4 (by decide) rfl rfl rfl (Nat.le_of_ble_eq_true rfl)) ?_
  refine RW.gop rfl rfl rfl rfl rfl rfl (eff_load (y := .t _) rfl rfl ti34 rfl (.one rfl rfl rfl rfl)) ?_
  refine RW.gop rfl rfl rfl rfl rfl rfl (eff_lenM rfl rfl te34 rfl) ?_
  refine RW.gop rfl rfl rfl rfl rfl rfl (eff_iop (r := .bool true) rfl rfl rfl rfl (by exact iop_gtr_t (by omega))) ?_
  refine RW.op rfl rfl (eff_pick (v := .t _) rfl rfl rfl rfl) ?_
  refine RW.nil ?_
  refine awp_cond rfl (fun _ => ?_) (fun h => nomatch h)
  refine awp_seq ?_
  refine awp_rw rfl ?_
  refine RW.op rfl rfl (eff_callT (lives_ret) co10 rfl rfl rfl rfl) ?_
  refine RW.op rfl rfl (eff_assign (v := .t _) rfl rfl rfl) ?_
  refine RW.nil ?_
  refine awp_ret ?_
  exact ⟨Or.inr rfl, [_], ⟨.tmp (.t _), trivial⟩, .refl _⟩

theorem doublesE9 (q : Int) (hq : 0 ≤ q ∧ q < 65536) (l : List Opn) (hl : l.length ≤ 9223372036854775807) (hB : OpsOK l) (b : Bundle) (hbb : Bytes b.data) (hsh : (∀ o, o ∈ l → o.bundle.data.length ≤ 300) ∧ (l.length : Int) ≤ 40) (hb : b.data.length ≤ 256) (hV : VInv 40 (runS (QS q) l)) (hA : accept (runS (QS q) l) b = (zs, false, 9)) : Ret Try.prog 5 [.int .u16 q, .sl (l.map encO) false, encB b] (.bool true) := by
  refine ret_of_awp Try.func5 rfl (Nat.le_of_ble_eq_true rfl) ?_
  refine awp_seq ?_
  refine awp_rw rfl ?_
  refine RW.new rfl rfl (eff_boxK (v := .t _) (k := 8) (id := 5) rfl rfl rfl rfl rfl rfl) ?_
  refine RW.op rfl rfl (eff_assign (v := .t _) rfl rfl rfl) ?_
  refine RW.nil ?_
  refine awp_seq ?_
  refine awp_seq ?_
  refine awp_rw rfl ?_
  refine RW.op rfl rfl (eff_move (v := .t _) rfl rfl rfl) ?_
  refine RW.op rfl rfl (eff_callT ((by have h := short_ret l 40 hl; rw [decide_eq_true hsh] at h; exact h)) co9 rfl rfl rfl rfl) ?_
  refine RW.op rfl rfl (eff_unop rfl rfl rfl rfl) ?_
  refine RW.op rfl rfl (eff_move (v := .t _) rfl rfl rfl) ?_
  refine RW.gop rfl rfl rfl rfl rfl rfl (eff_fieldAddr rfl rfl tf38_3 (by decide) rfl rfl rfl (Nat.le_of_ble_eq_true rfl)) ?_
  refine RW.gop rfl rfl rfl rfl rfl rfl (eff_fieldAddr rfl rfl tf36_4 (by decide) rfl rfl rfl (Nat.le_of_ble_eq_true rfl)) ?_
  refine RW.gop rfl rfl rfl rfl rfl rfl (eff_load (y := .t _) rfl rfl ti34 rfl (.one rfl rfl rfl rfl)) ?_
  refine RW.gop rfl rfl rfl rfl rfl rfl (eff_lenM rfl rfl te34 rfl) ?_
  refine RW.gop rfl rfl rfl rfl rfl rfl (eff_iop (r := .bool false) rfl rfl rfl rfl (by exact iop_gtr_f (by omega))) ?_
  refine RW.op rfl rfl (eff_pick (v := .t _) rfl rfl rfl rfl) ?_
  refine RW.nil ?_
  refine awp_cond rfl (fun h => nomatch h) (fun _ => ?_)
  refine awp_skip ?_
  refine awp_seq ?_
  refine awp_rw rfl ?_
  refine RW.op rfl rfl (eff_move (v := .t _) rfl rfl rfl) ?_
  refine RW.op rfl rfl (eff_convIntE (m := q) rfl rfl (by rw [tu22]; rfl) tu3 rfl (wrap64 (by omega) (by omega))) ?_
  refine RW.op rfl rfl (eff_remE (r := q % 2001) rfl rfl rfl rfl (by decide) (tmod_pos hq.1)) ?_
  refine RW.op rfl rfl (eff_buildT (ys := [_, _, _, _]) rfl rfl tz29 tg29 rfl) ?_
  refine RW.new rfl rfl (eff_allocK (k := 4) (id := 7) rfl rfl tz29 rfl rfl) ?_
  refine RW.store rfl rfl (eff_storeW (v := .t _) (els := [_]) (els' := [_]) rfl rfl ti29 rfl rfl rfl rfl rfl rfl rfl rfl rfl) ?_
  refine RW.nil ?_
  show AWP _ _ _ _
  refine awp_weak (weak_wkOb (id := 7) (QSc q) rfl ⟨.refl _, .sl _, .sl _, .sl _, trivial⟩) ?_
  refine awp_seq ?_
  refine awp_seq ?_
  refine awp_rw rfl ?_
  refine RW.op rfl rfl (eff_assign (v := .t _) rfl rfl rfl) ?_
  refine RW.nil ?_
  refine awp_block ?_
  refine awp_loopW (fun m s => ∃ (i : Nat), (i ≤ l.length) ∧ m = l.length - i ∧ s = ⟨154, [(5, .ptr 5 0 0 0), (1, .t (.sl (l.map encO) false)), (7, .ptr 7 0 0 0), (8, .t (encI (i : Nat)))], [(5, some ⟨8, 38, 0, [.t (encB b)]⟩), (7, some ⟨4, 29, 0, [.t (encS (runS (QS q) (l.take i)))]⟩)]⟩) (_) (⟨_, weak_keep (n := 154) (fr' := [(5, .ptr 5 0 0 0), (1, .t (.sl (l.map encO) false)), (7, .ptr 7 0 0 0), (8, .t (encI (0 : Nat)))]) (st' := [(5, some ⟨8, 38, 0, [.t (encB b)]⟩), (7, some ⟨4, 29, 0, [.t (encS (runS (QS q) (l.take 0)))]⟩)]) ⟨rfl, rfl, rfl, rfl, rfl, rfl, rfl, rfl, trivial⟩ ⟨rfl, okE_one rfl, (by first | rfl | (rw [runS_step (by omega)]; rfl)), okE_one rfl, trivial⟩, 0, (by omega), rfl, rfl⟩) ?_
  rintro m s ⟨i, hi, rfl, rfl⟩
  have hlen := hsh.2
  refine awp_seq ?_
  refine awp_seq ?_
  refine awp_rw rfl ?_
  refine RW.op rfl rfl (eff_move (v := .t _) rfl rfl rfl) ?_
  refine RW.op rfl rfl (eff_move (v := .t _) rfl rfl rfl) ?_
  refine RW.op rfl rfl (eff_lenM rfl rfl te23 rfl) ?_
  refine RW.op rfl rfl (eff_iop rfl rfl rfl rfl rfl) ?_
  refine RW.nil ?_
  refine awp_cond rfl (fun h1 => ?_) (fun h1 => ?_)
  · try simp only [decide_eq_true_eq, decide_eq_false_iff_not, beq_iff_eq, bne_iff_ne, bne_eq_false_iff_eq, beq_eq_false_iff_ne, Bool.not_eq_true, Bool.not_eq_false, Bool.not_eq_true', Bool.not_eq_false', ne_eq] at h1
    refine awp_skip ?_
    refine awp_seq ?_
    refine awp_block ?_
    refine awp_rd [(some 42, []), (some 43, []), (some 44, []), (some 45, []), (some 46, []), (some 47, []), (some 41, []), (some 48, []), (some 49, []), (some 50, []), (none, [7])] [[], [], [], [1, 2], [1, 2, 3], [0, 1, 2, 3, 4], [0, 1, 2, 3, 4, 5], [0, 1, 2, 3, 4, 5, 6], [0, 1, 2, 3, 4, 5, 6], [0, 1, 2, 3, 4, 5, 6], [0, 1, 2, 3, 4, 5, 6, 7]] tm rfl rfl rfl rfl ?_
    refine RD.op rfl rfl rfl (eff_load rfl rfl ti29 rfl (.whole rfl rfl rfl rfl rfl rfl)) ?_
    refine RD.op rfl rfl rfl (eff_move (v := .t _) rfl rfl rfl) ?_
    refine RD.op rfl rfl rfl (eff_move (v := .t _) rfl rfl rfl) ?_
    refine RD.op rfl rfl rfl (eff_indexM rfl rfl te23 rfl rfl rfl (by first | assumption | exact List.getElem?_eq_getElem (by omega)) rfl (by decide)) ?_
    refine RD.op rfl rfl rfl (eff_loadW rfl rfl ti40 rfl rfl rfl) ?_
    refine RD.op rfl rfl rfl (eff_callT (do_ret 40 (runS (QS q) (l.take i)) (l[i]'(by omega)) (by omega) ((run_inv hq.1 hB i (by omega)).mono (by omega)) (short_bok hsh.1 (by omega))) co11 rfl rfl rfl rfl) ?_
    refine RD.op rfl rfl rfl (eff_move (v := .t _) rfl rfl rfl) ?_
    refine RD.op rfl rfl rfl (eff_extract rfl rfl rfl rfl) ?_
    refine RD.op rfl rfl rfl (eff_extract rfl rfl rfl rfl) ?_
    refine RD.op rfl rfl rfl (eff_extract rfl rfl rfl rfl) ?_
    refine RD.store rfl rfl rfl (eff_storeW (v := .t _) (els := [_]) (els' := [_]) rfl rfl ti29 rfl rfl rfl rfl rfl rfl rfl rfl rfl) ?_
    refine RD.nil ?_
    refine awp_rw rfl ?_
    refine RW.op rfl rfl (eff_move (v := .t _) rfl rfl rfl) ?_
    refine RW.op rfl rfl (eff_iop rfl rfl rfl rfl (iadd (by omega))) ?_
    refine RW.op rfl rfl (eff_assign (v := .t _) rfl rfl rfl) ?_
    refine RW.nil ?_
    refine ⟨_, ?_, _, weak_keep (n := 154) (fr' := [(5, .ptr 5 0 0 0), (1, .t (.sl (l.map encO) false)), (7, .ptr 7 0 0 0), (8, .t (encI ((i + 1) : Nat)))]) (st' := [(5, some ⟨8, 38, 0, [.t (encB b)]⟩), (7, some ⟨4, 29, 0, [.t (encS (runS (QS q) (l.take (i + 1))))]⟩)]) ⟨rfl, rfl, rfl, rfl, rfl, rfl, rfl, rfl, trivial⟩ ⟨rfl, okE_one rfl, (by first | rfl | (rw [runS_step (by omega)]; rfl)), okE_one rfl, trivial⟩, i + 1, (by omega), rfl, rfl⟩
    omega
  · try simp only [decide_eq_true_eq, decide_eq_false_iff_not, beq_iff_eq, bne_iff_ne, bne_eq_false_iff_eq, beq_eq_false_iff_ne, Bool.not_eq_true, Bool.not_eq_false, Bool.not_eq_true', Bool.not_eq_false', ne_eq] at h1
    refine awp_exit ?_
    refine awp_seq ?_
    refine awp_rw rfl ?_
    have hi4 : i = l.length := by have hlen := hsh.2; omega
    subst hi4
    rw [List.take_length]
    refine RW.op rfl rfl (eff_load rfl rfl ti29 rfl (.whole rfl rfl rfl rfl rfl rfl)) ?_
    refine RW.op rfl rfl (eff_load rfl rfl ti38 rfl (.whole rfl rfl rfl rfl rfl rfl)) ?_
    refine RW.op rfl rfl (eff_callT ((by have h := accept23_ret insC (runS (QS q) l) b (hV.sok (by omega)) (by unfold BOK; omega) hV.ss; rw [hA] at h; exact h)) co23 rfl rfl rfl rfl) ?_
    refine RW.op rfl rfl (eff_move (v := .t _) rfl rfl rfl) ?_
    refine RW.op rfl rfl (eff_extract rfl rfl rfl rfl) ?_
    refine RW.op rfl rfl (eff_extract rfl rfl rfl rfl) ?_
    refine RW.op rfl rfl (eff_extract rfl rfl rfl rfl) ?_
    refine RW.new rfl rfl (eff_allocK (k := 4) (id := 9) rfl rfl tz29 rfl rfl) ?_
    refine RW.store rfl rfl (eff_storeW (v := .t _) (els := [_]) (els' := [_]) rfl rfl ti29 rfl rfl rfl rfl rfl rfl rfl rfl rfl) ?_
    refine RW.op rfl rfl (eff_assign (v := .t _) rfl rfl rfl) ?_
    refine RW.op rfl rfl (eff_assign (v := .t _) rfl rfl rfl) ?_
    refine RW.nil ?_
    refine awp_seq ?_
    refine awp_seq ?_
    refine awp_rw rfl ?_
    refine RW.op rfl rfl (eff_move (v := .t _) rfl rfl rfl) ?_
    refine RW.op rfl rfl (eff_iop (r := .bool true) rfl rfl rfl rfl (by exact iop_neq_t (by decide))) ?_
    refine RW.nil ?_
    refine awp_cond rfl (fun _ => ?_) (fun h => nomatch h)
    refine awp_seq ?_
    refine awp_rw rfl ?_
    refine RW.op rfl rfl (eff_move (v := .t _) rfl rfl rfl) ?_
    refine RW.op rfl rfl (eff_unop rfl rfl rfl rfl) ?_
    refine RW.op rfl rfl (eff_move (v := .t _) rfl rfl rfl) ?_
    refine RW.gop rfl rfl rfl rfl rfl rfl (eff_move (v := .t _) rfl rfl rfl) ?_
    refine RW.gop rfl rfl rfl rfl rfl rfl (eff_iop (r := .bool true) rfl rfl rfl rfl (by exact iop_eql_t (by decide))) ?_
    refine RW.gop rfl rfl rfl rfl rfl rfl (eff_move (v := .t _) rfl rfl rfl) ?_
    refine RW.gskip rfl rfl rfl rfl rfl (by decide) ?_
    refine RW.gskip rfl rfl rfl rfl rfl (by decide) ?_
    refine RW.gop rfl rfl rfl rfl rfl rfl (eff_pick (v := .t _) rfl rfl rfl rfl) ?_
    refine RW.op rfl rfl (eff_pick (v := .t _) rfl rfl rfl rfl) ?_
    refine RW.op rfl rfl (eff_move (v := .t _) rfl rfl rfl) ?_
    refine RW.gop rfl rfl rfl rfl rfl rfl (eff_callT (lives_ret) co10 rfl rfl rfl rfl) ?_
    refine RW.op rfl rfl (eff_pick (v := .t _) rfl rfl rfl rfl) ?_
    refine RW.op rfl rfl (eff_assign (v := .t _) rfl rfl rfl) ?_
    refine RW.nil ?_
    refine awp_ret ?_
    exact ⟨Or.inr rfl, [_], ⟨.tmp (.t _), trivial⟩, .refl _⟩

theorem doublesE42 (q : Int) (hq : 0 ≤ q ∧ q < 65536) (l : List Opn) (hl : l.length ≤ 9223372036854775807) (hB : OpsOK l) (b : Bundle) (hbb : Bytes b.data) (hsh : (∀ o, o ∈ l → o.bundle.data.length ≤ 300) ∧ (l.length : Int) ≤ 40) (hb : b.data.length ≤ 256) (hV : VInv 40 (runS (QS q) l)) (hA : accept (runS (QS q) l) b = (zs, false, 42)) : Ret Try.prog 5 [.int .u16 q, .sl (l.map encO) false, encB b] (.bool true) := by
  refine ret_of_awp Try.func5 rfl (Nat.le_of_ble_eq_true rfl) ?_
  refine awp_seq ?_
  refine awp_rw rfl ?_
  refine RW.new rfl rfl (eff_boxK (v := .t _) (k := 8) (id := 5) rfl rfl rfl rfl rfl rfl) ?_
  refine RW.op rfl rfl (eff_assign (v := .t _) rfl rfl rfl) ?_
  refine RW.nil ?_
  refine awp_seq ?_
  refine awp_seq ?_
  refine awp_rw rfl ?_
  refine RW.op rfl rfl (eff_move (v := .t _) rfl rfl rfl) ?_
  refine RW.op rfl rfl (eff_callT ((by have h := short_ret l 40 hl; rw [decide_eq_true hsh] at h; exact h)) co9 rfl rfl rfl rfl) ?_
  refine RW.op rfl rfl (eff_unop rfl rfl rfl rfl) ?_
  refine RW.op rfl rfl (eff_move (v := .t _) rfl rfl rfl) ?_
  refine RW.gop rfl rfl rfl rfl rfl rfl (eff_fieldAddr rfl rfl tf38_3 (by decide) rfl rfl rfl (Nat.le_of_ble_eq_true rfl)) ?_
  refine RW.gop rfl rfl rfl rfl rfl rfl (eff_fieldAddr rfl rfl tf36_4 (by decide) rfl rfl rfl (Nat.le_of_ble_eq_true rfl)) ?_
  refine RW.gop rfl rfl rfl rfl rfl rfl (eff_load (y := .t _) rfl rfl ti34 rfl (.one rfl rfl rfl rfl)) ?_
  refine RW.gop rfl rfl rfl rfl rfl rfl (eff_lenM rfl rfl te34 rfl) ?_
  refine RW.gop rfl rfl rfl rfl rfl rfl (eff_iop (r := .bool false) rfl rfl rfl rfl (by exact iop_gtr_f (by omega))) ?_
  refine RW.op rfl rfl (eff_pick (v := .t _) rfl rfl rfl rfl) ?_
  refine RW.nil ?_
  refine awp_cond rfl (fun h => nomatch h) (fun _ => ?_)
  refine awp_skip ?_
  refine awp_seq ?_
  refine awp_rw rfl ?_
  refine RW.op rfl rfl (eff_move (v := .t _) rfl rfl rfl) ?_
  refine RW.op rfl rfl (eff_convIntE (m := q) rfl rfl (by rw [tu22]; rfl) tu3 rfl (wrap64 (by omega) (by omega))) ?_
  refine RW.op rfl rfl (eff_remE (r := q % 2001) rfl rfl rfl rfl (by decide) (tmod_pos hq.1)) ?_
  refine RW.op rfl rfl (eff_buildT (ys := [_, _, _, _]) rfl rfl tz29 tg29 rfl) ?_
  refine RW.new rfl rfl (eff_allocK (k := 4) (id := 7) rfl rfl tz29 rfl rfl) ?_
  refine RW.store rfl rfl (eff_storeW (v := .t _) (els := [_]) (els' := [_]) rfl rfl ti29 rfl rfl rfl rfl rfl rfl rfl rfl rfl) ?_
  refine RW.nil ?_
  show AWP _ _ _ _
  refine awp_weak (weak_wkOb (id := 7) (QSc q) rfl ⟨.refl _, .sl _, .sl _, .sl _, trivial⟩) ?_
  refine awp_seq ?_
  refine awp_seq ?_
  refine awp_rw rfl ?_
  refine RW.op rfl rfl (eff_assign (v := .t _) rfl rfl rfl) ?_
  refine RW.nil ?_
  refine awp_block ?_
  refine awp_loopW (fun m s => ∃ (i : Nat), (i ≤ l.length) ∧ m = l.length - i ∧ s = ⟨154, [(5, .ptr 5 0 0 0), (1, .t (.sl (l.map encO) false)), (7, .ptr 7 0 0 0), (8, .t (encI (i : Nat)))], [(5, some ⟨8, 38, 0, [.t (encB b)]⟩), (7, some ⟨4, 29, 0, [.t (encS (runS (QS q) (l.take i)))]⟩)]⟩) (_) (⟨_, weak_keep (n := 154) (fr' := [(5, .ptr 5 0 0 0), (1, .t (.sl (l.map encO) false)), (7, .ptr 7 0 0 0), (8, .t (encI (0 : Nat)))]) (st' := [(5, some ⟨8, 38, 0, [.t (encB b)]⟩), (7, some ⟨4, 29, 0, [.t (encS (runS (QS q) (l.take 0)))]⟩)]) ⟨rfl, rfl, rfl, rfl, rfl, rfl, rfl, rfl, trivial⟩ ⟨rfl, okE_one rfl, (by first | rfl | (rw [runS_step (by omega)]; rfl)), okE_one rfl, trivial⟩, 0, (by omega), rfl, rfl⟩) ?_
  rintro m s ⟨i, hi, rfl, rfl⟩
  have hlen := hsh.2
  refine awp_seq ?_
  refine awp_seq ?_
  refine awp_rw rfl ?_
  refine RW.op rfl rfl (eff_move (v := .t _) rfl rfl rfl) ?_
  refine RW.op rfl rfl (eff_move (v := .t _) rfl rfl rfl) ?_
  refine RW.op rfl rfl (eff_lenM rfl rfl te23 rfl) ?_
  refine RW.op rfl rfl (eff_iop rfl rfl rfl rfl rfl) ?_
  refine RW.nil ?_
  refine awp_cond rfl (fun h1 => ?_) (fun h1 => ?_)
  · try simp only [decide_eq_true_eq, decide_eq_false_iff_not, beq_iff_eq, bne_iff_ne, bne_eq_false_iff_eq, beq_eq_false_iff_ne, Bool.not_eq_true, Bool.not_eq_false, Bool.not_eq_true', Bool.not_eq_false', ne_eq] at h1
    refine awp_skip ?_
    refine awp_seq ?_
    refine awp_block ?_
    refine awp_rd [(some 42, []), (some 43, []), (some 44, []), (some 45, []), (some 46, []), (some 47, []), (some 41, []), (some 48, []), (some 49, []), (some 50, []), (none, [7])] [[], [], [], [1, 2], [1, 2, 3], [0, 1, 2, 3, 4], [0, 1, 2, 3, 4, 5], [0, 1, 2, 3, 4, 5, 6], [0, 1, 2, 3, 4, 5, 6], [0, 1, 2, 3, 4, 5, 6], [0, 1, 2, 3, 4, 5, 6, 7]] tm rfl rfl rfl rfl ?_
    refine RD.op rfl rfl rfl (eff_load rfl rfl ti29 rfl (.whole rfl rfl rfl rfl rfl rfl)) ?_
    refine RD.op rfl rfl rfl (eff_move (v := .t _) rfl rfl rfl) ?_
    refine RD.op rfl rfl rfl (eff_move (v := .t _) rfl rfl rfl) ?_
    refine RD.op rfl rfl rfl (eff_indexM rfl rfl te23 rfl rfl rfl (by first | assumption | exact List.getElem?_eq_getElem (by omega)) rfl (by decide)) ?_
    refine RD.op rfl rfl rfl (eff_loadW rfl rfl ti40 rfl rfl rfl) ?_
    refine RD.op rfl rfl rfl (eff_callT (do_ret 40 (runS (QS q) (l.take i)) (l[i]'(by omega)) (by omega) ((run_inv hq.1 hB i (by omega)).mono (by omega)) (short_bok hsh.1 (by omega))) co11 rfl rfl rfl rfl) ?_
    refine RD.op rfl rfl rfl (eff_move (v := .t _) rfl rfl rfl) ?_
    refine RD.op rfl rfl rfl (eff_extract rfl rfl rfl rfl) ?_
    refine RD.op rfl rfl rfl (eff_extract rfl rfl rfl rfl) ?_
    refine RD.op rfl rfl rfl (eff_extract rfl rfl rfl rfl) ?_
    refine RD.store rfl rfl rfl (eff_storeW (v := .t _) (els := [_]) (els' := [_]) rfl rfl ti29 rfl rfl rfl rfl rfl rfl rfl rfl rfl) ?_
    refine RD.nil ?_
    refine awp_rw rfl ?_
    refine RW.op rfl rfl (eff_move (v := .t _) rfl rfl rfl) ?_
    refine RW.op rfl rfl (eff_iop rfl rfl rfl rfl (iadd (by omega))) ?_
    refine RW.op rfl rfl (eff_assign (v := .t _) rfl rfl rfl) ?_
    refine RW.nil ?_
    refine ⟨_, ?_, _, weak_keep (n := 154) (fr' := [(5, .ptr 5 0 0 0), (1, .t (.sl (l.map encO) false)), (7, .ptr 7 0 0 0), (8, .t (encI ((i + 1) : Nat)))]) (st' := [(5, some ⟨8, 38, 0, [.t (encB b)]⟩), (7, some ⟨4, 29, 0, [.t (encS (runS (QS q) (l.take (i + 1))))]⟩)]) ⟨rfl, rfl, rfl, rfl, rfl, rfl, rfl, rfl, trivial⟩ ⟨rfl, okE_one rfl, (by first | rfl | (rw [runS_step (by omega)]; rfl)), okE_one rfl, trivial⟩, i + 1, (by omega), rfl, rfl⟩
    omega
  · try simp only [decide_eq_true_eq, decide_eq_false_iff_not, beq_iff_eq, bne_iff_ne, bne_eq_false_iff_eq, beq_eq_false_iff_ne, Bool.not_eq_true, Bool.not_eq_false, Bool.not_eq_true', Bool.not_eq_false', ne_eq] at h1
    refine awp_exit ?_
    refine awp_seq ?_
    refine awp_rw rfl ?_
    have hi4 : i = l.length := by have hlen := hsh.2; omega
    subst hi4
    rw [List.take_length]
    refine RW.op rfl rfl (eff_load rfl rfl ti29 rfl (.whole rfl rfl rfl rfl rfl rfl)) ?_
    refine RW.op rfl rfl (eff_load rfl rfl ti38 rfl (.whole rfl rfl rfl rfl rfl rfl)) ?_
    refine RW.op rfl rfl (eff_callT ((by have h := accept23_ret insC (runS (QS q) l) b (hV.sok (by omega)) (by unfold BOK; omega) hV.ss; rw [hA] at h; exact h)) co23 rfl rfl rfl rfl) ?_
    refine RW.op rfl rfl (eff_move (v := .t _) rfl rfl rfl) ?_
    refine RW.op rfl rfl (eff_extract rfl rfl rfl rfl) ?_
    refine RW.op rfl rfl (eff_extract rfl rfl rfl rfl) ?_
    refine RW.op rfl rfl (eff_extract rfl rfl rfl rfl) ?_
    refine RW.new rfl rfl (eff_allocK (k := 4) (id := 9) rfl rfl tz29 rfl rfl) ?_
    refine RW.store rfl rfl (eff_storeW (v := .t _) (els := [_]) (els' := [_]) rfl rfl ti29 rfl rfl rfl rfl rfl rfl rfl rfl rfl) ?_
    refine RW.op rfl rfl (eff_assign (v := .t _) rfl rfl rfl) ?_
    refine RW.op rfl rfl (eff_assign (v := .t _) rfl rfl rfl) ?_
    refine RW.nil ?_
    refine awp_seq ?_
    refine awp_seq ?_
    refine awp_rw rfl ?_
    refine RW.op rfl rfl (eff_move (v := .t _) rfl rfl rfl) ?_
    refine RW.op rfl rfl (eff_iop (r := .bool true) rfl rfl rfl rfl (by exact iop_neq_t (by decide))) ?_
    refine RW.nil ?_
    refine awp_cond rfl (fun _ => ?_) (fun h => nomatch h)
    refine awp_seq ?_
    refine awp_rw rfl ?_
    refine RW.op rfl rfl (eff_move (v := .t _) rfl rfl rfl) ?_
    refine RW.op rfl rfl (eff_unop rfl rfl rfl rfl) ?_
    refine RW.op rfl rfl (eff_move (v := .t _) rfl rfl rfl) ?_
    refine RW.gop rfl rfl rfl rfl rfl rfl (eff_move (v := .t _) rfl rfl rfl) ?_
    refine RW.gop rfl rfl rfl rfl rfl rfl (eff_iop (r := .bool false) rfl rfl rfl rfl (by exact iop_eql_f (by decide))) ?_
    refine RW.gop rfl rfl rfl rfl rfl rfl (eff_move (v := .t _) rfl rfl rfl) ?_
    refine RW.gop rfl rfl rfl rfl rfl rfl (eff_move (v := .t _) rfl rfl rfl) ?_
    refine RW.gop rfl rfl rfl rfl rfl rfl (eff_iop (r := .bool true) rfl rfl rfl rfl (by exact iop_eql_t (by decide))) ?_
    refine RW.gop rfl rfl rfl rfl rfl rfl (eff_pick (v := .t _) rfl rfl rfl rfl) ?_
    refine RW.op rfl rfl (eff_pick (v := .t _) rfl rfl rfl rfl) ?_
    refine RW.op rfl rfl (eff_move (v := .t _) rfl rfl rfl) ?_
    refine RW.gop rfl rfl rfl rfl rfl rfl (eff_callT (lives_ret) co10 rfl rfl rfl rfl) ?_
    refine RW.op rfl rfl (eff_pick (v := .t _) rfl rfl rfl rfl) ?_
    refine RW.op rfl rfl (eff_assign (v := .t _) rfl rfl rfl) ?_
    refine RW.nil ?_
    refine awp_ret ?_
    exact ⟨Or.inr rfl, [_], ⟨.tmp (.t _), trivial⟩, .refl _⟩

theorem doublesA1 (q : Int) (hq : 0 ≤ q ∧ q < 65536) (l : List Opn) (hl : l.length ≤ 9223372036854775807) (hB : OpsOK l) (b : Bundle) (hbb : Bytes b.data) (hsh : (∀ o, o ∈ l → o.bundle.data.length ≤ 300) ∧ (l.length : Int) ≤ 40) (hb : b.data.length ≤ 256) (hV : VInv 40 (runS (QS q) l)) (A : Store) (hA : accept (runS (QS q) l) b = (A, true, 0)) (hVA : VInv 41 A) (hAs : b.id ∈ A.seen) (hC : confirm A b.id = (zs, 3)) (hni : b.id ∉ ids A) : Ret Try.prog 5 [.int .u16 q, .sl (l.map encO) false, encB b] (.bool true) := by
  refine ret_of_awp Try.func5 rfl (Nat.le_of_ble_eq_true rfl) ?_
  refine awp_seq ?_
  refine awp_rw rfl ?_
  refine RW.new rfl rfl (eff_boxK (v := .t _) (k := 8) (id := 5) rfl rfl rfl rfl rfl rfl) ?_
  refine RW.op rfl rfl (eff_assign (v := .t _) rfl rfl rfl) ?_
  refine RW.nil ?_
  refine awp_seq ?_
  refine awp_seq ?_
  refine awp_rw rfl ?_
  refine RW.op rfl rfl (eff_move (v := .t _) rfl rfl rfl) ?_
  refine RW.op rfl rfl (eff_callT ((by have h := short_ret l 40 hl; rw [decide_eq_true hsh] at h; exact h)) co9 rfl rfl rfl rfl) ?_
  refine RW.op rfl rfl (eff_unop rfl rfl rfl rfl) ?_
  refine RW.op rfl rfl (eff_move (v := .t _) rfl rfl rfl) ?_
  refine RW.gop rfl rfl rfl rfl rfl rfl (eff_fieldAddr rfl rfl tf38_3 (by decide) rfl rfl rfl (Nat.le_of_ble_eq_true rfl)) ?_
  refine RW.gop rfl rfl rfl rfl rfl rfl (eff_fieldAddr rfl rfl tf36_4 (by decide) rfl rfl rfl (Nat.le_of_ble_eq_true rfl)) ?_
  refine RW.gop rfl rfl rfl rfl rfl rfl (eff_load (y := .t _) rfl rfl ti34 rfl (.one rfl rfl rfl rfl)) ?_
  refine RW.gop rfl rfl rfl rfl rfl rfl (eff_lenM rfl rfl te34 rfl) ?_
  refine RW.gop rfl rfl rfl rfl rfl rfl (eff_iop (r := .bool false) rfl rfl rfl rfl (by exact iop_gtr_f (by omega))) ?_
  refine RW.op rfl rfl (eff_pick (v := .t _) rfl rfl rfl rfl) ?_
  refine RW.nil ?_
  refine awp_cond rfl (fun h => nomatch h) (fun _ => ?_)
  refine awp_skip ?_
  refine awp_seq ?_
  refine awp_rw rfl ?_
  refine RW.op rfl rfl (eff_move (v := .t _) rfl rfl rfl) ?_
  refine RW.op rfl rfl (eff_convIntE (m := q) rfl rfl (by rw [tu22]; rfl) tu3 rfl (wrap64 (by omega) (by omega))) ?_
  refine RW.op rfl rfl (eff_remE (r := q % 2001) rfl rfl rfl rfl (by decide) (tmod_pos hq.1)) ?_
  refine RW.op rfl rfl (eff_buildT (ys := [_, _, _, _]) rfl rfl tz29 tg29 rfl) ?_
  refine RW.new rfl rfl (eff_allocK (k := 4) (id := 7) rfl rfl tz29 rfl rfl) ?_
  refine RW.store rfl rfl (eff_storeW (v := .t _) (els := [_]) (els' := [_]) rfl rfl ti29 rfl rfl rfl rfl rfl rfl rfl rfl rfl) ?_
  refine RW.nil ?_
  show AWP _ _ _ _
  refine awp_weak (weak_wkOb (id := 7) (QSc q) rfl ⟨.refl _, .sl _, .sl _, .sl _, trivial⟩) ?_
  refine awp_seq ?_
  refine awp_seq ?_
  refine awp_rw rfl ?_
  refine RW.op rfl rfl (eff_assign (v := .t _) rfl rfl rfl) ?_
  refine RW.nil ?_
  refine awp_block ?_
  refine awp_loopW (fun m s => ∃ (i : Nat), (i ≤ l.length) ∧ m = l.length - i ∧ s = ⟨154, [(5, .ptr 5 0 0 0), (1, .t (.sl (l.map encO) false)), (7, .ptr 7 0 0 0), (8, .t (encI (i : Nat)))], [(5, some ⟨8, 38, 0, [.t (encB b)]⟩), (7, some ⟨4, 29, 0, [.t (encS (runS (QS q) (l.take i)))]⟩)]⟩) (_) (⟨_, weak_keep (n := 154) (fr' := [(5, .ptr 5 0 0 0), (1, .t (.sl (l.map encO) false)), (7, .ptr 7 0 0 0), (8, .t (encI (0 : Nat)))]) (st' := [(5, some ⟨8, 38, 0, [.t (encB b)]⟩), (7, some ⟨4, 29, 0, [.t (encS (runS (QS q) (l.take 0)))]⟩)]) ⟨rfl, rfl, rfl, rfl, rfl, rfl, rfl, rfl, trivial⟩ ⟨rfl, okE_one rfl, (by first | rfl | (rw [runS_step (by omega)]; rfl)), okE_one rfl, trivial⟩, 0, (by omega), rfl, rfl⟩) ?_
  rintro m s ⟨i, hi, rfl, rfl⟩
  have hlen := hsh.2
  refine awp_seq ?_
  refine awp_seq ?_
  refine awp_rw rfl ?_
  refine RW.op rfl rfl (eff_move (v := .t _) rfl rfl rfl) ?_
  refine RW.op rfl rfl (eff_move (v := .t _) rfl rfl rfl) ?_
  refine RW.op rfl rfl (eff_lenM rfl rfl te23 rfl) ?_
  refine RW.op rfl rfl (eff_iop rfl rfl rfl rfl rfl) ?_
  refine RW.nil ?_
  refine awp_cond rfl (fun h1 => ?_) (fun h1 => ?_)
  · try simp only [decide_eq_true_eq, decide_eq_false_iff_not, beq_iff_eq, bne_iff_ne, bne_eq_false_iff_eq, beq_eq_false_iff_ne, Bool.not_eq_true, Bool.not_eq_false, Bool.not_eq_true', Bool.not_eq_false', ne_eq] at h1
    refine awp_skip ?_
    refine awp_seq ?_
    refine awp_block ?_
    refine awp_rd [(some 42, []), (some 43, []), (some 44, []), (some 45, []), (some 46, []), (some 47, []), (some 41, []), (some 48, []), (some 49, []), (some 50, []), (none, [7])] [[], [], [], [1, 2], [1, 2, 3], [0, 1, 2, 3, 4], [0, 1, 2, 3, 4, 5], [0, 1, 2, 3, 4, 5, 6], [0, 1, 2, 3, 4, 5, 6], [0, 1, 2, 3, 4, 5, 6], [0, 1, 2, 3, 4, 5, 6, 7]] tm rfl rfl rfl rfl ?_
    refine RD.op rfl rfl rfl (eff_load rfl rfl ti29 rfl (.whole rfl rfl rfl rfl rfl rfl)) ?_
    refine RD.op rfl rfl rfl (eff_move (v := .t _) rfl rfl rfl) ?_
    refine RD.op rfl rfl rfl (eff_move (v := .t _) rfl rfl rfl) ?_
    refine RD.op rfl rfl rfl (eff_indexM rfl rfl te23 rfl rfl rfl (by first | assumption | exact List.getElem?_eq_getElem (by omega)) rfl (by decide)) ?_
    refine RD.op rfl rfl rfl (eff_loadW rfl rfl ti40 rfl rfl rfl) ?_
    refine RD.op rfl rfl rfl (eff_callT (do_ret 40 (runS (QS q) (l.take i)) (l[i]'(by omega)) (by omega) ((run_inv hq.1 hB i (by omega)).mono (by omega)) (short_bok hsh.1 (by omega))) co11 rfl rfl rfl rfl) ?_
    refine RD.op rfl rfl rfl (eff_move (v := .t _) rfl rfl rfl) ?_
    refine RD.op rfl rfl rfl (eff_extract rfl rfl rfl rfl) ?_
    refine RD.op rfl rfl rfl (eff_extract rfl rfl rfl rfl) ?_
    refine RD.op rfl rfl rfl (eff_extract rfl rfl rfl rfl) ?_
    refine RD.store rfl rfl rfl (eff_storeW (v := .t _) (els := [_]) (els' := [_]) rfl rfl ti29 rfl rfl rfl rfl rfl rfl rfl rfl rfl) ?_
    refine RD.nil ?_
    refine awp_rw rfl ?_
    refine RW.op rfl rfl (eff_move (v := .t _) rfl rfl rfl) ?_
    refine RW.op rfl rfl (eff_iop rfl rfl rfl rfl (iadd (by omega))) ?_
    refine RW.op rfl rfl (eff_assign (v := .t _) rfl rfl rfl) ?_
    refine RW.nil ?_
    refine ⟨_, ?_, _, weak_keep (n := 154) (fr' := [(5, .ptr 5 0 0 0), (1, .t (.sl (l.map encO) false)), (7, .ptr 7 0 0 0), (8, .t (encI ((i + 1) : Nat)))]) (st' := [(5, some ⟨8, 38, 0, [.t (encB b)]⟩), (7, some ⟨4, 29, 0, [.t (encS (runS (QS q) (l.take (i + 1))))]⟩)]) ⟨rfl, rfl, rfl, rfl, rfl, rfl, rfl, rfl, trivial⟩ ⟨rfl, okE_one rfl, (by first | rfl | (rw [runS_step (by omega)]; rfl)), okE_one rfl, trivial⟩, i + 1, (by omega), rfl, rfl⟩
    omega
  · try simp only [decide_eq_true_eq, decide_eq_false_iff_not, beq_iff_eq, bne_iff_ne, bne_eq_false_iff_eq, beq_eq_false_iff_ne, Bool.not_eq_true, Bool.not_eq_false, Bool.not_eq_true', Bool.not_eq_false', ne_eq] at h1
    refine awp_exit ?_
    refine awp_seq ?_
    refine awp_rw rfl ?_
    have hi4 : i = l.length := by have hlen := hsh.2; omega
    subst hi4
    rw [List.take_length]
    refine RW.op rfl rfl (eff_load rfl rfl ti29 rfl (.whole rfl rfl rfl rfl rfl rfl)) ?_
    refine RW.op rfl rfl (eff_load rfl rfl ti38 rfl (.whole rfl rfl rfl rfl rfl rfl)) ?_
    refine RW.op rfl rfl (eff_callT ((by have h := accept23_ret insC (runS (QS q) l) b (hV.sok (by omega)) (by unfold BOK; omega) hV.ss; rw [hA] at h; exact h)) co23 rfl rfl rfl rfl) ?_
    refine RW.op rfl rfl (eff_move (v := .t _) rfl rfl rfl) ?_
    refine RW.op rfl rfl (eff_extract rfl rfl rfl rfl) ?_
    refine RW.op rfl rfl (eff_extract rfl rfl rfl rfl) ?_
    refine RW.op rfl rfl (eff_extract rfl rfl rfl rfl) ?_
    refine RW.new rfl rfl (eff_allocK (k := 4) (id := 9) rfl rfl tz29 rfl rfl) ?_
    refine RW.store rfl rfl (eff_storeW (v := .t _) (els := [_]) (els' := [_]) rfl rfl ti29 rfl rfl rfl rfl rfl rfl rfl rfl rfl) ?_
    refine RW.op rfl rfl (eff_assign (v := .t _) rfl rfl rfl) ?_
    refine RW.op rfl rfl (eff_assign (v := .t _) rfl rfl rfl) ?_
    refine RW.nil ?_
    refine awp_seq ?_
    refine awp_seq ?_
    refine awp_rw rfl ?_
    refine RW.op rfl rfl (eff_move (v := .t _) rfl rfl rfl) ?_
    refine RW.op rfl rfl (eff_iop (r := .bool false) rfl rfl rfl rfl (by exact iop_neq_f (by rfl))) ?_
    refine RW.nil ?_
    refine awp_cond rfl (fun h => nomatch h) (fun _ => ?_)
    refine awp_skip ?_
    refine awp_seq ?_
    refine awp_rw rfl ?_
    refine RW.op rfl rfl (eff_load rfl rfl ti29 rfl (.whole rfl rfl rfl rfl rfl rfl)) ?_
    refine RW.op rfl rfl (eff_load rfl rfl ti38 rfl (.whole rfl rfl rfl rfl rfl rfl)) ?_
    refine RW.op rfl rfl (eff_callT ((by have h := accept23_ret insC A b (hVA.sok (by omega)) (by unfold BOK; omega) hVA.ss; rw [accept_again hb hAs] at h; exact h)) co23 rfl rfl rfl rfl) ?_
    refine RW.op rfl rfl (eff_move (v := .t _) rfl rfl rfl) ?_
    refine RW.op rfl rfl (eff_extract rfl rfl rfl rfl) ?_
    refine RW.op rfl rfl (eff_extract rfl rfl rfl rfl) ?_
    refine RW.op rfl rfl (eff_extract rfl rfl rfl rfl) ?_
    refine RW.new rfl rfl (eff_allocK (k := 4) (id := 12) rfl rfl tz29 rfl rfl) ?_
    refine RW.store rfl rfl (eff_storeW (v := .t _) (els := [_]) (els' := [_]) rfl rfl ti29 rfl rfl rfl rfl rfl rfl rfl rfl rfl) ?_
    refine RW.op rfl rfl (eff_assign (v := .t _) rfl rfl rfl) ?_
    refine RW.op rfl rfl (eff_assign (v := .t _) rfl rfl rfl) ?_
    refine RW.nil ?_
    refine awp_seq ?_
    refine awp_rw rfl ?_
    refine RW.op rfl rfl (eff_load rfl rfl ti29 rfl (.whole rfl rfl rfl rfl rfl rfl)) ?_
    refine RW.op rfl rfl (eff_fieldAddr rfl rfl tf38_0 (by decide) rfl rfl rfl (Nat.le_of_ble_eq_true rfl)) ?_
    refine RW.op rfl rfl (eff_load (y := .t _) rfl rfl ti3 rfl (.one rfl rfl rfl rfl)) ?_
    refine RW.op rfl rfl (eff_callT ((by have h := confirm24_ret A b.id (hVA.sok (by omega)) hVA.ps; rw [hC] at h; exact h)) co24 rfl rfl rfl rfl) ?_
    refine RW.op rfl rfl (eff_move (v := .t _) rfl rfl rfl) ?_
    refine RW.op rfl rfl (eff_extract rfl rfl rfl rfl) ?_
    refine RW.op rfl rfl (eff_extract rfl rfl rfl rfl) ?_
    refine RW.new rfl rfl (eff_allocK (k := 4) (id := 15) rfl rfl tz29 rfl rfl) ?_
    refine RW.store rfl rfl (eff_storeW (v := .t _) (els := [_]) (els' := [_]) rfl rfl ti29 rfl rfl rfl rfl rfl rfl rfl rfl rfl) ?_
    refine RW.op rfl rfl (eff_assign (v := .t _) rfl rfl rfl) ?_
    refine RW.nil ?_
    refine awp_seq ?_
    refine awp_seq ?_
    refine awp_rw rfl ?_
    refine RW.op rfl rfl (eff_move (v := .t _) rfl rfl rfl) ?_
    refine RW.op rfl rfl (eff_iop (r := .bool true) rfl rfl rfl rfl (by exact iop_neq_t (by decide))) ?_
    refine RW.nil ?_
    refine awp_cond rfl (fun _ => ?_) (fun h => nomatch h)
    refine awp_seq ?_
    refine awp_rw rfl ?_
    refine RW.op rfl rfl (eff_move (v := .t _) rfl rfl rfl) ?_
    refine RW.op rfl rfl (eff_move (v := .t _) rfl rfl rfl) ?_
    refine RW.gop rfl rfl rfl rfl rfl rfl (eff_move (v := .t _) rfl rfl rfl) ?_
    refine RW.op rfl rfl (eff_pick (v := .t _) rfl rfl rfl rfl) ?_
    refine RW.op rfl rfl (eff_move (v := .t _) rfl rfl rfl) ?_
    refine RW.gop rfl rfl rfl rfl rfl rfl (eff_move (v := .t _) rfl rfl rfl) ?_
    refine RW.gop rfl rfl rfl rfl rfl rfl (eff_iop (r := .bool true) rfl rfl rfl rfl (by exact iop_eql_t (by rfl))) ?_
    refine RW.op rfl rfl (eff_pick (v := .t _) rfl rfl rfl rfl) ?_
    refine RW.op rfl rfl (eff_move (v := .t _) rfl rfl rfl) ?_
    refine RW.gop rfl rfl rfl rfl rfl rfl (eff_load rfl rfl ti29 rfl (.whole rfl rfl rfl rfl rfl rfl)) ?_
    refine RW.gop rfl rfl rfl rfl rfl rfl (eff_load rfl rfl ti29 rfl (.whole rfl rfl rfl rfl rfl rfl)) ?_
    refine RW.gop rfl rfl rfl rfl rfl rfl (eff_callT ((by have h := same_ret A A (hVA.sok (by omega)) (fun b hb => (hVA.bs b hb).2.1) (fun b hb => (hVA.bs b hb).2.1); rw [same_refl] at h; exact h)) co13 rfl rfl rfl rfl) ?_
    refine RW.op rfl rfl (eff_pick (v := .t _) rfl rfl rfl rfl) ?_
    refine RW.op rfl rfl (eff_move (v := .t _) rfl rfl rfl) ?_
    refine RW.gop rfl rfl rfl rfl rfl rfl (eff_load rfl rfl ti29 rfl (.whole rfl rfl rfl rfl rfl rfl)) ?_
    refine RW.gop rfl rfl rfl rfl rfl rfl (eff_fieldAddr rfl rfl tf38_0 (by decide) rfl rfl rfl (Nat.le_of_ble_eq_true rfl)) ?_
    refine RW.gop rfl rfl rfl rfl rfl rfl (eff_load (y := .t _) rfl rfl ti3 rfl (.one rfl rfl rfl rfl)) ?_
    refine RW.gop rfl rfl rfl rfl rfl rfl (eff_callT (count_ret A b.id (hVA.sok (by omega))) co22 rfl rfl rfl rfl) ?_
    refine RW.gop rfl rfl rfl rfl rfl rfl (eff_iop (r := .bool true) rfl rfl rfl rfl (by exact iop_eql_t (by exact count_zero hni))) ?_
    refine RW.op rfl rfl (eff_pick (v := .t _) rfl rfl rfl rfl) ?_
    refine RW.op rfl rfl (eff_move (v := .t _) rfl rfl rfl) ?_
    refine RW.gop rfl rfl rfl rfl rfl rfl (eff_callT (lives_ret) co10 rfl rfl rfl rfl) ?_
    refine RW.op rfl rfl (eff_pick (v := .t _) rfl rfl rfl rfl) ?_
    refine RW.op rfl rfl (eff_assign (v := .t _) rfl rfl rfl) ?_
    refine RW.nil ?_
    refine awp_ret ?_
    exact ⟨Or.inr rfl, [_], ⟨.tmp (.t _), trivial⟩, .refl _⟩

theorem doublesA2 (q : Int) (hq : 0 ≤ q ∧ q < 65536) (l : List Opn) (hl : l.length ≤ 9223372036854775807) (hB : OpsOK l) (b : Bundle) (hbb : Bytes b.data) (hsh : (∀ o, o ∈ l → o.bundle.data.length ≤ 300) ∧ (l.length : Int) ≤ 40) (hb : b.data.length ≤ 256) (hV : VInv 40 (runS (QS q) l)) (A : Store) (hA : accept (runS (QS q) l) b = (A, true, 0)) (hVA : VInv 41 A) (hAs : b.id ∈ A.seen) (V : Store) (hC : confirm A b.id = (V, 0)) (hVV : VInv 41 V) (hVs : b.id ∈ V.seen) (hcn : countB V.bundles b.id = 0) : Ret Try.prog 5 [.int .u16 q, .sl (l.map encO) false, encB b] (.bool true) := by
  refine ret_of_awp Try.func5 rfl (Nat.le_of_ble_eq_true rfl) ?_
  refine awp_seq ?_
  refine awp_rw rfl ?_
  refine RW.new rfl rfl (eff_boxK (v := .t _) (k := 8) (id := 5) rfl rfl rfl rfl rfl rfl) ?_
  refine RW.op rfl rfl (eff_assign (v := .t _) rfl rfl rfl) ?_
  refine RW.nil ?_
  refine awp_seq ?_
  refine awp_seq ?_
  refine awp_rw rfl ?_
  refine RW.op rfl rfl (eff_move (v := .t _) rfl rfl rfl) ?_
  refine RW.op rfl rfl (eff_callT ((by have h := short_ret l 40 hl; rw [decide_eq_true hsh] at h; exact h)) co9 rfl rfl rfl rfl) ?_
  refine RW.op rfl rfl (eff_unop rfl rfl rfl rfl) ?_
  refine RW.op rfl rfl (eff_move (v := .t _) rfl rfl rfl) ?_
  refine RW.gop rfl rfl rfl rfl rfl rfl (eff_fieldAddr rfl rfl tf38_3 (by decide) rfl rfl rfl (Nat.le_of_ble_eq_true rfl)) ?_
  refine RW.gop rfl rfl rfl rfl rfl rfl (eff_fieldAddr rfl rfl tf36_4 (by decide) rfl rfl rfl (Nat.le_of_ble_eq_true rfl)) ?_
  refine RW.gop rfl rfl rfl rfl rfl rfl (eff_load (y := .t _) rfl rfl ti34 rfl (.one rfl rfl rfl rfl)) ?_
  refine RW.gop rfl rfl rfl rfl rfl rfl (eff_lenM rfl rfl te34 rfl) ?_
  refine RW.gop rfl rfl rfl rfl rfl rfl (eff_iop (r := .bool false) rfl rfl rfl rfl (by exact iop_gtr_f (by omega))) ?_
  refine RW.op rfl rfl (eff_pick (v := .t _) rfl rfl rfl rfl) ?_
  refine RW.nil ?_
  refine awp_cond rfl (fun h => nomatch h) (fun _ => ?_)
  refine awp_skip ?_
  refine awp_seq ?_
  refine awp_rw rfl ?_
  refine RW.op rfl rfl (eff_move (v := .t _) rfl rfl rfl) ?_
  refine RW.op rfl rfl (eff_convIntE (m := q) rfl rfl (by rw [tu22]; rfl) tu3 rfl (wrap64 (by omega) (by omega))) ?_
  refine RW.op rfl rfl (eff_remE (r := q % 2001) rfl rfl rfl rfl (by decide) (tmod_pos hq.1)) ?_
  refine RW.op rfl rfl (eff_buildT (ys := [_, _, _, _]) rfl rfl tz29 tg29 rfl) ?_
  refine RW.new rfl rfl (eff_allocK (k := 4) (id := 7) rfl rfl tz29 rfl rfl) ?_
  refine RW.store rfl rfl (eff_storeW (v := .t _) (els := [_]) (els' := [_]) rfl rfl ti29 rfl rfl rfl rfl rfl rfl rfl rfl rfl) ?_
  refine RW.nil ?_
  show AWP _ _ _ _
  refine awp_weak (weak_wkOb (id := 7) (QSc q) rfl ⟨.refl _, .sl _, .sl _, .sl _, trivial⟩) ?_
  refine awp_seq ?_
  refine awp_seq ?_
  refine awp_rw rfl ?_
  refine RW.op rfl rfl (eff_assign (v := .t _) rfl rfl rfl) ?_
  refine RW.nil ?_
  refine awp_block ?_
  refine awp_loopW (fun m s => ∃ (i : Nat), (i ≤ l.length) ∧ m = l.length - i ∧ s = ⟨154, [(5, .ptr 5 0 0 0), (1, .t (.sl (l.map encO) false)), (7, .ptr 7 0 0 0), (8, .t (encI (i : Nat)))], [(5, some ⟨8, 38, 0, [.t (encB b)]⟩), (7, some ⟨4, 29, 0, [.t (encS (runS (QS q) (l.take i)))]⟩)]⟩) (_) (⟨_, weak_keep (n := 154) (fr' := [(5, .ptr 5 0 0 0), (1, .t (.sl (l.map encO) false)), (7, .ptr 7 0 0 0), (8, .t (encI (0 : Nat)))]) (st' := [(5, some ⟨8, 38, 0, [.t (encB b)]⟩), (7, some ⟨4, 29, 0, [.t (encS (runS (QS q) (l.take 0)))]⟩)]) ⟨rfl, rfl, rfl, rfl, rfl, rfl, rfl, rfl, trivial⟩ ⟨rfl, okE_one rfl, (by first | rfl | (rw [runS_step (by omega)]; rfl)), okE_one rfl, trivial⟩, 0, (by omega), rfl, rfl⟩) ?_
  rintro m s ⟨i, hi, rfl, rfl⟩
  have hlen := hsh.2
  refine awp_seq ?_
  refine awp_seq ?_
  refine awp_rw rfl ?_
  refine RW.op rfl rfl (eff_move (v := .t _) rfl rfl rfl) ?_
  refine RW.op rfl rfl (eff_move (v := .t _) rfl rfl rfl) ?_
  refine RW.op rfl rfl (eff_lenM rfl rfl te23 rfl) ?_
  refine RW.op rfl rfl (eff_iop rfl rfl rfl rfl rfl) ?_
  refine RW.nil ?_
  refine awp_cond rfl (fun h1 => ?_) (fun h1 => ?_)
  · try simp only [decide_eq_true_eq, decide_eq_false_iff_not, beq_iff_eq, bne_iff_ne, bne_eq_false_iff_eq, beq_eq_false_iff_ne, Bool.not_eq_true, Bool.not_eq_false, Bool.not_eq_true', Bool.not_eq_false', ne_eq] at h1
    refine awp_skip ?_
    refine awp_seq ?_
    refine awp_block ?_
    refine awp_rd [(some 42, []), (some 43, []), (some 44, []), (some 45, []), (some 46, []), (some 47, []), (some 41, []), (some 48, []), (some 49, []), (some 50, []), (none, [7])] [[], [], [], [1, 2], [1, 2, 3], [0, 1, 2, 3, 4], [0, 1, 2, 3, 4, 5], [0, 1, 2, 3, 4, 5, 6], [0, 1, 2, 3, 4, 5, 6], [0, 1, 2, 3, 4, 5, 6], [0, 1, 2, 3, 4, 5, 6, 7]] tm rfl rfl rfl rfl ?_
    refine RD.op rfl rfl rfl (eff_load rfl rfl ti29 rfl (.whole rfl rfl rfl rfl rfl rfl)) ?_
    refine RD.op rfl rfl rfl (eff_move (v := .t _) rfl rfl rfl) ?_
    refine RD.op rfl rfl rfl (eff_move (v := .t _) rfl rfl rfl) ?_
    refine RD.op rfl rfl rfl (eff_indexM rfl rfl te23 rfl rfl rfl (by first | assumption | exact List.getElem?_eq_getElem (by omega)) rfl (by decide)) ?_
    refine RD.op rfl rfl rfl (eff_loadW rfl rfl ti40 rfl rfl rfl) ?_
    refine RD.op rfl rfl rfl (eff_callT (do_ret 40 (runS (QS q) (l.take i)) (l[i]'(by omega)) (by omega) ((run_inv hq.1 hB i (by omega)).mono (by omega)) (short_bok hsh.1 (by omega))) co11 rfl rfl rfl rfl) ?_
    refine RD.op rfl rfl rfl (eff_move (v := .t _) rfl rfl rfl) ?_
    refine RD.op rfl rfl rfl (eff_extract rfl rfl rfl rfl) ?_
    refine RD.op rfl rfl rfl (eff_extract rfl rfl rfl rfl) ?_
    refine RD.op rfl rfl rfl (eff_extract rfl rfl rfl rfl) ?_
    refine RD.store rfl rfl rfl (eff_storeW (v := .t _) (els := [_]) (els' := [_]) rfl rfl ti29 rfl rfl rfl rfl rfl rfl rfl rfl rfl) ?_
    refine RD.nil ?_
    refine awp_rw rfl ?_
    refine RW.op rfl rfl (eff_move (v := .t _) rfl rfl rfl) ?_
    refine RW.op rfl rfl (eff_iop rfl rfl rfl rfl (iadd (by omega))) ?_
    refine RW.op rfl rfl (eff_assign (v := .t _) rfl rfl rfl) ?_
    refine RW.nil ?_
    refine ⟨_, ?_, _, weak_keep (n := 154) (fr' := [(5, .ptr 5 0 0 0), (1, .t (.sl (l.map encO) false)), (7, .ptr 7 0 0 0), (8, .t (encI ((i + 1) : Nat)))]) (st' := [(5, some ⟨8, 38, 0, [.t (encB b)]⟩), (7, some ⟨4, 29, 0, [.t (encS (runS (QS q) (l.take (i + 1))))]⟩)]) ⟨rfl, rfl, rfl, rfl, rfl, rfl, rfl, rfl, trivial⟩ ⟨rfl, okE_one rfl, (by first | rfl | (rw [runS_step (by omega)]; rfl)), okE_one rfl, trivial⟩, i + 1, (by omega), rfl, rfl⟩
    omega
  · try simp only [decide_eq_true_eq, decide_eq_false_iff_not, beq_iff_eq, bne_iff_ne, bne_eq_false_iff_eq, beq_eq_false_iff_ne, Bool.not_eq_true, Bool.not_eq_false, Bool.not_eq_true', Bool.not_eq_false', ne_eq] at h1
    refine awp_exit ?_
    refine awp_seq ?_
    refine awp_rw rfl ?_
    have hi4 : i = l.length := by have hlen := hsh.2; omega
    subst hi4
    rw [List.take_length]
    refine RW.op rfl rfl (eff_load rfl rfl ti29 rfl (.whole rfl rfl rfl rfl rfl rfl)) ?_
    refine RW.op rfl rfl (eff_load rfl rfl ti38 rfl (.whole rfl rfl rfl rfl rfl rfl)) ?_
    refine RW.op rfl rfl (eff_callT ((by have h := accept23_ret insC (runS (QS q) l) b (hV.sok (by omega)) (by unfold BOK; omega) hV.ss; rw [hA] at h; exact h)) co23 rfl rfl rfl rfl) ?_
    refine RW.op rfl rfl (eff_move (v := .t _) rfl rfl rfl) ?_
    refine RW.op rfl rfl (eff_extract rfl rfl rfl rfl) ?_
    refine RW.op rfl rfl (eff_extract rfl rfl rfl rfl) ?_
    refine RW.op rfl rfl (eff_extract rfl rfl rfl rfl) ?_
    refine RW.new rfl rfl (eff_allocK (k := 4) (id := 9) rfl rfl tz29 rfl rfl) ?_
    refine RW.store rfl rfl (eff_storeW (v := .t _) (els := [_]) (els' := [_]) rfl rfl ti29 rfl rfl rfl rfl rfl rfl rfl rfl rfl) ?_
    refine RW.op rfl rfl (eff_assign (v := .t _) rfl rfl rfl) ?_
    refine RW.op rfl rfl (eff_assign (v := .t _) rfl rfl rfl) ?_
    refine RW.nil ?_
    refine awp_seq ?_
    refine awp_seq ?_
    refine awp_rw rfl ?_
    refine RW.op rfl rfl (eff_move (v := .t _) rfl rfl rfl) ?_
    refine RW.op rfl rfl (eff_iop (r := .bool false) rfl rfl rfl rfl (by exact iop_neq_f (by rfl))) ?_
    refine RW.nil ?_
    refine awp_cond rfl (fun h => nomatch h) (fun _ => ?_)
    refine awp_skip ?_
    refine awp_seq ?_
    refine awp_rw rfl ?_
    refine RW.op rfl rfl (eff_load rfl rfl ti29 rfl (.whole rfl rfl rfl rfl rfl rfl)) ?_
    refine RW.op rfl rfl (eff_load rfl rfl ti38 rfl (.whole rfl rfl rfl rfl rfl rfl)) ?_
    refine RW.op rfl rfl (eff_callT ((by have h := accept23_ret insC A b (hVA.sok (by omega)) (by unfold BOK; omega) hVA.ss; rw [accept_again hb hAs] at h; exact h)) co23 rfl rfl rfl rfl) ?_
    refine RW.op rfl rfl (eff_move (v := .t _) rfl rfl rfl) ?_
    refine RW.op rfl rfl (eff_extract rfl rfl rfl rfl) ?_
    refine RW.op rfl rfl (eff_extract rfl rfl rfl rfl) ?_
    refine RW.op rfl rfl (eff_extract rfl rfl rfl rfl) ?_
    refine RW.new rfl rfl (eff_allocK (k := 4) (id := 12) rfl rfl tz29 rfl rfl) ?_
    refine RW.store rfl rfl (eff_storeW (v := .t _) (els := [_]) (els' := [_]) rfl rfl ti29 rfl rfl rfl rfl rfl rfl rfl rfl rfl) ?_
    refine RW.op rfl rfl (eff_assign (v := .t _) rfl rfl rfl) ?_
    refine RW.op rfl rfl (eff_assign (v := .t _) rfl rfl rfl) ?_
    refine RW.nil ?_
    refine awp_seq ?_
    refine awp_rw rfl ?_
    refine RW.op rfl rfl (eff_load rfl rfl ti29 rfl (.whole rfl rfl rfl rfl rfl rfl)) ?_
    refine RW.op rfl rfl (eff_fieldAddr rfl rfl tf38_0 (by decide) rfl rfl rfl (Nat.le_of_ble_eq_true rfl)) ?_
    refine RW.op rfl rfl (eff_load (y := .t _) rfl rfl ti3 rfl (.one rfl rfl rfl rfl)) ?_
    refine RW.op rfl rfl (eff_callT ((by have h := confirm24_ret A b.id (hVA.sok (by omega)) hVA.ps; rw [hC] at h; exact h)) co24 rfl rfl rfl rfl) ?_
    refine RW.op rfl rfl (eff_move (v := .t _) rfl rfl rfl) ?_
    refine RW.op rfl rfl (eff_extract rfl rfl rfl rfl) ?_
    refine RW.op rfl rfl (eff_extract rfl rfl rfl rfl) ?_
    refine RW.new rfl rfl (eff_allocK (k := 4) (id := 15) rfl rfl tz29 rfl rfl) ?_
    refine RW.store rfl rfl (eff_storeW (v := .t _) (els := [_]) (els' := [_]) rfl rfl ti29 rfl rfl rfl rfl rfl rfl rfl rfl rfl) ?_
    refine RW.op rfl rfl (eff_assign (v := .t _) rfl rfl rfl) ?_
    refine RW.nil ?_
    refine awp_seq ?_
    refine awp_seq ?_
    refine awp_rw rfl ?_
    refine RW.op rfl rfl (eff_move (v := .t _) rfl rfl rfl) ?_
    refine RW.op rfl rfl (eff_iop (r := .bool false) rfl rfl rfl rfl (by exact iop_neq_f (by rfl))) ?_
    refine RW.nil ?_
    refine awp_cond rfl (fun h => nomatch h) (fun _ => ?_)
    refine awp_skip ?_
    refine awp_seq ?_
    refine awp_rw rfl ?_
    refine RW.op rfl rfl (eff_load rfl rfl ti29 rfl (.whole rfl rfl rfl rfl rfl rfl)) ?_
    refine RW.op rfl rfl (eff_load rfl rfl ti38 rfl (.whole rfl rfl rfl rfl rfl rfl)) ?_
    refine RW.op rfl rfl (eff_callT ((by have h := accept23_ret insC V b (hVV.sok (by omega)) (by unfold BOK; omega) hVV.ss; rw [accept_again hb hVs] at h; exact h)) co23 rfl rfl rfl rfl) ?_
    refine RW.op rfl rfl (eff_move (v := .t _) rfl rfl rfl) ?_
    refine RW.op rfl rfl (eff_extract rfl rfl rfl rfl) ?_
    refine RW.op rfl rfl (eff_extract rfl rfl rfl rfl) ?_
    refine RW.op rfl rfl (eff_extract rfl rfl rfl rfl) ?_
    refine RW.new rfl rfl (eff_allocK (k := 4) (id := 17) rfl rfl tz29 rfl rfl) ?_
    refine RW.store rfl rfl (eff_storeW (v := .t _) (els := [_]) (els' := [_]) rfl rfl ti29 rfl rfl rfl rfl rfl rfl rfl rfl rfl) ?_
    refine RW.op rfl rfl (eff_assign (v := .t _) rfl rfl rfl) ?_
    refine RW.op rfl rfl (eff_assign (v := .t _) rfl rfl rfl) ?_
    refine RW.nil ?_
    refine awp_seq ?_
    refine awp_rw rfl ?_
    refine RW.op rfl rfl (eff_move (v := .t _) rfl rfl rfl) ?_
    refine RW.op rfl rfl (eff_move (v := .t _) rfl rfl rfl) ?_
    refine RW.gop rfl rfl rfl rfl rfl rfl (eff_move (v := .t _) rfl rfl rfl) ?_
    refine RW.op rfl rfl (eff_pick (v := .t _) rfl rfl rfl rfl) ?_
    refine RW.op rfl rfl (eff_move (v := .t _) rfl rfl rfl) ?_
    refine RW.gop rfl rfl rfl rfl rfl rfl (eff_move (v := .t _) rfl rfl rfl) ?_
    refine RW.gop rfl rfl rfl rfl rfl rfl (eff_iop (r := .bool true) rfl rfl rfl rfl (by exact iop_eql_t (by rfl))) ?_
    refine RW.op rfl rfl (eff_pick (v := .t _) rfl rfl rfl rfl) ?_
    refine RW.op rfl rfl (eff_move (v := .t _) rfl rfl rfl) ?_
    refine RW.gop rfl rfl rfl rfl rfl rfl (eff_load rfl rfl ti29 rfl (.whole rfl rfl rfl rfl rfl rfl)) ?_
    refine RW.gop rfl rfl rfl rfl rfl rfl (eff_load rfl rfl ti29 rfl (.whole rfl rfl rfl rfl rfl rfl)) ?_
    refine RW.gop rfl rfl rfl rfl rfl rfl (eff_callT ((by have h := same_ret A A (hVA.sok (by omega)) (fun b hb => (hVA.bs b hb).2.1) (fun b hb => (hVA.bs b hb).2.1); rw [same_refl] at h; exact h)) co13 rfl rfl rfl rfl) ?_
    refine RW.op rfl rfl (eff_pick (v := .t _) rfl rfl rfl rfl) ?_
    refine RW.op rfl rfl (eff_move (v := .t _) rfl rfl rfl) ?_
    refine RW.gop rfl rfl rfl rfl rfl rfl (eff_move (v := .t _) rfl rfl rfl) ?_
    refine RW.op rfl rfl (eff_pick (v := .t _) rfl rfl rfl rfl) ?_
    refine RW.op rfl rfl (eff_move (v := .t _) rfl rfl rfl) ?_
    refine RW.gop rfl rfl rfl rfl rfl rfl (eff_move (v := .t _) rfl rfl rfl) ?_
    refine RW.gop rfl rfl rfl rfl rfl rfl (eff_iop (r := .bool true) rfl rfl rfl rfl (by exact iop_eql_t (by rfl))) ?_
    refine RW.op rfl rfl (eff_pick (v := .t _) rfl rfl rfl rfl) ?_
    refine RW.op rfl rfl (eff_move (v := .t _) rfl rfl rfl) ?_
    refine RW.gop rfl rfl rfl rfl rfl rfl (eff_load rfl rfl ti29 rfl (.whole rfl rfl rfl rfl rfl rfl)) ?_
    refine RW.gop rfl rfl rfl rfl rfl rfl (eff_load rfl rfl ti29 rfl (.whole rfl rfl rfl rfl rfl rfl)) ?_
    refine RW.gop rfl rfl rfl rfl rfl rfl (eff_callT ((by have h := same_ret V V (hVV.sok (by omega)) (fun b hb => (hVV.bs b hb).2.1) (fun b hb => (hVV.bs b hb).2.1); rw [same_refl] at h; exact h)) co13 rfl rfl rfl rfl) ?_
    refine RW.op rfl rfl (eff_pick (v := .t _) rfl rfl rfl rfl) ?_
    refine RW.op rfl rfl (eff_move (v := .t _) rfl rfl rfl) ?_
    refine RW.gop rfl rfl rfl rfl rfl rfl (eff_load rfl rfl ti29 rfl (.whole rfl rfl rfl rfl rfl rfl)) ?_
    refine RW.gop rfl rfl rfl rfl rfl rfl (eff_fieldAddr rfl rfl tf38_0 (by decide) rfl rfl rfl (Nat.le_of_ble_eq_true rfl)) ?_
    refine RW.gop rfl rfl rfl rfl rfl rfl (eff_load (y := .t _) rfl rfl ti3 rfl (.one rfl rfl rfl rfl)) ?_
    refine RW.gop rfl rfl rfl rfl rfl rfl (eff_callT (count_ret V b.id (hVV.sok (by omega))) co22 rfl rfl rfl rfl) ?_
    refine RW.gop rfl rfl rfl rfl rfl rfl (eff_iop (r := .bool true) rfl rfl rfl rfl (by exact iop_eql_t (by exact hcn))) ?_
    refine RW.op rfl rfl (eff_pick (v := .t _) rfl rfl rfl rfl) ?_
    refine RW.op rfl rfl (eff_move (v := .t _) rfl rfl rfl) ?_
    refine RW.gop rfl rfl rfl rfl rfl rfl (eff_callT (lives_ret) co10 rfl rfl rfl rfl) ?_
    refine RW.op rfl rfl (eff_pick (v := .t _) rfl rfl rfl rfl) ?_
    refine RW.op rfl rfl (eff_assign (v := .t _) rfl rfl rfl) ?_
    refine RW.nil ?_
    refine awp_ret ?_
    exact ⟨Or.inr rfl, [_], ⟨.tmp (.t _), trivial⟩, .refl _⟩

theorem doubles_ret (q : Int) (hq : 0 ≤ q ∧ q < 65536) (l : List Opn) (hl : l.length ≤ 9223372036854775807) (hB : OpsOK l) (b : Bundle) (hbb : Bytes b.data) : Ret Try.prog 5 [.int .u16 q, .sl (l.map encO) false, encB b] (.bool true) := by
  by_cases hsh : (∀ o, o ∈ l → o.bundle.data.length ≤ 300) ∧ (l.length : Int) ≤ 40
  · by_cases hb : 256 < b.data.length
    · exact doublesN2 q hq l hl hB b hbb hsh hb
    · have hb' : b.data.length ≤ 256 := by omega
      have hlen := hsh.2
      have hV : VInv 40 (runS (QS q) l) := by
        have h := run_inv hq.1 hB l.length (Nat.le_refl _)
        rw [List.take_length] at h
        exact h.mono (by omega)
      rcases accept_ends hV hbb hb' with ⟨A, hA, hVA, hAs⟩ | h9 | h42
      · rcases confirm_ends hVA b.id with ⟨hni, hC⟩ | ⟨V, hC, hVV, hVe⟩
        · exact doublesA1 q hq l hl hB b hbb hsh hb' hV A hA hVA hAs hC hni
        · exact doublesA2 q hq l hl hB b hbb hsh hb' hV A hA hVA hAs V hC hVV (by rw [hVe]; exact hAs) (by rw [hVe]; exact count_filtered)
      · exact doublesE9 q hq l hl hB b hbb hsh hb' hV h9
      · exact doublesE42 q hq l hl hB b hbb hsh hb' hV h42
  · exact doublesN1 q hq l hl hB b hbb hsh

end Go.Tv.C27

end
section
open Go Go.Tv Go.Proofs
namespace Go.Tv.C27
set_option maxRecDepth 20000
set_option maxHeartbeats 2000000
set_option linter.unusedSimpArgs false
set_option linter.unusedVariables false
theorem offer_at {s : Store} {p : List Int} {r : Int} {i : Nat} (hi : i < s.bundles.length) (hf : ∀ b, b ∈ s.bundles.take i → r < size b ∨ b.id ∈ p) (h1 : size s.bundles[i] ≤ r) (h2 : (s.bundles[i]).id ∉ p) :
    offer ⟨s.quota, s.bundles, p, s.seen⟩ r = (s.bundles[i], true) := by
  refine offer_hit (s := ⟨s.quota, s.bundles, p, s.seen⟩) hi (fun b hb => ?_) ?_
  · unfold fits
    refine decide_eq_false (fun h => ?_)
    rcases hf b hb with h3 | h3
    · have := h.2; omega
    · exact h.1 h3
  · exact decide_eq_true ⟨h2, h1⟩
theorem offer_over {s : Store} {p : List Int} {r : Int} (hf : ∀ b, b ∈ s.bundles → r < size b ∨ b.id ∈ p) : offer ⟨s.quota, s.bundles, p, s.seen⟩ r = (zb, false) := by
  refine offer_none (s := ⟨s.quota, s.bundles, p, s.seen⟩) (fun b hb => ?_)
  unfold fits
  refine decide_eq_false (fun h => ?_)
  rcases hf b hb with h3 | h3
  · have := h.2; omega
  · exact h.1 h3

theorem offersY (q : Int) (hq : 0 ≤ q ∧ q < 65536) (l : List Opn) (hl : l.length ≤ 9223372036854775807) (hB : OpsOK l) (md : Int) (hmd : 0 ≤ md ∧ md < 65536) (hsh : (∀ o, o ∈ l → o.bundle.data.length ≤ 300) ∧ (l.length : Int) ≤ 40) : Ret Try.prog 6 [.int .u16 q, .sl (l.map encO) false, .int .u16 md] (.bool true) := by
  refine ret_of_awp Try.func6 rfl (Nat.le_of_ble_eq_true rfl) ?_
  refine awp_seq ?_
  refine awp_rw rfl ?_
  refine RW.op rfl rfl (eff_assign (v := .t _) rfl rfl rfl) ?_
  refine RW.nil ?_
  refine awp_seq ?_
  refine awp_seq ?_
  refine awp_rw rfl ?_
  refine RW.op rfl rfl (eff_move (v := .t _) rfl rfl rfl) ?_
  refine RW.op rfl rfl (eff_callT ((by have h := short_ret l 40 hl; rw [decide_eq_true hsh] at h; exact h)) co9 rfl rfl rfl rfl) ?_
  refine RW.op rfl rfl (eff_unop rfl rfl rfl rfl) ?_
  refine RW.nil ?_
  refine awp_cond rfl (fun h => nomatch h) (fun _ => ?_)
  refine awp_skip ?_
  refine awp_seq ?_
  refine awp_rw rfl ?_
  refine RW.op rfl rfl (eff_move (v := .t _) rfl rfl rfl) ?_
  refine RW.op rfl rfl (eff_convIntE (m := q) rfl rfl (by rw [tu22]; rfl) tu3 rfl (wrap64 (by omega) (by omega))) ?_
  refine RW.op rfl rfl (eff_remE (r := q % 2001) rfl rfl rfl rfl (by decide) (tmod_pos hq.1)) ?_
  refine RW.op rfl rfl (eff_buildT (ys := [_, _, _, _]) rfl rfl tz29 tg29 rfl) ?_
  refine RW.new rfl rfl (eff_allocK (k := 4) (id := 7) rfl rfl tz29 rfl rfl) ?_
  refine RW.store rfl rfl (eff_storeW (v := .t _) (els := [_]) (els' := [_]) rfl rfl ti29 rfl rfl rfl rfl rfl rfl rfl rfl rfl) ?_
  refine RW.nil ?_
  show AWP _ _ _ _
  refine awp_weak (weak_wkOb (id := 7) (QSc q) rfl ⟨.refl _, .sl _, .sl _, .sl _, trivial⟩) ?_
  refine awp_seq ?_
  refine awp_seq ?_
  refine awp_rw rfl ?_
  refine RW.op rfl rfl (eff_assign (v := .t _) rfl rfl rfl) ?_
  refine RW.nil ?_
  refine awp_block ?_
  refine awp_loopW (fun m s => ∃ (i : Nat), (i ≤ l.length) ∧ m = l.length - i ∧ s = ⟨130, [(2, .t (.int .u16 md)), (1, .t (.sl (l.map encO) false)), (7, .ptr 7 0 0 0), (8, .t (encI (i : Nat)))], [(7, some ⟨4, 29, 0, [.t (encS (runS (QS q) (l.take i)))]⟩)]⟩) (_) (⟨_, weak_keep (n := 130) (fr' := [(2, .t (.int .u16 md)), (1, .t (.sl (l.map encO) false)), (7, .ptr 7 0 0 0), (8, .t (encI (0 : Nat)))]) (st' := [(7, some ⟨4, 29, 0, [.t (encS (runS (QS q) (l.take 0)))]⟩)]) ⟨rfl, rfl, rfl, rfl, rfl, rfl, rfl, rfl, trivial⟩ ⟨(by first | rfl | (rw [runS_step (by omega)]; rfl)), okE_one rfl, trivial⟩, 0, (by omega), rfl, rfl⟩) ?_
  rintro m s ⟨i, hi, rfl, rfl⟩
  have hlen := hsh.2
  refine awp_seq ?_
  refine awp_seq ?_
  refine awp_rw rfl ?_
  refine RW.op rfl rfl (eff_move (v := .t _) rfl rfl rfl) ?_
  refine RW.op rfl rfl (eff_move (v := .t _) rfl rfl rfl) ?_
  refine RW.op rfl rfl (eff_lenM rfl rfl te23 rfl) ?_
  refine RW.op rfl rfl (eff_iop rfl rfl rfl rfl rfl) ?_
  refine RW.nil ?_
  refine awp_cond rfl (fun h1 => ?_) (fun h1 => ?_)
  · try simp only [decide_eq_true_eq, decide_eq_false_iff_not, beq_iff_eq, bne_iff_ne, bne_eq_false_iff_eq, beq_eq_false_iff_ne, Bool.not_eq_true, Bool.not_eq_false, Bool.not_eq_true', Bool.not_eq_false', ne_eq] at h1
    refine awp_skip ?_
    refine awp_seq ?_
    refine awp_block ?_
    refine awp_rd [(some 33, []), (some 34, []), (some 35, []), (some 36, []), (some 37, []), (some 38, []), (some 32, []), (some 39, []), (some 40, []), (some 41, []), (none, [7])] [[], [], [], [1, 2], [1, 2, 3], [0, 1, 2, 3, 4], [0, 1, 2, 3, 4, 5], [0, 1, 2, 3, 4, 5, 6], [0, 1, 2, 3, 4, 5, 6], [0, 1, 2, 3, 4, 5, 6], [0, 1, 2, 3, 4, 5, 6, 7]] tm rfl rfl rfl rfl ?_
    refine RD.op rfl rfl rfl (eff_load rfl rfl ti29 rfl (.whole rfl rfl rfl rfl rfl rfl)) ?_
    refine RD.op rfl rfl rfl (eff_move (v := .t _) rfl rfl rfl) ?_
    refine RD.op rfl rfl rfl (eff_move (v := .t _) rfl rfl rfl) ?_
    refine RD.op rfl rfl rfl (eff_indexM rfl rfl te23 rfl rfl rfl (by first | assumption | exact List.getElem?_eq_getElem (by omega)) rfl (by decide)) ?_
    refine RD.op rfl rfl rfl (eff_loadW rfl rfl ti40 rfl rfl rfl) ?_
    refine RD.op rfl rfl rfl (eff_callT (do_ret 40 (runS (QS q) (l.take i)) (l[i]'(by omega)) (by omega) ((run_inv hq.1 hB i (by omega)).mono (by omega)) (short_bok hsh.1 (by omega))) co11 rfl rfl rfl rfl) ?_
    refine RD.op rfl rfl rfl (eff_move (v := .t _) rfl rfl rfl) ?_
    refine RD.op rfl rfl rfl (eff_extract rfl rfl rfl rfl) ?_
    refine RD.op rfl rfl rfl (eff_extract rfl rfl rfl rfl) ?_
    refine RD.op rfl rfl rfl (eff_extract rfl rfl rfl rfl) ?_
    refine RD.store rfl rfl rfl (eff_storeW (v := .t _) (els := [_]) (els' := [_]) rfl rfl ti29 rfl rfl rfl rfl rfl rfl rfl rfl rfl) ?_
    refine RD.nil ?_
    refine awp_rw rfl ?_
    refine RW.op rfl rfl (eff_move (v := .t _) rfl rfl rfl) ?_
    refine RW.op rfl rfl (eff_iop rfl rfl rfl rfl (iadd (by omega))) ?_
    refine RW.op rfl rfl (eff_assign (v := .t _) rfl rfl rfl) ?_
    refine RW.nil ?_
    refine ⟨_, ?_, _, weak_keep (n := 130) (fr' := [(2, .t (.int .u16 md)), (1, .t (.sl (l.map encO) false)), (7, .ptr 7 0 0 0), (8, .t (encI ((i + 1) : Nat)))]) (st' := [(7, some ⟨4, 29, 0, [.t (encS (runS (QS q) (l.take (i + 1))))]⟩)]) ⟨rfl, rfl, rfl, rfl, rfl, rfl, rfl, rfl, trivial⟩ ⟨(by first | rfl | (rw [runS_step (by omega)]; rfl)), okE_one rfl, trivial⟩, i + 1, (by omega), rfl, rfl⟩
    omega
  · try simp only [decide_eq_true_eq, decide_eq_false_iff_not, beq_iff_eq, bne_iff_ne, bne_eq_false_iff_eq, beq_eq_false_iff_ne, Bool.not_eq_true, Bool.not_eq_false, Bool.not_eq_true', Bool.not_eq_false', ne_eq] at h1
    refine awp_exit ?_
    refine awp_seq ?_
    refine awp_rw rfl ?_
    have hi4 : i = l.length := by have hlen := hsh.2; omega
    subst hi4
    rw [List.take_length]
    refine RW.op rfl rfl (eff_move (v := .t _) rfl rfl rfl) ?_
    refine RW.op rfl rfl (eff_convIntE (m := md) rfl rfl (by rw [tu22]; rfl) tu3 rfl (wrap64 (by omega) (by omega))) ?_
    refine RW.op rfl rfl (eff_remE (r := md % 300) rfl rfl rfl rfl (by decide) (tmod_pos hmd.1)) ?_
    refine RW.op rfl rfl (eff_assign (v := .t _) rfl rfl rfl) ?_
    refine RW.nil ?_
    refine awp_seq ?_
    refine awp_seq ?_
    refine awp_rw rfl ?_
    refine RW.op rfl rfl (eff_assign (v := .t _) rfl rfl rfl) ?_
    refine RW.nil ?_
    refine awp_block ?_
    refine awp_loopW (fun m s => ∃ (k : Nat) (u : Store), (k ≤ 2) ∧ (VInv 40 u) ∧ m = 2 - k ∧ s = ⟨130, [(7, .ptr 7 0 0 0), (9, .t (encI (md % 300))), (10, .t (encI (k : Nat)))], [(7, some ⟨4, 29, 0, [.t (encS u)]⟩)]⟩) (_) (⟨_, weak_keep (n := 130) (fr' := [(7, .ptr 7 0 0 0), (9, .t (encI (md % 300))), (10, .t (encI (0 : Nat)))]) (st' := [(7, some ⟨4, 29, 0, [.t (encS ((runS (QS q) l)))]⟩)]) ⟨rfl, rfl, rfl, rfl, rfl, rfl, trivial⟩ ⟨rfl, okE_one rfl, trivial⟩, 0, (runS (QS q) l), (by omega), (by have hlen := hsh.2; have h := run_inv hq.1 hB l.length (Nat.le_refl _); rw [List.take_length] at h; exact h.mono (by omega)), rfl, rfl⟩) ?_
    rintro m s ⟨k, u, hk, hV, rfl, rfl⟩
    refine awp_seq ?_
    refine awp_seq ?_
    refine awp_rw rfl ?_
    refine RW.op rfl rfl (eff_move (v := .t _) rfl rfl rfl) ?_
    refine RW.op rfl rfl (eff_iop rfl rfl rfl rfl rfl) ?_
    refine RW.nil ?_
    refine awp_cond rfl (fun h2 => ?_) (fun h2 => ?_)
    · try simp only [decide_eq_true_eq, decide_eq_false_iff_not, beq_iff_eq, bne_iff_ne, bne_eq_false_iff_eq, beq_eq_false_iff_ne, Bool.not_eq_true, Bool.not_eq_false, Bool.not_eq_true', Bool.not_eq_false', ne_eq] at h2
      refine awp_skip ?_
      refine awp_seq ?_
      refine awp_block ?_
      refine awp_seq ?_
      refine awp_seq ?_
      refine awp_rw rfl ?_
      refine RW.op rfl rfl (eff_assign (v := .t _) rfl rfl rfl) ?_
      refine RW.nil ?_
      refine awp_block ?_
      refine awp_loopW (fun m s => ∃ (i : Nat) (p : List Int), (i ≤ u.bundles.length) ∧ (VInv (40 + i) (⟨u.quota, u.bundles, p, u.seen⟩ : Store)) ∧ (∀ b, b ∈ u.bundles.take i → md % 300 < size b ∨ b.id ∈ p) ∧ m = u.bundles.length - i ∧ s = ⟨130, [(7, .ptr 7 0 0 0), (9, .t (encI (md % 300))), (10, .t (encI (k : Nat))), (11, .t (encI (i : Nat)))], [(7, some ⟨4, 29, 0, [.t (encS (⟨u.quota, u.bundles, p, u.seen⟩ : Store))]⟩)]⟩) (_) (⟨_, weak_keep (n := 130) (fr' := [(7, .ptr 7 0 0 0), (9, .t (encI (md % 300))), (10, .t (encI (k : Nat))), (11, .t (encI (0 : Nat)))]) (st' := [(7, some ⟨4, 29, 0, [.t (encS (⟨u.quota, u.bundles, (u.passed), u.seen⟩ : Store))]⟩)]) ⟨rfl, rfl, rfl, rfl, rfl, rfl, rfl, rfl, trivial⟩ ⟨rfl, okE_one rfl, trivial⟩, 0, u.passed, (by omega), (by exact hV), (by simp), rfl, rfl⟩) ?_
      rintro m s ⟨i, p, hi, hu, hf, rfl, rfl⟩
      have hL := hV.len
      refine awp_seq ?_
      refine awp_seq ?_
      refine awp_rw rfl ?_
      refine RW.op rfl rfl (eff_move (v := .t _) rfl rfl rfl) ?_
      refine RW.op rfl rfl (eff_fieldAddr rfl rfl tf29_1 (by decide) rfl rfl rfl (Nat.le_of_ble_eq_true rfl)) ?_
      refine RW.op rfl rfl (eff_load (y := .t _) rfl rfl ti26 rfl (.one rfl rfl rfl rfl)) ?_
      refine RW.op rfl rfl (eff_lenM rfl rfl te26 rfl) ?_
      refine RW.op rfl rfl (eff_iop rfl rfl rfl rfl rfl) ?_
      refine RW.nil ?_
      refine awp_cond rfl (fun h3 => ?_) (fun h3 => ?_)
      · try simp only [decide_eq_true_eq, decide_eq_false_iff_not, beq_iff_eq, bne_iff_ne, bne_eq_false_iff_eq, beq_eq_false_iff_ne, Bool.not_eq_true, Bool.not_eq_false, Bool.not_eq_true', Bool.not_eq_false', ne_eq] at h3
        refine awp_skip ?_
        refine awp_seq ?_
        refine awp_block ?_
        refine awp_seq ?_
        refine awp_seq ?_
        by_cases hc4 : md % 300 < size (u.bundles[i]'(by omega))
        · have hil : i < u.bundles.length := by omega
          have hbk := hV.bs _ (List.getElem_mem hil)
          refine awp_rd [(some 56, []), (some 57, []), (some 58, []), (some 59, []), (some 60, []), (some 61, []), (some 62, []), (some 63, []), (some 64, []), (some 65, []), (some 66, []), (some 67, []), (some 68, []), (some 69, []), (some 70, []), (some 71, []), (some 72, []), (some 73, []), (some 74, [])] [[], [0], [], [0, 1, 2], [0, 1, 2, 3], [0, 1, 2, 3, 4], [], [0, 1, 2, 3, 4, 5, 6], [0, 1, 2, 3, 4, 5, 6, 7], [0, 1, 2, 3, 4, 5, 6, 7, 8], [0, 1, 2, 3, 4, 5, 6, 7, 8, 9], [0, 1, 2, 3, 4, 5, 6, 7, 8], [0, 1, 2, 3, 4, 5, 6, 7, 8, 11], [0, 1, 2, 3, 4, 5, 6, 7, 8], [0, 1, 2, 3, 4, 5, 6, 7, 8, 11, 12, 13], [0, 1, 2, 3, 4, 5, 6, 7, 8, 11, 12, 13, 14], [0, 1, 2, 3, 4, 5, 6, 7, 8, 11, 12, 13, 14, 15], [0, 1, 2, 3, 4, 5, 6, 7, 8, 9, 10, 11, 12, 13, 14, 15, 16], [0, 1, 2, 3, 4, 5, 6, 7, 8, 9, 10, 11, 12, 13, 14, 15, 16, 17]] tm rfl rfl rfl rfl ?_
          refine RD.op rfl rfl rfl (eff_fieldAddr rfl rfl tf29_1 (by decide) rfl rfl rfl (Nat.le_of_ble_eq_true rfl)) ?_
          refine RD.op rfl rfl rfl (eff_load (y := .t _) rfl rfl ti26 rfl (.one rfl rfl rfl rfl)) ?_
          refine RD.op rfl rfl rfl (eff_move (v := .t _) rfl rfl rfl) ?_
          refine RD.op rfl rfl rfl (eff_indexM rfl rfl te26 rfl rfl rfl (by first | assumption | exact List.getElem?_eq_getElem (by omega)) rfl (by decide)) ?_
          refine RD.op rfl rfl rfl (eff_loadW rfl rfl ti38 rfl rfl rfl) ?_
          refine RD.op rfl rfl rfl (eff_callT (size_ret (u.bundles[i]'(by omega)) (by unfold BOK; have := hbk.1; omega)) co16 rfl rfl rfl rfl) ?_
          refine RD.op rfl rfl rfl (eff_move (v := .t _) rfl rfl rfl) ?_
          refine RD.op rfl rfl rfl (eff_iop (r := .bool true) rfl rfl rfl rfl (by exact iop_gtr_t (by exact hc4))) ?_
          refine RD.op rfl rfl rfl (eff_move (v := .t _) rfl rfl rfl) ?_
          refine RD.gskip rfl rfl rfl rfl rfl rfl (by decide) ?_
          refine RD.gskip rfl rfl rfl rfl rfl rfl (by decide) ?_
          refine RD.gskip rfl rfl rfl rfl rfl rfl (by decide) ?_
          refine RD.gskip rfl rfl rfl rfl rfl rfl (by decide) ?_
          refine RD.gskip rfl rfl rfl rfl rfl rfl (by decide) ?_
          refine RD.gskip rfl rfl rfl rfl rfl rfl (by decide) ?_
          refine RD.gskip rfl rfl rfl rfl rfl rfl (by decide) ?_
          refine RD.gskip rfl rfl rfl rfl rfl rfl (by decide) ?_
          refine RD.gskip rfl rfl rfl rfl rfl rfl (by decide) ?_
          refine RD.op rfl rfl rfl (eff_pick (v := .t _) rfl rfl rfl rfl) ?_
          refine RD.nil ?_
          refine awp_cond rfl (fun _ => ?_) (fun h => nomatch h)
          refine awp_exit ?_
          refine awp_rw rfl ?_
          refine RW.op rfl rfl (eff_move (v := .t _) rfl rfl rfl) ?_
          refine RW.op rfl rfl (eff_iop rfl rfl rfl rfl (iadd (by omega))) ?_
          refine RW.op rfl rfl (eff_assign (v := .t _) rfl rfl rfl) ?_
          refine RW.nil ?_
          refine ⟨_, ?_, _, weak_keep (n := 130) (fr' := [(7, .ptr 7 0 0 0), (9, .t (encI (md % 300))), (10, .t (encI (k : Nat))), (11, .t (encI ((i + 1) : Nat)))]) (st' := [(7, some ⟨4, 29, 0, [.t (encS (⟨u.quota, u.bundles, _, u.seen⟩ : Store))]⟩)]) ⟨rfl, rfl, rfl, rfl, rfl, rfl, rfl, rfl, trivial⟩ ⟨rfl, okE_one rfl, trivial⟩, i + 1, _, (by omega), (by first | exact hu.mono (by omega) | exact hVt), (by intro b hb; rcases (mem_take_succ (by omega)).1 hb with h | h <;> first | exact hf b h | exact (hf b h).imp (fun h => h) (fun h => ins_mem.2 (.inr h)) | (rw [h]; first | exact .inl hc4 | exact .inr h5 | exact .inr (ins_mem.2 (.inl rfl)))), rfl, rfl⟩
          omega
        · have hil : i < u.bundles.length := by omega
          have hbk := hV.bs _ (List.getElem_mem hil)
          refine awp_rd [(some 56, []), (some 57, []), (some 58, []), (some 59, []), (some 60, []), (some 61, []), (some 62, []), (some 63, []), (some 64, []), (some 65, []), (some 66, []), (some 67, []), (some 68, []), (some 69, []), (some 70, []), (some 71, []), (some 72, []), (some 73, []), (some 74, [])] [[], [0], [], [0, 1, 2], [0, 1, 2, 3], [0, 1, 2, 3, 4], [], [0, 1, 2, 3, 4, 5, 6], [0, 1, 2, 3, 4, 5, 6, 7], [0, 1, 2, 3, 4, 5, 6, 7, 8], [0, 1, 2, 3, 4, 5, 6, 7, 8, 9], [0, 1, 2, 3, 4, 5, 6, 7, 8], [0, 1, 2, 3, 4, 5, 6, 7, 8, 11], [0, 1, 2, 3, 4, 5, 6, 7, 8], [0, 1, 2, 3, 4, 5, 6, 7, 8, 11, 12, 13], [0, 1, 2, 3, 4, 5, 6, 7, 8, 11, 12, 13, 14], [0, 1, 2, 3, 4, 5, 6, 7, 8, 11, 12, 13, 14, 15], [0, 1, 2, 3, 4, 5, 6, 7, 8, 9, 10, 11, 12, 13, 14, 15, 16], [0, 1, 2, 3, 4, 5, 6, 7, 8, 9, 10, 11, 12, 13, 14, 15, 16, 17]] tm rfl rfl rfl rfl ?_
          refine RD.op rfl rfl rfl (eff_fieldAddr rfl rfl tf29_1 (by decide) rfl rfl rfl (Nat.le_of_ble_eq_true rfl)) ?_
          refine RD.op rfl rfl rfl (eff_load (y := .t _) rfl rfl ti26 rfl (.one rfl rfl rfl rfl)) ?_
          refine RD.op rfl rfl rfl (eff_move (v := .t _) rfl rfl rfl) ?_
          refine RD.op rfl rfl rfl (eff_indexM rfl rfl te26 rfl rfl rfl (by first | assumption | exact List.getElem?_eq_getElem (by omega)) rfl (by decide)) ?_
          refine RD.op rfl rfl rfl (eff_loadW rfl rfl ti38 rfl rfl rfl) ?_
          refine RD.op rfl rfl rfl (eff_callT (size_ret (u.bundles[i]'(by omega)) (by unfold BOK; have := hbk.1; omega)) co16 rfl rfl rfl rfl) ?_
          refine RD.op rfl rfl rfl (eff_move (v := .t _) rfl rfl rfl) ?_
          refine RD.op rfl rfl rfl (eff_iop (r := .bool false) rfl rfl rfl rfl (by exact iop_gtr_f (by omega))) ?_
          refine RD.op rfl rfl rfl (eff_move (v := .t _) rfl rfl rfl) ?_
          refine RD.gop rfl rfl rfl rfl rfl rfl rfl (eff_fieldAddr rfl rfl tf29_2 (by decide) rfl rfl rfl (Nat.le_of_ble_eq_true rfl)) ?_
          refine RD.gop rfl rfl rfl rfl rfl rfl rfl (eff_load (y := .t _) rfl rfl ti27 rfl (.one rfl rfl rfl rfl)) ?_
          refine RD.gop rfl rfl rfl rfl rfl rfl rfl (eff_fieldAddr rfl rfl tf29_1 (by decide) rfl rfl rfl (Nat.le_of_ble_eq_true rfl)) ?_
          refine RD.gop rfl rfl rfl rfl rfl rfl rfl (eff_load (y := .t _) rfl rfl ti26 rfl (.one rfl rfl rfl rfl)) ?_
          refine RD.gop rfl rfl rfl rfl rfl rfl rfl (eff_move (v := .t _) rfl rfl rfl) ?_
          refine RD.gop rfl rfl rfl rfl rfl rfl rfl (eff_indexM rfl rfl te26 rfl rfl rfl (by first | assumption | exact List.getElem?_eq_getElem (by omega)) rfl (by decide)) ?_
          refine RD.gop rfl rfl rfl rfl rfl rfl rfl (eff_fieldAddrT rfl rfl tf38_0 (by decide) rfl) ?_
          refine RD.gop rfl rfl rfl rfl rfl rfl rfl (eff_loadT1 rfl rfl ti3 rfl rfl) ?_
          refine RD.gop rfl rfl rfl rfl rfl rfl rfl (eff_callT (has_ret p (u.bundles[i]'(by omega)).id (by have := (hu.sok (by have := hV.len; omega)).2.1; simp only at this; omega)) co25 rfl rfl rfl rfl) ?_
          refine RD.op rfl rfl rfl (eff_pick (v := .t _) rfl rfl rfl rfl) ?_
          refine RD.nil ?_
          refine awp_cond rfl (fun h5 => ?_) (fun h5 => ?_)
          · try simp only [decide_eq_true_eq, decide_eq_false_iff_not, beq_iff_eq, bne_iff_ne, bne_eq_false_iff_eq, beq_eq_false_iff_ne, Bool.not_eq_true, Bool.not_eq_false, Bool.not_eq_true', Bool.not_eq_false', ne_eq] at h5
            refine awp_exit ?_
            refine awp_rw rfl ?_
            refine RW.op rfl rfl (eff_move (v := .t _) rfl rfl rfl) ?_
            refine RW.op rfl rfl (eff_iop rfl rfl rfl rfl (iadd (by omega))) ?_
            refine RW.op rfl rfl (eff_assign (v := .t _) rfl rfl rfl) ?_
            refine RW.nil ?_
            refine ⟨_, ?_, _, weak_keep (n := 130) (fr' := [(7, .ptr 7 0 0 0), (9, .t (encI (md % 300))), (10, .t (encI (k : Nat))), (11, .t (encI ((i + 1) : Nat)))]) (st' := [(7, some ⟨4, 29, 0, [.t (encS (⟨u.quota, u.bundles, _, u.seen⟩ : Store))]⟩)]) ⟨rfl, rfl, rfl, rfl, rfl, rfl, rfl, rfl, trivial⟩ ⟨rfl, okE_one rfl, trivial⟩, i + 1, _, (by omega), (by first | exact hu.mono (by omega) | exact hVt), (by intro b hb; rcases (mem_take_succ (by omega)).1 hb with h | h <;> first | exact hf b h | exact (hf b h).imp (fun h => h) (fun h => ins_mem.2 (.inr h)) | (rw [h]; first | exact .inl hc4 | exact .inr h5 | exact .inr (ins_mem.2 (.inl rfl)))), rfl, rfl⟩
            omega
          · try simp only [decide_eq_true_eq, decide_eq_false_iff_not, beq_iff_eq, bne_iff_ne, bne_eq_false_iff_eq, beq_eq_false_iff_ne, Bool.not_eq_true, Bool.not_eq_false, Bool.not_eq_true', Bool.not_eq_false', ne_eq] at h5
            refine awp_skip ?_
            refine awp_seq ?_
            refine awp_rw rfl ?_
            refine RW.op rfl rfl (eff_load rfl rfl ti29 rfl (.whole rfl rfl rfl rfl rfl rfl)) ?_
            refine RW.op rfl rfl (eff_move (v := .t _) rfl rfl rfl) ?_
            refine RW.op rfl rfl (eff_callT ((by have h := offer18_ret (⟨u.quota, u.bundles, p, u.seen⟩ : Store) (md % 300) (hu.sok (by have := hV.len; omega)) hu.ps; rw [offer_at hil hf (by omega) h5] at h; exact h)) co18 rfl rfl rfl rfl) ?_
            refine RW.op rfl rfl (eff_move (v := .t _) rfl rfl rfl) ?_
            refine RW.op rfl rfl (eff_extract rfl rfl rfl rfl) ?_
            refine RW.op rfl rfl (eff_extract rfl rfl rfl rfl) ?_
            refine RW.new rfl rfl (eff_allocK (k := 8) (id := 12) rfl rfl tz38 rfl rfl) ?_
            refine RW.store rfl rfl (eff_storeW (v := .t _) (els := [_]) (els' := [_]) rfl rfl ti38 rfl rfl rfl rfl rfl rfl rfl rfl rfl) ?_
            refine RW.op rfl rfl (eff_assign (v := .t _) rfl rfl rfl) ?_
            refine RW.nil ?_
            refine awp_seq ?_
            refine awp_seq ?_
            refine awp_rd [(some 81, []), (some 82, []), (some 83, []), (some 84, []), (some 85, []), (some 86, []), (some 87, []), (some 88, []), (some 89, []), (some 90, []), (some 91, []), (some 92, [])] [[], [0], [0, 1], [0, 1, 2], [0, 1, 2], [0, 1, 2, 4], [0, 1, 2], [0, 1, 2, 4, 5, 6], [0, 1, 2, 4, 5, 6, 7], [0, 1, 2, 3, 4, 5, 6, 7, 8], [0, 1, 2, 3, 4, 5, 6, 7, 8, 9], [0, 1, 2, 3, 4, 5, 6, 7, 8, 9, 10]] tm rfl rfl rfl rfl ?_
            refine RD.op rfl rfl rfl (eff_move (v := .t _) rfl rfl rfl) ?_
            refine RD.op rfl rfl rfl (eff_unop rfl rfl rfl rfl) ?_
            refine RD.op rfl rfl rfl (eff_move (v := .t _) rfl rfl rfl) ?_
            refine RD.gop rfl rfl rfl rfl rfl rfl rfl (eff_load rfl rfl ti38 rfl (.whole rfl rfl rfl rfl rfl rfl)) ?_
            refine RD.gop rfl rfl rfl rfl rfl rfl rfl (eff_fieldAddr rfl rfl tf29_1 (by decide) rfl rfl rfl (Nat.le_of_ble_eq_true rfl)) ?_
            refine RD.gop rfl rfl rfl rfl rfl rfl rfl (eff_load (y := .t _) rfl rfl ti26 rfl (.one rfl rfl rfl rfl)) ?_
            refine RD.gop rfl rfl rfl rfl rfl rfl rfl (eff_move (v := .t _) rfl rfl rfl) ?_
            refine RD.gop rfl rfl rfl rfl rfl rfl rfl (eff_indexM rfl rfl te26 rfl rfl rfl (by first | assumption | exact List.getElem?_eq_getElem (by omega)) rfl (by decide)) ?_
            refine RD.gop rfl rfl rfl rfl rfl rfl rfl (eff_loadW rfl rfl ti38 rfl rfl rfl) ?_
            refine RD.gop rfl rfl rfl rfl rfl rfl rfl (eff_callT ((by have h := sameBundle_ret (u.bundles[i]'(by omega)) (u.bundles[i]'(by omega)) hbk.2.1 hbk.2.1; rw [sameB_iff.2 rfl] at h; exact h)) co20 rfl rfl rfl rfl) ?_
            refine RD.gop rfl rfl rfl rfl rfl rfl rfl (eff_unop rfl rfl rfl rfl) ?_
            refine RD.op rfl rfl rfl (eff_pick (v := .t _) rfl rfl rfl rfl) ?_
            refine RD.nil ?_
            refine awp_cond rfl (fun h => nomatch h) (fun _ => ?_)
            refine awp_skip ?_
            refine awp_seq ?_
            refine awp_rw rfl ?_
            obtain ⟨_, hpa, rfl, hVt⟩ := pass_ok hu (k := (u.bundles[i]'(by omega)).id) (List.mem_map.2 ⟨_, List.getElem_mem hil, rfl⟩) h5
            refine RW.op rfl rfl (eff_load rfl rfl ti29 rfl (.whole rfl rfl rfl rfl rfl rfl)) ?_
            refine RW.op rfl rfl (eff_fieldAddr rfl rfl tf38_0 (by decide) rfl rfl rfl (Nat.le_of_ble_eq_true rfl)) ?_
            refine RW.op rfl rfl (eff_load (y := .t _) rfl rfl ti3 rfl (.one rfl rfl rfl rfl)) ?_
            refine RW.op rfl rfl (eff_callT ((by have h := pass26_ret insC (⟨u.quota, u.bundles, p, u.seen⟩ : Store) (u.bundles[i]'(by omega)).id (hu.sok (by have := hV.len; omega)) hu.ps; rw [hpa] at h; exact h)) co26 rfl rfl rfl rfl) ?_
            refine RW.op rfl rfl (eff_move (v := .t _) rfl rfl rfl) ?_
            refine RW.op rfl rfl (eff_extract rfl rfl rfl rfl) ?_
            refine RW.op rfl rfl (eff_extract rfl rfl rfl rfl) ?_
            refine RW.new rfl rfl (eff_allocK (k := 4) (id := 14) rfl rfl tz29 rfl rfl) ?_
            refine RW.store rfl rfl (eff_storeW (v := .t _) (els := [_]) (els' := [_]) rfl rfl ti29 rfl rfl rfl rfl rfl rfl rfl rfl rfl) ?_
            refine RW.op rfl rfl (eff_assign (v := .t _) rfl rfl rfl) ?_
            refine RW.nil ?_
            refine awp_seq ?_
            refine awp_seq ?_
            refine awp_rw rfl ?_
            refine RW.op rfl rfl (eff_move (v := .t _) rfl rfl rfl) ?_
            refine RW.op rfl rfl (eff_iop (r := .bool false) rfl rfl rfl rfl (by exact iop_neq_f (by rfl))) ?_
            refine RW.op rfl rfl (eff_move (v := .t _) rfl rfl rfl) ?_
            refine RW.gop rfl rfl rfl rfl rfl rfl (eff_fieldAddr rfl rfl tf29_2 (by decide) rfl rfl rfl (Nat.le_of_ble_eq_true rfl)) ?_
            refine RW.gop rfl rfl rfl rfl rfl rfl (eff_load (y := .t _) rfl rfl ti27 rfl (.one rfl rfl rfl rfl)) ?_
            refine RW.gop rfl rfl rfl rfl rfl rfl (eff_fieldAddr rfl rfl tf38_0 (by decide) rfl rfl rfl (Nat.le_of_ble_eq_true rfl)) ?_
            refine RW.gop rfl rfl rfl rfl rfl rfl (eff_load (y := .t _) rfl rfl ti3 rfl (.one rfl rfl rfl rfl)) ?_
            refine RW.gop rfl rfl rfl rfl rfl rfl (eff_callT ((by have h := has_ret (ins (u.bundles[i]'(by omega)).id p) (u.bundles[i]'(by omega)).id (by rw [ins_length]; have := (hu.sok (by have := hV.len; omega)).2.1; simp only at this; omega); rw [decide_eq_true (ins_mem.2 (.inl rfl))] at h; exact h)) co25 rfl rfl rfl rfl) ?_
            refine RW.gop rfl rfl rfl rfl rfl rfl (eff_unop rfl rfl rfl rfl) ?_
            refine RW.op rfl rfl (eff_pick (v := .t _) rfl rfl rfl rfl) ?_
            refine RW.op rfl rfl (eff_move (v := .t _) rfl rfl rfl) ?_
            refine RW.gop rfl rfl rfl rfl rfl rfl (eff_fieldAddr rfl rfl tf29_1 (by decide) rfl rfl rfl (Nat.le_of_ble_eq_true rfl)) ?_
            refine RW.gop rfl rfl rfl rfl rfl rfl (eff_load (y := .t _) rfl rfl ti26 rfl (.one rfl rfl rfl rfl)) ?_
            refine RW.gop rfl rfl rfl rfl rfl rfl (eff_lenM rfl rfl te26 rfl) ?_
            refine RW.gop rfl rfl rfl rfl rfl rfl (eff_fieldAddr rfl rfl tf29_1 (by decide) rfl rfl rfl (Nat.le_of_ble_eq_true rfl)) ?_
            refine RW.gop rfl rfl rfl rfl rfl rfl (eff_load (y := .t _) rfl rfl ti26 rfl (.one rfl rfl rfl rfl)) ?_
            refine RW.gop rfl rfl rfl rfl rfl rfl (eff_lenM rfl rfl te26 rfl) ?_
            refine RW.gop rfl rfl rfl rfl rfl rfl (eff_iop (r := .bool false) rfl rfl rfl rfl (by exact iop_neq_f (by rfl))) ?_
            refine RW.op rfl rfl (eff_pick (v := .t _) rfl rfl rfl rfl) ?_
            refine RW.nil ?_
            refine awp_cond rfl (fun h => nomatch h) (fun _ => ?_)
            refine awp_skip ?_
            refine awp_rw rfl ?_
            refine RW.op rfl rfl (eff_load rfl rfl ti29 rfl (.whole rfl rfl rfl rfl rfl rfl)) ?_
            refine RW.store rfl rfl (eff_storeW (v := .t _) (els := [_]) (els' := [_]) rfl rfl ti29 rfl rfl rfl rfl rfl rfl rfl rfl rfl) ?_
            refine RW.nil ?_
            refine awp_rw rfl ?_
            refine RW.op rfl rfl (eff_move (v := .t _) rfl rfl rfl) ?_
            refine RW.op rfl rfl (eff_iop rfl rfl rfl rfl (iadd (by omega))) ?_
            refine RW.op rfl rfl (eff_assign (v := .t _) rfl rfl rfl) ?_
            refine RW.nil ?_
            refine ⟨_, ?_, _, weak_keep (n := 130) (fr' := [(7, .ptr 7 0 0 0), (9, .t (encI (md % 300))), (10, .t (encI (k : Nat))), (11, .t (encI ((i + 1) : Nat)))]) (st' := [(7, some ⟨4, 29, 0, [.t (encS (⟨u.quota, u.bundles, _, u.seen⟩ : Store))]⟩)]) ⟨rfl, rfl, rfl, rfl, rfl, rfl, rfl, rfl, trivial⟩ ⟨rfl, okE_one rfl, trivial⟩, i + 1, _, (by omega), (by first | exact hu.mono (by omega) | exact hVt), (by intro b hb; rcases (mem_take_succ (by omega)).1 hb with h | h <;> first | exact hf b h | exact (hf b h).imp (fun h => h) (fun h => ins_mem.2 (.inr h)) | (rw [h]; first | exact .inl hc4 | exact .inr h5 | exact .inr (ins_mem.2 (.inl rfl)))), rfl, rfl⟩
            omega
      · try simp only [decide_eq_true_eq, decide_eq_false_iff_not, beq_iff_eq, bne_iff_ne, bne_eq_false_iff_eq, beq_eq_false_iff_ne, Bool.not_eq_true, Bool.not_eq_false, Bool.not_eq_true', Bool.not_eq_false', ne_eq] at h3
        refine awp_exit ?_
        refine awp_seq ?_
        refine awp_rw rfl ?_
        have hi6 : i = u.bundles.length := by omega
        rw [List.take_of_length_le (by omega)] at hf
        refine RW.op rfl rfl (eff_load rfl rfl ti29 rfl (.whole rfl rfl rfl rfl rfl rfl)) ?_
        refine RW.op rfl rfl (eff_move (v := .t _) rfl rfl rfl) ?_
        refine RW.op rfl rfl (eff_callT ((by have h := offer18_ret (⟨u.quota, u.bundles, p, u.seen⟩ : Store) (md % 300) (hu.sok (by have := hV.len; omega)) hu.ps; rw [offer_over hf] at h; exact h)) co18 rfl rfl rfl rfl) ?_
        refine RW.op rfl rfl (eff_move (v := .t _) rfl rfl rfl) ?_
        refine RW.op rfl rfl (eff_extract rfl rfl rfl rfl) ?_
        refine RW.op rfl rfl (eff_extract rfl rfl rfl rfl) ?_
        refine RW.new rfl rfl (eff_allocK (k := 8) (id := 16) rfl rfl tz38 rfl rfl) ?_
        refine RW.store rfl rfl (eff_storeW (v := .t _) (els := [_]) (els' := [_]) rfl rfl ti38 rfl rfl rfl rfl rfl rfl rfl rfl rfl) ?_
        refine RW.op rfl rfl (eff_assign (v := .t _) rfl rfl rfl) ?_
        refine RW.nil ?_
        refine awp_seq ?_
        refine awp_seq ?_
        refine awp_rw rfl ?_
        refine RW.op rfl rfl (eff_move (v := .t _) rfl rfl rfl) ?_
        refine RW.nil ?_
        refine awp_cond rfl (fun h => nomatch h) (fun _ => ?_)
        refine awp_skip ?_
        refine awp_rw rfl ?_
        refine RW.op rfl rfl (eff_load rfl rfl ti29 rfl (.whole rfl rfl rfl rfl rfl rfl)) ?_
        refine RW.op rfl rfl (eff_callT (retry27_ret (⟨u.quota, u.bundles, p, u.seen⟩ : Store) (hu.sok (by have := hV.len; omega))) co27 rfl rfl rfl rfl) ?_
        refine RW.store rfl rfl (eff_storeW (v := .t _) (els := [_]) (els' := [_]) rfl rfl ti29 rfl rfl rfl rfl rfl rfl rfl rfl rfl) ?_
        refine RW.nil ?_
        refine awp_rw rfl ?_
        refine RW.op rfl rfl (eff_move (v := .t _) rfl rfl rfl) ?_
        refine RW.op rfl rfl (eff_iop rfl rfl rfl rfl (iadd (by omega))) ?_
        refine RW.op rfl rfl (eff_assign (v := .t _) rfl rfl rfl) ?_
        refine RW.nil ?_
        refine ⟨_, ?_, _, weak_keep (n := 130) (fr' := [(7, .ptr 7 0 0 0), (9, .t (encI (md % 300))), (10, .t (encI ((k + 1) : Nat)))]) (st' := [(7, some ⟨4, 29, 0, [.t (encS _)]⟩)]) ⟨rfl, rfl, rfl, rfl, rfl, rfl, trivial⟩ ⟨rfl, okE_one rfl, trivial⟩, k + 1, _, (by omega), (by exact { inv_retry hu with pn := (by simp [retry]), sn := hV.sn }), rfl, rfl⟩
        omega
    · try simp only [decide_eq_true_eq, decide_eq_false_iff_not, beq_iff_eq, bne_iff_ne, bne_eq_false_iff_eq, beq_eq_false_iff_ne, Bool.not_eq_true, Bool.not_eq_false, Bool.not_eq_true', Bool.not_eq_false', ne_eq] at h2
      refine awp_exit ?_
      refine awp_seq ?_
      refine awp_rw rfl ?_
      refine RW.op rfl rfl (eff_callT (lives_ret) co10 rfl rfl rfl rfl) ?_
      refine RW.op rfl rfl (eff_assign (v := .t _) rfl rfl rfl) ?_
      refine RW.nil ?_
      refine awp_ret ?_
      exact ⟨Or.inr rfl, [_], ⟨.tmp (.t _), trivial⟩, .refl _⟩

theorem offersN (q : Int) (hq : 0 ≤ q ∧ q < 65536) (l : List Opn) (hl : l.length ≤ 9223372036854775807) (hB : OpsOK l) (md : Int) (hmd : 0 ≤ md ∧ md < 65536) (hsh : ¬ ((∀ o, o ∈ l → o.bundle.data.length ≤ 300) ∧ (l.length : Int) ≤ 40)) : Ret Try.prog 6 [.int .u16 q, .sl (l.map encO) false, .int .u16 md] (.bool true) := by
  refine ret_of_awp Try.func6 rfl (Nat.le_of_ble_eq_true rfl) ?_
  refine awp_seq ?_
  refine awp_rw rfl ?_
  refine RW.op rfl rfl (eff_assign (v := .t _) rfl rfl rfl) ?_
  refine RW.nil ?_
  refine awp_seq ?_
  refine awp_seq ?_
  refine awp_rw rfl ?_
  refine RW.op rfl rfl (eff_move (v := .t _) rfl rfl rfl) ?_
  refine RW.op rfl rfl (eff_callT ((by have h := short_ret l 40 hl; rw [decide_eq_false hsh] at h; exact h)) co9 rfl rfl rfl rfl) ?_
  refine RW.op rfl rfl (eff_unop rfl rfl rfl rfl) ?_
  refine RW.nil ?_
  refine awp_cond rfl (fun _ => ?_) (fun h => nomatch h)
  refine awp_seq ?_
  refine awp_rw rfl ?_
  refine RW.op rfl rfl (eff_callT (lives_ret) co10 rfl rfl rfl rfl) ?_
  refine RW.op rfl rfl (eff_assign (v := .t _) rfl rfl rfl) ?_
  refine RW.nil ?_
  refine awp_ret ?_
  exact ⟨Or.inr rfl, [_], ⟨.tmp (.t _), trivial⟩, .refl _⟩

theorem offers_ret (q : Int) (hq : 0 ≤ q ∧ q < 65536) (l : List Opn) (hl : l.length ≤ 9223372036854775807) (hB : OpsOK l) (md : Int) (hmd : 0 ≤ md ∧ md < 65536) : Ret Try.prog 6 [.int .u16 q, .sl (l.map encO) false, .int .u16 md] (.bool true) := by
  by_cases hsh : (∀ o, o ∈ l → o.bundle.data.length ≤ 300) ∧ (l.length : Int) ≤ 40
  · exact offersY q hq l hl hB md hmd hsh
  · exact offersN q hq l hl hB md hmd hsh

end Go.Tv.C27

end
section
open Go Go.Tv Go.Proofs
namespace Go.Tv.C27

def keepA (s : Store) (o : Opn) (L : List Int) : List Int := if (doS s o).2.2 = 0 ∧ o.kind ≤ 1 ∧ s.bundles.length < (doS s o).1.bundles.length then L ++ [o.bundle.id] else L
def keepF (o : Opn) (L : List Int) : List Int := L.filter (fun x => decide (o.kind ≠ 3 ∨ x ≠ o.id))

theorem keepF_other {o : Opn} (h : o.kind ≠ 3) (L : List Int) : keepF o L = L := by
  unfold keepF
  exact List.filter_eq_self.2 (fun x _ => decide_eq_true (.inl h))

theorem keep_create {s : Store} {o : Opn} {L : List Int} (h3 : o.kind ≤ 1) (hL : L.Perm (ids s)) (h : (doS s o).1 = s ∨ ((doS s o).2.2 = 0 ∧ (doS s o).1.bundles = s.bundles ++ [o.bundle])) :
    (keepF o (keepA s o L)).Perm (ids (doS s o).1) := by
  rw [keepF_other (by omega)]
  unfold keepA
  rcases h with h | ⟨h, h4⟩
  · rw [if_neg (by rw [h]; omega), h]; exact hL
  · rw [if_pos ⟨h, h3, by rw [h4]; simp⟩]
    unfold ids
    rw [h4, List.map_append]
    exact hL.append_right _

theorem keep_same {s : Store} {o : Opn} {L : List Int} (h3 : o.kind ≠ 3) (hL : L.Perm (ids s)) (h : (doS s o).1.bundles = s.bundles) : (keepF o (keepA s o L)).Perm (ids (doS s o).1) := by
  rw [keepF_other h3]
  unfold keepA
  rw [if_neg (by rw [h]; omega)]
  unfold ids
  rw [h]; exact hL

theorem do_err' {s : Store} {o : Opn} (he : ¬ (rawS s o).2.2 = 0) : (doS s o).1 = s := by unfold doS; rw [if_neg he]
theorem do_ok' {s : Store} {o : Opn} (he : (rawS s o).2.2 = 0) : (doS s o).1 = (rawS s o).1 ∧ (doS s o).2.2 = 0 := by unfold doS; rw [if_pos he]; exact ⟨rfl, he⟩

theorem kept_step {n : Nat} {s : Store} {o : Opn} {L : List Int} (h : VInv n s) (hb : Bytes o.bundle.data) (hL : L.Perm (ids s)) :
    (keepF o (keepA s o L)).Perm (ids (doS s o).1) := by
  by_cases h0 : o.kind = 0
  · refine keep_create (by omega) hL ?_
    by_cases he : (rawS s o).2.2 = 0
    · rw [(do_ok' he).1, (do_ok' he).2]
      rw [raw0 h0] at he ⊢
      exact .inr ⟨rfl, by rw [(inv_create h hb he).2.1]⟩
    · exact .inl (do_err' he)
  · by_cases h1 : o.kind = 1
    · refine keep_create (by omega) hL ?_
      by_cases he : (rawS s o).2.2 = 0
      · rw [(do_ok' he).1, (do_ok' he).2]
        rw [raw1 h1] at he ⊢
        simp only at he ⊢
        rw [accept_eq] at he ⊢
        split
        · exact .inl rfl
        · rename_i h2
          rw [if_neg h2] at he
          exact .inr ⟨by trivial, by rw [(inv_create h hb he).2.1]⟩
      · exact .inl (do_err' he)
    · by_cases h3 : o.kind = 3
      · have hA : keepA s o L = L := by unfold keepA; exact if_neg (by omega)
        rw [hA]
        by_cases he : (rawS s o).2.2 = 0
        · rw [(do_ok' he).1]
          rw [raw3 h3] at he ⊢
          rw [(inv_confirm h he).2.1]
          have e : ids ⟨s.quota, s.bundles.filter (fun b => decide (b.id ≠ o.id)), s.passed.filter (· != o.id), s.seen⟩ = keepF o (ids s) := by
            unfold ids keepF
            rw [List.filter_map]
            congr 1
            refine List.filter_congr (fun b _ => ?_)
            simp [h3]
          rw [e]
          exact hL.filter _
        · rw [do_err' he]
          rw [raw3 h3] at he
          have hn : o.id ∉ ids s := by
            rcases confirm_ends h o.id with ⟨hn, _⟩ | ⟨V, hC, _⟩
            · exact hn
            · rw [hC] at he; exact absurd rfl he
          have e : keepF o L = L := by
            unfold keepF
            refine List.filter_eq_self.2 (fun x hx => decide_eq_true (.inr (fun e => hn ?_)))
            rw [← e]; exact hL.mem_iff.1 hx
          rw [e]; exact hL
      · refine keep_same h3 hL ?_
        by_cases he : (rawS s o).2.2 = 0
        · rw [(do_ok' he).1]
          by_cases h2 : o.kind = 2
          · rw [raw2 h2] at he ⊢
            rw [(inv_pass h he).2.1]
          · by_cases h4 : o.kind = 4
            · rw [raw4 h4]; rfl
            · rw [raw5 h0 h1 h2 h3 h4]
        · rw [do_err' he]

theorem count_one {n : Nat} {s : Store} {k : Int} (h : VInv n s) (hk : k ∈ ids s) : countB s.bundles k = 1 := by
  unfold countB
  have e : ((s.bundles.filter fun b => b.id == k).length : Int) = ((ids s).count k : Nat) := by
    unfold ids List.count
    rw [List.countP_map, List.countP_eq_length_filter]
    rfl
  rw [e, h.nd.count, if_pos hk]
  rfl

theorem keepF_take {o : Opn} {M : List Int} {j : Nat} (h : j < M.length) : keepF o (M.take (j + 1)) = keepF o (M.take j) ++ (if o.kind ≠ 3 ∨ M[j] ≠ o.id then [M[j]] else []) := by
  unfold keepF
  rw [take_succ_get h, List.filter_append, List.filter_cons, List.filter_nil]
  by_cases hc : o.kind ≠ 3 ∨ M[j] ≠ o.id
  · rw [if_pos hc]; rw [if_pos (decide_eq_true hc)]
  · rw [if_neg hc]; rw [if_neg (by rw [decide_eq_false hc]; simp)]
theorem keepF_le {o : Opn} {M : List Int} : (keepF o M).length ≤ M.length := List.length_filter_le _ _

end Go.Tv.C27

end
section
open Go Go.Tv Go.Proofs
namespace Go.Tv.C27
set_option maxRecDepth 20000
set_option maxHeartbeats 2000000
set_option linter.unusedSimpArgs false
set_option linter.unusedVariables false
theorem validY (q : Int) (hq : 0 ≤ q ∧ q < 65536) (l : List Opn) (hl : l.length ≤ 9223372036854775807) (hB : OpsOK l) (hsh : (∀ o, o ∈ l → o.bundle.data.length ≤ 300) ∧ (l.length : Int) ≤ 60) : Ret Try.prog 4 [.int .u16 q, .sl (l.map encO) false] (.bool true) := by
  refine ret_of_awp Try.func4 rfl (Nat.le_of_ble_eq_true rfl) ?_
  refine awp_seq ?_
  refine awp_rw rfl ?_
  refine RW.op rfl rfl (eff_assign (v := .t _) rfl rfl rfl) ?_
  refine RW.nil ?_
  refine awp_seq ?_
  refine awp_seq ?_
  refine awp_rw rfl ?_
  refine RW.op rfl rfl (eff_move (v := .t _) rfl rfl rfl) ?_
  refine RW.op rfl rfl (eff_callT ((by have h := short_ret l 60 hl; rw [decide_eq_true hsh] at h; exact h)) co9 rfl rfl rfl rfl) ?_
  refine RW.op rfl rfl (eff_unop rfl rfl rfl rfl) ?_
  refine RW.nil ?_
  refine awp_cond rfl (fun h => nomatch h) (fun _ => ?_)
  refine awp_skip ?_
  refine awp_seq ?_
  refine awp_rw rfl ?_
  refine RW.op rfl rfl (eff_move (v := .t _) rfl rfl rfl) ?_
  refine RW.op rfl rfl (eff_convIntE (m := q) rfl rfl (by rw [tu22]; rfl) tu3 rfl (wrap64 (by omega) (by omega))) ?_
  refine RW.op rfl rfl (eff_remE (r := q % 2001) rfl rfl rfl rfl (by decide) (tmod_pos hq.1)) ?_
  refine RW.op rfl rfl (eff_buildT (ys := [_, _, _, _]) rfl rfl tz29 tg29 rfl) ?_
  refine RW.new rfl rfl (eff_allocK (k := 4) (id := 5) rfl rfl tz29 rfl rfl) ?_
  refine RW.store rfl rfl (eff_storeW (v := .t _) (els := [_]) (els' := [_]) rfl rfl ti29 rfl rfl rfl rfl rfl rfl rfl rfl rfl) ?_
  refine RW.nil ?_
  show AWP _ _ _ _
  refine awp_weak (weak_wkOb (id := 5) (QSc q) rfl ⟨.refl _, .sl _, .sl _, .sl _, trivial⟩) ?_
  refine awp_seq ?_
  refine awp_rw rfl ?_
  refine RW.op rfl rfl (eff_assign (v := .t _) rfl rfl rfl) ?_
  refine RW.nil ?_
  show AWP _ _ _ _
  refine awp_weak (weak_adopt (d := 6) (id := 6) (k := 1) (ty := 3) rfl rfl) ?_
  refine awp_seq ?_
  refine awp_seq ?_
  refine awp_rw rfl ?_
  refine RW.op rfl rfl (eff_assign (v := .t _) rfl rfl rfl) ?_
  refine RW.nil ?_
  refine awp_block ?_
  refine awp_loopW (fun m s => ∃ (i : Nat) (L : List Int) (g : Nat), (i ≤ l.length) ∧ (L.Perm (ids (runS (QS q) (l.take i)))) ∧ m = l.length - i ∧ s = ⟨124, [(1, .t (.sl (l.map encO) false)), (5, .ptr 5 0 0 0), (6, .own 6 g 0 L.length), (7, .t (encI (i : Nat)))], [(5, some ⟨4, 29, 0, [.t (encS (runS (QS q) (l.take i)))]⟩), (6, some ⟨1, 3, g, (L.map encI).map .t⟩)]⟩) (_) (⟨_, weak_keep (n := 124) (fr' := [(1, .t (.sl (l.map encO) false)), (5, .ptr 5 0 0 0), (6, .own 6 0 0 ([]).length), (7, .t (encI (0 : Nat)))]) (st' := [(5, some ⟨4, 29, 0, [.t (encS (runS (QS q) (l.take 0)))]⟩), (6, some ⟨1, 3, 0, (([]).map encI).map .t⟩)]) ⟨rfl, rfl, rfl, rfl, rfl, rfl, rfl, rfl, trivial⟩ ⟨(by first | rfl | (rw [runS_step (by omega)]; rfl)), okE_one rfl, rfl, (by first | exact okE_nil | exact okE_t), trivial⟩, 0, [], 0, (by omega), (by exact .nil), rfl, rfl⟩) ?_
  rintro m s ⟨i, L, g, hi, hL, rfl, rfl⟩
  have hlen := hsh.2
  have hVs := run_inv hq.1 hB i (by omega)
  have hLl : L.length ≤ 64 := by have h := hL.length_eq; have h2 := hVs.len; unfold ids at h; rw [List.length_map] at h; omega
  refine awp_seq ?_
  refine awp_seq ?_
  refine awp_rw rfl ?_
  refine RW.op rfl rfl (eff_move (v := .t _) rfl rfl rfl) ?_
  refine RW.op rfl rfl (eff_move (v := .t _) rfl rfl rfl) ?_
  refine RW.op rfl rfl (eff_lenM rfl rfl te23 rfl) ?_
  refine RW.op rfl rfl (eff_iop rfl rfl rfl rfl rfl) ?_
  refine RW.nil ?_
  refine awp_cond rfl (fun h1 => ?_) (fun h1 => ?_)
  · try simp only [decide_eq_true_eq, decide_eq_false_iff_not, beq_iff_eq, bne_iff_ne, bne_eq_false_iff_eq, beq_eq_false_iff_ne, Bool.not_eq_true, Bool.not_eq_false, Bool.not_eq_true', Bool.not_eq_false', ne_eq] at h1
    refine awp_skip ?_
    refine awp_seq ?_
    refine awp_block ?_
    refine awp_seq ?_
    have hil : i < l.length := by omega
    refine awp_rd [(some 29, []), (some 30, []), (some 31, []), (some 32, []), (some 33, []), (some 34, []), (some 28, []), (some 35, []), (some 36, []), (some 37, []), (some 8, [8]), (none, [8]), (some 9, []), (some 10, [])] [[], [], [], [1, 2], [1, 2, 3], [0, 1, 2, 3, 4], [0, 1, 2, 3, 4, 5], [0, 1, 2, 3, 4, 5, 6], [0, 1, 2, 3, 4, 5, 6], [0, 1, 2, 3, 4, 5, 6], [], [0, 1, 2, 3, 4, 5, 6, 7, 10], [0, 1, 2, 3, 4, 5, 6, 7, 8, 10, 11], [0, 1, 2, 3, 4, 5, 6, 7, 8, 9, 10, 11, 12]] tm rfl rfl rfl rfl ?_
    refine RD.op rfl rfl rfl (eff_load rfl rfl ti29 rfl (.whole rfl rfl rfl rfl rfl rfl)) ?_
    refine RD.op rfl rfl rfl (eff_move (v := .t _) rfl rfl rfl) ?_
    refine RD.op rfl rfl rfl (eff_move (v := .t _) rfl rfl rfl) ?_
    refine RD.op rfl rfl rfl (eff_indexM rfl rfl te23 rfl rfl rfl (by first | assumption | exact List.getElem?_eq_getElem (by omega)) rfl (by decide)) ?_
    refine RD.op rfl rfl rfl (eff_loadW rfl rfl ti40 rfl rfl rfl) ?_
    refine RD.op rfl rfl rfl (eff_callT (do_ret 60 (runS (QS q) (l.take i)) (l[i]'hil) (by omega) (hVs.mono (by omega)) (short_bok hsh.1 (by omega))) co11 rfl rfl rfl rfl) ?_
    refine RD.op rfl rfl rfl (eff_move (v := .t _) rfl rfl rfl) ?_
    refine RD.op rfl rfl rfl (eff_extract rfl rfl rfl rfl) ?_
    refine RD.op rfl rfl rfl (eff_extract rfl rfl rfl rfl) ?_
    refine RD.op rfl rfl rfl (eff_extract rfl rfl rfl rfl) ?_
    refine RD.new rfl rfl rfl (eff_allocK (k := 4) (id := 8) rfl rfl tz29 rfl rfl) ?_
    refine RD.store rfl rfl rfl (eff_storeW (v := .t _) (els := [_]) (els' := [_]) rfl rfl ti29 rfl rfl rfl rfl rfl rfl rfl rfl rfl) ?_
    refine RD.op rfl rfl rfl (eff_assign (v := .t _) rfl rfl rfl) ?_
    refine RD.op rfl rfl rfl (eff_assign (v := .t _) rfl rfl rfl) ?_
    refine RD.nil ?_
    refine awp_seq_mid (fun s => ∃ gm, Weak s ⟨124, [(1, .t (.sl (l.map encO) false)), (5, .ptr 5 0 0 0), (6, .own 6 gm 0 (keepA (runS (QS q) (l.take i)) (l[i]'hil) L).length), (7, .t (encI (i : Nat))), (8, .ptr 8 0 0 0)], [(5, some ⟨4, 29, 0, [.t (encS (runS (QS q) (l.take i)))]⟩), (6, some ⟨1, 3, gm, ((keepA (runS (QS q) (l.take i)) (l[i]'hil) L).map encI).map .t⟩), (8, some ⟨4, 29, 0, [.t (encS (doS (runS (QS q) (l.take i)) (l[i]'hil)).1)]⟩)]⟩) ?_ ?_
    · refine awp_seq ?_
      refine awp_rw rfl ?_
      refine RW.op rfl rfl (eff_move (v := .t _) rfl rfl rfl) ?_
      refine RW.op rfl rfl (eff_iop rfl rfl rfl rfl rfl) ?_
      refine RW.op rfl rfl (eff_move (v := .t _) rfl rfl rfl) ?_
      refine RW.split 40 rfl (fun h2 => ?_) (fun h2 => ?_)
      · try simp only [decide_eq_true_eq, decide_eq_false_iff_not, beq_iff_eq, bne_iff_ne, bne_eq_false_iff_eq, beq_eq_false_iff_ne, Bool.not_eq_true, Bool.not_eq_false, Bool.not_eq_true', Bool.not_eq_false', ne_eq] at h2
        refine RW.gop rfl rfl rfl rfl rfl rfl (eff_move (v := .t _) rfl rfl rfl) ?_
        refine RW.gop rfl rfl rfl rfl rfl rfl (eff_move (v := .t _) rfl rfl rfl) ?_
        refine RW.gop rfl rfl rfl rfl rfl rfl (eff_indexM rfl rfl te23 rfl rfl rfl (by first | assumption | exact List.getElem?_eq_getElem (by omega)) rfl (by decide)) ?_
        refine RW.gop rfl rfl rfl rfl rfl rfl (eff_fieldAddrT rfl rfl tf40_0 (by decide) rfl) ?_
        refine RW.gop rfl rfl rfl rfl rfl rfl (eff_loadT1 rfl rfl ti3 rfl rfl) ?_
        refine RW.gop rfl rfl rfl rfl rfl rfl (eff_iop rfl rfl rfl rfl rfl) ?_
        refine RW.op rfl rfl (eff_pick (v := .t _) rfl rfl rfl rfl) ?_
        refine RW.op rfl rfl (eff_move (v := .t _) rfl rfl rfl) ?_
        refine RW.split 48 rfl (fun h3 => ?_) (fun h3 => ?_)
        · try simp only [decide_eq_true_eq, decide_eq_false_iff_not, beq_iff_eq, bne_iff_ne, bne_eq_false_iff_eq, beq_eq_false_iff_ne, Bool.not_eq_true, Bool.not_eq_false, Bool.not_eq_true', Bool.not_eq_false', ne_eq] at h3
          refine RW.gop rfl rfl rfl rfl rfl rfl (eff_fieldAddr rfl rfl tf29_1 (by decide) rfl rfl rfl (Nat.le_of_ble_eq_true rfl)) ?_
          refine RW.gop rfl rfl rfl rfl rfl rfl (eff_load (y := .t _) rfl rfl ti26 rfl (.one rfl rfl rfl rfl)) ?_
          refine RW.gop rfl rfl rfl rfl rfl rfl (eff_lenM rfl rfl te26 rfl) ?_
          refine RW.gop rfl rfl rfl rfl rfl rfl (eff_fieldAddr rfl rfl tf29_1 (by decide) rfl rfl rfl (Nat.le_of_ble_eq_true rfl)) ?_
          refine RW.gop rfl rfl rfl rfl rfl rfl (eff_load (y := .t _) rfl rfl ti26 rfl (.one rfl rfl rfl rfl)) ?_
          refine RW.gop rfl rfl rfl rfl rfl rfl (eff_lenM rfl rfl te26 rfl) ?_
          refine RW.gop rfl rfl rfl rfl rfl rfl (eff_iop rfl rfl rfl rfl rfl) ?_
          refine RW.op rfl rfl (eff_pick (v := .t _) rfl rfl rfl rfl) ?_
          refine RW.nil ?_
          refine awp_cond rfl (fun h4 => ?_) (fun h4 => ?_)
          · try simp only [decide_eq_true_eq, decide_eq_false_iff_not, beq_iff_eq, bne_iff_ne, bne_eq_false_iff_eq, beq_eq_false_iff_ne, Bool.not_eq_true, Bool.not_eq_false, Bool.not_eq_true', Bool.not_eq_false', ne_eq] at h4
            refine awp_rw rfl ?_
            refine RW.op rfl rfl (eff_move (v := .own _ _ _ _) rfl rfl rfl) ?_
            refine RW.op rfl rfl (eff_move (v := .t _) rfl rfl rfl) ?_
            refine RW.op rfl rfl (eff_move (v := .t _) rfl rfl rfl) ?_
            refine RW.op rfl rfl (eff_indexM rfl rfl te23 rfl rfl rfl (by first | assumption | exact List.getElem?_eq_getElem (by omega)) rfl (by decide)) ?_
            refine RW.op rfl rfl (eff_fieldAddrT rfl rfl tf40_3 (by decide) rfl) ?_
            refine RW.op rfl rfl (eff_fieldAddrT rfl rfl tf38_0 (by decide) rfl) ?_
            refine RW.op rfl rfl (eff_loadT1 rfl rfl ti3 rfl rfl) ?_
            refine RW.new rfl rfl (eff_buildSlice1 (id := 64) (els := [_]) rfl rfl te27 tz3 rfl (by decide) rfl rfl rfl rfl) ?_
            refine RW.new rfl rfl (eff_append (id := 6) (ys := [_]) rfl rfl ta27 rfl rfl rfl (by simp) rfl rfl (srcOwn rfl rfl rfl rfl rfl rfl) (by simp) (by simp; omega) (by simp; omega)) ?_
            refine RW.op rfl rfl (eff_assign (v := .own _ _ _ _) rfl rfl rfl) ?_
            refine RW.nil ?_
            show ∃ gm, _
            first
              | (have hM : (keepA (runS (QS q) (l.take i)) (l[i]'hil) L) = L := (by unfold keepA; exact if_neg (by omega))
                 rw [hM]
                 exact ⟨_, weak_keep (n := 124) ⟨rfl, rfl, rfl, rfl, rfl, rfl, rfl, rfl, rfl, rfl, trivial⟩ ⟨rfl, okE_one rfl, rfl, (by first | exact okE_t | exact okE_app okE_t (okE_one rfl)), rfl, okE_one rfl, trivial⟩⟩)
              | (have hM : (keepA (runS (QS q) (l.take i)) (l[i]'hil) L) = L ++ [(l[i]'hil).bundle.id] := (by unfold keepA; exact if_pos (by omega))
                 rw [hM, List.length_append, List.map_append, List.map_append]
                 exact ⟨_, weak_keep (n := 124) ⟨rfl, rfl, rfl, rfl, rfl, rfl, rfl, rfl, rfl, rfl, trivial⟩ ⟨rfl, okE_one rfl, rfl, (by first | exact okE_t | exact okE_app okE_t (okE_one rfl)), rfl, okE_one rfl, trivial⟩⟩)
          · try simp only [decide_eq_true_eq, decide_eq_false_iff_not, beq_iff_eq, bne_iff_ne, bne_eq_false_iff_eq, beq_eq_false_iff_ne, Bool.not_eq_true, Bool.not_eq_false, Bool.not_eq_true', Bool.not_eq_false', ne_eq] at h4
            refine awp_skip ?_
            show ∃ gm, _
            first
              | (have hM : (keepA (runS (QS q) (l.take i)) (l[i]'hil) L) = L := (by unfold keepA; exact if_neg (by omega))
                 rw [hM]
                 exact ⟨_, weak_keep (n := 124) ⟨rfl, rfl, rfl, rfl, rfl, rfl, rfl, rfl, rfl, rfl, trivial⟩ ⟨rfl, okE_one rfl, rfl, (by first | exact okE_t | exact okE_app okE_t (okE_one rfl)), rfl, okE_one rfl, trivial⟩⟩)
              | (have hM : (keepA (runS (QS q) (l.take i)) (l[i]'hil) L) = L ++ [(l[i]'hil).bundle.id] := (by unfold keepA; exact if_pos (by omega))
                 rw [hM, List.length_append, List.map_append, List.map_append]
                 exact ⟨_, weak_keep (n := 124) ⟨rfl, rfl, rfl, rfl, rfl, rfl, rfl, rfl, rfl, rfl, trivial⟩ ⟨rfl, okE_one rfl, rfl, (by first | exact okE_t | exact okE_app okE_t (okE_one rfl)), rfl, okE_one rfl, trivial⟩⟩)
        · try simp only [decide_eq_true_eq, decide_eq_false_iff_not, beq_iff_eq, bne_iff_ne, bne_eq_false_iff_eq, beq_eq_false_iff_ne, Bool.not_eq_true, Bool.not_eq_false, Bool.not_eq_true', Bool.not_eq_false', ne_eq] at h3
          refine RW.gskip rfl rfl rfl rfl rfl (by decide) ?_
          refine RW.gskip rfl rfl rfl rfl rfl (by decide) ?_
          refine RW.gskip rfl rfl rfl rfl rfl (by decide) ?_
          refine RW.gskip rfl rfl rfl rfl rfl (by decide) ?_
          refine RW.gskip rfl rfl rfl rfl rfl (by decide) ?_
          refine RW.gskip rfl rfl rfl rfl rfl (by decide) ?_
          refine RW.gskip rfl rfl rfl rfl rfl (by decide) ?_
          refine RW.op rfl rfl (eff_pick (v := .t _) rfl rfl rfl rfl) ?_
          refine RW.nil ?_
          refine awp_cond rfl (fun h => nomatch h) (fun _ => ?_)
          refine awp_skip ?_
          show ∃ gm, _
          first
            | (have hM : (keepA (runS (QS q) (l.take i)) (l[i]'hil) L) = L := (by unfold keepA; exact if_neg (by omega))
               rw [hM]
               exact ⟨_, weak_keep (n := 124) ⟨rfl, rfl, rfl, rfl, rfl, rfl, rfl, rfl, rfl, rfl, trivial⟩ ⟨rfl, okE_one rfl, rfl, (by first | exact okE_t | exact okE_app okE_t (okE_one rfl)), rfl, okE_one rfl, trivial⟩⟩)
            | (have hM : (keepA (runS (QS q) (l.take i)) (l[i]'hil) L) = L ++ [(l[i]'hil).bundle.id] := (by unfold keepA; exact if_pos (by omega))
               rw [hM, List.length_append, List.map_append, List.map_append]
               exact ⟨_, weak_keep (n := 124) ⟨rfl, rfl, rfl, rfl, rfl, rfl, rfl, rfl, rfl, rfl, trivial⟩ ⟨rfl, okE_one rfl, rfl, (by first | exact okE_t | exact okE_app okE_t (okE_one rfl)), rfl, okE_one rfl, trivial⟩⟩)
      · try simp only [decide_eq_true_eq, decide_eq_false_iff_not, beq_iff_eq, bne_iff_ne, bne_eq_false_iff_eq, beq_eq_false_iff_ne, Bool.not_eq_true, Bool.not_eq_false, Bool.not_eq_true', Bool.not_eq_false', ne_eq] at h2
        refine RW.gskip rfl rfl rfl rfl rfl (by decide) ?_
        refine RW.gskip rfl rfl rfl rfl rfl (by decide) ?_
        refine RW.gskip rfl rfl rfl rfl rfl (by decide) ?_
        refine RW.gskip rfl rfl rfl rfl rfl (by decide) ?_
        refine RW.gskip rfl rfl rfl rfl rfl (by decide) ?_
        refine RW.gskip rfl rfl rfl rfl rfl (by decide) ?_
        refine RW.op rfl rfl (eff_pick (v := .t _) rfl rfl rfl rfl) ?_
        refine RW.op rfl rfl (eff_move (v := .t _) rfl rfl rfl) ?_
        refine RW.gskip rfl rfl rfl rfl rfl (by decide) ?_
        refine RW.gskip rfl rfl rfl rfl rfl (by decide) ?_
        refine RW.gskip rfl rfl rfl rfl rfl (by decide) ?_
        refine RW.gskip rfl rfl rfl rfl rfl (by decide) ?_
        refine RW.gskip rfl rfl rfl rfl rfl (by decide) ?_
        refine RW.gskip rfl rfl rfl rfl rfl (by decide) ?_
        refine RW.gskip rfl rfl rfl rfl rfl (by decide) ?_
        refine RW.op rfl rfl (eff_pick (v := .t _) rfl rfl rfl rfl) ?_
        refine RW.nil ?_
        refine awp_cond rfl (fun h => nomatch h) (fun _ => ?_)
        refine awp_skip ?_
        show ∃ gm, _
        first
          | (have hM : (keepA (runS (QS q) (l.take i)) (l[i]'hil) L) = L := (by unfold keepA; exact if_neg (by omega))
             rw [hM]
             exact ⟨_, weak_keep (n := 124) ⟨rfl, rfl, rfl, rfl, rfl, rfl, rfl, rfl, rfl, rfl, trivial⟩ ⟨rfl, okE_one rfl, rfl, (by first | exact okE_t | exact okE_app okE_t (okE_one rfl)), rfl, okE_one rfl, trivial⟩⟩)
          | (have hM : (keepA (runS (QS q) (l.take i)) (l[i]'hil) L) = L ++ [(l[i]'hil).bundle.id] := (by unfold keepA; exact if_pos (by omega))
             rw [hM, List.length_append, List.map_append, List.map_append]
             exact ⟨_, weak_keep (n := 124) ⟨rfl, rfl, rfl, rfl, rfl, rfl, rfl, rfl, rfl, rfl, trivial⟩ ⟨rfl, okE_one rfl, rfl, (by first | exact okE_t | exact okE_app okE_t (okE_one rfl)), rfl, okE_one rfl, trivial⟩⟩)
    · rintro s1 ⟨gm, hw⟩
      refine awp_weak hw ?_
      have hVt : VInv 61 (doS (runS (QS q) (l.take i)) (l[i]'hil)).1 := (inv_do hVs (hB _ (List.getElem_mem _))).mono (by omega)
      have hN := kept_step (o := (l[i]'hil)) hVs (hB _ (List.getElem_mem _)) hL
      have hNl : (keepF (l[i]'hil) (keepA (runS (QS q) (l.take i)) (l[i]'hil) L)).length = (doS (runS (QS q) (l.take i)) (l[i]'hil)).1.bundles.length := by have h := hN.length_eq; unfold ids at h; rw [List.length_map] at h; exact h
      have hMl : (keepA (runS (QS q) (l.take i)) (l[i]'hil) L).length ≤ 65 := by unfold keepA; split <;> (try rw [List.length_append, List.length_singleton]) <;> omega
      have hKl : (keepF (l[i]'hil) (keepA (runS (QS q) (l.take i)) (l[i]'hil) L)).length ≤ 65 := Nat.le_trans keepF_le hMl
      refine awp_seq ?_
      refine awp_rw rfl ?_
      refine RW.op rfl rfl (eff_assign (v := .t _) rfl rfl rfl) ?_
      refine RW.nil ?_
      show AWP _ _ _ _
      refine awp_weak (weak_adopt (d := 11) (id := 11) (k := 1) (ty := 3) rfl rfl) ?_
      refine awp_seq ?_
      refine awp_seq ?_
      refine awp_rw rfl ?_
      refine RW.op rfl rfl (eff_assign (v := .t _) rfl rfl rfl) ?_
      refine RW.nil ?_
      refine awp_block ?_
      refine awp_loopW (fun m s => ∃ (j : Nat) (k2 : Nat) (g2 : Nat) (es2 : List AV), (j ≤ (keepA (runS (QS q) (l.take i)) (l[i]'hil) L).length) ∧ (k2 = (keepF (l[i]'hil) ((keepA (runS (QS q) (l.take i)) (l[i]'hil) L).take j)).length) ∧ (es2 = ((keepF (l[i]'hil) ((keepA (runS (QS q) (l.take i)) (l[i]'hil) L).take j)).map encI).map .t) ∧ m = (keepA (runS (QS q) (l.take i)) (l[i]'hil) L).length - j ∧ s = ⟨124, [(1, .t (.sl (l.map encO) false)), (5, .ptr 5 0 0 0), (6, .own 6 gm 0 (keepA (runS (QS q) (l.take i)) (l[i]'hil) L).length), (7, .t (encI (i : Nat))), (8, .ptr 8 0 0 0), (11, .own 11 g2 0 k2), (12, .t (encI (j : Nat)))], [(5, some ⟨4, 29, 0, [.t (encS (runS (QS q) (l.take i)))]⟩), (6, some ⟨1, 3, gm, ((keepA (runS (QS q) (l.take i)) (l[i]'hil) L).map encI).map .t⟩), (8, some ⟨4, 29, 0, [.t (encS (doS (runS (QS q) (l.take i)) (l[i]'hil)).1)]⟩), (11, some ⟨1, 3, g2, es2⟩)]⟩) (_) (⟨_, weak_keep (n := 124) (fr' := [(1, .t (.sl (l.map encO) false)), (5, .ptr 5 0 0 0), (6, .own 6 gm 0 (keepA (runS (QS q) (l.take i)) (l[i]'hil) L).length), (7, .t (encI (i : Nat))), (8, .ptr 8 0 0 0), (11, .own 11 0 0 0), (12, .t (encI (0 : Nat)))]) (st' := [(5, some ⟨4, 29, 0, [.t (encS (runS (QS q) (l.take i)))]⟩), (6, some ⟨1, 3, gm, ((keepA (runS (QS q) (l.take i)) (l[i]'hil) L).map encI).map .t⟩), (8, some ⟨4, 29, 0, [.t (encS (doS (runS (QS q) (l.take i)) (l[i]'hil)).1)]⟩), (11, some ⟨1, 3, 0, ([])⟩)]) ⟨rfl, rfl, rfl, rfl, rfl, rfl, rfl, rfl, rfl, rfl, rfl, rfl, rfl, rfl, trivial⟩ ⟨rfl, okE_one rfl, rfl, (by first | exact okE_nil | exact okE_t | (rw [he2]; exact okE_t) | (rw [he2]; intro x hx; simp only [List.mem_append, List.mem_map, List.mem_singleton] at hx; rcases hx with ⟨y, _, rfl⟩ | rfl <;> rfl)), rfl, okE_one rfl, rfl, (by first | exact okE_nil | exact okE_t | (rw [he2]; exact okE_t) | (rw [he2]; intro x hx; simp only [List.mem_append, List.mem_map, List.mem_singleton] at hx; rcases hx with ⟨y, _, rfl⟩ | rfl <;> rfl)), trivial⟩, 0, 0, 0, [], (by omega), (by rfl), (by rfl), rfl, rfl⟩) ?_
      rintro m s ⟨j, k2, g2, es2, hj, hk2, he2, rfl, rfl⟩
      have hfl : (keepF (l[i]'hil) ((keepA (runS (QS q) (l.take i)) (l[i]'hil) L).take j)).length ≤ 65 := by have h := keepF_le (o := (l[i]'hil)) (M := (keepA (runS (QS q) (l.take i)) (l[i]'hil) L).take j); have h2 := List.length_take_le j (keepA (runS (QS q) (l.take i)) (l[i]'hil) L); omega
      refine awp_seq ?_
      refine awp_seq ?_
      refine awp_rw rfl ?_
      refine RW.op rfl rfl (eff_move (v := .t _) rfl rfl rfl) ?_
      refine RW.op rfl rfl (eff_move (v := .own _ _ _ _) rfl rfl rfl) ?_
      refine RW.op rfl rfl (eff_len rfl rfl te27 rfl rfl rfl) ?_
      refine RW.op rfl rfl (eff_iop rfl rfl rfl rfl rfl) ?_
      refine RW.nil ?_
      refine awp_cond rfl (fun h5 => ?_) (fun h5 => ?_)
      · try simp only [decide_eq_true_eq, decide_eq_false_iff_not, beq_iff_eq, bne_iff_ne, bne_eq_false_iff_eq, beq_eq_false_iff_ne, Bool.not_eq_true, Bool.not_eq_false, Bool.not_eq_true', Bool.not_eq_false', ne_eq] at h5
        refine awp_skip ?_
        refine awp_seq ?_
        refine awp_block ?_
        refine awp_seq ?_
        by_cases hc6 : (l[i]'hil).kind ≠ 3
        · refine awp_rd [(some 72, []), (some 73, []), (some 74, []), (some 75, []), (some 76, []), (some 77, []), (some 78, []), (some 79, []), (some 80, []), (some 81, []), (some 82, []), (some 83, []), (some 84, []), (some 85, []), (some 86, []), (some 87, []), (some 88, []), (some 89, [])] [[], [], [0, 1], [0, 1, 2], [0, 1, 2, 3], [0, 1, 2, 3, 4], [0, 1, 2, 3, 4, 5], [0, 1, 2, 3, 4, 5, 6], [0, 1, 2, 3, 4, 5, 6], [0, 1, 2, 3, 4, 5, 6, 7, 8], [0, 1, 2, 3, 4, 5, 6, 7, 8, 9], [0, 1, 2, 3, 4, 5, 6], [0, 1, 2, 3, 4, 5, 6], [0, 1, 2, 3, 4, 5, 6, 11, 12], [0, 1, 2, 3, 4, 5, 6, 11, 12, 13], [0, 1, 2, 3, 4, 5, 6, 11, 12, 13, 14], [0, 1, 2, 3, 4, 5, 6, 7, 8, 9, 10, 11, 12, 13, 14, 15], [0, 1, 2, 3, 4, 5, 6, 7, 8, 9, 10, 11, 12, 13, 14, 15, 16]] tm rfl rfl rfl rfl ?_
          refine RD.op rfl rfl rfl (eff_move (v := .t _) rfl rfl rfl) ?_
          refine RD.op rfl rfl rfl (eff_move (v := .t _) rfl rfl rfl) ?_
          refine RD.op rfl rfl rfl (eff_indexM rfl rfl te23 rfl rfl rfl (by first | assumption | exact List.getElem?_eq_getElem (by omega)) rfl (by decide)) ?_
          refine RD.op rfl rfl rfl (eff_fieldAddrT rfl rfl tf40_0 (by decide) rfl) ?_
          refine RD.op rfl rfl rfl (eff_loadT1 rfl rfl ti3 rfl rfl) ?_
          refine RD.op rfl rfl rfl (eff_iop (r := .bool true) rfl rfl rfl rfl (by exact iop_neq_t (by exact hc6))) ?_
          refine RD.op rfl rfl rfl (eff_move (v := .t _) rfl rfl rfl) ?_
          refine RD.gskip rfl rfl rfl rfl rfl rfl (by decide) ?_
          refine RD.gskip rfl rfl rfl rfl rfl rfl (by decide) ?_
          refine RD.gskip rfl rfl rfl rfl rfl rfl (by decide) ?_
          refine RD.gskip rfl rfl rfl rfl rfl rfl (by decide) ?_
          refine RD.gskip rfl rfl rfl rfl rfl rfl (by decide) ?_
          refine RD.gskip rfl rfl rfl rfl rfl rfl (by decide) ?_
          refine RD.gskip rfl rfl rfl rfl rfl rfl (by decide) ?_
          refine RD.gskip rfl rfl rfl rfl rfl rfl (by decide) ?_
          refine RD.gskip rfl rfl rfl rfl rfl rfl (by decide) ?_
          refine RD.gskip rfl rfl rfl rfl rfl rfl (by decide) ?_
          refine RD.op rfl rfl rfl (eff_pick (v := .t _) rfl rfl rfl rfl) ?_
          refine RD.nil ?_
          refine awp_cond rfl (fun _ => ?_) (fun h => nomatch h)
          refine awp_rw rfl ?_
          refine RW.op rfl rfl (eff_move (v := .own _ _ _ _) rfl rfl rfl) ?_
          refine RW.op rfl rfl (eff_move (v := .own _ _ _ _) rfl rfl rfl) ?_
          refine RW.op rfl rfl (eff_move (v := .t _) rfl rfl rfl) ?_
          refine RW.op rfl rfl (eff_indexAddr rfl rfl te27 rfl rfl rfl rfl rfl rfl (by omega)) ?_
          refine RW.op rfl rfl (eff_load (y := .t (encI ((keepA (runS (QS q) (l.take i)) (l[i]'hil) L)[j]'(by omega)))) rfl rfl ti3 rfl (.one rfl rfl (by simp only [Nat.zero_add, List.getElem?_map, List.getElem?_eq_getElem (show j < (keepA (runS (QS q) (l.take i)) (l[i]'hil) L).length by omega)]; rfl) rfl)) ?_
          refine RW.new rfl rfl (eff_buildSlice1 (id := 95) (els := [_]) rfl rfl te27 tz3 rfl (by decide) rfl rfl rfl rfl) ?_
          refine RW.new rfl rfl (eff_append (id := 11) (ys := [_]) rfl rfl ta27 rfl rfl rfl (by rw [he2]; simp [hk2]) rfl rfl (srcOwn rfl rfl rfl rfl rfl rfl) (by simp) (by simp; omega) (by simp; omega)) ?_
          refine RW.op rfl rfl (eff_assign (v := .own _ _ _ _) rfl rfl rfl) ?_
          refine RW.nil ?_
          refine awp_rw rfl ?_
          refine RW.op rfl rfl (eff_move (v := .t _) rfl rfl rfl) ?_
          refine RW.op rfl rfl (eff_iop rfl rfl rfl rfl (iadd (by omega))) ?_
          refine RW.op rfl rfl (eff_assign (v := .t _) rfl rfl rfl) ?_
          refine RW.nil ?_
          refine ⟨_, ?_, _, weak_keep (n := 124) (fr' := [(1, .t (.sl (l.map encO) false)), (5, .ptr 5 0 0 0), (6, .own 6 gm 0 (keepA (runS (QS q) (l.take i)) (l[i]'hil) L).length), (7, .t (encI (i : Nat))), (8, .ptr 8 0 0 0), (11, .own 11 _ 0 _), (12, .t (encI ((j + 1) : Nat)))]) (st' := [(5, some ⟨4, 29, 0, [.t (encS (runS (QS q) (l.take i)))]⟩), (6, some ⟨1, 3, gm, ((keepA (runS (QS q) (l.take i)) (l[i]'hil) L).map encI).map .t⟩), (8, some ⟨4, 29, 0, [.t (encS (doS (runS (QS q) (l.take i)) (l[i]'hil)).1)]⟩), (11, some ⟨1, 3, _, _⟩)]) ⟨rfl, rfl, rfl, rfl, rfl, rfl, rfl, rfl, rfl, rfl, rfl, rfl, rfl, rfl, trivial⟩ ⟨rfl, okE_one rfl, rfl, (by first | exact okE_nil | exact okE_t | (rw [he2]; exact okE_t) | (rw [he2]; intro x hx; simp only [List.mem_append, List.mem_map, List.mem_singleton] at hx; rcases hx with ⟨y, _, rfl⟩ | rfl <;> rfl)), rfl, okE_one rfl, rfl, (by first | exact okE_nil | exact okE_t | (rw [he2]; exact okE_t) | (rw [he2]; intro x hx; simp only [List.mem_append, List.mem_map, List.mem_singleton] at hx; rcases hx with ⟨y, _, rfl⟩ | rfl <;> rfl)), trivial⟩, j + 1, _, _, _, (by omega), (by rw [keepF_take (by omega)]; first | (rw [if_pos (.inl (by assumption))]; simp [hk2]) | (rw [if_pos (.inr (by assumption))]; simp [hk2]) | (rw [if_neg (by rintro (h | h) <;> contradiction)]; simp [hk2])), (by rw [keepF_take (by omega)]; first | (rw [if_pos (.inl (by assumption))]; simp [he2, encI]) | (rw [if_pos (.inr (by assumption))]; simp [he2, encI]) | (rw [if_neg (by rintro (h | h) <;> contradiction)]; simp [he2])), rfl, rfl⟩
          omega
        · refine awp_rd [(some 72, []), (some 73, []), (some 74, []), (some 75, []), (some 76, []), (some 77, []), (some 78, []), (some 79, []), (some 80, []), (some 81, []), (some 82, []), (some 83, []), (some 84, []), (some 85, []), (some 86, []), (some 87, []), (some 88, []), (some 89, [])] [[], [], [0, 1], [0, 1, 2], [0, 1, 2, 3], [0, 1, 2, 3, 4], [0, 1, 2, 3, 4, 5], [0, 1, 2, 3, 4, 5, 6], [0, 1, 2, 3, 4, 5, 6], [0, 1, 2, 3, 4, 5, 6, 7, 8], [0, 1, 2, 3, 4, 5, 6, 7, 8, 9], [0, 1, 2, 3, 4, 5, 6], [0, 1, 2, 3, 4, 5, 6], [0, 1, 2, 3, 4, 5, 6, 11, 12], [0, 1, 2, 3, 4, 5, 6, 11, 12, 13], [0, 1, 2, 3, 4, 5, 6, 11, 12, 13, 14], [0, 1, 2, 3, 4, 5, 6, 7, 8, 9, 10, 11, 12, 13, 14, 15], [0, 1, 2, 3, 4, 5, 6, 7, 8, 9, 10, 11, 12, 13, 14, 15, 16]] tm rfl rfl rfl rfl ?_
          refine RD.op rfl rfl rfl (eff_move (v := .t _) rfl rfl rfl) ?_
          refine RD.op rfl rfl rfl (eff_move (v := .t _) rfl rfl rfl) ?_
          refine RD.op rfl rfl rfl (eff_indexM rfl rfl te23 rfl rfl rfl (by first | assumption | exact List.getElem?_eq_getElem (by omega)) rfl (by decide)) ?_
          refine RD.op rfl rfl rfl (eff_fieldAddrT rfl rfl tf40_0 (by decide) rfl) ?_
          refine RD.op rfl rfl rfl (eff_loadT1 rfl rfl ti3 rfl rfl) ?_
          refine RD.op rfl rfl rfl (eff_iop (r := .bool false) rfl rfl rfl rfl (by exact iop_neq_f (by exact Classical.not_not.1 hc6))) ?_
          refine RD.op rfl rfl rfl (eff_move (v := .t _) rfl rfl rfl) ?_
          refine RD.gop rfl rfl rfl rfl rfl rfl rfl (eff_move (v := .own _ _ _ _) rfl rfl rfl) ?_
          refine RD.gop rfl rfl rfl rfl rfl rfl rfl (eff_move (v := .t _) rfl rfl rfl) ?_
          refine RD.gop rfl rfl rfl rfl rfl rfl rfl (eff_indexAddr rfl rfl te27 rfl rfl rfl rfl rfl rfl (by omega)) ?_
          refine RD.gop rfl rfl rfl rfl rfl rfl rfl (eff_load (y := .t (encI ((keepA (runS (QS q) (l.take i)) (l[i]'hil) L)[j]'(by omega)))) rfl rfl ti3 rfl (.one rfl rfl (by simp only [Nat.zero_add, List.getElem?_map, List.getElem?_eq_getElem (show j < (keepA (runS (QS q) (l.take i)) (l[i]'hil) L).length by omega)]; rfl) rfl)) ?_
          refine RD.gop rfl rfl rfl rfl rfl rfl rfl (eff_move (v := .t _) rfl rfl rfl) ?_
          refine RD.gop rfl rfl rfl rfl rfl rfl rfl (eff_move (v := .t _) rfl rfl rfl) ?_
          refine RD.gop rfl rfl rfl rfl rfl rfl rfl (eff_indexM rfl rfl te23 rfl rfl rfl (by first | assumption | exact List.getElem?_eq_getElem (by omega)) rfl (by decide)) ?_
          refine RD.gop rfl rfl rfl rfl rfl rfl rfl (eff_fieldAddrT rfl rfl tf40_1 (by decide) rfl) ?_
          refine RD.gop rfl rfl rfl rfl rfl rfl rfl (eff_loadT1 rfl rfl ti3 rfl rfl) ?_
          refine RD.gop rfl rfl rfl rfl rfl rfl rfl (eff_iop rfl rfl rfl rfl rfl) ?_
          refine RD.op rfl rfl rfl (eff_pick (v := .t _) rfl rfl rfl rfl) ?_
          refine RD.nil ?_
          refine awp_cond rfl (fun h7 => ?_) (fun h7 => ?_)
          · try simp only [decide_eq_true_eq, decide_eq_false_iff_not, beq_iff_eq, bne_iff_ne, bne_eq_false_iff_eq, beq_eq_false_iff_ne, Bool.not_eq_true, Bool.not_eq_false, Bool.not_eq_true', Bool.not_eq_false', ne_eq] at h7
            refine awp_rw rfl ?_
            refine RW.op rfl rfl (eff_move (v := .own _ _ _ _) rfl rfl rfl) ?_
            refine RW.op rfl rfl (eff_move (v := .own _ _ _ _) rfl rfl rfl) ?_
            refine RW.op rfl rfl (eff_move (v := .t _) rfl rfl rfl) ?_
            refine RW.op rfl rfl (eff_indexAddr rfl rfl te27 rfl rfl rfl rfl rfl rfl (by omega)) ?_
            refine RW.op rfl rfl (eff_load (y := .t (encI ((keepA (runS (QS q) (l.take i)) (l[i]'hil) L)[j]'(by omega)))) rfl rfl ti3 rfl (.one rfl rfl (by simp only [Nat.zero_add, List.getElem?_map, List.getElem?_eq_getElem (show j < (keepA (runS (QS q) (l.take i)) (l[i]'hil) L).length by omega)]; rfl) rfl)) ?_
            refine RW.new rfl rfl (eff_buildSlice1 (id := 95) (els := [_]) rfl rfl te27 tz3 rfl (by decide) rfl rfl rfl rfl) ?_
            refine RW.new rfl rfl (eff_append (id := 11) (ys := [_]) rfl rfl ta27 rfl rfl rfl (by rw [he2]; simp [hk2]) rfl rfl (srcOwn rfl rfl rfl rfl rfl rfl) (by simp) (by simp; omega) (by simp; omega)) ?_
            refine RW.op rfl rfl (eff_assign (v := .own _ _ _ _) rfl rfl rfl) ?_
            refine RW.nil ?_
            refine awp_rw rfl ?_
            refine RW.op rfl rfl (eff_move (v := .t _) rfl rfl rfl) ?_
            refine RW.op rfl rfl (eff_iop rfl rfl rfl rfl (iadd (by omega))) ?_
            refine RW.op rfl rfl (eff_assign (v := .t _) rfl rfl rfl) ?_
            refine RW.nil ?_
            refine ⟨_, ?_, _, weak_keep (n := 124) (fr' := [(1, .t (.sl (l.map encO) false)), (5, .ptr 5 0 0 0), (6, .own 6 gm 0 (keepA (runS (QS q) (l.take i)) (l[i]'hil) L).length), (7, .t (encI (i : Nat))), (8, .ptr 8 0 0 0), (11, .own 11 _ 0 _), (12, .t (encI ((j + 1) : Nat)))]) (st' := [(5, some ⟨4, 29, 0, [.t (encS (runS (QS q) (l.take i)))]⟩), (6, some ⟨1, 3, gm, ((keepA (runS (QS q) (l.take i)) (l[i]'hil) L).map encI).map .t⟩), (8, some ⟨4, 29, 0, [.t (encS (doS (runS (QS q) (l.take i)) (l[i]'hil)).1)]⟩), (11, some ⟨1, 3, _, _⟩)]) ⟨rfl, rfl, rfl, rfl, rfl, rfl, rfl, rfl, rfl, rfl, rfl, rfl, rfl, rfl, trivial⟩ ⟨rfl, okE_one rfl, rfl, (by first | exact okE_nil | exact okE_t | (rw [he2]; exact okE_t) | (rw [he2]; intro x hx; simp only [List.mem_append, List.mem_map, List.mem_singleton] at hx; rcases hx with ⟨y, _, rfl⟩ | rfl <;> rfl)), rfl, okE_one rfl, rfl, (by first | exact okE_nil | exact okE_t | (rw [he2]; exact okE_t) | (rw [he2]; intro x hx; simp only [List.mem_append, List.mem_map, List.mem_singleton] at hx; rcases hx with ⟨y, _, rfl⟩ | rfl <;> rfl)), trivial⟩, j + 1, _, _, _, (by omega), (by rw [keepF_take (by omega)]; first | (rw [if_pos (.inl (by assumption))]; simp [hk2]) | (rw [if_pos (.inr (by assumption))]; simp [hk2]) | (rw [if_neg (by rintro (h | h) <;> contradiction)]; simp [hk2])), (by rw [keepF_take (by omega)]; first | (rw [if_pos (.inl (by assumption))]; simp [he2, encI]) | (rw [if_pos (.inr (by assumption))]; simp [he2, encI]) | (rw [if_neg (by rintro (h | h) <;> contradiction)]; simp [he2])), rfl, rfl⟩
            omega
          · try simp only [decide_eq_true_eq, decide_eq_false_iff_not, beq_iff_eq, bne_iff_ne, bne_eq_false_iff_eq, beq_eq_false_iff_ne, Bool.not_eq_true, Bool.not_eq_false, Bool.not_eq_true', Bool.not_eq_false', ne_eq] at h7
            refine awp_skip ?_
            refine awp_rw rfl ?_
            refine RW.op rfl rfl (eff_move (v := .t _) rfl rfl rfl) ?_
            refine RW.op rfl rfl (eff_iop rfl rfl rfl rfl (iadd (by omega))) ?_
            refine RW.op rfl rfl (eff_assign (v := .t _) rfl rfl rfl) ?_
            refine RW.nil ?_
            refine ⟨_, ?_, _, weak_keep (n := 124) (fr' := [(1, .t (.sl (l.map encO) false)), (5, .ptr 5 0 0 0), (6, .own 6 gm 0 (keepA (runS (QS q) (l.take i)) (l[i]'hil) L).length), (7, .t (encI (i : Nat))), (8, .ptr 8 0 0 0), (11, .own 11 _ 0 _), (12, .t (encI ((j + 1) : Nat)))]) (st' := [(5, some ⟨4, 29, 0, [.t (encS (runS (QS q) (l.take i)))]⟩), (6, some ⟨1, 3, gm, ((keepA (runS (QS q) (l.take i)) (l[i]'hil) L).map encI).map .t⟩), (8, some ⟨4, 29, 0, [.t (encS (doS (runS (QS q) (l.take i)) (l[i]'hil)).1)]⟩), (11, some ⟨1, 3, _, _⟩)]) ⟨rfl, rfl, rfl, rfl, rfl, rfl, rfl, rfl, rfl, rfl, rfl, rfl, rfl, rfl, trivial⟩ ⟨rfl, okE_one rfl, rfl, (by first | exact okE_nil | exact okE_t | (rw [he2]; exact okE_t) | (rw [he2]; intro x hx; simp only [List.mem_append, List.mem_map, List.mem_singleton] at hx; rcases hx with ⟨y, _, rfl⟩ | rfl <;> rfl)), rfl, okE_one rfl, rfl, (by first | exact okE_nil | exact okE_t | (rw [he2]; exact okE_t) | (rw [he2]; intro x hx; simp only [List.mem_append, List.mem_map, List.mem_singleton] at hx; rcases hx with ⟨y, _, rfl⟩ | rfl <;> rfl)), trivial⟩, j + 1, _, _, _, (by omega), (by rw [keepF_take (by omega)]; first | (rw [if_pos (.inl (by assumption))]; simp [hk2]) | (rw [if_pos (.inr (by assumption))]; simp [hk2]) | (rw [if_neg (by rintro (h | h) <;> contradiction)]; simp [hk2])), (by rw [keepF_take (by omega)]; first | (rw [if_pos (.inl (by assumption))]; simp [he2, encI]) | (rw [if_pos (.inr (by assumption))]; simp [he2, encI]) | (rw [if_neg (by rintro (h | h) <;> contradiction)]; simp [he2])), rfl, rfl⟩
            omega
      · try simp only [decide_eq_true_eq, decide_eq_false_iff_not, beq_iff_eq, bne_iff_ne, bne_eq_false_iff_eq, beq_eq_false_iff_ne, Bool.not_eq_true, Bool.not_eq_false, Bool.not_eq_true', Bool.not_eq_false', ne_eq] at h5
        refine awp_exit ?_
        refine awp_seq ?_
        refine awp_rw rfl ?_
        have hj2 : j = (keepA (runS (QS q) (l.take i)) (l[i]'hil) L).length := by omega
        rw [hj2, List.take_length] at hk2 he2
        subst hk2
        subst he2
        refine RW.op rfl rfl (eff_move (v := .own _ _ _ _) rfl rfl rfl) ?_
        refine RW.op rfl rfl (eff_assign (v := .own _ _ _ _) rfl rfl rfl) ?_
        refine RW.nil ?_
        show AWP _ _ _ _
        refine awp_weak ((weak_keep (n := 124) (fr' := [(1, .t (.sl (l.map encO) false)), (5, .ptr 5 0 0 0), (6, .own 11 g2 0 (keepF (l[i]'hil) (keepA (runS (QS q) (l.take i)) (l[i]'hil) L)).length), (7, .t (encI (i : Nat))), (8, .ptr 8 0 0 0)]) (st' := [(5, some ⟨4, 29, 0, [.t (encS (runS (QS q) (l.take i)))]⟩), (8, some ⟨4, 29, 0, [.t (encS (doS (runS (QS q) (l.take i)) (l[i]'hil)).1)]⟩), (11, some ⟨1, 3, g2, ((keepF (l[i]'hil) (keepA (runS (QS q) (l.take i)) (l[i]'hil) L)).map encI).map .t⟩)]) ⟨rfl, rfl, rfl, rfl, rfl, rfl, rfl, rfl, rfl, rfl, trivial⟩ ⟨rfl, okE_one rfl, rfl, okE_one rfl, rfl, okE_t, trivial⟩).trans (weak_ren (fr' := [(1, .t (.sl (l.map encO) false)), (5, .ptr 5 0 0 0), (6, .own 6 g2 0 (keepF (l[i]'hil) (keepA (runS (QS q) (l.take i)) (l[i]'hil) L)).length), (7, .t (encI (i : Nat))), (8, .ptr 8 0 0 0)]) (st' := [(5, some ⟨4, 29, 0, [.t (encS (runS (QS q) (l.take i)))]⟩), (8, some ⟨4, 29, 0, [.t (encS (doS (runS (QS q) (l.take i)) (l[i]'hil)).1)]⟩), (6, some ⟨1, 3, g2, ((keepF (l[i]'hil) (keepA (runS (QS q) (l.take i)) (l[i]'hil) L)).map encI).map .t⟩)]) (fun n => if n = 11 then 6 else n) rfl ⟨treeL_one, treeL_one, treeL_t, trivial⟩ ⟨rfl, .inl (.t _), rfl, .inl (.ptr _ _ _ _ rfl rfl), rfl, .inl (.own _ _ _ _ rfl rfl), rfl, .inl (.t _), rfl, .inl (.ptr _ _ _ _ rfl rfl), trivial⟩ rfl)) ?_
        refine awp_seq ?_
        refine awp_seq ?_
        refine awp_rw rfl ?_
        refine RW.op rfl rfl (eff_load rfl rfl ti29 rfl (.whole rfl rfl rfl rfl rfl rfl)) ?_
        refine RW.op rfl rfl (eff_callT (valid_ret 61 (doS (runS (QS q) (l.take i)) (l[i]'hil)).1 (by omega) hVt) co21 rfl rfl rfl rfl) ?_
        refine RW.op rfl rfl (eff_unop rfl rfl rfl rfl) ?_
        refine RW.op rfl rfl (eff_move (v := .t _) rfl rfl rfl) ?_
        refine RW.gop rfl rfl rfl rfl rfl rfl (eff_fieldAddr rfl rfl tf29_1 (by decide) rfl rfl rfl (Nat.le_of_ble_eq_true rfl)) ?_
        refine RW.gop rfl rfl rfl rfl rfl rfl (eff_load (y := .t _) rfl rfl ti26 rfl (.one rfl rfl rfl rfl)) ?_
        refine RW.gop rfl rfl rfl rfl rfl rfl (eff_lenM rfl rfl te26 rfl) ?_
        refine RW.gop rfl rfl rfl rfl rfl rfl (eff_move (v := .own _ _ _ _) rfl rfl rfl) ?_
        refine RW.gop rfl rfl rfl rfl rfl rfl (eff_len rfl rfl te27 rfl rfl rfl) ?_
        refine RW.gop rfl rfl rfl rfl rfl rfl (eff_iop (r := .bool false) rfl rfl rfl rfl (by exact iop_neq_f (by rw [hNl]))) ?_
        refine RW.op rfl rfl (eff_pick (v := .t _) rfl rfl rfl rfl) ?_
        refine RW.nil ?_
        refine awp_cond rfl (fun h => nomatch h) (fun _ => ?_)
        refine awp_skip ?_
        refine awp_seq ?_
        refine awp_seq ?_
        refine awp_rw rfl ?_
        refine RW.op rfl rfl (eff_assign (v := .t _) rfl rfl rfl) ?_
        refine RW.nil ?_
        refine awp_block ?_
        refine awp_loopW (fun m s => ∃ (c : Nat), (c ≤ (keepF (l[i]'hil) (keepA (runS (QS q) (l.take i)) (l[i]'hil) L)).length) ∧ m = (keepF (l[i]'hil) (keepA (runS (QS q) (l.take i)) (l[i]'hil) L)).length - c ∧ s = ⟨124, [(1, .t (.sl (l.map encO) false)), (5, .ptr 5 0 0 0), (6, .own 6 g2 0 (keepF (l[i]'hil) (keepA (runS (QS q) (l.take i)) (l[i]'hil) L)).length), (7, .t (encI (i : Nat))), (8, .ptr 8 0 0 0), (13, .t (encI (c : Nat)))], [(5, some ⟨4, 29, 0, [.t (encS (runS (QS q) (l.take i)))]⟩), (6, some ⟨1, 3, g2, ((keepF (l[i]'hil) (keepA (runS (QS q) (l.take i)) (l[i]'hil) L)).map encI).map .t⟩), (8, some ⟨4, 29, 0, [.t (encS (doS (runS (QS q) (l.take i)) (l[i]'hil)).1)]⟩)]⟩) (_) (⟨_, weak_keep (n := 124) (fr' := [(1, .t (.sl (l.map encO) false)), (5, .ptr 5 0 0 0), (6, .own 6 g2 0 (keepF (l[i]'hil) (keepA (runS (QS q) (l.take i)) (l[i]'hil) L)).length), (7, .t (encI (i : Nat))), (8, .ptr 8 0 0 0), (13, .t (encI (0 : Nat)))]) (st' := [(5, some ⟨4, 29, 0, [.t (encS (runS (QS q) (l.take i)))]⟩), (6, some ⟨1, 3, g2, ((keepF (l[i]'hil) (keepA (runS (QS q) (l.take i)) (l[i]'hil) L)).map encI).map .t⟩), (8, some ⟨4, 29, 0, [.t (encS (doS (runS (QS q) (l.take i)) (l[i]'hil)).1)]⟩)]) ⟨rfl, rfl, rfl, rfl, rfl, rfl, rfl, rfl, rfl, rfl, rfl, rfl, trivial⟩ ⟨rfl, okE_one rfl, rfl, (by first | exact okE_nil | exact okE_t | (rw [he2]; exact okE_t) | (rw [he2]; intro x hx; simp only [List.mem_append, List.mem_map, List.mem_singleton] at hx; rcases hx with ⟨y, _, rfl⟩ | rfl <;> rfl)), rfl, okE_one rfl, trivial⟩, 0, (by omega), rfl, rfl⟩) ?_
        rintro m s ⟨c, hc, rfl, rfl⟩
        refine awp_seq ?_
        refine awp_seq ?_
        refine awp_rw rfl ?_
        refine RW.op rfl rfl (eff_move (v := .t _) rfl rfl rfl) ?_
        refine RW.op rfl rfl (eff_move (v := .own _ _ _ _) rfl rfl rfl) ?_
        refine RW.op rfl rfl (eff_len rfl rfl te27 rfl rfl rfl) ?_
        refine RW.op rfl rfl (eff_iop rfl rfl rfl rfl rfl) ?_
        refine RW.nil ?_
        refine awp_cond rfl (fun h8 => ?_) (fun h8 => ?_)
        · try simp only [decide_eq_true_eq, decide_eq_false_iff_not, beq_iff_eq, bne_iff_ne, bne_eq_false_iff_eq, beq_eq_false_iff_ne, Bool.not_eq_true, Bool.not_eq_false, Bool.not_eq_true', Bool.not_eq_false', ne_eq] at h8
          refine awp_skip ?_
          refine awp_seq ?_
          refine awp_block ?_
          refine awp_seq ?_
          refine awp_rd [(some 115, []), (some 116, []), (some 117, []), (some 118, []), (some 119, []), (some 120, []), (some 121, [])] [[], [], [], [1, 2], [1, 2, 3], [0, 1, 2, 3, 4], [0, 1, 2, 3, 4, 5]] tm rfl rfl rfl rfl ?_
          refine RD.op rfl rfl rfl (eff_load rfl rfl ti29 rfl (.whole rfl rfl rfl rfl rfl rfl)) ?_
          refine RD.op rfl rfl rfl (eff_move (v := .own _ _ _ _) rfl rfl rfl) ?_
          refine RD.op rfl rfl rfl (eff_move (v := .t _) rfl rfl rfl) ?_
          refine RD.op rfl rfl rfl (eff_indexAddr rfl rfl te27 rfl rfl rfl rfl rfl rfl (by omega)) ?_
          refine RD.op rfl rfl rfl (eff_load (y := .t (encI ((keepF (l[i]'hil) (keepA (runS (QS q) (l.take i)) (l[i]'hil) L))[c]'(by omega)))) rfl rfl ti3 rfl (.one rfl rfl (by simp only [Nat.zero_add, List.getElem?_map, List.getElem?_eq_getElem (show c < (keepF (l[i]'hil) (keepA (runS (QS q) (l.take i)) (l[i]'hil) L)).length by omega)]; rfl) rfl)) ?_
          refine RD.op rfl rfl rfl (eff_callT (count_ret (doS (runS (QS q) (l.take i)) (l[i]'hil)).1 ((keepF (l[i]'hil) (keepA (runS (QS q) (l.take i)) (l[i]'hil) L))[c]'(by omega)) (hVt.sok (by omega))) co22 rfl rfl rfl rfl) ?_
          refine RD.op rfl rfl rfl (eff_iop (r := .bool false) rfl rfl rfl rfl (by exact iop_neq_f (by exact count_one hVt (hN.mem_iff.1 (List.getElem_mem _))))) ?_
          refine RD.nil ?_
          refine awp_cond rfl (fun h => nomatch h) (fun _ => ?_)
          refine awp_skip ?_
          refine awp_rw rfl ?_
          refine RW.op rfl rfl (eff_move (v := .t _) rfl rfl rfl) ?_
          refine RW.op rfl rfl (eff_iop rfl rfl rfl rfl (iadd (by omega))) ?_
          refine RW.op rfl rfl (eff_assign (v := .t _) rfl rfl rfl) ?_
          refine RW.nil ?_
          refine ⟨_, ?_, _, weak_keep (n := 124) (fr' := [(1, .t (.sl (l.map encO) false)), (5, .ptr 5 0 0 0), (6, .own 6 g2 0 (keepF (l[i]'hil) (keepA (runS (QS q) (l.take i)) (l[i]'hil) L)).length), (7, .t (encI (i : Nat))), (8, .ptr 8 0 0 0), (13, .t (encI ((c + 1) : Nat)))]) (st' := [(5, some ⟨4, 29, 0, [.t (encS (runS (QS q) (l.take i)))]⟩), (6, some ⟨1, 3, g2, ((keepF (l[i]'hil) (keepA (runS (QS q) (l.take i)) (l[i]'hil) L)).map encI).map .t⟩), (8, some ⟨4, 29, 0, [.t (encS (doS (runS (QS q) (l.take i)) (l[i]'hil)).1)]⟩)]) ⟨rfl, rfl, rfl, rfl, rfl, rfl, rfl, rfl, rfl, rfl, rfl, rfl, trivial⟩ ⟨rfl, okE_one rfl, rfl, (by first | exact okE_nil | exact okE_t | (rw [he2]; exact okE_t) | (rw [he2]; intro x hx; simp only [List.mem_append, List.mem_map, List.mem_singleton] at hx; rcases hx with ⟨y, _, rfl⟩ | rfl <;> rfl)), rfl, okE_one rfl, trivial⟩, c + 1, (by omega), rfl, rfl⟩
          omega
        · try simp only [decide_eq_true_eq, decide_eq_false_iff_not, beq_iff_eq, bne_iff_ne, bne_eq_false_iff_eq, beq_eq_false_iff_ne, Bool.not_eq_true, Bool.not_eq_false, Bool.not_eq_true', Bool.not_eq_false', ne_eq] at h8
          refine awp_exit ?_
          refine awp_rw rfl ?_
          refine RW.op rfl rfl (eff_load rfl rfl ti29 rfl (.whole rfl rfl rfl rfl rfl rfl)) ?_
          refine RW.store rfl rfl (eff_storeW (v := .t _) (els := [_]) (els' := [_]) rfl rfl ti29 rfl rfl rfl rfl rfl rfl rfl rfl rfl) ?_
          refine RW.nil ?_
          refine awp_rw rfl ?_
          refine RW.op rfl rfl (eff_move (v := .t _) rfl rfl rfl) ?_
          refine RW.op rfl rfl (eff_iop rfl rfl rfl rfl (iadd (by omega))) ?_
          refine RW.op rfl rfl (eff_assign (v := .t _) rfl rfl rfl) ?_
          refine RW.nil ?_
          refine ⟨_, ?_, _, weak_keep (n := 124) (fr' := [(1, .t (.sl (l.map encO) false)), (5, .ptr 5 0 0 0), (6, .own 6 _ 0 ((keepF (l[i]'hil) (keepA (runS (QS q) (l.take i)) (l[i]'hil) L))).length), (7, .t (encI ((i + 1) : Nat)))]) (st' := [(5, some ⟨4, 29, 0, [.t (encS (runS (QS q) (l.take (i + 1))))]⟩), (6, some ⟨1, 3, _, (((keepF (l[i]'hil) (keepA (runS (QS q) (l.take i)) (l[i]'hil) L))).map encI).map .t⟩)]) ⟨rfl, rfl, rfl, rfl, rfl, rfl, rfl, rfl, trivial⟩ ⟨(by first | rfl | (rw [runS_step (by omega)]; rfl)), okE_one rfl, rfl, (by first | exact okE_nil | exact okE_t), trivial⟩, i + 1, (keepF (l[i]'hil) (keepA (runS (QS q) (l.take i)) (l[i]'hil) L)), _, (by omega), (by rw [runS_step (by omega)]; exact hN), rfl, rfl⟩
          omega
  · try simp only [decide_eq_true_eq, decide_eq_false_iff_not, beq_iff_eq, bne_iff_ne, bne_eq_false_iff_eq, beq_eq_false_iff_ne, Bool.not_eq_true, Bool.not_eq_false, Bool.not_eq_true', Bool.not_eq_false', ne_eq] at h1
    refine awp_exit ?_
    refine awp_seq ?_
    refine awp_rw rfl ?_
    refine RW.op rfl rfl (eff_callT (lives_ret) co10 rfl rfl rfl rfl) ?_
    refine RW.op rfl rfl (eff_assign (v := .t _) rfl rfl rfl) ?_
    refine RW.nil ?_
    refine awp_ret ?_
    exact ⟨Or.inr rfl, [_], ⟨.tmp (.t _), trivial⟩, .refl _⟩

theorem validN (q : Int) (hq : 0 ≤ q ∧ q < 65536) (l : List Opn) (hl : l.length ≤ 9223372036854775807) (hB : OpsOK l) (hsh : ¬ ((∀ o, o ∈ l → o.bundle.data.length ≤ 300) ∧ (l.length : Int) ≤ 60)) : Ret Try.prog 4 [.int .u16 q, .sl (l.map encO) false] (.bool true) := by
  refine ret_of_awp Try.func4 rfl (Nat.le_of_ble_eq_true rfl) ?_
  refine awp_seq ?_
  refine awp_rw rfl ?_
  refine RW.op rfl rfl (eff_assign (v := .t _) rfl rfl rfl) ?_
  refine RW.nil ?_
  refine awp_seq ?_
  refine awp_seq ?_
  refine awp_rw rfl ?_
  refine RW.op rfl rfl (eff_move (v := .t _) rfl rfl rfl) ?_
  refine RW.op rfl rfl (eff_callT ((by have h := short_ret l 60 hl; rw [decide_eq_false hsh] at h; exact h)) co9 rfl rfl rfl rfl) ?_
  refine RW.op rfl rfl (eff_unop rfl rfl rfl rfl) ?_
  refine RW.nil ?_
  refine awp_cond rfl (fun _ => ?_) (fun h => nomatch h)
  refine awp_seq ?_
  refine awp_rw rfl ?_
  refine RW.op rfl rfl (eff_callT (lives_ret) co10 rfl rfl rfl rfl) ?_
  refine RW.op rfl rfl (eff_assign (v := .t _) rfl rfl rfl) ?_
  refine RW.nil ?_
  refine awp_ret ?_
  exact ⟨Or.inr rfl, [_], ⟨.tmp (.t _), trivial⟩, .refl _⟩

theorem custValid_ret (q : Int) (hq : 0 ≤ q ∧ q < 65536) (l : List Opn) (hl : l.length ≤ 9223372036854775807) (hB : OpsOK l) : Ret Try.prog 4 [.int .u16 q, .sl (l.map encO) false] (.bool true) := by
  by_cases hsh : (∀ o, o ∈ l → o.bundle.data.length ≤ 300) ∧ (l.length : Int) ≤ 60
  · exact validY q hq l hl hB hsh
  · exact validN q hq l hl hB hsh

end Go.Tv.C27

end
section
namespace Go.Proofs.Ytgicknpbpdfadaa
open Go Go.Tv Go.Tv.C27 Go.ChangeShapes Go.WideShapes Go.ChangeAt Go.RowKit
set_option linter.unusedVariables false
set_option maxRecDepth 100000
theorem custodyValid_contract (H : Type) (enc : TypeId × Value → H) (W : World) (base : Nat) (args : Array Value) (ds gs : List (DataW H)) (before : List MemPlace)
    (hval : ∀ (j : Nat) t v, Try.f4.params[j]? = some t → args[j]? = some v → Value.okWide Try.prog W .any base t v)
    (hW : DataW.Whole enc Try.prog Try.f4.params.toList Rows.custodyValidSpec.vars false W args.toList ds gs before) :
    Calls Try.prog 4 args W fun e W' => ∃ v, e = .returned v ∧ Rows.custodyValidSpec.post enc Try.prog Try.f4 false true false false W args v W' := by
  have hW' := hW
  obtain ⟨p, q, hA0, hV, rfl, hfz, hnd⟩ := hW
  have hA : DataW.TrodAll enc Try.prog W 0 (fun _ => true) true Try.f4.params.toList args.toList ds p := hA0
  rw [Try.params4] at hA hval
  obtain ⟨v0, vs0, d0, ds0, p0, q0, hargs, rfl, rfl, h0, r0⟩ := trodAll_cons hA
  obtain ⟨v1, vs1, d1, ds1, p1, q1, rfl, rfl, rfl, h1, r1⟩ := trodAll_cons r0
  obtain ⟨rfl, rfl, rfl⟩ := trodAll_nil r1
  obtain rfl : args = #[v0, v1] := by cases args; simp_all
  obtain ⟨rfl, rfl⟩ := trodVars_none hV
  have k0 := hval 0 22 v0 rfl rfl
  obtain ⟨q, rfl, wq⟩ := arg_int Try.underlying22 k0 h0
  have hq := wf_u16 wq
  have k1 := hval 1 23 v1 rfl rfl
  obtain ⟨x1, hx1, l, hl, hm, hB⟩ := arg_slice Try.underlying23 rd23 k1 h1
  obtain rfl : x1 = .sl (l.map encO) false := by simpa using hl
  unfold maxLen at hm
  have hm2 : l.length ≤ 9223372036854775807 := by simpa using hm
  refine (law_calls (custValid_ret q hq l hm2 hB) (vl_cons (.int .u16 q) (vl_cons hx1 vl_nil))).mono ?_
  rintro e W' ⟨rfl, hb⟩
  refine ⟨_, rfl, law_post (P := Try.prog) (by kernel_rfl) rfl (fun t ht => ?_) rfl Try.underlying4 hW' ⟨rfl, rfl, rfl⟩ hb⟩
  rw [Try.params4] at ht
  simp only [List.mem_cons, List.not_mem_nil, or_false] at ht
  rcases ht with rfl | rfl <;> exact ⟨by kernel_rfl, Nat.le_of_ble_eq_true (by kernel_rfl)⟩

theorem custodyValid_lifted (os : Os) (started : os.Started) (H : Type) (enc : TypeId × Value → H) :
    ReturnsInHanded {} Try.checked os 4 .any (Rows.custodyValidSpec.pre6 enc Try.prog Try.f4 Rows.custodyValidRow.domain false) (Rows.custodyValidSpec.post enc Try.prog Try.f4 false true false false) := by
  refine returnsInHanded_of_change (C := Try.checked) (by kernel_rfl) started (by kernel_rfl) Try.func4
    (ChangeSpec.witness6 (enc := enc) (C := Try.checked) false ⟨#[], #[.int .u16 0, .slice none 0 0], []⟩ 8 (by kernel_rfl) (by kernel_rfl) (by kernel_rfl) (by kernel_rfl)) ?_
  intro W base args ds gs before hval hW _ _
  exact custodyValid_contract H enc W base args ds gs before hval hW

theorem custodyValid_holds : Rows.CustodyValidSaid :=
  OpenClaim.holds_of_wide 4 Try.f4 rfl rfl rfl rfl rfl rfl rfl ⟨rfl, rfl, rfl, rfl, rfl⟩ rfl rfl rfl rfl rfl (by kernel_rfl) Try.func4 (by kernel_rfl)
    (of_decide_eq_true (by kernel_rfl)) (by unfold Func.isWrapper; first | (rw [if_pos (by decide +kernel)]; kernel_rfl) | (rw [if_neg (by decide +kernel)]; exact ⟨rfl, rfl⟩))
    (fun os started H enc _ => custodyValid_lifted os started H enc)

end Go.Proofs.Ytgicknpbpdfadaa

end
