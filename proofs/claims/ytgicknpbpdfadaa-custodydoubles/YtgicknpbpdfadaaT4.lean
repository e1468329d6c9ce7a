/- CustodyDoubles: for every input that reads as data, the call returns true and leaves its arguments as they were. No condition. -/
import Derived.Test.YtgicknpbpdfadaaT3
import Derived.Test.YtgicknpbpdfadaaRows
section
open Go Go.Tv Go.Proofs
namespace Go.Tv.C27
set_option maxRecDepth 20000
set_option maxHeartbeats 2000000
set_option linter.unusedSimpArgs false
set_option linter.unusedVariables false
theorem doublesN1 (q : Int) (hq : 0 ≤ q ∧ q < 65536) (l : List Opn) (hl : l.length ≤ 9223372036854775807) (hB : OpsOK l) (b : Bundle) (hbb : Bytes b.data) (hsh : ¬ ((∀ o, o ∈ l → o.bundle.data.length ≤ 300) ∧ (l.length : Int) ≤ 40)) : Ret Try.prog 5 [.int .u16 q, .sl (l.map encO) false, encB b] (.bool true) := by
  refine ret_of_awp Try.func5 rfl (Nat.le_of_ble_eq_true rfl) ?_
  refine awp_seq ?_
  refine awp_rw rfl ?_
  refine RW.new rfl rfl (eff_boxK (v := .t _) (k := 8) (id := 5) rfl rfl rfl rfl rfl rfl) ?_
  refine RW.op rfl rfl (eff_assign (v := .t _) rfl rfl rfl) ?_
  refine RW.nil ?_
  refine awp_seq ?_
  refine awp_seq ?_
  refine awp_rw rfl ?_
  refine RW.op rfl rfl (eff_move (v := .t _) rfl rfl rfl) ?_
  refine RW.op rfl rfl (eff_callT ((by have h := short_ret l 40 hl; rw [decide_eq_false hsh] at h; exact h)) co9 rfl rfl rfl rfl) ?_
  refine RW.op rfl rfl (eff_unop rfl rfl rfl rfl) ?_
  refine RW.op rfl rfl (eff_move (v := .t _) rfl rfl rfl) ?_
  refine RW.gskip rfl rfl rfl rfl rfl (by decide) ?_
  refine RW.gskip rfl rfl rfl rfl rfl (by decide) ?_
  refine RW.gskip rfl rfl rfl rfl rfl (by decide) ?_
  refine RW.gskip rfl rfl rfl rfl rfl (by decide) ?_
  refine RW.gskip rfl rfl rfl rfl rfl (by decide) ?_
  refine RW.op rfl rfl (eff_pick (v := .t _) rfl rfl rfl rfl) ?_
  refine RW.nil ?_
  refine awp_cond rfl (fun _ => ?_) (fun h => nomatch h)
  refine awp_seq ?_
  refine awp_rw rfl ?_
  refine RW.op rfl rfl (eff_callT (lives_ret) co10 rfl rfl rfl rfl) ?_
  refine RW.op rfl rfl (eff_assign (v := .t _) rfl rfl rfl) ?_
  refine RW.nil ?_
  refine awp_ret ?_
  exact ⟨Or.inr rfl, [_], ⟨.tmp (.t _), trivial⟩, .refl _⟩

theorem doublesN2 (q : Int) (hq : 0 ≤ q ∧ q < 65536) (l : List Opn) (hl : l.length ≤ 9223372036854775807) (hB : OpsOK l) (b : Bundle) (hbb : Bytes b.data) (hsh : (∀ o, o ∈ l → o.bundle.data.length ≤ 300) ∧ (l.length : Int) ≤ 40) (hb : 256 < b.data.length) : Ret Try.prog 5 [.int .u16 q, .sl (l.map encO) false, encB b] (.bool true) := by
  refine ret_of_awp Try.func5 rfl (Nat.le_of_ble_eq_true rfl) ?_
  refine awp_seq ?_
  refine awp_rw rfl ?_
  refine RW.new rfl rfl (eff_boxK (v := .t _) (k := 8) (id := 5) rfl rfl rfl rfl rfl rfl) ?_
  refine RW.op rfl rfl (eff_assign (v := .t _) rfl rfl rfl) ?_
  refine RW.nil ?_
  refine awp_seq ?_
  refine awp_seq ?_
  refine awp_rw rfl ?_
  refine RW.op rfl rfl (eff_move (v := .t _) rfl rfl rfl) ?_
  refine RW.op rfl rfl (eff_callT ((by have h := short_ret l 40 hl; rw [decide_eq_true hsh] at h; exact h)) co9 rfl rfl rfl rfl) ?_
  refine RW.op rfl rfl (eff_unop rfl rfl rfl rfl) ?_
  refine RW.op rfl rfl (eff_move (v := .t _) rfl rfl rfl) ?_
  refine RW.gop rfl rfl rfl rfl rfl rfl (eff_fieldAddr rfl rfl tf38_3 (by decide) rfl rfl rfl (Nat.le_of_ble_eq_true rfl)) ?_
  refine RW.gop rfl rfl rfl rfl rfl rfl (eff_fieldAddr rfl rfl tf36_4 (by decide) rfl rfl rfl (Nat.le_of_ble_eq_true rfl)) ?_
  refine RW.gop rfl rfl rfl rfl rfl rfl (eff_load (y := .t _) rfl rfl ti34 rfl (.one rfl rfl rfl rfl)) ?_
  refine RW.gop rfl rfl rfl rfl rfl rfl (eff_lenM rfl rfl te34 rfl) ?_
  refine RW.gop rfl rfl rfl rfl rfl rfl (eff_iop (r := .bool true) rfl rfl rfl rfl (by exact iop_gtr_t (by omega))) ?_
  refine RW.op rfl rfl (eff_pick (v := .t _) rfl rfl rfl rfl) ?_
  refine RW.nil ?_
  refine awp_cond rfl (fun _ => ?_) (fun h => nomatch h)
  refine awp_seq ?_
  refine awp_rw rfl ?_
  refine RW.op rfl rfl (eff_callT (lives_ret) co10 rfl rfl rfl rfl) ?_
  refine RW.op rfl rfl (eff_assign (v := .t _) rfl rfl rfl) ?_
  refine RW.nil ?_
  refine awp_ret ?_
  exact ⟨Or.inr rfl, [_], ⟨.tmp (.t _), trivial⟩, .refl _⟩

theorem doublesE9 (q : Int) (hq : 0 ≤ q ∧ q < 65536) (l : List Opn) (hl : l.length ≤ 9223372036854775807) (hB : OpsOK l) (b : Bundle) (hbb : Bytes b.data) (hsh : (∀ o, o ∈ l → o.bundle.data.length ≤ 300) ∧ (l.length : Int) ≤ 40) (hb : b.data.length ≤ 256) (hV : VInv 40 (runS (QS q) l)) (hA : accept (runS (QS q) l) b = (zs, false, 9)) : Ret Try.prog 5 [.int .u16 q, .sl (l.map encO) false, encB b] (.bool true) := by
  refine ret_of_awp Try.func5 rfl (Nat.le_of_ble_eq_true rfl) ?_
  refine awp_seq ?_
  refine awp_rw rfl ?_
  refine RW.new rfl rfl (eff_boxK (v := .t _) (k := 8) (id := 5) rfl rfl rfl rfl rfl rfl) ?_
  refine RW.op rfl rfl (eff_assign (v := .t _) rfl rfl rfl) ?_
  refine RW.nil ?_
  refine awp_seq ?_
  refine awp_seq ?_
  refine awp_rw rfl ?_
  refine RW.op rfl rfl (eff_move (v := .t _) rfl rfl rfl) ?_
  refine RW.op rfl rfl (eff_callT ((by have h := short_ret l 40 hl; rw [decide_eq_true hsh] at h; exact h)) co9 rfl rfl rfl rfl) ?_
  refine RW.op rfl rfl (eff_unop rfl rfl rfl rfl) ?_
  refine RW.op rfl rfl (eff_move (v := .t _) rfl rfl rfl) ?_
  refine RW.gop rfl rfl rfl rfl rfl rfl (eff_fieldAddr rfl rfl tf38_3 (by decide) rfl rfl rfl (Nat.le_of_ble_eq_true rfl)) ?_
  refine RW.gop rfl rfl rfl rfl rfl rfl (eff_fieldAddr rfl rfl tf36_4 (by decide) rfl rfl rfl (Nat.le_of_ble_eq_true rfl)) ?_
  refine RW.gop rfl rfl rfl rfl rfl rfl (eff_load (y := .t _) rfl rfl ti34 rfl (.one rfl rfl rfl rfl)) ?_
  refine RW.gop rfl rfl rfl rfl rfl rfl (eff_lenM rfl rfl te34 rfl) ?_
  refine RW.gop rfl rfl rfl rfl rfl rfl (eff_iop (r := .bool false) rfl rfl rfl rfl (by exact iop_gtr_f (by omega))) ?_
  refine RW.op rfl rfl (eff_pick (v := .t _) rfl rfl rfl rfl) ?_
  refine RW.nil ?_
  refine awp_cond rfl (fun h => nomatch h) (fun _ => ?_)
  refine awp_skip ?_
  refine awp_seq ?_
  refine awp_rw rfl ?_
  refine RW.op rfl rfl (eff_move (v := .t _) rfl rfl rfl) ?_
  refine RW.op rfl rfl (eff_convIntE (m := q) rfl rfl (by rw [tu22]; rfl) tu3 rfl (wrap64 (by omega) (by omega))) ?_
  refine RW.op rfl rfl (eff_remE (r := q % 2001) rfl rfl rfl rfl (by decide) (tmod_pos hq.1)) ?_
  refine RW.op rfl rfl (eff_buildT (ys := [_, _, _, _]) rfl rfl tz29 tg29 rfl) ?_
  refine RW.new rfl rfl (eff_allocK (k := 4) (id := 7) rfl rfl tz29 rfl rfl) ?_
  refine RW.store rfl rfl (eff_storeW (v := .t _) (els := [_]) (els' := [_]) rfl rfl ti29 rfl rfl rfl rfl rfl rfl rfl rfl rfl) ?_
  refine RW.nil ?_
  show AWP _ _ _ _
  refine awp_weak (weak_wkOb (id := 7) (QSc q) rfl ⟨.refl _, .sl _, .sl _, .sl _, trivial⟩) ?_
  refine awp_seq ?_
  refine awp_seq ?_
  refine awp_rw rfl ?_
  refine RW.op rfl rfl (eff_assign (v := .t _) rfl rfl rfl) ?_
  refine RW.nil ?_
  refine awp_block ?_
  refine awp_loopW (fun m s => ∃ (i : Nat), (i ≤ l.length) ∧ m = l.length - i ∧ s = ⟨154, [(5, .ptr 5 0 0 0), (1, .t (.sl (l.map encO) false)), (7, .ptr 7 0 0 0), (8, .t (encI (i : Nat)))], [(5, some ⟨8, 38, 0, [.t (encB b)]⟩), (7, some ⟨4, 29, 0, [.t (encS (runS (QS q) (l.take i)))]⟩)]⟩) (_) (⟨_, weak_keep (n := 154) (fr' := [(5, .ptr 5 0 0 0), (1, .t (.sl (l.map encO) false)), (7, .ptr 7 0 0 0), (8, .t (encI (0 : Nat)))]) (st' := [(5, some ⟨8, 38, 0, [.t (encB b)]⟩), (7, some ⟨4, 29, 0, [.t (encS (runS (QS q) (l.take 0)))]⟩)]) ⟨rfl, rfl, rfl, rfl, rfl, rfl, rfl, rfl, trivial⟩ ⟨rfl, okE_one rfl, (by first | rfl | (rw [runS_step (by omega)]; rfl)), okE_one rfl, trivial⟩, 0, (by omega), rfl, rfl⟩) ?_
  rintro m s ⟨i, hi, rfl, rfl⟩
  have hlen := hsh.2
  refine awp_seq ?_
  refine awp_seq ?_
  refine awp_rw rfl ?_
  refine RW.op rfl rfl (eff_move (v := .t _) rfl rfl rfl) ?_
  refine RW.op rfl rfl (eff_move (v := .t _) rfl rfl rfl) ?_
  refine RW.op rfl rfl (eff_lenM rfl rfl te23 rfl) ?_
  refine RW.op rfl rfl (eff_iop rfl rfl rfl rfl rfl) ?_
  refine RW.nil ?_
  refine awp_cond rfl (fun h1 => ?_) (fun h1 => ?_)
  · try simp only [decide_eq_true_eq, decide_eq_false_iff_not, beq_iff_eq, bne_iff_ne, bne_eq_false_iff_eq, beq_eq_false_iff_ne, Bool.not_eq_true, Bool.not_eq_false, Bool.not_eq_true', Bool.not_eq_false', ne_eq] at h1
    refine awp_skip ?_
    refine awp_seq ?_
    refine awp_block ?_
    refine awp_rd [(some 42, []), (some 43, []), (some 44, []), (some 45, []), (some 46, []), (some 47, []), (some 41, []), (some 48, []), (some 49, []), (some 50, []), (none, [7])] [[], [], [], [1, 2], [1, 2, 3], [0, 1, 2, 3, 4], [0, 1, 2, 3, 4, 5], [0, 1, 2, 3, 4, 5, 6], [0, 1, 2, 3, 4, 5, 6], [0, 1, 2, 3, 4, 5, 6], [0, 1, 2, 3, 4, 5, 6, 7]] tm rfl rfl rfl rfl ?_
    refine RD.op rfl rfl rfl (eff_load rfl rfl ti29 rfl (.whole rfl rfl rfl rfl rfl rfl)) ?_
    refine RD.op rfl rfl rfl (eff_move (v := .t _) rfl rfl rfl) ?_
    refine RD.op rfl rfl rfl (eff_move (v := .t _) rfl rfl rfl) ?_
    refine RD.op rfl rfl rfl (eff_indexM rfl rfl te23 rfl rfl rfl (by first | assumption | exact List.getElem?_eq_getElem (by omega)) rfl (by decide)) ?_
    refine RD.op rfl rfl rfl (eff_loadW rfl rfl ti40 rfl rfl rfl) ?_
    refine RD.op rfl rfl rfl (eff_callT (do_ret 40 (runS (QS q) (l.take i)) (l[i]'(by omega)) (by omega) ((run_inv hq.1 hB i (by omega)).mono (by omega)) (short_bok hsh.1 (by omega))) co11 rfl rfl rfl rfl) ?_
    refine RD.op rfl rfl rfl (eff_move (v := .t _) rfl rfl rfl) ?_
    refine RD.op rfl rfl rfl (eff_extract rfl rfl rfl rfl) ?_
    refine RD.op rfl rfl rfl (eff_extract rfl rfl rfl rfl) ?_
    refine RD.op rfl rfl rfl (eff_extract rfl rfl rfl rfl) ?_
    refine RD.store rfl rfl rfl (eff_storeW (v := .t _) (els := [_]) (els' := [_]) rfl rfl ti29 rfl rfl rfl rfl rfl rfl rfl rfl rfl) ?_
    refine RD.nil ?_
    refine awp_rw rfl ?_
    refine RW.op rfl rfl (eff_move (v := .t _) rfl rfl rfl) ?_
    refine RW.op rfl rfl (eff_iop rfl rfl rfl rfl (iadd (by omega))) ?_
    refine RW.op rfl rfl (eff_assign (v := .t _) rfl rfl rfl) ?_
    refine RW.nil ?_
    refine ⟨_, ?_, _, weak_keep (n := 154) (fr' := [(5, .ptr 5 0 0 0), (1, .t (.sl (l.map encO) false)), (7, .ptr 7 0 0 0), (8, .t (encI ((i + 1) : Nat)))]) (st' := [(5, some ⟨8, 38, 0, [.t (encB b)]⟩), (7, some ⟨4, 29, 0, [.t (encS (runS (QS q) (l.take (i + 1))))]⟩)]) ⟨rfl, rfl, rfl, rfl, rfl, rfl, rfl, rfl, trivial⟩ ⟨rfl, okE_one rfl, (by first | rfl | (rw [runS_step (by omega)]; rfl)), okE_one rfl, trivial⟩, i + 1, (by omega), rfl, rfl⟩
    omega
  · try simp only [decide_eq_true_eq, decide_eq_false_iff_not, beq_iff_eq, bne_iff_ne, bne_eq_false_iff_eq, beq_eq_false_iff_ne, Bool.not_eq_true, Bool.not_eq_false, Bool.not_eq_true', Bool.not_eq_false', ne_eq] at h1
    refine awp_exit ?_
    refine awp_seq ?_
    refine awp_rw rfl ?_
    have hi4 : i = l.length := by have hlen := hsh.2; omega
    subst hi4
    rw [List.take_length]
    refine RW.op rfl rfl (eff_load rfl rfl ti29 rfl (.whole rfl rfl rfl rfl rfl rfl)) ?_
    refine RW.op rfl rfl (eff_load rfl rfl ti38 rfl (.whole rfl rfl rfl rfl rfl rfl)) ?_
    refine RW.op rfl rfl (eff_callT ((by have h := accept23_ret insC (runS (QS q) l) b (hV.sok (by omega)) (by unfold BOK; omega) hV.ss; rw [hA] at h; exact h)) co23 rfl rfl rfl rfl) ?_
    refine RW.op rfl rfl (eff_move (v := .t _) rfl rfl rfl) ?_
    refine RW.op rfl rfl (eff_extract rfl rfl rfl rfl) ?_
    refine RW.op rfl rfl (eff_extract rfl rfl rfl rfl) ?_
    refine RW.op rfl rfl (eff_extract rfl rfl rfl rfl) ?_
    refine RW.new rfl rfl (eff_allocK (k := 4) (id := 9) rfl rfl tz29 rfl rfl) ?_
    refine RW.store rfl rfl (eff_storeW (v := .t _) (els := [_]) (els' := [_]) rfl rfl ti29 rfl rfl rfl rfl rfl rfl rfl rfl rfl) ?_
    refine RW.op rfl rfl (eff_assign (v := .t _) rfl rfl rfl) ?_
    refine RW.op rfl rfl (eff_assign (v := .t _) rfl rfl rfl) ?_
    refine RW.nil ?_
    refine awp_seq ?_
    refine awp_seq ?_
    refine awp_rw rfl ?_
    refine RW.op rfl rfl (eff_move (v := .t _) rfl rfl rfl) ?_
    refine RW.op rfl rfl (eff_iop (r := .bool true) rfl rfl rfl rfl (by exact iop_neq_t (by decide))) ?_
    refine RW.nil ?_
    refine awp_cond rfl (fun _ => ?_) (fun h => nomatch h)
    refine awp_seq ?_
    refine awp_rw rfl ?_
    refine RW.op rfl rfl (eff_move (v := .t _) rfl rfl rfl) ?_
    refine RW.op rfl rfl (eff_unop rfl rfl rfl rfl) ?_
    refine RW.op rfl rfl (eff_move (v := .t _) rfl rfl rfl) ?_
    refine RW.gop rfl rfl rfl rfl rfl rfl (eff_move (v := .t _) rfl rfl rfl) ?_
    refine RW.gop rfl rfl rfl rfl rfl rfl (eff_iop (r := .bool true) rfl rfl rfl rfl (by exact iop_eql_t (by decide))) ?_
    refine RW.gop rfl rfl rfl rfl rfl rfl (eff_move (v := .t _) rfl rfl rfl) ?_
    refine RW.gskip rfl rfl rfl rfl rfl (by decide) ?_
    refine RW.gskip rfl rfl rfl rfl rfl (by decide) ?_
    refine RW.gop rfl rfl rfl rfl rfl rfl (eff_pick (v := .t _) rfl rfl rfl rfl) ?_
    refine RW.op rfl rfl (eff_pick (v := .t _) rfl rfl rfl rfl) ?_
    refine RW.op rfl rfl (eff_move (v := .t _) rfl rfl rfl) ?_
    refine RW.gop rfl rfl rfl rfl rfl rfl (eff_callT (lives_ret) co10 rfl rfl rfl rfl) ?_
    refine RW.op rfl rfl (eff_pick (v := .t _) rfl rfl rfl rfl) ?_
    refine RW.op rfl rfl (eff_assign (v := .t _) rfl rfl rfl) ?_
    refine RW.nil ?_
    refine awp_ret ?_
    exact ⟨Or.inr rfl, [_], ⟨.tmp (.t _), trivial⟩, .refl _⟩

theorem doublesE42 (q : Int) (hq : 0 ≤ q ∧ q < 65536) (l : List Opn) (hl : l.length ≤ 9223372036854775807) (hB : OpsOK l) (b : Bundle) (hbb : Bytes b.data) (hsh : (∀ o, o ∈ l → o.bundle.data.length ≤ 300) ∧ (l.length : Int) ≤ 40) (hb : b.data.length ≤ 256) (hV : VInv 40 (runS (QS q) l)) (hA : accept (runS (QS q) l) b = (zs, false, 42)) : Ret Try.prog 5 [.int .u16 q, .sl (l.map encO) false, encB b] (.bool true) := by
  refine ret_of_awp Try.func5 rfl (Nat.le_of_ble_eq_true rfl) ?_
  refine awp_seq ?_
  refine awp_rw rfl ?_
  refine RW.new rfl rfl (eff_boxK (v := .t _) (k := 8) (id := 5) rfl rfl rfl rfl rfl rfl) ?_
  refine RW.op rfl rfl (eff_assign (v := .t _) rfl rfl rfl) ?_
  refine RW.nil ?_
  refine awp_seq ?_
  refine awp_seq ?_
  refine awp_rw rfl ?_
  refine RW.op rfl rfl (eff_move (v := .t _) rfl rfl rfl) ?_
  refine RW.op rfl rfl (eff_callT ((by have h := short_ret l 40 hl; rw [decide_eq_true hsh] at h; exact h)) co9 rfl rfl rfl rfl) ?_
  refine RW.op rfl rfl (eff_unop rfl rfl rfl rfl) ?_
  refine RW.op rfl rfl (eff_move (v := .t _) rfl rfl rfl) ?_
  refine RW.gop rfl rfl rfl rfl rfl rfl (eff_fieldAddr rfl rfl tf38_3 (by decide) rfl rfl rfl (Nat.le_of_ble_eq_true rfl)) ?_
  refine RW.gop rfl rfl rfl rfl rfl rfl (eff_fieldAddr rfl rfl tf36_4 (by decide) rfl rfl rfl (Nat.le_of_ble_eq_true rfl)) ?_
  refine RW.gop rfl rfl rfl rfl rfl rfl (eff_load (y := .t _) rfl rfl ti34 rfl (.one rfl rfl rfl rfl)) ?_
  refine RW.gop rfl rfl rfl rfl rfl rfl (eff_lenM rfl rfl te34 rfl) ?_
  refine RW.gop rfl rfl rfl rfl rfl rfl (eff_iop (r := .bool false) rfl rfl rfl rfl (by exact iop_gtr_f (by omega))) ?_
  refine RW.op rfl rfl (eff_pick (v := .t _) rfl rfl rfl rfl) ?_
  refine RW.nil ?_
  refine awp_cond rfl (fun h => nomatch h) (fun _ => ?_)
  refine awp_skip ?_
  refine awp_seq ?_
  refine awp_rw rfl ?_
  refine RW.op rfl rfl (eff_move (v := .t _) rfl rfl rfl) ?_
  refine RW.op rfl rfl (eff_convIntE (m := q) rfl rfl (by rw [tu22]; rfl) tu3 rfl (wrap64 (by omega) (by omega))) ?_
  refine RW.op rfl rfl (eff_remE (r := q % 2001) rfl rfl rfl rfl (by decide) (tmod_pos hq.1)) ?_
  refine RW.op rfl rfl (eff_buildT (ys := [_, _, _, _]) rfl rfl tz29 tg29 rfl) ?_
  refine RW.new rfl rfl (eff_allocK (k := 4) (id := 7) rfl rfl tz29 rfl rfl) ?_
  refine RW.store rfl rfl (eff_storeW (v := .t _) (els := [_]) (els' := [_]) rfl rfl ti29 rfl rfl rfl rfl rfl rfl rfl rfl rfl) ?_
  refine RW.nil ?_
  show AWP _ _ _ _
  refine awp_weak (weak_wkOb (id := 7) (QSc q) rfl ⟨.refl _, .sl _, .sl _, .sl _, trivial⟩) ?_
  refine awp_seq ?_
  refine awp_seq ?_
  refine awp_rw rfl ?_
  refine RW.op rfl rfl (eff_assign (v := .t _) rfl rfl rfl) ?_
  refine RW.nil ?_
  refine awp_block ?_
  refine awp_loopW (fun m s => ∃ (i : Nat), (i ≤ l.length) ∧ m = l.length - i ∧ s = ⟨154, [(5, .ptr 5 0 0 0), (1, .t (.sl (l.map encO) false)), (7, .ptr 7 0 0 0), (8, .t (encI (i : Nat)))], [(5, some ⟨8, 38, 0, [.t (encB b)]⟩), (7, some ⟨4, 29, 0, [.t (encS (runS (QS q) (l.take i)))]⟩)]⟩) (_) (⟨_, weak_keep (n := 154) (fr' := [(5, .ptr 5 0 0 0), (1, .t (.sl (l.map encO) false)), (7, .ptr 7 0 0 0), (8, .t (encI (0 : Nat)))]) (st' := [(5, some ⟨8, 38, 0, [.t (encB b)]⟩), (7, some ⟨4, 29, 0, [.t (encS (runS (QS q) (l.take 0)))]⟩)]) ⟨rfl, rfl, rfl, rfl, rfl, rfl, rfl, rfl, trivial⟩ ⟨rfl, okE_one rfl, (by first | rfl | (rw [runS_step (by omega)]; rfl)), okE_one rfl, trivial⟩, 0, (by omega), rfl, rfl⟩) ?_
  rintro m s ⟨i, hi, rfl, rfl⟩
  have hlen := hsh.2
  refine awp_seq ?_
  refine awp_seq ?_
  refine awp_rw rfl ?_
  refine RW.op rfl rfl (eff_move (v := .t _) rfl rfl rfl) ?_
  refine RW.op rfl rfl (eff_move (v := .t _) rfl rfl rfl) ?_
  refine RW.op rfl rfl (eff_lenM rfl rfl te23 rfl) ?_
  refine RW.op rfl rfl (eff_iop rfl rfl rfl rfl rfl) ?_
  refine RW.nil ?_
  refine awp_cond rfl (fun h1 => ?_) (fun h1 => ?_)
  · try simp only [decide_eq_true_eq, decide_eq_false_iff_not, beq_iff_eq, bne_iff_ne, bne_eq_false_iff_eq, beq_eq_false_iff_ne, Bool.not_eq_true, Bool.not_eq_false, Bool.not_eq_true', Bool.not_eq_false', ne_eq] at h1
    refine awp_skip ?_
    refine awp_seq ?_
    refine awp_block ?_
    refine awp_rd [(some 42, []), (some 43, []), (some 44, []), (some 45, []), (some 46, []), (some 47, []), (some 41, []), (some 48, []), (some 49, []), (some 50, []), (none, [7])] [[], [], [], [1, 2], [1, 2, 3], [0, 1, 2, 3, 4], [0, 1, 2, 3, 4, 5], [0, 1, 2, 3, 4, 5, 6], [0, 1, 2, 3, 4, 5, 6], [0, 1, 2, 3, 4, 5, 6], [0, 1, 2, 3, 4, 5, 6, 7]] tm rfl rfl rfl rfl ?_
    refine RD.op rfl rfl rfl (eff_load rfl rfl ti29 rfl (.whole rfl rfl rfl rfl rfl rfl)) ?_
    refine RD.op rfl rfl rfl (eff_move (v := .t _) rfl rfl rfl) ?_
    refine RD.op rfl rfl rfl (eff_move (v := .t _) rfl rfl rfl) ?_
    refine RD.op rfl rfl rfl (eff_indexM rfl rfl te23 rfl rfl rfl (by first | assumption | exact List.getElem?_eq_getElem (by omega)) rfl (by decide)) ?_
    refine RD.op rfl rfl rfl (eff_loadW rfl rfl ti40 rfl rfl rfl) ?_
    refine RD.op rfl rfl rfl (eff_callT (do_ret 40 (runS (QS q) (l.take i)) (l[i]'(by omega)) (by omega) ((run_inv hq.1 hB i (by omega)).mono (by omega)) (short_bok hsh.1 (by omega))) co11 rfl rfl rfl rfl) ?_
    refine RD.op rfl rfl rfl (eff_move (v := .t _) rfl rfl rfl) ?_
    refine RD.op rfl rfl rfl (eff_extract rfl rfl rfl rfl) ?_
    refine RD.op rfl rfl rfl (eff_extract rfl rfl rfl rfl) ?_
    refine RD.op rfl rfl rfl (eff_extract rfl rfl rfl rfl) ?_
    refine RD.store rfl rfl rfl (eff_storeW (v := .t _) (els := [_]) (els' := [_]) rfl rfl ti29 rfl rfl rfl rfl rfl rfl rfl rfl rfl) ?_
    refine RD.nil ?_
    refine awp_rw rfl ?_
    refine RW.op rfl rfl (eff_move (v := .t _) rfl rfl rfl) ?_
    refine RW.op rfl rfl (eff_iop rfl rfl rfl rfl (iadd (by omega))) ?_
    refine RW.op rfl rfl (eff_assign (v := .t _) rfl rfl rfl) ?_
    refine RW.nil ?_
    refine ⟨_, ?_, _, weak_keep (n := 154) (fr' := [(5, .ptr 5 0 0 0), (1, .t (.sl (l.map encO) false)), (7, .ptr 7 0 0 0), (8, .t (encI ((i + 1) : Nat)))]) (st' := [(5, some ⟨8, 38, 0, [.t (encB b)]⟩), (7, some ⟨4, 29, 0, [.t (encS (runS (QS q) (l.take (i + 1))))]⟩)]) ⟨rfl, rfl, rfl, rfl, rfl, rfl, rfl, rfl, trivial⟩ ⟨rfl, okE_one rfl, (by first | rfl | (rw [runS_step (by omega)]; rfl)), okE_one rfl, trivial⟩, i + 1, (by omega), rfl, rfl⟩
    omega
  · try simp only [decide_eq_true_eq, decide_eq_false_iff_not, beq_iff_eq, bne_iff_ne, bne_eq_false_iff_eq, beq_eq_false_iff_ne, Bool.not_eq_true, Bool.not_eq_false, Bool.not_eq_true', Bool.not_eq_false', ne_eq] at h1
    refine awp_exit ?_
    refine awp_seq ?_
    refine awp_rw rfl ?_
    have hi4 : i = l.length := by have hlen := hsh.2; omega
    subst hi4
    rw [List.take_length]
    refine RW.op rfl rfl (eff_load rfl rfl ti29 rfl (.whole rfl rfl rfl rfl rfl rfl)) ?_
    refine RW.op rfl rfl (eff_load rfl rfl ti38 rfl (.whole rfl rfl rfl rfl rfl rfl)) ?_
    refine RW.op rfl rfl (eff_callT ((by have h := accept23_ret insC (runS (QS q) l) b (hV.sok (by omega)) (by unfold BOK; omega) hV.ss; rw [hA] at h; exact h)) co23 rfl rfl rfl rfl) ?_
    refine RW.op rfl rfl (eff_move (v := .t _) rfl rfl rfl) ?_
    refine RW.op rfl rfl (eff_extract rfl rfl rfl rfl) ?_
    refine RW.op rfl rfl (eff_extract rfl rfl rfl rfl) ?_
    refine RW.op rfl rfl (eff_extract rfl rfl rfl rfl) ?_
    refine RW.new rfl rfl (eff_allocK (k := 4) (id := 9) rfl rfl tz29 rfl rfl) ?_
    refine RW.store rfl rfl (eff_storeW (v := .t _) (els := [_]) (els' := [_]) rfl rfl ti29 rfl rfl rfl rfl rfl rfl rfl rfl rfl) ?_
    refine RW.op rfl rfl (eff_assign (v := .t _) rfl rfl rfl) ?_
    refine RW.op rfl rfl (eff_assign (v := .t _) rfl rfl rfl) ?_
    refine RW.nil ?_
    refine awp_seq ?_
    refine awp_seq ?_
    refine awp_rw rfl ?_
    refine RW.op rfl rfl (eff_move (v := .t _) rfl rfl rfl) ?_
    refine RW.op rfl rfl (eff_iop (r := .bool true) rfl rfl rfl rfl (by exact iop_neq_t (by decide))) ?_
    refine RW.nil ?_
    refine awp_cond rfl (fun _ => ?_) (fun h => nomatch h)
    refine awp_seq ?_
    refine awp_rw rfl ?_
    refine RW.op rfl rfl (eff_move (v := .t _) rfl rfl rfl) ?_
    refine RW.op rfl rfl (eff_unop rfl rfl rfl rfl) ?_
    refine RW.op rfl rfl (eff_move (v := .t _) rfl rfl rfl) ?_
    refine RW.gop rfl rfl rfl rfl rfl rfl (eff_move (v := .t _) rfl rfl rfl) ?_
    refine RW.gop rfl rfl rfl rfl rfl rfl (eff_iop (r := .bool false) rfl rfl rfl rfl (by exact iop_eql_f (by decide))) ?_
    refine RW.gop rfl rfl rfl rfl rfl rfl (eff_move (v := .t _) rfl rfl rfl) ?_
    refine RW.gop rfl rfl rfl rfl rfl rfl (eff_move (v := .t _) rfl rfl rfl) ?_
    refine RW.gop rfl rfl rfl rfl rfl rfl (eff_iop (r := .bool true) rfl rfl rfl rfl (by exact iop_eql_t (by decide))) ?_
    refine RW.gop rfl rfl rfl rfl rfl rfl (eff_pick (v := .t _) rfl rfl rfl rfl) ?_
    refine RW.op rfl rfl (eff_pick (v := .t _) rfl rfl rfl rfl) ?_
    refine RW.op rfl rfl (eff_move (v := .t _) rfl rfl rfl) ?_
    refine RW.gop rfl rfl rfl rfl rfl rfl (eff_callT (lives_ret) co10 rfl rfl rfl rfl) ?_
    refine RW.op rfl rfl (eff_pick (v := .t _) rfl rfl rfl rfl) ?_
    refine RW.op rfl rfl (eff_assign (v := .t _) rfl rfl rfl) ?_
    refine RW.nil ?_
    refine awp_ret ?_
    exact ⟨Or.inr rfl, [_], ⟨.tmp (.t _), trivial⟩, .refl _⟩

theorem doublesA1 (q : Int) (hq : 0 ≤ q ∧ q < 65536) (l : List Opn) (hl : l.length ≤ 9223372036854775807) (hB : OpsOK l) (b : Bundle) (hbb : Bytes b.data) (hsh : (∀ o, o ∈ l → o.bundle.data.length ≤ 300) ∧ (l.length : Int) ≤ 40) (hb : b.data.length ≤ 256) (hV : VInv 40 (runS (QS q) l)) (A : Store) (hA : accept (runS (QS q) l) b = (A, true, 0)) (hVA : VInv 41 A) (hAs : b.id ∈ A.seen) (hC : confirm A b.id = (zs, 3)) (hni : b.id ∉ ids A) : Ret Try.prog 5 [.int .u16 q, .sl (l.map encO) false, encB b] (.bool true) := by
  refine ret_of_awp Try.func5 rfl (Nat.le_of_ble_eq_true rfl) ?_
  refine awp_seq ?_
  refine awp_rw rfl ?_
  refine RW.new rfl rfl (eff_boxK (v := .t _) (k := 8) (id := 5) rfl rfl rfl rfl rfl rfl) ?_
  refine RW.op rfl rfl (eff_assign (v := .t _) rfl rfl rfl) ?_
  refine RW.nil ?_
  refine awp_seq ?_
  refine awp_seq ?_
  refine awp_rw rfl ?_
  refine RW.op rfl rfl (eff_move (v := .t _) rfl rfl rfl) ?_
  refine RW.op rfl rfl (eff_callT ((by have h := short_ret l 40 hl; rw [decide_eq_true hsh] at h; exact h)) co9 rfl rfl rfl rfl) ?_
  refine RW.op rfl rfl (eff_unop rfl rfl rfl rfl) ?_
  refine RW.op rfl rfl (eff_move (v := .t _) rfl rfl rfl) ?_
  refine RW.gop rfl rfl rfl rfl rfl rfl (eff_fieldAddr rfl rfl tf38_3 (by decide) rfl rfl rfl (Nat.le_of_ble_eq_true rfl)) ?_
  refine RW.gop rfl rfl rfl rfl rfl rfl (eff_fieldAddr rfl rfl tf36_4 (by decide) rfl rfl rfl (Nat.le_of_ble_eq_true rfl)) ?_
  refine RW.gop rfl rfl rfl rfl rfl rfl (eff_load (y := .t _) rfl rfl ti34 rfl (.one rfl rfl rfl rfl)) ?_
  refine RW.gop rfl rfl rfl rfl rfl rfl (eff_lenM rfl rfl te34 rfl) ?_
  refine RW.gop rfl rfl rfl rfl rfl rfl (eff_iop (r := .bool false) rfl rfl rfl rfl (by exact iop_gtr_f (by omega))) ?_
  refine RW.op rfl rfl (eff_pick (v := .t _) rfl rfl rfl rfl) ?_
  refine RW.nil ?_
  refine awp_cond rfl (fun h => nomatch h) (fun _ => ?_)
  refine awp_skip ?_
  refine awp_seq ?_
  refine awp_rw rfl ?_
  refine RW.op rfl rfl (eff_move (v := .t _) rfl rfl rfl) ?_
  refine RW.op rfl rfl (eff_convIntE (m := q) rfl rfl (by rw [tu22]; rfl) tu3 rfl (wrap64 (by omega) (by omega))) ?_
  refine RW.op rfl rfl (eff_remE (r := q % 2001) rfl rfl rfl rfl (by decide) (tmod_pos hq.1)) ?_
  refine RW.op rfl rfl (eff_buildT (ys := [_, _, _, _]) rfl rfl tz29 tg29 rfl) ?_
  refine RW.new rfl rfl (eff_allocK (k := 4) (id := 7) rfl rfl tz29 rfl rfl) ?_
  refine RW.store rfl rfl (eff_storeW (v := .t _) (els := [_]) (els' := [_]) rfl rfl ti29 rfl rfl rfl rfl rfl rfl rfl rfl rfl) ?_
  refine RW.nil ?_
  show AWP _ _ _ _
  refine awp_weak (weak_wkOb (id := 7) (QSc q) rfl ⟨.refl _, .sl _, .sl _, .sl _, trivial⟩) ?_
  refine awp_seq ?_
  refine awp_seq ?_
  refine awp_rw rfl ?_
  refine RW.op rfl rfl (eff_assign (v := .t _) rfl rfl rfl) ?_
  refine RW.nil ?_
  refine awp_block ?_
  refine awp_loopW (fun m s => ∃ (i : Nat), (i ≤ l.length) ∧ m = l.length - i ∧ s = ⟨154, [(5, .ptr 5 0 0 0), (1, .t (.sl (l.map encO) false)), (7, .ptr 7 0 0 0), (8, .t (encI (i : Nat)))], [(5, some ⟨8, 38, 0, [.t (encB b)]⟩), (7, some ⟨4, 29, 0, [.t (encS (runS (QS q) (l.take i)))]⟩)]⟩) (_) (⟨_, weak_keep (n := 154) (fr' := [(5, .ptr 5 0 0 0), (1, .t (.sl (l.map encO) false)), (7, .ptr 7 0 0 0), (8, .t (encI (0 : Nat)))]) (st' := [(5, some ⟨8, 38, 0, [.t (encB b)]⟩), (7, some ⟨4, 29, 0, [.t (encS (runS (QS q) (l.take 0)))]⟩)]) ⟨rfl, rfl, rfl, rfl, rfl, rfl, rfl, rfl, trivial⟩ ⟨rfl, okE_one rfl, (by first | rfl | (rw [runS_step (by omega)]; rfl)), okE_one rfl, trivial⟩, 0, (by omega), rfl, rfl⟩) ?_
  rintro m s ⟨i, hi, rfl, rfl⟩
  have hlen := hsh.2
  refine awp_seq ?_
  refine awp_seq ?_
  refine awp_rw rfl ?_
  refine RW.op rfl rfl (eff_move (v := .t _) rfl rfl rfl) ?_
  refine RW.op rfl rfl (eff_move (v := .t _) rfl rfl rfl) ?_
  refine RW.op rfl rfl (eff_lenM rfl rfl te23 rfl) ?_
  refine RW.op rfl rfl (eff_iop rfl rfl rfl rfl rfl) ?_
  refine RW.nil ?_
  refine awp_cond rfl (fun h1 => ?_) (fun h1 => ?_)
  · try simp only [decide_eq_true_eq, decide_eq_false_iff_not, beq_iff_eq, bne_iff_ne, bne_eq_false_iff_eq, beq_eq_false_iff_ne, Bool.not_eq_true, Bool.not_eq_false, Bool.not_eq_true', Bool.not_eq_false', ne_eq] at h1
    refine awp_skip ?_
    refine awp_seq ?_
    refine awp_block ?_
    refine awp_rd [(some 42, []), (some 43, []), (some 44, []), (some 45, []), (some 46, []), (some 47, []), (some 41, []), (some 48, []), (some 49, []), (some 50, []), (none, [7])] [[], [], [], [1, 2], [1, 2, 3], [0, 1, 2, 3, 4], [0, 1, 2, 3, 4, 5], [0, 1, 2, 3, 4, 5, 6], [0, 1, 2, 3, 4, 5, 6], [0, 1, 2, 3, 4, 5, 6], [0, 1, 2, 3, 4, 5, 6, 7]] tm rfl rfl rfl rfl ?_
    refine RD.op rfl rfl rfl (eff_load rfl rfl ti29 rfl (.whole rfl rfl rfl rfl rfl rfl)) ?_
    refine RD.op rfl rfl rfl (eff_move (v := .t _) rfl rfl rfl) ?_
    refine RD.op rfl rfl rfl (eff_move (v := .t _) rfl rfl rfl) ?_
    refine RD.op rfl rfl rfl (eff_indexM rfl rfl te23 rfl rfl rfl (by first | assumption | exact List.getElem?_eq_getElem (by omega)) rfl (by decide)) ?_
    refine RD.op rfl rfl rfl (eff_loadW rfl rfl ti40 rfl rfl rfl) ?_
    refine RD.op rfl rfl rfl (eff_callT (do_ret 40 (runS (QS q) (l.take i)) (l[i]'(by omega)) (by omega) ((run_inv hq.1 hB i (by omega)).mono (by omega)) (short_bok hsh.1 (by omega))) co11 rfl rfl rfl rfl) ?_
    refine RD.op rfl rfl rfl (eff_move (v := .t _) rfl rfl rfl) ?_
    refine RD.op rfl rfl rfl (eff_extract rfl rfl rfl rfl) ?_
    refine RD.op rfl rfl rfl (eff_extract rfl rfl rfl rfl) ?_
    refine RD.op rfl rfl rfl (eff_extract rfl rfl rfl rfl) ?_
    refine RD.store rfl rfl rfl (eff_storeW (v := .t _) (els := [_]) (els' := [_]) rfl rfl ti29 rfl rfl rfl rfl rfl rfl rfl rfl rfl) ?_
    refine RD.nil ?_
    refine awp_rw rfl ?_
    refine RW.op rfl rfl (eff_move (v := .t _) rfl rfl rfl) ?_
    refine RW.op rfl rfl (eff_iop rfl rfl rfl rfl (iadd (by omega))) ?_
    refine RW.op rfl rfl (eff_assign (v := .t _) rfl rfl rfl) ?_
    refine RW.nil ?_
    refine ⟨_, ?_, _, weak_keep (n := 154) (fr' := [(5, .ptr 5 0 0 0), (1, .t (.sl (l.map encO) false)), (7, .ptr 7 0 0 0), (8, .t (encI ((i + 1) : Nat)))]) (st' := [(5, some ⟨8, 38, 0, [.t (encB b)]⟩), (7, some ⟨4, 29, 0, [.t (encS (runS (QS q) (l.take (i + 1))))]⟩)]) ⟨rfl, rfl, rfl, rfl, rfl, rfl, rfl, rfl, trivial⟩ ⟨rfl, okE_one rfl, (by first | rfl | (rw [runS_step (by omega)]; rfl)), okE_one rfl, trivial⟩, i + 1, (by omega), rfl, rfl⟩
    omega
  · try simp only [decide_eq_true_eq, decide_eq_false_iff_not, beq_iff_eq, bne_iff_ne, bne_eq_false_iff_eq, beq_eq_false_iff_ne, Bool.not_eq_true, Bool.not_eq_false, Bool.not_eq_true', Bool.not_eq_false', ne_eq] at h1
    refine awp_exit ?_
    refine awp_seq ?_
    refine awp_rw rfl ?_
    have hi4 : i = l.length := by have hlen := hsh.2; omega
    subst hi4
    rw [List.take_length]
    refine RW.op rfl rfl (eff_load rfl rfl ti29 rfl (.whole rfl rfl rfl rfl rfl rfl)) ?_
    refine RW.op rfl rfl (eff_load rfl rfl ti38 rfl (.whole rfl rfl rfl rfl rfl rfl)) ?_
    refine RW.op rfl rfl (eff_callT ((by have h := accept23_ret insC (runS (QS q) l) b (hV.sok (by omega)) (by unfold BOK; omega) hV.ss; rw [hA] at h; exact h)) co23 rfl rfl rfl rfl) ?_
    refine RW.op rfl rfl (eff_move (v := .t _) rfl rfl rfl) ?_
    refine RW.op rfl rfl (eff_extract rfl rfl rfl rfl) ?_
    refine RW.op rfl rfl (eff_extract rfl rfl rfl rfl) ?_
    refine RW.op rfl rfl (eff_extract rfl rfl rfl rfl) ?_
    refine RW.new rfl rfl (eff_allocK (k := 4) (id := 9) rfl rfl tz29 rfl rfl) ?_
    refine RW.store rfl rfl (eff_storeW (v := .t _) (els := [_]) (els' := [_]) rfl rfl ti29 rfl rfl rfl rfl rfl rfl rfl rfl rfl) ?_
    refine RW.op rfl rfl (eff_assign (v := .t _) rfl rfl rfl) ?_
    refine RW.op rfl rfl (eff_assign (v := .t _) rfl rfl rfl) ?_
    refine RW.nil ?_
    refine awp_seq ?_
    refine awp_seq ?_
    refine awp_rw rfl ?_
    refine RW.op rfl rfl (eff_move (v := .t _) rfl rfl rfl) ?_
    refine RW.op rfl rfl (eff_iop (r := .bool false) rfl rfl rfl rfl (by exact iop_neq_f (by rfl))) ?_
    refine RW.nil ?_
    refine awp_cond rfl (fun h => nomatch h) (fun _ => ?_)
    refine awp_skip ?_
    refine awp_seq ?_
    refine awp_rw rfl ?_
    refine RW.op rfl rfl (eff_load rfl rfl ti29 rfl (.whole rfl rfl rfl rfl rfl rfl)) ?_
    refine RW.op rfl rfl (eff_load rfl rfl ti38 rfl (.whole rfl rfl rfl rfl rfl rfl)) ?_
    refine RW.op rfl rfl (eff_callT ((by have h := accept23_ret insC A b (hVA.sok (by omega)) (by unfold BOK; omega) hVA.ss; rw [accept_again hb hAs] at h; exact h)) co23 rfl rfl rfl rfl) ?_
    refine RW.op rfl rfl (eff_move (v := .t _) rfl rfl rfl) ?_
    refine RW.op rfl rfl (eff_extract rfl rfl rfl rfl) ?_
    refine RW.op rfl rfl (eff_extract rfl rfl rfl rfl) ?_
    refine RW.op rfl rfl (eff_extract rfl rfl rfl rfl) ?_
    refine RW.new rfl rfl (eff_allocK (k := 4) (id := 12) rfl rfl tz29 rfl rfl) ?_
    refine RW.store rfl rfl (eff_storeW (v := .t _) (els := [_]) (els' := [_]) rfl rfl ti29 rfl rfl rfl rfl rfl rfl rfl rfl rfl) ?_
    refine RW.op rfl rfl (eff_assign (v := .t _) rfl rfl rfl) ?_
    refine RW.op rfl rfl (eff_assign (v := .t _) rfl rfl rfl) ?_
    refine RW.nil ?_
    refine awp_seq ?_
    refine awp_rw rfl ?_
    refine RW.op rfl rfl (eff_load rfl rfl ti29 rfl (.whole rfl rfl rfl rfl rfl rfl)) ?_
    refine RW.op rfl rfl (eff_fieldAddr rfl rfl tf38_0 (by decide) rfl rfl rfl (Nat.le_of_ble_eq_true rfl)) ?_
    refine RW.op rfl rfl (eff_load (y := .t _) rfl rfl ti3 rfl (.one rfl rfl rfl rfl)) ?_
    refine RW.op rfl rfl (eff_callT ((by have h := confirm24_ret A b.id (hVA.sok (by omega)) hVA.ps; rw [hC] at h; exact h)) co24 rfl rfl rfl rfl) ?_
    refine RW.op rfl rfl (eff_move (v := .t _) rfl rfl rfl) ?_
    refine RW.op rfl rfl (eff_extract rfl rfl rfl rfl) ?_
    refine RW.op rfl rfl (eff_extract rfl rfl rfl rfl) ?_
    refine RW.new rfl rfl (eff_allocK (k := 4) (id := 15) rfl rfl tz29 rfl rfl) ?_
    refine RW.store rfl rfl (eff_storeW (v := .t _) (els := [_]) (els' := [_]) rfl rfl ti29 rfl rfl rfl rfl rfl rfl rfl rfl rfl) ?_
    refine RW.op rfl rfl (eff_assign (v := .t _) rfl rfl rfl) ?_
    refine RW.nil ?_
    refine awp_seq ?_
    refine awp_seq ?_
    refine awp_rw rfl ?_
    refine RW.op rfl rfl (eff_move (v := .t _) rfl rfl rfl) ?_
    refine RW.op rfl rfl (eff_iop (r := .bool true) rfl rfl rfl rfl (by exact iop_neq_t (by decide))) ?_
    refine RW.nil ?_
    refine awp_cond rfl (fun _ => ?_) (fun h => nomatch h)
    refine awp_seq ?_
    refine awp_rw rfl ?_
    refine RW.op rfl rfl (eff_move (v := .t _) rfl rfl rfl) ?_
    refine RW.op rfl rfl (eff_move (v := .t _) rfl rfl rfl) ?_
    refine RW.gop rfl rfl rfl rfl rfl rfl (eff_move (v := .t _) rfl rfl rfl) ?_
    refine RW.op rfl rfl (eff_pick (v := .t _) rfl rfl rfl rfl) ?_
    refine RW.op rfl rfl (eff_move (v := .t _) rfl rfl rfl) ?_
    refine RW.gop rfl rfl rfl rfl rfl rfl (eff_move (v := .t _) rfl rfl rfl) ?_
    refine RW.gop rfl rfl rfl rfl rfl rfl (eff_iop (r := .bool true) rfl rfl rfl rfl (by exact iop_eql_t (by rfl))) ?_
    refine RW.op rfl rfl (eff_pick (v := .t _) rfl rfl rfl rfl) ?_
    refine RW.op rfl rfl (eff_move (v := .t _) rfl rfl rfl) ?_
    refine RW.gop rfl rfl rfl rfl rfl rfl (eff_load rfl rfl ti29 rfl (.whole rfl rfl rfl rfl rfl rfl)) ?_
    refine RW.gop rfl rfl rfl rfl rfl rfl (eff_load rfl rfl ti29 rfl (.whole rfl rfl rfl rfl rfl rfl)) ?_
    refine RW.gop rfl rfl rfl rfl rfl rfl (eff_callT ((by have h := same_ret A A (hVA.sok (by omega)) (fun b hb => (hVA.bs b hb).2.1) (fun b hb => (hVA.bs b hb).2.1); rw [same_refl] at h; exact h)) co13 rfl rfl rfl rfl) ?_
    refine RW.op rfl rfl (eff_pick (v := .t _) rfl rfl rfl rfl) ?_
    refine RW.op rfl rfl (eff_move (v := .t _) rfl rfl rfl) ?_
    refine RW.gop rfl rfl rfl rfl rfl rfl (eff_load rfl rfl ti29 rfl (.whole rfl rfl rfl rfl rfl rfl)) ?_
    refine RW.gop rfl rfl rfl rfl rfl rfl (eff_fieldAddr rfl rfl tf38_0 (by decide) rfl rfl rfl (Nat.le_of_ble_eq_true rfl)) ?_
    refine RW.gop rfl rfl rfl rfl rfl rfl (eff_load (y := .t _) rfl rfl ti3 rfl (.one rfl rfl rfl rfl)) ?_
    refine RW.gop rfl rfl rfl rfl rfl rfl (eff_callT (count_ret A b.id (hVA.sok (by omega))) co22 rfl rfl rfl rfl) ?_
    refine RW.gop rfl rfl rfl rfl rfl rfl (eff_iop (r := .bool true) rfl rfl rfl rfl (by exact iop_eql_t (by exact count_zero hni))) ?_
    refine RW.op rfl rfl (eff_pick (v := .t _) rfl rfl rfl rfl) ?_
    refine RW.op rfl rfl (eff_move (v := .t _) rfl rfl rfl) ?_
    refine RW.gop rfl rfl rfl rfl rfl rfl (eff_callT (lives_ret) co10 rfl rfl rfl rfl) ?_
    refine RW.op rfl rfl (eff_pick (v := .t _) rfl rfl rfl rfl) ?_
    refine RW.op rfl rfl (eff_assign (v := .t _) rfl rfl rfl) ?_
    refine RW.nil ?_
    refine awp_ret ?_
    exact ⟨Or.inr rfl, [_], ⟨.tmp (.t _), trivial⟩, .refl _⟩

theorem doublesA2 (q : Int) (hq : 0 ≤ q ∧ q < 65536) (l : List Opn) (hl : l.length ≤ 9223372036854775807) (hB : OpsOK l) (b : Bundle) (hbb : Bytes b.data) (hsh : (∀ o, o ∈ l → o.bundle.data.length ≤ 300) ∧ (l.length : Int) ≤ 40) (hb : b.data.length ≤ 256) (hV : VInv 40 (runS (QS q) l)) (A : Store) (hA : accept (runS (QS q) l) b = (A, true, 0)) (hVA : VInv 41 A) (hAs : b.id ∈ A.seen) (V : Store) (hC : confirm A b.id = (V, 0)) (hVV : VInv 41 V) (hVs : b.id ∈ V.seen) (hcn : countB V.bundles b.id = 0) : Ret Try.prog 5 [.int .u16 q, .sl (l.map encO) false, encB b] (.bool true) := by
  refine ret_of_awp Try.func5 rfl (Nat.le_of_ble_eq_true rfl) ?_
  refine awp_seq ?_
  refine awp_rw rfl ?_
  refine RW.new rfl rfl (eff_boxK (v := .t _) (k := 8) (id := 5) rfl rfl rfl rfl rfl rfl) ?_
  refine RW.op rfl rfl (eff_assign (v := .t _) rfl rfl rfl) ?_
  refine RW.nil ?_
  refine awp_seq ?_
  refine awp_seq ?_
  refine awp_rw rfl ?_
  refine RW.op rfl rfl (eff_move (v := .t _) rfl rfl rfl) ?_
  refine RW.op rfl rfl (eff_callT ((by have h := short_ret l 40 hl; rw [decide_eq_true hsh] at h; exact h)) co9 rfl rfl rfl rfl) ?_
  refine RW.op rfl rfl (eff_unop rfl rfl rfl rfl) ?_
  refine RW.op rfl rfl (eff_move (v := .t _) rfl rfl rfl) ?_
  refine RW.gop rfl rfl rfl rfl rfl rfl (eff_fieldAddr rfl rfl tf38_3 (by decide) rfl rfl rfl (Nat.le_of_ble_eq_true rfl)) ?_
  refine RW.gop rfl rfl rfl rfl rfl rfl (eff_fieldAddr rfl rfl tf36_4 (by decide) rfl rfl rfl (Nat.le_of_ble_eq_true rfl)) ?_
  refine RW.gop rfl rfl rfl rfl rfl rfl (eff_load (y := .t _) rfl rfl ti34 rfl (.one rfl rfl rfl rfl)) ?_
  refine RW.gop rfl rfl rfl rfl rfl rfl (eff_lenM rfl rfl te34 rfl) ?_
  refine RW.gop rfl rfl rfl rfl rfl rfl (eff_iop (r := .bool false) rfl rfl rfl rfl (by exact iop_gtr_f (by omega))) ?_
  refine RW.op rfl rfl (eff_pick (v := .t _) rfl rfl rfl rfl) ?_
  refine RW.nil ?_
  refine awp_cond rfl (fun h => nomatch h) (fun _ => ?_)
  refine awp_skip ?_
  refine awp_seq ?_
  refine awp_rw rfl ?_
  refine RW.op rfl rfl (eff_move (v := .t _) rfl rfl rfl) ?_
  refine RW.op rfl rfl (eff_convIntE (m := q) rfl rfl (by rw [tu22]; rfl) tu3 rfl (wrap64 (by omega) (by omega))) ?_
  refine RW.op rfl rfl (eff_remE (r := q % 2001) rfl rfl rfl rfl (by decide) (tmod_pos hq.1)) ?_
  refine RW.op rfl rfl (eff_buildT (ys := [_, _, _, _]) rfl rfl tz29 tg29 rfl) ?_
  refine RW.new rfl rfl (eff_allocK (k := 4) (id := 7) rfl rfl tz29 rfl rfl) ?_
  refine RW.store rfl rfl (eff_storeW (v := .t _) (els := [_]) (els' := [_]) rfl rfl ti29 rfl rfl rfl rfl rfl rfl rfl rfl rfl) ?_
  refine RW.nil ?_
  show AWP _ _ _ _
  refine awp_weak (weak_wkOb (id := 7) (QSc q) rfl ⟨.refl _, .sl _, .sl _, .sl _, trivial⟩) ?_
  refine awp_seq ?_
  refine awp_seq ?_
  refine awp_rw rfl ?_
  refine RW.op rfl rfl (eff_assign (v := .t _) rfl rfl rfl) ?_
  refine RW.nil ?_
  refine awp_block ?_
  refine awp_loopW (fun m s => ∃ (i : Nat), (i ≤ l.length) ∧ m = l.length - i ∧ s = ⟨154, [(5, .ptr 5 0 0 0), (1, .t (.sl (l.map encO) false)), (7, .ptr 7 0 0 0), (8, .t (encI (i : Nat)))], [(5, some ⟨8, 38, 0, [.t (encB b)]⟩), (7, some ⟨4, 29, 0, [.t (encS (runS (QS q) (l.take i)))]⟩)]⟩) (_) (⟨_, weak_keep (n := 154) (fr' := [(5, .ptr 5 0 0 0), (1, .t (.sl (l.map encO) false)), (7, .ptr 7 0 0 0), (8, .t (encI (0 : Nat)))]) (st' := [(5, some ⟨8, 38, 0, [.t (encB b)]⟩), (7, some ⟨4, 29, 0, [.t (encS (runS (QS q) (l.take 0)))]⟩)]) ⟨rfl, rfl, rfl, rfl, rfl, rfl, rfl, rfl, trivial⟩ ⟨rfl, okE_one rfl, (by first | rfl | (rw [runS_step (by omega)]; rfl)), okE_one rfl, trivial⟩, 0, (by omega), rfl, rfl⟩) ?_
  rintro m s ⟨i, hi, rfl, rfl⟩
  have hlen := hsh.2
  refine awp_seq ?_
  refine awp_seq ?_
  refine awp_rw rfl ?_
  refine RW.op rfl rfl (eff_move (v := .t _) rfl rfl rfl) ?_
  refine RW.op rfl rfl (eff_move (v := .t _) rfl rfl rfl) ?_
  refine RW.op rfl rfl (eff_lenM rfl rfl te23 rfl) ?_
  refine RW.op rfl rfl (eff_iop rfl rfl rfl rfl rfl) ?_
  refine RW.nil ?_
  refine awp_cond rfl (fun h1 => ?_) (fun h1 => ?_)
  · try simp only [decide_eq_true_eq, decide_eq_false_iff_not, beq_iff_eq, bne_iff_ne, bne_eq_false_iff_eq, beq_eq_false_iff_ne, Bool.not_eq_true, Bool.not_eq_false, Bool.not_eq_true', Bool.not_eq_false', ne_eq] at h1
    refine awp_skip ?_
    refine awp_seq ?_
    refine awp_block ?_
    refine awp_rd [(some 42, []), (some 43, []), (some 44, []), (some 45, []), (some 46, []), (some 47, []), (some 41, []), (some 48, []), (some 49, []), (some 50, []), (none, [7])] [[], [], [], [1, 2], [1, 2, 3], [0, 1, 2, 3, 4], [0, 1, 2, 3, 4, 5], [0, 1, 2, 3, 4, 5, 6], [0, 1, 2, 3, 4, 5, 6], [0, 1, 2, 3, 4, 5, 6], [0, 1, 2, 3, 4, 5, 6, 7]] tm rfl rfl rfl rfl ?_
    refine RD.op rfl rfl rfl (eff_load rfl rfl ti29 rfl (.whole rfl rfl rfl rfl rfl rfl)) ?_
    refine RD.op rfl rfl rfl (eff_move (v := .t _) rfl rfl rfl) ?_
    refine RD.op rfl rfl rfl (eff_move (v := .t _) rfl rfl rfl) ?_
    refine RD.op rfl rfl rfl (eff_indexM rfl rfl te23 rfl rfl rfl (by first | assumption | exact List.getElem?_eq_getElem (by omega)) rfl (by decide)) ?_
    refine RD.op rfl rfl rfl (eff_loadW rfl rfl ti40 rfl rfl rfl) ?_
    refine RD.op rfl rfl rfl (eff_callT (do_ret 40 (runS (QS q) (l.take i)) (l[i]'(by omega)) (by omega) ((run_inv hq.1 hB i (by omega)).mono (by omega)) (short_bok hsh.1 (by omega))) co11 rfl rfl rfl rfl) ?_
    refine RD.op rfl rfl rfl (eff_move (v := .t _) rfl rfl rfl) ?_
    refine RD.op rfl rfl rfl (eff_extract rfl rfl rfl rfl) ?_
    refine RD.op rfl rfl rfl (eff_extract rfl rfl rfl rfl) ?_
    refine RD.op rfl rfl rfl (eff_extract rfl rfl rfl rfl) ?_
    refine RD.store rfl rfl rfl (eff_storeW (v := .t _) (els := [_]) (els' := [_]) rfl rfl ti29 rfl rfl rfl rfl rfl rfl rfl rfl rfl) ?_
    refine RD.nil ?_
    refine awp_rw rfl ?_
    refine RW.op rfl rfl (eff_move (v := .t _) rfl rfl rfl) ?_
    refine RW.op rfl rfl (eff_iop rfl rfl rfl rfl (iadd (by omega))) ?_
    refine RW.op rfl rfl (eff_assign (v := .t _) rfl rfl rfl) ?_
    refine RW.nil ?_
    refine ⟨_, ?_, _, weak_keep (n := 154) (fr' := [(5, .ptr 5 0 0 0), (1, .t (.sl (l.map encO) false)), (7, .ptr 7 0 0 0), (8, .t (encI ((i + 1) : Nat)))]) (st' := [(5, some ⟨8, 38, 0, [.t (encB b)]⟩), (7, some ⟨4, 29, 0, [.t (encS (runS (QS q) (l.take (i + 1))))]⟩)]) ⟨rfl, rfl, rfl, rfl, rfl, rfl, rfl, rfl, trivial⟩ ⟨rfl, okE_one rfl, (by first | rfl | (rw [runS_step (by omega)]; rfl)), okE_one rfl, trivial⟩, i + 1, (by omega), rfl, rfl⟩
    omega
  · try simp only [decide_eq_true_eq, decide_eq_false_iff_not, beq_iff_eq, bne_iff_ne, bne_eq_false_iff_eq, beq_eq_false_iff_ne, Bool.not_eq_true, Bool.not_eq_false, Bool.not_eq_true', Bool.not_eq_false', ne_eq] at h1
    refine awp_exit ?_
    refine awp_seq ?_
    refine awp_rw rfl ?_
    have hi4 : i = l.length := by have hlen := hsh.2; omega
    subst hi4
    rw [List.take_length]
    refine RW.op rfl rfl (eff_load rfl rfl ti29 rfl (.whole rfl rfl rfl rfl rfl rfl)) ?_
    refine RW.op rfl rfl (eff_load rfl rfl ti38 rfl (.whole rfl rfl rfl rfl rfl rfl)) ?_
    refine RW.op rfl rfl (eff_callT ((by have h := accept23_ret insC (runS (QS q) l) b (hV.sok (by omega)) (by unfold BOK; omega) hV.ss; rw [hA] at h; exact h)) co23 rfl rfl rfl rfl) ?_
    refine RW.op rfl rfl (eff_move (v := .t _) rfl rfl rfl) ?_
    refine RW.op rfl rfl (eff_extract rfl rfl rfl rfl) ?_
    refine RW.op rfl rfl (eff_extract rfl rfl rfl rfl) ?_
    refine RW.op rfl rfl (eff_extract rfl rfl rfl rfl) ?_
    refine RW.new rfl rfl (eff_allocK (k := 4) (id := 9) rfl rfl tz29 rfl rfl) ?_
    refine RW.store rfl rfl (eff_storeW (v := .t _) (els := [_]) (els' := [_]) rfl rfl ti29 rfl rfl rfl rfl rfl rfl rfl rfl rfl) ?_
    refine RW.op rfl rfl (eff_assign (v := .t _) rfl rfl rfl) ?_
    refine RW.op rfl rfl (eff_assign (v := .t _) rfl rfl rfl) ?_
    refine RW.nil ?_
    refine awp_seq ?_
    refine awp_seq ?_
    refine awp_rw rfl ?_
    refine RW.op rfl rfl (eff_move (v := .t _) rfl rfl rfl) ?_
    refine RW.op rfl rfl (eff_iop (r := .bool false) rfl rfl rfl rfl (by exact iop_neq_f (by rfl))) ?_
    refine RW.nil ?_
    refine awp_cond rfl (fun h => nomatch h) (fun _ => ?_)
    refine awp_skip ?_
    refine awp_seq ?_
    refine awp_rw rfl ?_
    refine RW.op rfl rfl (eff_load rfl rfl ti29 rfl (.whole rfl rfl rfl rfl rfl rfl)) ?_
    refine RW.op rfl rfl (eff_load rfl rfl ti38 rfl (.whole rfl rfl rfl rfl rfl rfl)) ?_
    refine RW.op rfl rfl (eff_callT ((by have h := accept23_ret insC A b (hVA.sok (by omega)) (by unfold BOK; omega) hVA.ss; rw [accept_again hb hAs] at h; exact h)) co23 rfl rfl rfl rfl) ?_
    refine RW.op rfl rfl (eff_move (v := .t _) rfl rfl rfl) ?_
    refine RW.op rfl rfl (eff_extract rfl rfl rfl rfl) ?_
    refine RW.op rfl rfl (eff_extract rfl rfl rfl rfl) ?_
    refine RW.op rfl rfl (eff_extract rfl rfl rfl rfl) ?_
    refine RW.new rfl rfl (eff_allocK (k := 4) (id := 12) rfl rfl tz29 rfl rfl) ?_
    refine RW.store rfl rfl (eff_storeW (v := .t _) (els := [_]) (els' := [_]) rfl rfl ti29 rfl rfl rfl rfl rfl rfl rfl rfl rfl) ?_
    refine RW.op rfl rfl (eff_assign (v := .t _) rfl rfl rfl) ?_
    refine RW.op rfl rfl (eff_assign (v := .t _) rfl rfl rfl) ?_
    refine RW.nil ?_
    refine awp_seq ?_
    refine awp_rw rfl ?_
    refine RW.op rfl rfl (eff_load rfl rfl ti29 rfl (.whole rfl rfl rfl rfl rfl rfl)) ?_
    refine RW.op rfl rfl (eff_fieldAddr rfl rfl tf38_0 (by decide) rfl rfl rfl (Nat.le_of_ble_eq_true rfl)) ?_
    refine RW.op rfl rfl (eff_load (y := .t _) rfl rfl ti3 rfl (.one rfl rfl rfl rfl)) ?_
    refine RW.op rfl rfl (eff_callT ((by have h := confirm24_ret A b.id (hVA.sok (by omega)) hVA.ps; rw [hC] at h; exact h)) co24 rfl rfl rfl rfl) ?_
    refine RW.op rfl rfl (eff_move (v := .t _) rfl rfl rfl) ?_
    refine RW.op rfl rfl (eff_extract rfl rfl rfl rfl) ?_
    refine RW.op rfl rfl (eff_extract rfl rfl rfl rfl) ?_
    refine RW.new rfl rfl (eff_allocK (k := 4) (id := 15) rfl rfl tz29 rfl rfl) ?_
    refine RW.store rfl rfl (eff_storeW (v := .t _) (els := [_]) (els' := [_]) rfl rfl ti29 rfl rfl rfl rfl rfl rfl rfl rfl rfl) ?_
    refine RW.op rfl rfl (eff_assign (v := .t _) rfl rfl rfl) ?_
    refine RW.nil ?_
    refine awp_seq ?_
    refine awp_seq ?_
    refine awp_rw rfl ?_
    refine RW.op rfl rfl (eff_move (v := .t _) rfl rfl rfl) ?_
    refine RW.op rfl rfl (eff_iop (r := .bool false) rfl rfl rfl rfl (by exact iop_neq_f (by rfl))) ?_
    refine RW.nil ?_
    refine awp_cond rfl (fun h => nomatch h) (fun _ => ?_)
    refine awp_skip ?_
    refine awp_seq ?_
    refine awp_rw rfl ?_
    refine RW.op rfl rfl (eff_load rfl rfl ti29 rfl (.whole rfl rfl rfl rfl rfl rfl)) ?_
    refine RW.op rfl rfl (eff_load rfl rfl ti38 rfl (.whole rfl rfl rfl rfl rfl rfl)) ?_
    refine RW.op rfl rfl (eff_callT ((by have h := accept23_ret insC V b (hVV.sok (by omega)) (by unfold BOK; omega) hVV.ss; rw [accept_again hb hVs] at h; exact h)) co23 rfl rfl rfl rfl) ?_
    refine RW.op rfl rfl (eff_move (v := .t _) rfl rfl rfl) ?_
    refine RW.op rfl rfl (eff_extract rfl rfl rfl rfl) ?_
    refine RW.op rfl rfl (eff_extract rfl rfl rfl rfl) ?_
    refine RW.op rfl rfl (eff_extract rfl rfl rfl rfl) ?_
    refine RW.new rfl rfl (eff_allocK (k := 4) (id := 17) rfl rfl tz29 rfl rfl) ?_
    refine RW.store rfl rfl (eff_storeW (v := .t _) (els := [_]) (els' := [_]) rfl rfl ti29 rfl rfl rfl rfl rfl rfl rfl rfl rfl) ?_
    refine RW.op rfl rfl (eff_assign (v := .t _) rfl rfl rfl) ?_
    refine RW.op rfl rfl (eff_assign (v := .t _) rfl rfl rfl) ?_
    refine RW.nil ?_
    refine awp_seq ?_
    refine awp_rw rfl ?_
    refine RW.op rfl rfl (eff_move (v := .t _) rfl rfl rfl) ?_
    refine RW.op rfl rfl (eff_move (v := .t _) rfl rfl rfl) ?_
    refine RW.gop rfl rfl rfl rfl rfl rfl (eff_move (v := .t _) rfl rfl rfl) ?_
    refine RW.op rfl rfl (eff_pick (v := .t _) rfl rfl rfl rfl) ?_
    refine RW.op rfl rfl (eff_move (v := .t _) rfl rfl rfl) ?_
    refine RW.gop rfl rfl rfl rfl rfl rfl (eff_move (v := .t _) rfl rfl rfl) ?_
    refine RW.gop rfl rfl rfl rfl rfl rfl (eff_iop (r := .bool true) rfl rfl rfl rfl (by exact iop_eql_t (by rfl))) ?_
    refine RW.op rfl rfl (eff_pick (v := .t _) rfl rfl rfl rfl) ?_
    refine RW.op rfl rfl (eff_move (v := .t _) rfl rfl rfl) ?_
    refine RW.gop rfl rfl rfl rfl rfl rfl (eff_load rfl rfl ti29 rfl (.whole rfl rfl rfl rfl rfl rfl)) ?_
    refine RW.gop rfl rfl rfl rfl rfl rfl (eff_load rfl rfl ti29 rfl (.whole rfl rfl rfl rfl rfl rfl)) ?_
    refine RW.gop rfl rfl rfl rfl rfl rfl (eff_callT ((by have h := same_ret A A (hVA.sok (by omega)) (fun b hb => (hVA.bs b hb).2.1) (fun b hb => (hVA.bs b hb).2.1); rw [same_refl] at h; exact h)) co13 rfl rfl rfl rfl) ?_
    refine RW.op rfl rfl (eff_pick (v := .t _) rfl rfl rfl rfl) ?_
    refine RW.op rfl rfl (eff_move (v := .t _) rfl rfl rfl) ?_
    refine RW.gop rfl rfl rfl rfl rfl rfl (eff_move (v := .t _) rfl rfl rfl) ?_
    refine RW.op rfl rfl (eff_pick (v := .t _) rfl rfl rfl rfl) ?_
    refine RW.op rfl rfl (eff_move (v := .t _) rfl rfl rfl) ?_
    refine RW.gop rfl rfl rfl rfl rfl rfl (eff_move (v := .t _) rfl rfl rfl) ?_
    refine RW.gop rfl rfl rfl rfl rfl rfl (eff_iop (r := .bool true) rfl rfl rfl rfl (by exact iop_eql_t (by rfl))) ?_
    refine RW.op rfl rfl (eff_pick (v := .t _) rfl rfl rfl rfl) ?_
    refine RW.op rfl rfl (eff_move (v := .t _) rfl rfl rfl) ?_
    refine RW.gop rfl rfl rfl rfl rfl rfl (eff_load rfl rfl ti29 rfl (.whole rfl rfl rfl rfl rfl rfl)) ?_
    refine RW.gop rfl rfl rfl rfl rfl rfl (eff_load rfl rfl ti29 rfl (.whole rfl rfl rfl rfl rfl rfl)) ?_
    refine RW.gop rfl rfl rfl rfl rfl rfl (eff_callT ((by have h := same_ret V V (hVV.sok (by omega)) (fun b hb => (hVV.bs b hb).2.1) (fun b hb => (hVV.bs b hb).2.1); rw [same_refl] at h; exact h)) co13 rfl rfl rfl rfl) ?_
    refine RW.op rfl rfl (eff_pick (v := .t _) rfl rfl rfl rfl) ?_
    refine RW.op rfl rfl (eff_move (v := .t _) rfl rfl rfl) ?_
    refine RW.gop rfl rfl rfl rfl rfl rfl (eff_load rfl rfl ti29 rfl (.whole rfl rfl rfl rfl rfl rfl)) ?_
    refine RW.gop rfl rfl rfl rfl rfl rfl (eff_fieldAddr rfl rfl tf38_0 (by decide) rfl rfl rfl (Nat.le_of_ble_eq_true rfl)) ?_
    refine RW.gop rfl rfl rfl rfl rfl rfl (eff_load (y := .t _) rfl rfl ti3 rfl (.one rfl rfl rfl rfl)) ?_
    refine RW.gop rfl rfl rfl rfl rfl rfl (eff_callT (count_ret V b.id (hVV.sok (by omega))) co22 rfl rfl rfl rfl) ?_
    refine RW.gop rfl rfl rfl rfl rfl rfl (eff_iop (r := .bool true) rfl rfl rfl rfl (by exact iop_eql_t (by exact hcn))) ?_
    refine RW.op rfl rfl (eff_pick (v := .t _) rfl rfl rfl rfl) ?_
    refine RW.op rfl rfl (eff_move (v := .t _) rfl rfl rfl) ?_
    refine RW.gop rfl rfl rfl rfl rfl rfl (eff_callT (lives_ret) co10 rfl rfl rfl rfl) ?_
    refine RW.op rfl rfl (eff_pick (v := .t _) rfl rfl rfl rfl) ?_
    refine RW.op rfl rfl (eff_assign (v := .t _) rfl rfl rfl) ?_
    refine RW.nil ?_
    refine awp_ret ?_
    exact ⟨Or.inr rfl, [_], ⟨.tmp (.t _), trivial⟩, .refl _⟩

theorem doubles_ret (q : Int) (hq : 0 ≤ q ∧ q < 65536) (l : List Opn) (hl : l.length ≤ 9223372036854775807) (hB : OpsOK l) (b : Bundle) (hbb : Bytes b.data) : Ret Try.prog 5 [.int .u16 q, .sl (l.map encO) false, encB b] (.bool true) := by
  by_cases hsh : (∀ o, o ∈ l → o.bundle.data.length ≤ 300) ∧ (l.length : Int) ≤ 40
  · by_cases hb : 256 < b.data.length
    · exact doublesN2 q hq l hl hB b hbb hsh hb
    · have hb' : b.data.length ≤ 256 := by omega
      have hlen := hsh.2
      have hV : VInv 40 (runS (QS q) l) := by
        have h := run_inv hq.1 hB l.length (Nat.le_refl _)
        rw [List.take_length] at h
        exact h.mono (by omega)
      rcases accept_ends hV hbb hb' with ⟨A, hA, hVA, hAs⟩ | h9 | h42
      · rcases confirm_ends hVA b.id with ⟨hni, hC⟩ | ⟨V, hC, hVV, hVe⟩
        · exact doublesA1 q hq l hl hB b hbb hsh hb' hV A hA hVA hAs hC hni
        · exact doublesA2 q hq l hl hB b hbb hsh hb' hV A hA hVA hAs V hC hVV (by rw [hVe]; exact hAs) (by rw [hVe]; exact count_filtered)
      · exact doublesE9 q hq l hl hB b hbb hsh hb' hV h9
      · exact doublesE42 q hq l hl hB b hbb hsh hb' hV h42
  · exact doublesN1 q hq l hl hB b hbb hsh

end Go.Tv.C27

end
section
namespace Go.Proofs.Ytgicknpbpdfadaa
open Go Go.Tv Go.Tv.C27 Go.ChangeShapes Go.WideShapes Go.ChangeAt Go.RowKit
set_option linter.unusedVariables false
set_option maxRecDepth 100000
theorem custodyDoubles_contract (H : Type) (enc : TypeId × Value → H) (W : World) (base : Nat) (args : Array Value) (ds gs : List (DataW H)) (before : List MemPlace)
    (hval : ∀ (j : Nat) t v, Try.f5.params[j]? = some t → args[j]? = some v → Value.okWide Try.prog W .any base t v)
    (hW : DataW.Whole enc Try.prog Try.f5.params.toList Rows.custodyDoublesSpec.vars false W args.toList ds gs before) :
    Calls Try.prog 5 args W fun e W' => ∃ v, e = .returned v ∧ Rows.custodyDoublesSpec.post enc Try.prog Try.f5 false true false false W args v W' := by
  have hW' := hW
  obtain ⟨p, q, hA0, hV, rfl, hfz, hnd⟩ := hW
  have hA : DataW.TrodAll enc Try.prog W 0 (fun _ => true) true Try.f5.params.toList args.toList ds p := hA0
  rw [Try.params5] at hA hval
  obtain ⟨v0, vs0, d0, ds0, p0, q0, hargs, rfl, rfl, h0, r0⟩ := trodAll_cons hA
  obtain ⟨v1, vs1, d1, ds1, p1, q1, rfl, rfl, rfl, h1, r1⟩ := trodAll_cons r0
  obtain ⟨v2, vs2, d2, ds2, p2, q2, rfl, rfl, rfl, h2, r2⟩ := trodAll_cons r1
  obtain ⟨rfl, rfl, rfl⟩ := trodAll_nil r2
  obtain rfl : args = #[v0, v1, v2] := by cases args; simp_all
  obtain ⟨rfl, rfl⟩ := trodVars_none hV
  have k0 := hval 0 22 v0 rfl rfl
  obtain ⟨q, rfl, wq⟩ := arg_int Try.underlying22 k0 h0
  have hq := wf_u16 wq
  have k1 := hval 1 23 v1 rfl rfl
  obtain ⟨x1, hx1, l, hl, hm, hB⟩ := arg_slice Try.underlying23 rd23 k1 h1
  obtain rfl : x1 = .sl (l.map encO) false := by simpa using hl
  unfold maxLen at hm
  have hm2 : l.length ≤ 9223372036854775807 := by simpa using hm
  have k2 := hval 2 38 v2 rfl rfl
  obtain ⟨ts, hts, b, hb, hbb⟩ := arg_struct Try.underlying38 rd38 k2 h2
  rw [← hb] at hts
  refine (law_calls (doubles_ret q hq l hm2 hB b hbb) (vl_cons (.int .u16 q) (vl_cons hx1 (vl_cons hts vl_nil)))).mono ?_
  rintro e W' ⟨rfl, hb⟩
  refine ⟨_, rfl, law_post (P := Try.prog) (by kernel_rfl) rfl (fun t ht => ?_) rfl Try.underlying4 hW' ⟨rfl, rfl, rfl⟩ hb⟩
  rw [Try.params5] at ht
  simp only [List.mem_cons, List.not_mem_nil, or_false] at ht
  rcases ht with rfl | rfl | rfl <;> exact ⟨by kernel_rfl, Nat.le_of_ble_eq_true (by kernel_rfl)⟩

theorem custodyDoubles_lifted (os : Os) (started : os.Started) (H : Type) (enc : TypeId × Value → H) :
    ReturnsInHanded {} Try.checked os 5 .any (Rows.custodyDoublesSpec.pre6 enc Try.prog Try.f5 Rows.custodyDoublesRow.domain false) (Rows.custodyDoublesSpec.post enc Try.prog Try.f5 false true false false) := by
  refine returnsInHanded_of_change (C := Try.checked) (by kernel_rfl) started (by kernel_rfl) Try.func5
    (ChangeSpec.witness6 (enc := enc) (C := Try.checked) false ⟨#[], #[.int .u16 0, .slice none 0 0, .agg #[.int .i64 0, .int .i64 0, .int .i64 0, .int .i64 0, .int .i64 0, .int .i64 0, .int .u32 0, .slice none 0 0]], []⟩ 8 (by kernel_rfl) (by kernel_rfl) (by kernel_rfl) (by kernel_rfl)) ?_
  intro W base args ds gs before hval hW _ _
  exact custodyDoubles_contract H enc W base args ds gs before hval hW

theorem custodyDoubles_holds : Rows.CustodyDoublesSaid :=
  OpenClaim.holds_of_wide 5 Try.f5 rfl rfl rfl rfl rfl rfl rfl ⟨rfl, rfl, rfl, rfl, rfl⟩ rfl rfl rfl rfl rfl (by kernel_rfl) Try.func5 (by kernel_rfl)
    (of_decide_eq_true (by kernel_rfl)) (by unfold Func.isWrapper; first | (rw [if_pos (by decide +kernel)]; kernel_rfl) | (rw [if_neg (by decide +kernel)]; exact ⟨rfl, rfl⟩))
    (fun os started H enc _ => custodyDoubles_lifted os started H enc)

end Go.Proofs.Ytgicknpbpdfadaa

end
