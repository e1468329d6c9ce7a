/- CustodyDischarges: for every input that reads as data, the call returns true and leaves its arguments as they were. No condition. -/
import Derived.Test.YtgicknpbpdfadaaT4
import Derived.Test.YtgicknpbpdfadaaRows
section
open Go Go.Tv Go.Proofs
namespace Go.Tv.C27
set_option maxRecDepth 20000
set_option maxHeartbeats 2000000
set_option linter.unusedSimpArgs false
set_option linter.unusedVariables false
theorem stp_sees {i : Nat} (hi : i < 3) {n : Nat} {L : List Store} (h : LInv n L) : ∀ k, LInv (n + 2 * k) (stp i k L) ∧ Sees L (stp i k L)
  | 0 => ⟨h, Sees.refl _⟩
  | k + 1 => by
    obtain ⟨h1, h2⟩ := stp_sees hi h k
    exact ⟨(evt_inv h1 hi false 1 1).mono (by omega), h2.trans (evt_sees h1 hi false 1 1)⟩
theorem settle_sees {U : List Bundle} (hU : Univ U) {n : Nat} {L : List Store} (h : QInv U n L) : ∀ i, i ≤ 3 → Sees L (setl i L)
  | 0, _ => Sees.refl _
  | i + 1, hi => by
    have h1 := (setl_spec hU h i (by omega)).1
    have h2 := (evR_q h1 (i := i) (by omega)).1
    have h3 : Sees (setl i L) (evR (setl i L) i true) := sees_set h1.l.len (by omega) (fun c hc => hc)
    exact (settle_sees hU h i (by omega)).trans (h3.trans (stp_sees (by omega) h2.l _).2)

theorem disch_ret (sz : List Int) (hsz : Bytes sz) (hsl : sz.length ≤ 9223372036854775807) (ft : List Fate) (hft : ∀ f, f ∈ ft → FateOK f) (hfl : ft.length ≤ 9223372036854775807) : Ret Try.prog 8 [.sl (sz.map encBy) false, .sl (ft.map encFt) false] (.bool true) := by
  refine ret_of_awp Try.func8 rfl (Nat.le_of_ble_eq_true rfl) ?_
  refine awp_seq ?_
  refine awp_rw rfl ?_
  refine RW.op rfl rfl (eff_assign (v := .t _) rfl rfl rfl) ?_
  refine RW.nil ?_
  refine awp_seq ?_
  refine awp_seq ?_
  refine awp_rw rfl ?_
  refine RW.op rfl rfl (eff_move (v := .t _) rfl rfl rfl) ?_
  refine RW.op rfl rfl (eff_lenM rfl rfl te34 rfl) ?_
  refine RW.op rfl rfl (eff_iop rfl rfl rfl rfl rfl) ?_
  refine RW.op rfl rfl (eff_move (v := .t _) rfl rfl rfl) ?_
  refine RW.split 16 rfl (fun h1 => ?_) (fun h1 => ?_)
  · try simp only [decide_eq_true_eq, decide_eq_false_iff_not, beq_iff_eq, bne_iff_ne, bne_eq_false_iff_eq, beq_eq_false_iff_ne, Bool.not_eq_true, Bool.not_eq_false, Bool.not_eq_true', Bool.not_eq_false', ne_eq] at h1
    refine RW.gskip rfl rfl rfl rfl rfl (by decide) ?_
    refine RW.gskip rfl rfl rfl rfl rfl (by decide) ?_
    refine RW.gskip rfl rfl rfl rfl rfl (by decide) ?_
    refine RW.op rfl rfl (eff_pick (v := .t _) rfl rfl rfl rfl) ?_
    refine RW.nil ?_
    refine awp_cond rfl (fun _ => ?_) (fun h => nomatch h)
    refine awp_seq ?_
    refine awp_rw rfl ?_
    refine RW.op rfl rfl (eff_callT (lives_ret) co10 rfl rfl rfl rfl) ?_
    refine RW.op rfl rfl (eff_assign (v := .t _) rfl rfl rfl) ?_
    refine RW.nil ?_
    refine awp_ret ?_
    exact ⟨Or.inr rfl, [_], ⟨.tmp (.t _), trivial⟩, .refl _⟩
  · try simp only [decide_eq_true_eq, decide_eq_false_iff_not, beq_iff_eq, bne_iff_ne, bne_eq_false_iff_eq, beq_eq_false_iff_ne, Bool.not_eq_true, Bool.not_eq_false, Bool.not_eq_true', Bool.not_eq_false', ne_eq] at h1
    refine RW.gop rfl rfl rfl rfl rfl rfl (eff_move (v := .t _) rfl rfl rfl) ?_
    refine RW.gop rfl rfl rfl rfl rfl rfl (eff_lenM rfl rfl te57 rfl) ?_
    refine RW.gop rfl rfl rfl rfl rfl rfl (eff_iop rfl rfl rfl rfl rfl) ?_
    refine RW.op rfl rfl (eff_pick (v := .t _) rfl rfl rfl rfl) ?_
    refine RW.nil ?_
    refine awp_cond rfl (fun h2 => ?_) (fun h2 => ?_)
    · try simp only [decide_eq_true_eq, decide_eq_false_iff_not, beq_iff_eq, bne_iff_ne, bne_eq_false_iff_eq, beq_eq_false_iff_ne, Bool.not_eq_true, Bool.not_eq_false, Bool.not_eq_true', Bool.not_eq_false', ne_eq] at h2
      refine awp_seq ?_
      refine awp_rw rfl ?_
      refine RW.op rfl rfl (eff_callT (lives_ret) co10 rfl rfl rfl rfl) ?_
      refine RW.op rfl rfl (eff_assign (v := .t _) rfl rfl rfl) ?_
      refine RW.nil ?_
      refine awp_ret ?_
      exact ⟨Or.inr rfl, [_], ⟨.tmp (.t _), trivial⟩, .refl _⟩
    · try simp only [decide_eq_true_eq, decide_eq_false_iff_not, beq_iff_eq, bne_iff_ne, bne_eq_false_iff_eq, beq_eq_false_iff_ne, Bool.not_eq_true, Bool.not_eq_false, Bool.not_eq_true', Bool.not_eq_false', ne_eq] at h2
      refine awp_skip ?_
      refine awp_seq ?_
      refine awp_rw rfl ?_
      refine RW.new rfl rfl (eff_allocL (y := .agg [encI 0, .sl [] false, .sl [] false, .sl [] false, encI 0, .sl [] false, .sl [] false, .sl [] false, encI 0, .sl [] false, .sl [] false, .sl [] false, encI 0, .sl [] false, .sl [] false, .sl [] false]) (k := 4) (id := 5) (els := encL (LQ 10000 0)) rfl rfl tz58 rfl (Wk.aggP ⟨.refl _, .sl _, .sl _, .sl _, .refl _, .sl _, .sl _, .sl _, .refl _, .sl _, .sl _, .sl _, .refl _, .sl _, .sl _, .sl _, trivial⟩) rfl rfl rfl rfl (List.cons_ne_nil _ _)) ?_
      refine RW.nil ?_
      refine awp_seq ?_
      refine awp_seq ?_
      refine awp_rw rfl ?_
      refine RW.op rfl rfl (eff_assign (v := .t _) rfl rfl rfl) ?_
      refine RW.nil ?_
      refine awp_block ?_
      refine awp_loopW (fun m s => ∃ (i : Nat), (i ≤ 4) ∧ m = 4 - i ∧ s = ⟨105, [(0, .t (.sl (sz.map encBy) false)), (1, .t (.sl (ft.map encFt) false)), (5, .ptr 5 0 0 0), (6, .t (encI (i : Nat)))], [(5, some ⟨4, 58, 0, encL (LQ 10000 i)⟩)]⟩) (_) (⟨_, weak_keep (n := 105) (fr' := [(0, .t (.sl (sz.map encBy) false)), (1, .t (.sl (ft.map encFt) false)), (5, .ptr 5 0 0 0), (6, .t (encI (0 : Nat)))]) (st' := [(5, some ⟨4, 58, 0, encL (LQ 10000 0)⟩)]) ⟨rfl, rfl, rfl, rfl, rfl, rfl, rfl, rfl, trivial⟩ ⟨rfl, okE_t, trivial⟩, 0, (by omega), rfl, rfl⟩) ?_
      rintro m s ⟨i, hi, rfl, rfl⟩
      refine awp_seq ?_
      refine awp_seq ?_
      refine awp_rw rfl ?_
      refine RW.op rfl rfl (eff_move (v := .t _) rfl rfl rfl) ?_
      refine RW.op rfl rfl (eff_iop rfl rfl rfl rfl rfl) ?_
      refine RW.nil ?_
      refine awp_cond rfl (fun h3 => ?_) (fun h3 => ?_)
      · try simp only [decide_eq_true_eq, decide_eq_false_iff_not, beq_iff_eq, bne_iff_ne, bne_eq_false_iff_eq, beq_eq_false_iff_ne, Bool.not_eq_true, Bool.not_eq_false, Bool.not_eq_true', Bool.not_eq_false', ne_eq] at h3
        refine awp_skip ?_
        refine awp_seq ?_
        refine awp_block ?_
        refine awp_rw rfl ?_
        refine RW.op rfl rfl (eff_move (v := .t _) rfl rfl rfl) ?_
        refine RW.op rfl rfl (eff_indexAddrP (i := i) rfl rfl tu58 ti29 rfl rfl rfl (by omega) rfl rfl rfl (alen (LQ_len (by omega)) (by omega))) ?_
        refine RW.op rfl rfl (eff_fieldAddr rfl rfl tf29_0 (by decide) rfl rfl rfl (Nat.le_of_ble_eq_true rfl)) ?_
        refine RW.store rfl rfl (eff_storeS (v := .t (encI 10000)) (ys := [_, _, _, _]) (els := encL (LQ 10000 i)) (els' := encL (LQ 10000 (i + 1))) (el := .t (encS ⟨0, [], [], []⟩)) rfl rfl ti3 rfl rfl rfl rfl rfl rfl (by rw [ael (LQ_len (by omega)) (by omega), LQ_at (by omega)]) (Nat.le_of_ble_eq_true rfl) rfl (by rw [← LQ_step (by omega)]; exact aset (t := ⟨10000, [], [], []⟩))) ?_
        refine RW.nil ?_
        refine awp_rw rfl ?_
        refine RW.op rfl rfl (eff_move (v := .t _) rfl rfl rfl) ?_
        refine RW.op rfl rfl (eff_iop rfl rfl rfl rfl (iadd (by omega))) ?_
        refine RW.op rfl rfl (eff_assign (v := .t _) rfl rfl rfl) ?_
        refine RW.nil ?_
        refine ⟨_, ?_, _, weak_keep (n := 105) (fr' := [(0, .t (.sl (sz.map encBy) false)), (1, .t (.sl (ft.map encFt) false)), (5, .ptr 5 0 0 0), (6, .t (encI ((i + 1) : Nat)))]) (st' := [(5, some ⟨4, 58, 0, encL (LQ 10000 (i + 1))⟩)]) ⟨rfl, rfl, rfl, rfl, rfl, rfl, rfl, rfl, trivial⟩ ⟨rfl, okE_t, trivial⟩, i + 1, (by omega), rfl, rfl⟩
        omega
      · try simp only [decide_eq_true_eq, decide_eq_false_iff_not, beq_iff_eq, bne_iff_ne, bne_eq_false_iff_eq, beq_eq_false_iff_ne, Bool.not_eq_true, Bool.not_eq_false, Bool.not_eq_true', Bool.not_eq_false', ne_eq] at h3
        refine awp_exit ?_
        refine awp_seq ?_
        refine awp_seq ?_
        refine awp_rw rfl ?_
        have hi4 : i = 4 := by omega
        subst hi4
        refine RW.op rfl rfl (eff_assign (v := .t _) rfl rfl rfl) ?_
        refine RW.nil ?_
        refine awp_block ?_
        refine awp_loopW (fun m s => ∃ (i : Nat) (M : List Store), (i ≤ sz.length) ∧ (QInv (mkU sz) i M) ∧ (∀ c : Int, c ∈ (at' M 0).seen ↔ 0 ≤ c ∧ c < i) ∧ m = sz.length - i ∧ s = ⟨105, [(0, .t (.sl (sz.map encBy) false)), (1, .t (.sl (ft.map encFt) false)), (5, .ptr 5 0 0 0), (7, .t (encI (i : Nat)))], [(5, some ⟨4, 58, 0, encL M⟩)]⟩) (_) (⟨_, weak_keep (n := 105) (fr' := [(0, .t (.sl (sz.map encBy) false)), (1, .t (.sl (ft.map encFt) false)), (5, .ptr 5 0 0 0), (7, .t (encI (0 : Nat)))]) (st' := [(5, some ⟨4, 58, 0, encL ((Lz 10000))⟩)]) ⟨rfl, rfl, rfl, rfl, rfl, rfl, rfl, rfl, trivial⟩ ⟨rfl, okE_t, trivial⟩, 0, (Lz 10000), (by omega), (by exact Lz_q), (by intro c; constructor; (intro h; exact absurd h (by show c ∉ ([] : List Int); simp)); (intro h; omega)), rfl, rfl⟩) ?_
        rintro m s ⟨i, M, hi, hM, hsn, rfl, rfl⟩
        refine awp_seq ?_
        refine awp_seq ?_
        refine awp_rw rfl ?_
        refine RW.op rfl rfl (eff_move (v := .t _) rfl rfl rfl) ?_
        refine RW.op rfl rfl (eff_move (v := .t _) rfl rfl rfl) ?_
        refine RW.op rfl rfl (eff_lenM rfl rfl te34 rfl) ?_
        refine RW.op rfl rfl (eff_iop rfl rfl rfl rfl rfl) ?_
        refine RW.nil ?_
        refine awp_cond rfl (fun h4 => ?_) (fun h4 => ?_)
        · try simp only [decide_eq_true_eq, decide_eq_false_iff_not, beq_iff_eq, bne_iff_ne, bne_eq_false_iff_eq, beq_eq_false_iff_ne, Bool.not_eq_true, Bool.not_eq_false, Bool.not_eq_true', Bool.not_eq_false', ne_eq] at h4
          refine awp_skip ?_
          refine awp_seq ?_
          refine awp_block ?_
          refine awp_seq ?_
          have his : i < sz.length := by omega
          have hsi := hsz _ (List.getElem_mem his)
          obtain ⟨hc0, hq1, hq2⟩ := crea_q (mkU_univ hsz (by omega)) hM (mkU_mem his) (by rw [hsn]; show ¬ (0 ≤ (i : Int) ∧ (i : Int) < i); omega)
          refine awp_rd [(some 36, []), (some 37, []), (some 38, []), (some 39, []), (some 40, []), (some 41, []), (some 42, []), (some 43, []), (some 44, []), (some 45, []), (some 35, []), (some 46, []), (some 47, []), (some 8, [8]), (none, [8]), (some 9, [])] [[], [0], [], [], [], [3, 4], [3, 4, 5], [3, 4, 5, 6], [2, 3, 4, 5, 6, 7], [0, 1, 2, 3, 4, 5, 6, 7, 8], [0, 1, 2, 3, 4, 5, 6, 7, 8, 9], [0, 1, 2, 3, 4, 5, 6, 7, 8, 9, 10], [0, 1, 2, 3, 4, 5, 6, 7, 8, 9, 10], [], [0, 1, 2, 3, 4, 5, 6, 7, 8, 9, 10, 11, 13], [0, 1, 2, 3, 4, 5, 6, 7, 8, 9, 10, 11, 12, 13, 14]] tm rfl rfl rfl rfl ?_
          refine RD.op rfl rfl rfl (eff_indexAddrP (i := 0) rfl rfl tu58 ti29 rfl rfl (by first | rfl | omega) (by omega) rfl rfl rfl (alen hM.l.len (by omega))) ?_
          refine RD.op rfl rfl rfl (eff_load (y := .t (encS (at' M (0)))) rfl rfl ti29 rfl (.whole rfl rfl (ael hM.l.len (by omega)) rfl rfl rfl)) ?_
          refine RD.op rfl rfl rfl (eff_move (v := .t _) rfl rfl rfl) ?_
          refine RD.op rfl rfl rfl (eff_move (v := .t _) rfl rfl rfl) ?_
          refine RD.op rfl rfl rfl (eff_move (v := .t _) rfl rfl rfl) ?_
          refine RD.op rfl rfl rfl (eff_indexM rfl rfl te34 rfl rfl rfl (by first | assumption | exact List.getElem?_eq_getElem (by omega)) rfl (by decide)) ?_
          refine RD.op rfl rfl rfl (eff_loadW1 rfl rfl ti5 rfl rfl) ?_
          refine RD.op rfl rfl rfl (eff_convIntE (m := (((sz[i]'his).toNat : Nat) : Int)) rfl rfl (by rw [tu5]; rfl) tu3 rfl (by rw [wrap64 (by omega) (by omega)]; omega)) ?_
          refine RD.op rfl rfl rfl (eff_callT (bundle_ret (i : Int) (sz[i]'his).toNat (by omega)) co29 rfl rfl rfl rfl) ?_
          refine RD.op rfl rfl rfl (eff_callT (create28_ret insC (at' M 0) (bd i ((sz[i]'his)).toNat) ((hM.l.vi (0) (by omega)).sok (by omega)) (by unfold BOK; simp; omega) (hM.l.vi 0 (by omega)).ss) co28 rfl rfl rfl rfl) ?_
          refine RD.op rfl rfl rfl (eff_move (v := .t _) rfl rfl rfl) ?_
          refine RD.op rfl rfl rfl (eff_extract rfl rfl rfl rfl) ?_
          refine RD.op rfl rfl rfl (eff_extract rfl rfl rfl rfl) ?_
          refine RD.new rfl rfl rfl (eff_allocK (k := 4) (id := 8) rfl rfl tz29 rfl rfl) ?_
          refine RD.store rfl rfl rfl (eff_storeW (v := .t _) (els := [_]) (els' := [_]) rfl rfl ti29 rfl rfl rfl rfl rfl rfl rfl rfl rfl) ?_
          refine RD.op rfl rfl rfl (eff_assign (v := .t _) rfl rfl rfl) ?_
          refine RD.nil ?_
          refine awp_seq ?_
          refine awp_seq ?_
          refine awp_rw rfl ?_
          refine RW.op rfl rfl (eff_move (v := .t _) rfl rfl rfl) ?_
          refine RW.op rfl rfl (eff_iop (r := .bool false) rfl rfl rfl rfl (by exact iop_neq_f (by exact hc0))) ?_
          refine RW.nil ?_
          refine awp_cond rfl (fun h => nomatch h) (fun _ => ?_)
          refine awp_skip ?_
          refine awp_rw rfl ?_
          refine RW.op rfl rfl (eff_load rfl rfl ti29 rfl (.whole rfl rfl rfl rfl rfl rfl)) ?_
          refine RW.op rfl rfl (eff_indexAddrP (i := 0) rfl rfl tu58 ti29 rfl rfl (by first | rfl | omega) (by omega) rfl rfl rfl (alen hM.l.len (by omega))) ?_
          refine RW.store rfl rfl (eff_storeW (v := .t (encS (create (at' M 0) (bd i ((sz[i]'his)).toNat)).1)) (els := encL M) (els' := encL (M.set 0 (create (at' M 0) (bd i ((sz[i]'his)).toNat)).1)) (el := .t (encS (at' M (0)))) rfl rfl ti29 rfl rfl rfl rfl rfl rfl (ael hM.l.len (by omega)) rfl aset) ?_
          refine RW.nil ?_
          refine awp_rw rfl ?_
          refine RW.op rfl rfl (eff_move (v := .t _) rfl rfl rfl) ?_
          refine RW.op rfl rfl (eff_iop rfl rfl rfl rfl (iadd (by omega))) ?_
          refine RW.op rfl rfl (eff_assign (v := .t _) rfl rfl rfl) ?_
          refine RW.nil ?_
          refine ⟨_, ?_, _, weak_keep (n := 105) (fr' := [(0, .t (.sl (sz.map encBy) false)), (1, .t (.sl (ft.map encFt) false)), (5, .ptr 5 0 0 0), (7, .t (encI ((i + 1) : Nat)))]) (st' := [(5, some ⟨4, 58, 0, encL _⟩)]) ⟨rfl, rfl, rfl, rfl, rfl, rfl, rfl, rfl, trivial⟩ ⟨rfl, okE_t, trivial⟩, i + 1, _, (by omega), (by exact hq1), (by intro c; rw [hq2]; rw [hsn]; show c = (i : Int) ∨ _ ↔ _; omega), rfl, rfl⟩
          omega
        · try simp only [decide_eq_true_eq, decide_eq_false_iff_not, beq_iff_eq, bne_iff_ne, bne_eq_false_iff_eq, beq_eq_false_iff_ne, Bool.not_eq_true, Bool.not_eq_false, Bool.not_eq_true', Bool.not_eq_false', ne_eq] at h4
          refine awp_exit ?_
          refine awp_seq ?_
          refine awp_seq ?_
          refine awp_rw rfl ?_
          have hi5 : sz.length = i := by omega
          have hn20 : i ≤ 20 := by omega
          refine RW.op rfl rfl (eff_assign (v := .t _) rfl rfl rfl) ?_
          refine RW.nil ?_
          refine awp_block ?_
          refine awp_loopW (fun m s => ∃ (j : Nat) (M : List Store), (j ≤ ft.length) ∧ (QInv (mkU sz) (20 + 3 * j) M) ∧ (∀ c : Int, 0 ≤ c → c < sz.length → c ∈ (at' M 0).seen) ∧ m = ft.length - j ∧ s = ⟨105, [(0, .t (.sl (sz.map encBy) false)), (1, .t (.sl (ft.map encFt) false)), (5, .ptr 5 0 0 0), (10, .t (encI (j : Nat)))], [(5, some ⟨4, 58, 0, encL M⟩)]⟩) (_) (⟨_, weak_keep (n := 105) (fr' := [(0, .t (.sl (sz.map encBy) false)), (1, .t (.sl (ft.map encFt) false)), (5, .ptr 5 0 0 0), (10, .t (encI (0 : Nat)))]) (st' := [(5, some ⟨4, 58, 0, encL _⟩)]) ⟨rfl, rfl, rfl, rfl, rfl, rfl, rfl, rfl, trivial⟩ ⟨rfl, okE_t, trivial⟩, 0, _, (by omega), (by exact ⟨hM.l.mono (by omega), hM.qu, hM.bu⟩), (by intro c h0 h1; exact (hsn c).2 ⟨h0, by omega⟩), rfl, rfl⟩) ?_
          rintro m s ⟨j, M, hj, hM, hs, rfl, rfl⟩
          refine awp_seq ?_
          refine awp_seq ?_
          refine awp_rw rfl ?_
          refine RW.op rfl rfl (eff_move (v := .t _) rfl rfl rfl) ?_
          refine RW.op rfl rfl (eff_move (v := .t _) rfl rfl rfl) ?_
          refine RW.op rfl rfl (eff_lenM rfl rfl te57 rfl) ?_
          refine RW.op rfl rfl (eff_iop rfl rfl rfl rfl rfl) ?_
          refine RW.nil ?_
          refine awp_cond rfl (fun h5 => ?_) (fun h5 => ?_)
          · try simp only [decide_eq_true_eq, decide_eq_false_iff_not, beq_iff_eq, bne_iff_ne, bne_eq_false_iff_eq, beq_eq_false_iff_ne, Bool.not_eq_true, Bool.not_eq_false, Bool.not_eq_true', Bool.not_eq_false', ne_eq] at h5
            refine awp_skip ?_
            refine awp_seq ?_
            refine awp_block ?_
            refine awp_seq ?_
            refine awp_rw rfl ?_
            refine RW.op rfl rfl (eff_move (v := .t _) rfl rfl rfl) ?_
            refine RW.op rfl rfl (eff_move (v := .t _) rfl rfl rfl) ?_
            refine RW.op rfl rfl (eff_indexM rfl rfl te57 rfl rfl rfl (by first | assumption | exact List.getElem?_eq_getElem (by omega)) rfl (by decide)) ?_
            refine RW.op rfl rfl (eff_loadW rfl rfl ti64 rfl rfl rfl) ?_
            refine RW.new rfl rfl (eff_callK (event_fate (20 + 3 * j) (by omega) M hM.l (ft[j]'(by omega)) (hft _ (List.getElem_mem _))) co30 (fun _ => 5) rfl rfl rfl ⟨.ptr _ _ _ _ rfl rfl, .t _, trivial⟩ (.t _) rfl ⟨⟨rfl, treeEls_t, ⟨_, rfl, .inr ⟨rfl, rfl, rfl, alen2 (evF_inv hM.l _).1.len hM.l.len, 0, rfl, List.mem_singleton.2 rfl⟩⟩⟩, trivial⟩ ⟨⟨treeEls_t, .inl rfl⟩, trivial⟩) ?_
            refine RW.op rfl rfl (eff_unop rfl rfl rfl rfl) ?_
            refine RW.nil ?_
            refine awp_cond rfl (fun h => nomatch h) (fun _ => ?_)
            refine awp_skip ?_
            refine awp_rw rfl ?_
            refine RW.op rfl rfl (eff_move (v := .t _) rfl rfl rfl) ?_
            refine RW.op rfl rfl (eff_iop rfl rfl rfl rfl (iadd (by omega))) ?_
            refine RW.op rfl rfl (eff_assign (v := .t _) rfl rfl rfl) ?_
            refine RW.nil ?_
            refine ⟨_, ?_, _, weak_keep (n := 105) (fr' := [(0, .t (.sl (sz.map encBy) false)), (1, .t (.sl (ft.map encFt) false)), (5, .ptr 5 0 0 0), (10, .t (encI ((j + 1) : Nat)))]) (st' := [(5, some ⟨4, 58, 0, encL _⟩)]) ⟨rfl, rfl, rfl, rfl, rfl, rfl, rfl, rfl, trivial⟩ ⟨rfl, okE_t, trivial⟩, j + 1, _, (by omega), (by exact ⟨(evF_q hM _).l.mono (by omega), (evF_q hM _).qu, (evF_q hM _).bu⟩), (by intro c h0 h1; exact (evF_inv hM.l _).2 0 c (by omega) (hs c h0 h1)), rfl, rfl⟩
            omega
          · try simp only [decide_eq_true_eq, decide_eq_false_iff_not, beq_iff_eq, bne_iff_ne, bne_eq_false_iff_eq, beq_eq_false_iff_ne, Bool.not_eq_true, Bool.not_eq_false, Bool.not_eq_true', Bool.not_eq_false', ne_eq] at h5
            refine awp_exit ?_
            refine awp_seq ?_
            refine awp_seq ?_
            refine awp_rw rfl ?_
            have hn80 : j ≤ 80 := by omega
            obtain ⟨hE, hem⟩ := setl_spec (mkU_univ hsz (by omega)) hM 3 (Nat.le_refl _)
            have hS0 := settle_sees (mkU_univ hsz (by omega)) hM 3 (Nat.le_refl _)
            have hs3 : ∀ c : Int, 0 ≤ c → c < sz.length → c ∈ (at' (setl 3 M) 0).seen := fun c h0 h1 => hS0 0 c (by omega) (hs c h0 h1)
            refine RW.new rfl rfl (eff_callK (settle_ret (mkU sz) (mkU_univ hsz (by omega)) (20 + 3 * j) (by omega) M hM) co31 (fun _ => 5) rfl rfl rfl ⟨.ptr _ _ _ _ rfl rfl, trivial⟩ (.t _) rfl ⟨⟨rfl, treeEls_t, ⟨_, rfl, .inr ⟨rfl, rfl, rfl, alen2 hE.l.len hM.l.len, 0, rfl, List.mem_singleton.2 rfl⟩⟩⟩, trivial⟩ ⟨⟨treeEls_t, .inl rfl⟩, trivial⟩) ?_
            refine RW.op rfl rfl (eff_unop rfl rfl rfl rfl) ?_
            refine RW.nil ?_
            refine awp_cond rfl (fun h => nomatch h) (fun _ => ?_)
            refine awp_skip ?_
            refine awp_seq ?_
            refine awp_seq ?_
            refine awp_rw rfl ?_
            refine RW.op rfl rfl (eff_assign (v := .t _) rfl rfl rfl) ?_
            refine RW.nil ?_
            refine awp_block ?_
            refine awp_loopW (fun m s => ∃ (c : Nat), (c ≤ 3) ∧ m = 3 - c ∧ s = ⟨105, [(0, .t (.sl (sz.map encBy) false)), (1, .t (.sl (ft.map encFt) false)), (5, .ptr 5 0 0 0), (11, .t (encI (c : Nat)))], [(5, some ⟨4, 58, 0, encL (setl 3 M)⟩)]⟩) (_) (⟨_, weak_keep (n := 105) (fr' := [(0, .t (.sl (sz.map encBy) false)), (1, .t (.sl (ft.map encFt) false)), (5, .ptr 5 0 0 0), (11, .t (encI (0 : Nat)))]) (st' := [(5, some ⟨4, 58, 0, encL (setl 3 M)⟩)]) ⟨rfl, rfl, rfl, rfl, rfl, rfl, rfl, rfl, trivial⟩ ⟨rfl, okE_t, trivial⟩, 0, (by omega), rfl, rfl⟩) ?_
            rintro m s ⟨c, hc, rfl, rfl⟩
            refine awp_seq ?_
            refine awp_seq ?_
            refine awp_rw rfl ?_
            refine RW.op rfl rfl (eff_move (v := .t _) rfl rfl rfl) ?_
            refine RW.op rfl rfl (eff_iop rfl rfl rfl rfl rfl) ?_
            refine RW.nil ?_
            refine awp_cond rfl (fun h6 => ?_) (fun h6 => ?_)
            · try simp only [decide_eq_true_eq, decide_eq_false_iff_not, beq_iff_eq, bne_iff_ne, bne_eq_false_iff_eq, beq_eq_false_iff_ne, Bool.not_eq_true, Bool.not_eq_false, Bool.not_eq_true', Bool.not_eq_false', ne_eq] at h6
              refine awp_skip ?_
              refine awp_seq ?_
              refine awp_block ?_
              refine awp_seq ?_
              refine awp_rw rfl ?_
              refine RW.op rfl rfl (eff_move (v := .t _) rfl rfl rfl) ?_
              refine RW.op rfl rfl (eff_indexAddrP (i := c) rfl rfl tu58 ti29 rfl rfl (by first | rfl | omega) (by omega) rfl rfl rfl (alen hE.l.len (by omega))) ?_
              refine RW.op rfl rfl (eff_fieldAddr rfl rfl tf29_1 (by decide) rfl rfl rfl (Nat.le_of_ble_eq_true rfl)) ?_
              refine RW.op rfl rfl (eff_load (y := .t (.sl ((at' (setl 3 M) (c)).bundles.map encB) false)) rfl rfl ti26 rfl (.one rfl rfl (ael hE.l.len (by omega)) rfl)) ?_
              refine RW.op rfl rfl (eff_lenM rfl rfl te26 rfl) ?_
              refine RW.op rfl rfl (eff_iop (r := .bool false) rfl rfl rfl rfl (by exact iop_neq_f (by rw [(hem c (by omega)).1]; rfl))) ?_
              refine RW.op rfl rfl (eff_move (v := .t _) rfl rfl rfl) ?_
              refine RW.gop rfl rfl rfl rfl rfl rfl (eff_move (v := .t _) rfl rfl rfl) ?_
              refine RW.gop rfl rfl rfl rfl rfl rfl (eff_indexAddrP (i := c) rfl rfl tu58 ti29 rfl rfl (by first | rfl | omega) (by omega) rfl rfl rfl (alen hE.l.len (by omega))) ?_
              refine RW.gop rfl rfl rfl rfl rfl rfl (eff_fieldAddr rfl rfl tf29_2 (by decide) rfl rfl rfl (Nat.le_of_ble_eq_true rfl)) ?_
              refine RW.gop rfl rfl rfl rfl rfl rfl (eff_load (y := .t (.sl ((at' (setl 3 M) (c)).passed.map encI) false)) rfl rfl ti27 rfl (.one rfl rfl (ael hE.l.len (by omega)) rfl)) ?_
              refine RW.gop rfl rfl rfl rfl rfl rfl (eff_lenM rfl rfl te27 rfl) ?_
              refine RW.gop rfl rfl rfl rfl rfl rfl (eff_iop (r := .bool false) rfl rfl rfl rfl (by exact iop_neq_f (by rw [(hem c (by omega)).2]; rfl))) ?_
              refine RW.op rfl rfl (eff_pick (v := .t _) rfl rfl rfl rfl) ?_
              refine RW.nil ?_
              refine awp_cond rfl (fun h => nomatch h) (fun _ => ?_)
              refine awp_skip ?_
              refine awp_rw rfl ?_
              refine RW.op rfl rfl (eff_move (v := .t _) rfl rfl rfl) ?_
              refine RW.op rfl rfl (eff_iop rfl rfl rfl rfl (iadd (by omega))) ?_
              refine RW.op rfl rfl (eff_assign (v := .t _) rfl rfl rfl) ?_
              refine RW.nil ?_
              refine ⟨_, ?_, _, weak_keep (n := 105) (fr' := [(0, .t (.sl (sz.map encBy) false)), (1, .t (.sl (ft.map encFt) false)), (5, .ptr 5 0 0 0), (11, .t (encI ((c + 1) : Nat)))]) (st' := [(5, some ⟨4, 58, 0, encL (setl 3 M)⟩)]) ⟨rfl, rfl, rfl, rfl, rfl, rfl, rfl, rfl, trivial⟩ ⟨rfl, okE_t, trivial⟩, c + 1, (by omega), rfl, rfl⟩
              omega
            · try simp only [decide_eq_true_eq, decide_eq_false_iff_not, beq_iff_eq, bne_iff_ne, bne_eq_false_iff_eq, beq_eq_false_iff_ne, Bool.not_eq_true, Bool.not_eq_false, Bool.not_eq_true', Bool.not_eq_false', ne_eq] at h6
              refine awp_exit ?_
              refine awp_seq ?_
              refine awp_seq ?_
              refine awp_rw rfl ?_
              refine RW.op rfl rfl (eff_assign (v := .t _) rfl rfl rfl) ?_
              refine RW.nil ?_
              refine awp_block ?_
              refine awp_loopW (fun m s => ∃ (d : Nat), (d ≤ sz.length) ∧ m = sz.length - d ∧ s = ⟨105, [(0, .t (.sl (sz.map encBy) false)), (1, .t (.sl (ft.map encFt) false)), (5, .ptr 5 0 0 0), (12, .t (encI (d : Nat)))], [(5, some ⟨4, 58, 0, encL (setl 3 M)⟩)]⟩) (_) (⟨_, weak_keep (n := 105) (fr' := [(0, .t (.sl (sz.map encBy) false)), (1, .t (.sl (ft.map encFt) false)), (5, .ptr 5 0 0 0), (12, .t (encI (0 : Nat)))]) (st' := [(5, some ⟨4, 58, 0, encL (setl 3 M)⟩)]) ⟨rfl, rfl, rfl, rfl, rfl, rfl, rfl, rfl, trivial⟩ ⟨rfl, okE_t, trivial⟩, 0, (by omega), rfl, rfl⟩) ?_
              rintro m s ⟨d, hd, rfl, rfl⟩
              refine awp_seq ?_
              refine awp_seq ?_
              refine awp_rw rfl ?_
              refine RW.op rfl rfl (eff_move (v := .t _) rfl rfl rfl) ?_
              refine RW.op rfl rfl (eff_move (v := .t _) rfl rfl rfl) ?_
              refine RW.op rfl rfl (eff_lenM rfl rfl te34 rfl) ?_
              refine RW.op rfl rfl (eff_iop rfl rfl rfl rfl rfl) ?_
              refine RW.nil ?_
              refine awp_cond rfl (fun h7 => ?_) (fun h7 => ?_)
              · try simp only [decide_eq_true_eq, decide_eq_false_iff_not, beq_iff_eq, bne_iff_ne, bne_eq_false_iff_eq, beq_eq_false_iff_ne, Bool.not_eq_true, Bool.not_eq_false, Bool.not_eq_true', Bool.not_eq_false', ne_eq] at h7
                refine awp_skip ?_
                refine awp_seq ?_
                refine awp_block ?_
                refine awp_seq ?_
                refine awp_rw rfl ?_
                refine RW.op rfl rfl (eff_indexAddrP (i := 3) rfl rfl tu58 ti29 rfl rfl (by first | rfl | omega) (by omega) rfl rfl rfl (alen hE.l.len (by omega))) ?_
                refine RW.op rfl rfl (eff_load (y := .t (encS (at' (setl 3 M) 3))) rfl rfl ti29 rfl (.whole rfl rfl (ael hE.l.len (by omega)) rfl rfl rfl)) ?_
                refine RW.op rfl rfl (eff_move (v := .t _) rfl rfl rfl) ?_
                refine RW.op rfl rfl (eff_callT (count_ret (at' (setl 3 M) 3) (d : Int) ((hE.l.vi (3) (by omega)).sok (by omega))) co22 rfl rfl rfl rfl) ?_
                refine RW.op rfl rfl (eff_iop (r := .bool false) rfl rfl rfl rfl (by exact iop_neq_f (by exact count_one (hE.l.vi 3 (by omega)) (last_all hE (fun j hj => (hem j hj).1) (N := sz.length) hs3 (by omega) (by omega))))) ?_
                refine RW.nil ?_
                refine awp_cond rfl (fun h => nomatch h) (fun _ => ?_)
                refine awp_skip ?_
                refine awp_rw rfl ?_
                refine RW.op rfl rfl (eff_move (v := .t _) rfl rfl rfl) ?_
                refine RW.op rfl rfl (eff_iop rfl rfl rfl rfl (iadd (by omega))) ?_
                refine RW.op rfl rfl (eff_assign (v := .t _) rfl rfl rfl) ?_
                refine RW.nil ?_
                refine ⟨_, ?_, _, weak_keep (n := 105) (fr' := [(0, .t (.sl (sz.map encBy) false)), (1, .t (.sl (ft.map encFt) false)), (5, .ptr 5 0 0 0), (12, .t (encI ((d + 1) : Nat)))]) (st' := [(5, some ⟨4, 58, 0, encL (setl 3 M)⟩)]) ⟨rfl, rfl, rfl, rfl, rfl, rfl, rfl, rfl, trivial⟩ ⟨rfl, okE_t, trivial⟩, d + 1, (by omega), rfl, rfl⟩
                omega
              · try simp only [decide_eq_true_eq, decide_eq_false_iff_not, beq_iff_eq, bne_iff_ne, bne_eq_false_iff_eq, beq_eq_false_iff_ne, Bool.not_eq_true, Bool.not_eq_false, Bool.not_eq_true', Bool.not_eq_false', ne_eq] at h7
                refine awp_exit ?_
                refine awp_seq ?_
                refine awp_rw rfl ?_
                refine RW.op rfl rfl (eff_indexAddrP (i := 3) rfl rfl tu58 ti29 rfl rfl (by first | rfl | omega) (by omega) rfl rfl rfl (alen hE.l.len (by omega))) ?_
                refine RW.op rfl rfl (eff_fieldAddr rfl rfl tf29_1 (by decide) rfl rfl rfl (Nat.le_of_ble_eq_true rfl)) ?_
                refine RW.op rfl rfl (eff_load (y := .t (.sl ((at' (setl 3 M) (3)).bundles.map encB) false)) rfl rfl ti26 rfl (.one rfl rfl (ael hE.l.len (by omega)) rfl)) ?_
                refine RW.op rfl rfl (eff_lenM rfl rfl te26 rfl) ?_
                refine RW.op rfl rfl (eff_move (v := .t _) rfl rfl rfl) ?_
                refine RW.op rfl rfl (eff_lenM rfl rfl te34 rfl) ?_
                refine RW.op rfl rfl (eff_iop (r := .bool true) rfl rfl rfl rfl (by exact iop_eql_t (by have := last_len hE (fun j hj => (hem j hj).1) hs3; omega))) ?_
                refine RW.op rfl rfl (eff_move (v := .t _) rfl rfl rfl) ?_
                refine RW.gop rfl rfl rfl rfl rfl rfl (eff_callT (lives_ret) co10 rfl rfl rfl rfl) ?_
                refine RW.op rfl rfl (eff_pick (v := .t _) rfl rfl rfl rfl) ?_
                refine RW.op rfl rfl (eff_assign (v := .t _) rfl rfl rfl) ?_
                refine RW.nil ?_
                refine awp_ret ?_
                exact ⟨Or.inr rfl, [_], ⟨.tmp (.t _), trivial⟩, .refl _⟩

end Go.Tv.C27

end
section
namespace Go.Proofs.Ytgicknpbpdfadaa
open Go Go.Tv Go.Tv.C27 Go.ChangeShapes Go.WideShapes Go.ChangeAt Go.RowKit
set_option linter.unusedVariables false
set_option maxRecDepth 100000
theorem custodyDischarges_contract (H : Type) (enc : TypeId × Value → H) (W : World) (base : Nat) (args : Array Value) (ds gs : List (DataW H)) (before : List MemPlace)
    (hval : ∀ (j : Nat) t v, Try.f8.params[j]? = some t → args[j]? = some v → Value.okWide Try.prog W .any base t v)
    (hW : DataW.Whole enc Try.prog Try.f8.params.toList Rows.custodyDischargesSpec.vars false W args.toList ds gs before) :
    Calls Try.prog 8 args W fun e W' => ∃ v, e = .returned v ∧ Rows.custodyDischargesSpec.post enc Try.prog Try.f8 false true false false W args v W' := by
  have hW' := hW
  obtain ⟨p, q, hA0, hV, rfl, hfz, hnd⟩ := hW
  have hA : DataW.TrodAll enc Try.prog W 0 (fun _ => true) true Try.f8.params.toList args.toList ds p := hA0
  rw [Try.params8] at hA hval
  obtain ⟨v0, vs0, d0, ds0, p0, q0, hargs, rfl, rfl, h0, r0⟩ := trodAll_cons hA
  obtain ⟨v1, vs1, d1, ds1, p1, q1, rfl, rfl, rfl, h1, r1⟩ := trodAll_cons r0
  obtain ⟨rfl, rfl, rfl⟩ := trodAll_nil r1
  obtain rfl : args = #[v0, v1] := by cases args; simp_all
  obtain ⟨rfl, rfl⟩ := trodVars_none hV
  have k0 := hval 0 34 v0 rfl rfl
  obtain ⟨x1, hx1, l, hl, hm, hB⟩ := arg_slice Try.underlying34 rd34m k0 h0
  obtain rfl : x1 = .sl (l.map encBy) false := by simpa using hl
  unfold maxLen at hm
  have hm2 : l.length ≤ 9223372036854775807 := by simpa using hm
  have k1 := hval 1 57 v1 rfl rfl
  obtain ⟨x2, hx2, f, hf, hg, hF⟩ := arg_slice Try.underlying57 rd57 k1 h1
  obtain rfl : x2 = .sl (f.map encFt) false := by simpa using hf
  unfold maxLen at hg
  have hg2 : f.length ≤ 9223372036854775807 := by simpa using hg
  refine (law_calls (disch_ret l hB hm2 f hF hg2) (vl_cons hx1 (vl_cons hx2 vl_nil))).mono ?_
  rintro e W' ⟨rfl, hb⟩
  refine ⟨_, rfl, law_post (P := Try.prog) (by kernel_rfl) rfl (fun t ht => ?_) rfl Try.underlying4 hW' ⟨rfl, rfl, rfl⟩ hb⟩
  rw [Try.params8] at ht
  simp only [List.mem_cons, List.not_mem_nil, or_false] at ht
  rcases ht with rfl | rfl <;> exact ⟨by kernel_rfl, Nat.le_of_ble_eq_true (by kernel_rfl)⟩

theorem custodyDischarges_lifted (os : Os) (started : os.Started) (H : Type) (enc : TypeId × Value → H) :
    ReturnsInHanded {} Try.checked os 8 .any (Rows.custodyDischargesSpec.pre6 enc Try.prog Try.f8 Rows.custodyDischargesRow.domain false) (Rows.custodyDischargesSpec.post enc Try.prog Try.f8 false true false false) := by
  refine returnsInHanded_of_change (C := Try.checked) (by kernel_rfl) started (by kernel_rfl) Try.func8
    (ChangeSpec.witness6 (enc := enc) (C := Try.checked) false ⟨#[], #[.slice none 0 0, .slice none 0 0], []⟩ 8 (by kernel_rfl) (by kernel_rfl) (by kernel_rfl) (by kernel_rfl)) ?_
  intro W base args ds gs before hval hW _ _
  exact custodyDischarges_contract H enc W base args ds gs before hval hW

theorem custodyDischarges_holds : Rows.CustodyDischargesSaid :=
  OpenClaim.holds_of_wide 8 Try.f8 rfl rfl rfl rfl rfl rfl rfl ⟨rfl, rfl, rfl, rfl, rfl⟩ rfl rfl rfl rfl rfl (by kernel_rfl) Try.func8 (by kernel_rfl)
    (of_decide_eq_true (by kernel_rfl)) (by unfold Func.isWrapper; first | (rw [if_pos (by decide +kernel)]; kernel_rfl) | (rw [if_neg (by decide +kernel)]; exact ⟨rfl, rfl⟩))
    (fun os started H enc _ => custodyDischarges_lifted os started H enc)

end Go.Proofs.Ytgicknpbpdfadaa

end
