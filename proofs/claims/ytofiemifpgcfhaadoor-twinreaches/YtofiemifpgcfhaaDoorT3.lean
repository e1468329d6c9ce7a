/- TwinReaches: for every input that reads as data, the call returns true and leaves its arguments as they were. No condition. -/
import Derived.Test.YtofiemifpgcfhaaDoorT2
import Derived.Test.YtofiemifpgcfhaaDoorT1
import Derived.Test.YtofiemifpgcfhaaDoorRows
import Derived.ProofKit
import Derived.Test.YtofiemifpgcfhaaDoorTie
import Derived.Test.YtofiemifpgcfhaaDoorCards
import Derived.SevenTiedAt
set_option linter.unnecessarySimpa false
set_option linter.unusedVariables false
set_option linter.unusedSimpArgs false
section
open Go Go.Tv Go.Proofs
namespace Go.Tv.C34
set_option maxRecDepth 20000
set_option maxHeartbeats 2000000
set_option linter.unusedSimpArgs false
set_option linter.unusedVariables false
theorem cloneO_retG (l : List Frm) (g : Nat) (hl : l.length ≤ 100000) (h0 : 0 < l.length) : RetG Tryd.prog 57 [(0, some ⟨5, 30, g, (l.map encF).map .t⟩)] [.own 0 g 0 l.length] [(0, some ⟨5, 30, g + 1, (l.map encF).map .t⟩), (5, some ⟨5, 30, 1, (l.map encF).map .t⟩)] (.own 5 1 0 l.length) := by
  refine retG_of_awp Tryd.func57 rfl (Nat.le_of_ble_eq_true rfl) ?_
  refine awp_seq ?_
  refine awp_rw rfl ?_
  refine RW.op rfl rfl (eff_assign (v := .t _) rfl rfl rfl) ?_
  refine RW.nil ?_
  refine awp_seq ?_
  refine awp_seq ?_
  refine awp_rw rfl ?_
  refine RW.op rfl rfl (eff_move (v := .own _ _ _ _) rfl rfl rfl) ?_
  refine RW.op rfl rfl (eff_ownNotNil rfl rfl te34 rfl rfl rfl h0) ?_
  refine RW.nil ?_
  refine awp_cond rfl (fun h => nomatch h) (fun _ => ?_)
  refine awp_skip ?_
  refine awp_seq ?_
  refine awp_rw rfl ?_
  refine RW.new rfl rfl (eff_buildSliceL (id := 5) (els := []) rfl rfl te34 tz30 rfl (by decide) (by decide) rfl rfl rfl rfl) ?_
  refine RW.op rfl rfl (eff_move (v := .own _ _ _ _) rfl rfl rfl) ?_
  refine RW.new rfl rfl (eff_appendAny (id := 5) rfl rfl ta34 rfl rfl rfl rfl rfl rfl (srcOwn' (ys := (l.map encF).map .t) rfl rfl rfl rfl (by simp) (by rw [List.take_of_length_le (by simp)]; rfl)) (by simp; omega) (by simp; omega)) ?_
  refine RW.op rfl rfl (eff_assign (v := .own _ _ _ _) rfl rfl rfl) ?_
  refine RW.nil ?_
  refine awp_ret ?_
  refine ⟨Or.inr rfl, [_], [.own 5 1 0 l.length], ⟨.tmp rfl, trivial⟩, rfl, Weak.trans (weak_raise (id := 0) (g + 1) rfl (by omega)) ?_, rfl⟩
  exact weak_keep ⟨(by show AV.own 5 _ 0 _ = AV.own 5 1 0 l.length; congr 1; simp), rfl, trivial⟩ ⟨rfl, okE_t, rfl, okE_t, trivial⟩

theorem ownO_retG (l : List Frm) (g : Nat) (hl : l.length ≤ 100000) (h0 : 0 < l.length) (hb : ∀ f, f ∈ l → f.body.length ≤ 1000000) : RetG Tryd.prog 44 [(0, some ⟨5, 30, g, (l.map encF).map .t⟩)] [.own 0 g 0 l.length] [(0, some ⟨5, 30, g + 1, (l.map encF).map .t⟩), (5, some ⟨5, 30, 1, (l.map encF).map .t⟩)] (.own 5 1 0 l.length) := by
  refine retG_of_awp Tryd.func44 rfl (Nat.le_of_ble_eq_true rfl) ?_
  refine awp_seq ?_
  refine awp_rw rfl ?_
  refine RW.op rfl rfl (eff_assign (v := .t _) rfl rfl rfl) ?_
  refine RW.nil ?_
  refine awp_seq ?_
  refine awp_rw rfl ?_
  refine RW.op rfl rfl (eff_move (v := .own _ _ _ _) rfl rfl rfl) ?_
  refine RW.new2 rfl rfl (eff_callG (cloneO_retG l g hl h0) co57 (fun id => id) rfl rfl rfl ⟨.own _ _ _ _ rfl rfl, trivial⟩ (.own _ _ _ _ rfl rfl) rfl ⟨⟨rfl, treeEls_t, ⟨_, rfl, Nat.lt_succ_self _⟩⟩, trivial⟩ ⟨⟨treeEls_t, .inl rfl⟩, ⟨treeEls_t, .inr rfl⟩, trivial⟩) ?_
  refine RW.op rfl rfl (eff_assign (v := .own _ _ _ _) rfl rfl rfl) ?_
  refine RW.nil ?_
  refine awp_seq ?_
  refine awp_seq ?_
  refine awp_rw rfl ?_
  refine RW.op rfl rfl (eff_move (v := .own _ _ _ _) rfl rfl rfl) ?_
  refine RW.op rfl rfl (eff_len rfl rfl te34 rfl rfl rfl) ?_
  refine RW.op rfl rfl (eff_move (v := .t _) rfl rfl rfl) ?_
  refine RW.nil ?_
  refine awp_block ?_
  refine awp_loopW (fun m s => ∃ (i : Nat), (i ≤ l.length) ∧ m = l.length - i ∧ s = ⟨23, [(0, .own 5 1 0 l.length), (7, .own 5 1 0 l.length), (8, .t (encI l.length)), (9, .t (encI (i : Nat)))], [(0, some ⟨5, 30, g + 1, (l.map encF).map .t⟩), (5, some ⟨5, 30, 1, (l.map encF).map .t⟩)]⟩) (_) (⟨_, weak_keep (n := 23) (fr' := [(0, .own 5 1 0 l.length), (7, .own 5 1 0 l.length), (8, .t (encI l.length)), (9, .t (encI (0 : Nat)))]) (st' := [(0, some ⟨5, 30, g + 1, (l.map encF).map .t⟩), (5, some ⟨5, 30, 1, (l.map encF).map .t⟩)]) ⟨rfl, rfl, rfl, rfl, rfl, rfl, rfl, rfl, trivial⟩ ⟨rfl, okE_t, rfl, okE_t, trivial⟩, 0, (by omega), rfl, rfl⟩) ?_
  rintro m s ⟨i, hi, rfl, rfl⟩
  refine awp_seq ?_
  refine awp_rw rfl ?_
  refine RW.op rfl rfl (eff_iop rfl rfl rfl rfl rfl) ?_
  refine RW.nil ?_
  refine awp_seq ?_
  refine awp_cond rfl (fun h1 => ?_) (fun h1 => ?_)
  · try simp only [decide_eq_true_eq, decide_eq_false_iff_not, beq_iff_eq, bne_iff_ne, bne_eq_false_iff_eq, beq_eq_false_iff_ne, Bool.not_eq_true, Bool.not_eq_false, Bool.not_eq_true', Bool.not_eq_false', ne_eq] at h1
    refine awp_skip ?_
    refine awp_seq ?_
    refine awp_block ?_
    refine awp_seq ?_
    refine awp_rw rfl ?_
    have hil : i < l.length := by omega
    have hbl := hb _ (List.getElem_mem hil)
    refine RW.op rfl rfl (eff_move (v := .t _) rfl rfl rfl) ?_
    refine RW.op rfl rfl (eff_indexAddr rfl rfl te34 rfl rfl rfl rfl rfl rfl (by omega)) ?_
    refine RW.op rfl rfl (eff_load (y := .t (encF (l[i]'hil))) rfl rfl ti30 rfl (.whole rfl rfl (by rw [Nat.zero_add]; exact elF hil) rfl rfl rfl)) ?_
    refine RW.new rfl rfl (eff_allocK (k := 5) (id := 4) rfl rfl tz30 rfl rfl) ?_
    refine RW.op rfl rfl (eff_assign (v := .t _) rfl rfl rfl) ?_
    refine RW.store rfl rfl (eff_storeW (v := .t _) (els := [_]) (els' := [_]) rfl rfl ti30 rfl rfl rfl rfl rfl rfl rfl rfl rfl) ?_
    refine RW.nil ?_
    refine awp_rw rfl ?_
    refine RW.op rfl rfl (eff_move (v := .own _ _ _ _) rfl rfl rfl) ?_
    refine RW.op rfl rfl (eff_move (v := .t _) rfl rfl rfl) ?_
    refine RW.op rfl rfl (eff_fieldAddr rfl rfl tf30_3 (by decide) rfl rfl rfl (Nat.le_of_ble_eq_true rfl)) ?_
    refine RW.op rfl rfl (eff_load (y := .t _) rfl rfl ti27 rfl (.one rfl rfl rfl rfl)) ?_
    refine RW.op rfl rfl (eff_callT (cloneB_ret _ hbl) co58 rfl rfl rfl rfl) ?_
    refine RW.op rfl rfl (eff_indexAddr rfl rfl te34 rfl rfl rfl rfl rfl rfl (by omega)) ?_
    refine RW.op rfl rfl (eff_fieldAddr rfl rfl tf30_3 (by decide) rfl rfl rfl (Nat.le_of_ble_eq_true rfl)) ?_
    refine RW.store rfl rfl (eff_storeS (v := .t _) (el := .t (encF (l[i]'hil))) (ys := [encI (l[i]'hil).seq, encI (l[i]'hil).key, .bool (l[i]'hil).unlock, .sl ((l[i]'hil).body.map encBy) false, .int .u64 (l[i]'hil).tag]) (els := (l.map encF).map .t) (els' := (l.map encF).map .t) rfl rfl ti27 rfl rfl rfl rfl rfl rfl (by rw [Nat.zero_add]; exact elF hil) (Nat.le_of_ble_eq_true rfl) rfl (by rw [Nat.zero_add]; exact setF_same hil)) ?_
    refine RW.nil ?_
    refine awp_rw rfl ?_
    refine RW.op rfl rfl (eff_iop rfl rfl rfl rfl (iadd (by omega))) ?_
    refine RW.op rfl rfl (eff_move (v := .t _) rfl rfl rfl) ?_
    refine RW.nil ?_
    refine ⟨_, ?_, _, weak_keep (n := 23) (fr' := [(0, .own 5 1 0 l.length), (7, .own 5 1 0 l.length), (8, .t (encI l.length)), (9, .t (encI ((i + 1) : Nat)))]) (st' := [(0, some ⟨5, 30, g + 1, (l.map encF).map .t⟩), (5, some ⟨5, 30, 1, (l.map encF).map .t⟩)]) ⟨rfl, rfl, rfl, rfl, rfl, rfl, rfl, rfl, trivial⟩ ⟨rfl, okE_t, rfl, okE_t, trivial⟩, i + 1, (by omega), rfl, rfl⟩
    omega
  · try simp only [decide_eq_true_eq, decide_eq_false_iff_not, beq_iff_eq, bne_iff_ne, bne_eq_false_iff_eq, beq_eq_false_iff_ne, Bool.not_eq_true, Bool.not_eq_false, Bool.not_eq_true', Bool.not_eq_false', ne_eq] at h1
    refine awp_exit ?_
    refine awp_seq ?_
    refine awp_rw rfl ?_
    refine RW.op rfl rfl (eff_move (v := .own _ _ _ _) rfl rfl rfl) ?_
    refine RW.op rfl rfl (eff_assign (v := .own _ _ _ _) rfl rfl rfl) ?_
    refine RW.nil ?_
    refine awp_ret ?_
    exact ⟨Or.inr rfl, [_], [.own 5 1 0 l.length], ⟨.tmp rfl, trivial⟩, rfl, weak_keep ⟨rfl, rfl, trivial⟩ ⟨rfl, okE_t, rfl, okE_t, trivial⟩, rfl⟩

theorem ownO (l : List Frm) (g n : Nat) (E : List AV) (hn : n = l.length) (hE : E = (l.map encF).map .t) (hl : l.length ≤ 100000) (h0 : 0 < l.length) (hb : ∀ f, f ∈ l → f.body.length ≤ 1000000) :
    RetG Tryd.prog 44 [(0, some ⟨5, 30, g, E⟩)] [.own 0 g 0 n] [(0, some ⟨5, 30, g + 1, E⟩), (5, some ⟨5, 30, 1, (l.map encF).map .t⟩)] (.own 5 1 0 l.length) := by
  subst hn hE; exact ownO_retG l g hl h0 hb
theorem treeEls_app {xs : List Tr} {y : Tr} {k g : Nat} {ty : TypeId} : treeEls ⟨k, ty, g, xs.map .t ++ [.t y]⟩ := by
  intro x hx
  rcases List.mem_append.1 hx with h | h
  · obtain ⟨z, _, rfl⟩ := List.mem_map.1 h; exact ⟨z, rfl⟩
  · rw [List.mem_singleton.1 h]; exact ⟨y, rfl⟩

theorem tsend_ret (t : Twn) (f : Frm) (hs : Srt t.poss) (hp : ∀ y, y ∈ t.poss → HP y) (hl : t.poss.length ≤ 1000) (hsl : t.sent.length ≤ 1000) (hb : ∀ x, x ∈ t.sent → x.body.length ≤ 1000000) (hbf : f.body.length ≤ 1000000) : RetT Tryd.prog 20 [(1, deT)] [encT t, encF f] (.tup [encT (send t f).1, encI (send t f).2]) := by
  refine retT_of_awr Tryd.func20 rfl (Nat.le_of_ble_eq_true rfl) ?_
  intro F0 w0
  refine awj_seq ?_
  refine awj_rj rfl ?_
  refine RJ.new rfl rfl (eff_boxK (v := .t _) (k := 2) (id := 2) rfl rfl rfl rfl rfl rfl) ?_
  refine RJ.new rfl rfl (eff_boxK (v := .t _) (k := 5) (id := 3) rfl rfl rfl rfl rfl rfl) ?_
  refine RJ.new rfl rfl (eff_allocK (k := 2) (id := 4) rfl rfl tz37 rfl rfl) ?_
  refine RJ.op rfl rfl (eff_assign (v := .t _) rfl rfl rfl) ?_
  refine RJ.nil ?_
  refine awj_seq ?_
  refine awj_seq ?_
  refine awj_rj rfl ?_
  refine RJ.op rfl rfl (eff_fieldAddr rfl rfl tf37_0 (by decide) rfl rfl rfl (Nat.le_of_ble_eq_true rfl)) ?_
  refine RJ.op rfl rfl (eff_load (y := .t _) rfl rfl ti34 rfl (.one rfl rfl rfl rfl)) ?_
  refine RJ.op rfl rfl (eff_lenM rfl rfl te34 rfl) ?_
  refine RJ.op rfl rfl (eff_assign (v := .t _) rfl rfl rfl) ?_
  refine RJ.nil ?_
  refine awj_seq ?_
  by_cases hc1 : 0 < t.sent.length
  · refine awj_rd [(some 13, []), (some 14, []), (some 15, []), (some 16, []), (some 17, []), (some 18, []), (some 19, []), (some 20, []), (some 21, []), (some 22, []), (some 23, []), (some 24, []), (some 25, []), (some 26, [])] [[], [0], [0, 1], [0, 1, 2], [0, 1, 2, 3], [0, 1, 2], [0, 1, 2, 5], [0, 1, 2, 3, 4, 5, 6], [0, 1, 2, 3, 4, 5, 6, 7], [0, 1, 2, 3, 4, 5, 6, 7, 8], [0, 1, 2], [0, 1, 2, 10], [0, 1, 2, 3, 4, 5, 6, 7, 8, 9, 10, 11], [0, 1, 2, 3, 4, 5, 6, 7, 8, 9, 10, 11, 12]] tm rfl rfl rfl rfl ?_
    refine RD.op rfl rfl rfl (eff_move (v := .t _) rfl rfl rfl) ?_
    refine RD.op rfl rfl rfl (eff_iop (r := .bool true) rfl rfl rfl rfl (by show some (Tr.bool (decide _)) = _; rw [decide_eq_true (by omega)])) ?_
    refine RD.op rfl rfl rfl (eff_move (v := .t _) rfl rfl rfl) ?_
    refine RD.gop rfl rfl rfl rfl rfl rfl rfl (eff_fieldAddr rfl rfl tf37_0 (by decide) rfl rfl rfl (Nat.le_of_ble_eq_true rfl)) ?_
    refine RD.gop rfl rfl rfl rfl rfl rfl rfl (eff_load (y := .t _) rfl rfl ti34 rfl (.one rfl rfl rfl rfl)) ?_
    refine RD.gop rfl rfl rfl rfl rfl rfl rfl (eff_move (v := .t _) rfl rfl rfl) ?_
    refine RD.gop rfl rfl rfl rfl rfl rfl rfl (eff_iop rfl rfl rfl rfl (isub (by omega))) ?_
    refine RD.gop rfl rfl rfl rfl rfl rfl rfl (eff_indexM (i := t.sent.length - 1) rfl rfl te34 rfl rfl (by first | rfl | omega) (by exact List.getElem?_eq_getElem (by omega)) rfl (by decide)) ?_
    refine RD.gop rfl rfl rfl rfl rfl rfl rfl (eff_fieldAddrT rfl rfl tf30_1 (by decide) rfl) ?_
    refine RD.gop rfl rfl rfl rfl rfl rfl rfl (eff_loadT1 rfl rfl ti3 rfl rfl) ?_
    refine RD.gop rfl rfl rfl rfl rfl rfl rfl (eff_fieldAddr rfl rfl tf30_1 (by decide) rfl rfl rfl (Nat.le_of_ble_eq_true rfl)) ?_
    refine RD.gop rfl rfl rfl rfl rfl rfl rfl (eff_load (y := .t _) rfl rfl ti3 rfl (.one rfl rfl rfl rfl)) ?_
    refine RD.gop rfl rfl rfl rfl rfl rfl rfl (eff_iop rfl rfl rfl rfl rfl) ?_
    refine RD.op rfl rfl rfl (eff_pick (v := .t _) rfl rfl rfl rfl) ?_
    refine RD.nil ?_
    refine awj_cond rfl (fun h2 => ?_) (fun h2 => ?_)
    · try simp only [decide_eq_true_eq, decide_eq_false_iff_not, beq_iff_eq, bne_iff_ne, bne_eq_false_iff_eq, beq_eq_false_iff_ne, Bool.not_eq_true, Bool.not_eq_false, Bool.not_eq_true', Bool.not_eq_false', ne_eq] at h2
      refine awj_seq ?_
      refine awj_rj rfl ?_
      refine RJ.op rfl rfl (eff_buildT (ys := [_, _]) rfl rfl tz37 tg37 rfl) ?_
      refine RJ.store rfl rfl (eff_storeW (v := .t _) (els := [_]) (els' := [_]) rfl rfl ti37 rfl rfl rfl rfl rfl rfl rfl rfl rfl) ?_
      refine RJ.op rfl rfl (eff_assign (v := .t _) rfl rfl rfl) ?_
      refine RJ.nil ?_
      refine awj_ret ?_
      first
        | (rw [send_late (by first | (rw [late_at (by omega)]; exact decide_eq_true (by first | assumption | omega)) | (exfalso; omega))]
           exact ⟨Or.inr rfl, [_, _], ⟨.cell rfl ti37 (.whole rfl rfl rfl rfl rfl rfl) (.t _), .tmp (.t _), trivial⟩, (by repeat' first | exact trivial | exact Wk.refl _ | exact Wk.sl _ | refine And.intro ?_ ?_ | refine Wk.tupP ?_ | refine Wk.aggP ?_)⟩)
        | (rw [send_many (by first | exact late_nil (by omega) | (rw [late_at (by omega)]; exact decide_eq_false (by first | assumption | omega))) (by omega)]
           exact ⟨Or.inr rfl, [_, _], ⟨.cell rfl ti37 (.whole rfl rfl rfl rfl rfl rfl) (.t _), .tmp (.t _), trivial⟩, (by repeat' first | exact trivial | exact Wk.refl _ | exact Wk.sl _ | refine And.intro ?_ ?_ | refine Wk.tupP ?_ | refine Wk.aggP ?_)⟩)
        | (rw [send_ok (by first | exact late_nil (by omega) | (rw [late_at (by omega)]; exact decide_eq_false (by first | assumption | omega))) (by omega)]
           exact ⟨Or.inr rfl, [_, _], ⟨.cell rfl ti37 (.whole rfl rfl rfl rfl rfl rfl) (Res.aggP (xs := [_, _]) ⟨Res.ownT (xs := (t.sent ++ [f]).map encF) rfl rfl rfl (by simp), .t _, trivial⟩), .tmp (.t _), trivial⟩, .refl _⟩)
    · try simp only [decide_eq_true_eq, decide_eq_false_iff_not, beq_iff_eq, bne_iff_ne, bne_eq_false_iff_eq, beq_eq_false_iff_ne, Bool.not_eq_true, Bool.not_eq_false, Bool.not_eq_true', Bool.not_eq_false', ne_eq] at h2
      refine awj_skip ?_
      refine awj_seq ?_
      refine awj_rj rfl ?_
      refine RJ.sMake rfl rfl rfl rfl (fun rO hrO => ?_)
      refine RJ.op rfl rfl (eff_assign (v := .t _) rfl rfl rfl) ?_
      refine RJ.nil ?_
      refine awj_seq ?_
      refine awj_seq ?_
      refine awj_rj rfl ?_
      refine RJ.op rfl rfl (eff_fieldAddr rfl rfl tf37_1 (by decide) rfl rfl rfl (Nat.le_of_ble_eq_true rfl)) ?_
      refine RJ.op rfl rfl (eff_load (y := .t _) rfl rfl ti35 rfl (.one rfl rfl rfl rfl)) ?_
      refine RJ.op rfl rfl (eff_lenM rfl rfl te35 rfl) ?_
      refine RJ.op rfl rfl (eff_move (v := .t _) rfl rfl rfl) ?_
      refine RJ.nil ?_
      refine awj_block ?_
      refine awj_loopW (fun m s g => ∃ (i : Nat), (i ≤ t.poss.length) ∧ (gget g rO = some (mapO KR XU (setL (t.poss.take i)))) ∧ m = t.poss.length - i ∧ s = ⟨56, [(2, .ptr 2 0 0 0), (3, .ptr 3 0 0 0), (4, .ptr 4 0 0 0), (7, .t (.mp rO)), (30, .t (.sl (t.poss.map encR) false)), (31, .t (encI t.poss.length)), (32, .t (encI (i : Nat))), (57, .t deT)], [(2, some ⟨2, 37, 0, [.t (encT t)]⟩), (3, some ⟨5, 30, 0, [.t (encF f)]⟩), (4, some ⟨2, 37, 0, [.t z37]⟩)]⟩) (_) (⟨_, weak_keep (n := 56) (fr' := [(2, .ptr 2 0 0 0), (3, .ptr 3 0 0 0), (4, .ptr 4 0 0 0), (7, .t (.mp rO)), (30, .t (.sl (t.poss.map encR) false)), (31, .t (encI t.poss.length)), (32, .t (encI (0 : Nat))), (57, .t deT)]) (st' := [(2, some ⟨2, 37, 0, [.t (encT t)]⟩), (3, some ⟨5, 30, 0, [.t (encF f)]⟩), (4, some ⟨2, 37, 0, [.t z37]⟩)]) ⟨rfl, rfl, rfl, rfl, rfl, rfl, rfl, rfl, rfl, rfl, rfl, rfl, rfl, rfl, rfl, rfl, trivial⟩ ⟨rfl, okE_one rfl, rfl, okE_one rfl, rfl, okE_one rfl, trivial⟩, 0, (by omega), (by exact gget_same _ _ _), rfl, rfl⟩) ?_
      rintro m s g ⟨i, hi, hgO, rfl, rfl⟩
      refine awj_seq ?_
      refine awj_rj rfl ?_
      refine RJ.op rfl rfl (eff_iop rfl rfl rfl rfl rfl) ?_
      refine RJ.nil ?_
      refine awj_seq ?_
      refine awj_cond rfl (fun h3 => ?_) (fun h3 => ?_)
      · try simp only [decide_eq_true_eq, decide_eq_false_iff_not, beq_iff_eq, bne_iff_ne, bne_eq_false_iff_eq, beq_eq_false_iff_ne, Bool.not_eq_true, Bool.not_eq_false, Bool.not_eq_true', Bool.not_eq_false', ne_eq] at h3
        refine awj_skip ?_
        refine awj_seq ?_
        refine awj_block ?_
        refine awj_seq ?_
        refine awj_rj rfl ?_
        refine RJ.op rfl rfl (eff_indexM rfl rfl te35 rfl rfl rfl (by first | assumption | exact List.getElem?_eq_getElem (by omega)) rfl (by decide)) ?_
        refine RJ.op rfl rfl (eff_loadW rfl rfl ti23 rfl rfl rfl) ?_
        refine RJ.new rfl rfl (eff_allocK (k := 4) (id := 9) rfl rfl tz23 rfl rfl) ?_
        refine RJ.store rfl rfl (eff_storeW (v := .t _) (els := [_]) (els' := [_]) rfl rfl ti23 rfl rfl rfl rfl rfl rfl rfl rfl rfl) ?_
        refine RJ.nil ?_
        refine awj_rj rfl ?_
        refine RJ.op rfl rfl (eff_move (v := .t _) rfl rfl rfl) ?_
        refine RJ.op rfl rfl (eff_load rfl rfl ti23 rfl (.whole rfl rfl rfl rfl rfl rfl)) ?_
        refine RJ.sPut (t.poss[i]'(by omega)) (t.poss.take i) rfl rfl (.inl rfl) Tryd.underlying78 rfl rfl rfl hgO ?_
        refine RJ.nil ?_
        refine awj_rj rfl ?_
        refine RJ.op rfl rfl (eff_iop rfl rfl rfl rfl (iadd (by omega))) ?_
        refine RJ.op rfl rfl (eff_move (v := .t _) rfl rfl rfl) ?_
        refine RJ.nil ?_
        refine ⟨_, ?_, _, weak_keep (n := 56) (fr' := [(2, .ptr 2 0 0 0), (3, .ptr 3 0 0 0), (4, .ptr 4 0 0 0), (7, .t (.mp rO)), (30, .t (.sl (t.poss.map encR) false)), (31, .t (encI t.poss.length)), (32, .t (encI ((i + 1) : Nat))), (57, .t deT)]) (st' := [(2, some ⟨2, 37, 0, [.t (encT t)]⟩), (3, some ⟨5, 30, 0, [.t (encF f)]⟩), (4, some ⟨2, 37, 0, [.t z37]⟩)]) ⟨rfl, rfl, rfl, rfl, rfl, rfl, rfl, rfl, rfl, rfl, rfl, rfl, rfl, rfl, rfl, rfl, trivial⟩ ⟨rfl, okE_one rfl, rfl, okE_one rfl, rfl, okE_one rfl, trivial⟩, i + 1, (by omega), (by rw [gget_same, ins_take (srt_nodup hs) (by omega)]), rfl, rfl⟩
        omega
      · try simp only [decide_eq_true_eq, decide_eq_false_iff_not, beq_iff_eq, bne_iff_ne, bne_eq_false_iff_eq, beq_eq_false_iff_ne, Bool.not_eq_true, Bool.not_eq_false, Bool.not_eq_true', Bool.not_eq_false', ne_eq] at h3
        refine awj_exit ?_
        refine awj_seq ?_
        have hi2 : i = t.poss.length := by omega
        subst hi2
        rw [List.take_length] at hgO
        refine awj_freezeS 7 (l0 := t.poss) t.poss rfl hgO (.refl _) ?_
        have hfl := stepF_len t.poss f
        refine awj_rj rfl ?_
        refine RJ.op rfl rfl (eff_move (v := .t _) rfl rfl rfl) ?_
        refine RJ.op rfl rfl (eff_load rfl rfl ti30 rfl (.whole rfl rfl rfl rfl rfl rfl)) ?_
        refine RJ.op rfl rfl (eff_callXT (spread_ret t.poss f hs hp) co43 rfl rfl rfl ⟨rfl, trivial⟩ rfl) ?_
        refine RJ.op rfl rfl (eff_assign (v := .t _) rfl rfl rfl) ?_
        refine RJ.nil ?_
        refine awj_seq ?_
        refine awj_seq ?_
        refine awj_rj rfl ?_
        refine RJ.op rfl rfl (eff_move (v := .t _) rfl rfl rfl) ?_
        refine RJ.op rfl rfl (eff_lenS rfl rfl Tryd.underlying78 rfl) ?_
        refine RJ.op rfl rfl (eff_iop rfl rfl rfl rfl rfl) ?_
        refine RJ.nil ?_
        refine awj_cond rfl (fun h4 => ?_) (fun h4 => ?_)
        · try simp only [decide_eq_true_eq, decide_eq_false_iff_not, beq_iff_eq, bne_iff_ne, bne_eq_false_iff_eq, beq_eq_false_iff_ne, Bool.not_eq_true, Bool.not_eq_false, Bool.not_eq_true', Bool.not_eq_false', ne_eq] at h4
          refine awj_seq ?_
          refine awj_rj rfl ?_
          refine RJ.op rfl rfl (eff_buildT (ys := [_, _]) rfl rfl tz37 tg37 rfl) ?_
          refine RJ.store rfl rfl (eff_storeW (v := .t _) (els := [_]) (els' := [_]) rfl rfl ti37 rfl rfl rfl rfl rfl rfl rfl rfl rfl) ?_
          refine RJ.op rfl rfl (eff_assign (v := .t _) rfl rfl rfl) ?_
          refine RJ.nil ?_
          refine awj_ret ?_
          first
            | (rw [send_late (by first | (rw [late_at (by omega)]; exact decide_eq_true (by first | assumption | omega)) | (exfalso; omega))]
               exact ⟨Or.inr rfl, [_, _], ⟨.cell rfl ti37 (.whole rfl rfl rfl rfl rfl rfl) (.t _), .tmp (.t _), trivial⟩, (by repeat' first | exact trivial | exact Wk.refl _ | exact Wk.sl _ | refine And.intro ?_ ?_ | refine Wk.tupP ?_ | refine Wk.aggP ?_)⟩)
            | (rw [send_many (by first | exact late_nil (by omega) | (rw [late_at (by omega)]; exact decide_eq_false (by first | assumption | omega))) (by omega)]
               exact ⟨Or.inr rfl, [_, _], ⟨.cell rfl ti37 (.whole rfl rfl rfl rfl rfl rfl) (.t _), .tmp (.t _), trivial⟩, (by repeat' first | exact trivial | exact Wk.refl _ | exact Wk.sl _ | refine And.intro ?_ ?_ | refine Wk.tupP ?_ | refine Wk.aggP ?_)⟩)
            | (rw [send_ok (by first | exact late_nil (by omega) | (rw [late_at (by omega)]; exact decide_eq_false (by first | assumption | omega))) (by omega)]
               exact ⟨Or.inr rfl, [_, _], ⟨.cell rfl ti37 (.whole rfl rfl rfl rfl rfl rfl) (Res.aggP (xs := [_, _]) ⟨Res.ownT (xs := (t.sent ++ [f]).map encF) rfl rfl rfl (by simp), .t _, trivial⟩), .tmp (.t _), trivial⟩, .refl _⟩)
        · try simp only [decide_eq_true_eq, decide_eq_false_iff_not, beq_iff_eq, bne_iff_ne, bne_eq_false_iff_eq, beq_eq_false_iff_ne, Bool.not_eq_true, Bool.not_eq_false, Bool.not_eq_true', Bool.not_eq_false', ne_eq] at h4
          refine awj_skip ?_
          refine awj_seq ?_
          refine awj_rd [(some 46, []), (some 47, []), (some 48, []), (some 49, []), (some 50, [50]), (some 51, [51]), (some 52, [51, 56]), (some 53, []), (some 54, []), (some 55, []), (none, [4]), (some 5, [])] [[], [0], [0, 1], [], [3], [0, 1, 2, 3, 4], [0, 1, 2, 3, 4, 5], [], [0, 1, 2, 3, 4, 5, 6, 7], [0, 1, 2, 3, 4, 5, 6, 7, 8], [0, 1, 2, 3, 4, 5, 6, 7, 8, 9], [0, 1, 2, 3, 4, 5, 6, 7, 8, 9, 10]] tm rfl rfl rfl rfl ?_
          refine RD.op rfl rfl rfl (eff_fieldAddr rfl rfl tf37_0 (by decide) rfl rfl rfl (Nat.le_of_ble_eq_true rfl)) ?_
          refine RD.op rfl rfl rfl (eff_load (y := .t _) rfl rfl ti34 rfl (.one rfl rfl rfl rfl)) ?_
          refine RD.op rfl rfl rfl (eff_callT (clip_ret t.sent) co45 rfl rfl rfl rfl) ?_
          refine RD.op rfl rfl rfl (eff_load rfl rfl ti30 rfl (.whole rfl rfl rfl rfl rfl rfl)) ?_
          refine RD.new rfl rfl rfl (eff_buildSliceL (id := 50) (els := [.t (.agg [_, _, _, _, _])]) rfl rfl te34 tz30 rfl (by decide) (by decide) rfl rfl rfl rfl) ?_
          refine RD.new rfl rfl rfl (eff_appendNew (id := 51) (ys := [_]) rfl rfl ta34 rfl rfl (fun z hz => by obtain ⟨q, _, rfl⟩ := List.mem_map.1 hz; rfl) (srcOwn rfl rfl rfl rfl rfl rfl) (Nat.le_of_ble_eq_true rfl) (by simp; omega) (by simp; omega)) ?_
          refine RD.new2 rfl rfl rfl (eff_callG (ownO (t.sent ++ [f]) 0 _ _ (by simp) (by simp; rfl) (by simp; omega) (by simp) (by intro q hq; rcases List.mem_append.1 hq with h | h; exact hb q h; rw [List.mem_singleton.1 h]; exact hbf)) co44 (fun id => id + 51) rfl rfl rfl ⟨.own _ _ _ _ rfl rfl, trivial⟩ (.own _ _ _ _ rfl rfl) rfl ⟨⟨rfl, treeEls_app, ⟨_, rfl, Nat.lt_succ_self _⟩⟩, trivial⟩ ⟨⟨treeEls_app, .inl rfl⟩, ⟨treeEls_t, .inr rfl⟩, trivial⟩) ?_
          refine RD.op rfl rfl rfl (eff_move (v := .t _) rfl rfl rfl) ?_
          refine RD.op rfl rfl rfl (eff_callT (sorted_ret _ (srt_stepF hs) (by omega)) co46 rfl rfl rfl rfl) ?_
          refine RD.op rfl rfl rfl (eff_buildA (ys := [_, _]) rfl rfl tz37 tg37 rfl rfl) ?_
          refine RD.store rfl rfl rfl (eff_storeW (v := .agg _) (els := [_]) (els' := [_]) rfl rfl ti37 rfl rfl rfl rfl rfl rfl rfl rfl rfl) ?_
          refine RD.op rfl rfl rfl (eff_assign (v := .t _) rfl rfl rfl) ?_
          refine RD.nil ?_
          refine awj_ret ?_
          first
            | (rw [send_late (by first | (rw [late_at (by omega)]; exact decide_eq_true (by first | assumption | omega)) | (exfalso; omega))]
               exact ⟨Or.inr rfl, [_, _], ⟨.cell rfl ti37 (.whole rfl rfl rfl rfl rfl rfl) (.t _), .tmp (.t _), trivial⟩, (by repeat' first | exact trivial | exact Wk.refl _ | exact Wk.sl _ | refine And.intro ?_ ?_ | refine Wk.tupP ?_ | refine Wk.aggP ?_)⟩)
            | (rw [send_many (by first | exact late_nil (by omega) | (rw [late_at (by omega)]; exact decide_eq_false (by first | assumption | omega))) (by omega)]
               exact ⟨Or.inr rfl, [_, _], ⟨.cell rfl ti37 (.whole rfl rfl rfl rfl rfl rfl) (.t _), .tmp (.t _), trivial⟩, (by repeat' first | exact trivial | exact Wk.refl _ | exact Wk.sl _ | refine And.intro ?_ ?_ | refine Wk.tupP ?_ | refine Wk.aggP ?_)⟩)
            | (rw [send_ok (by first | exact late_nil (by omega) | (rw [late_at (by omega)]; exact decide_eq_false (by first | assumption | omega))) (by omega)]
               exact ⟨Or.inr rfl, [_, _], ⟨.cell rfl ti37 (.whole rfl rfl rfl rfl rfl rfl) (Res.aggP (xs := [_, _]) ⟨Res.ownT (xs := (t.sent ++ [f]).map encF) rfl rfl rfl (by simp), .t _, trivial⟩), .tmp (.t _), trivial⟩, .refl _⟩)
  · refine awj_rd [(some 13, []), (some 14, []), (some 15, []), (some 16, []), (some 17, []), (some 18, []), (some 19, []), (some 20, []), (some 21, []), (some 22, []), (some 23, []), (some 24, []), (some 25, []), (some 26, [])] [[], [0], [0, 1], [0, 1, 2], [0, 1, 2, 3], [0, 1, 2], [0, 1, 2, 5], [0, 1, 2, 3, 4, 5, 6], [0, 1, 2, 3, 4, 5, 6, 7], [0, 1, 2, 3, 4, 5, 6, 7, 8], [0, 1, 2], [0, 1, 2, 10], [0, 1, 2, 3, 4, 5, 6, 7, 8, 9, 10, 11], [0, 1, 2, 3, 4, 5, 6, 7, 8, 9, 10, 11, 12]] tm rfl rfl rfl rfl ?_
    refine RD.op rfl rfl rfl (eff_move (v := .t _) rfl rfl rfl) ?_
    refine RD.op rfl rfl rfl (eff_iop (r := .bool false) rfl rfl rfl rfl (by show some (Tr.bool (decide _)) = _; rw [decide_eq_false (by omega)])) ?_
    refine RD.op rfl rfl rfl (eff_move (v := .t _) rfl rfl rfl) ?_
    refine RD.gskip rfl rfl rfl rfl rfl rfl (by decide) ?_
    refine RD.gskip rfl rfl rfl rfl rfl rfl (by decide) ?_
    refine RD.gskip rfl rfl rfl rfl rfl rfl (by decide) ?_
    refine RD.gskip rfl rfl rfl rfl rfl rfl (by decide) ?_
    refine RD.gskip rfl rfl rfl rfl rfl rfl (by decide) ?_
    refine RD.gskip rfl rfl rfl rfl rfl rfl (by decide) ?_
    refine RD.gskip rfl rfl rfl rfl rfl rfl (by decide) ?_
    refine RD.gskip rfl rfl rfl rfl rfl rfl (by decide) ?_
    refine RD.gskip rfl rfl rfl rfl rfl rfl (by decide) ?_
    refine RD.gskip rfl rfl rfl rfl rfl rfl (by decide) ?_
    refine RD.op rfl rfl rfl (eff_pick (v := .t _) rfl rfl rfl rfl) ?_
    refine RD.nil ?_
    refine awj_cond rfl (fun h => nomatch h) (fun _ => ?_)
    refine awj_skip ?_
    refine awj_seq ?_
    refine awj_rj rfl ?_
    refine RJ.sMake rfl rfl rfl rfl (fun rO hrO => ?_)
    refine RJ.op rfl rfl (eff_assign (v := .t _) rfl rfl rfl) ?_
    refine RJ.nil ?_
    refine awj_seq ?_
    refine awj_seq ?_
    refine awj_rj rfl ?_
    refine RJ.op rfl rfl (eff_fieldAddr rfl rfl tf37_1 (by decide) rfl rfl rfl (Nat.le_of_ble_eq_true rfl)) ?_
    refine RJ.op rfl rfl (eff_load (y := .t _) rfl rfl ti35 rfl (.one rfl rfl rfl rfl)) ?_
    refine RJ.op rfl rfl (eff_lenM rfl rfl te35 rfl) ?_
    refine RJ.op rfl rfl (eff_move (v := .t _) rfl rfl rfl) ?_
    refine RJ.nil ?_
    refine awj_block ?_
    refine awj_loopW (fun m s g => ∃ (i : Nat), (i ≤ t.poss.length) ∧ (gget g rO = some (mapO KR XU (setL (t.poss.take i)))) ∧ m = t.poss.length - i ∧ s = ⟨56, [(2, .ptr 2 0 0 0), (3, .ptr 3 0 0 0), (4, .ptr 4 0 0 0), (7, .t (.mp rO)), (30, .t (.sl (t.poss.map encR) false)), (31, .t (encI t.poss.length)), (32, .t (encI (i : Nat))), (57, .t deT)], [(2, some ⟨2, 37, 0, [.t (encT t)]⟩), (3, some ⟨5, 30, 0, [.t (encF f)]⟩), (4, some ⟨2, 37, 0, [.t z37]⟩)]⟩) (_) (⟨_, weak_keep (n := 56) (fr' := [(2, .ptr 2 0 0 0), (3, .ptr 3 0 0 0), (4, .ptr 4 0 0 0), (7, .t (.mp rO)), (30, .t (.sl (t.poss.map encR) false)), (31, .t (encI t.poss.length)), (32, .t (encI (0 : Nat))), (57, .t deT)]) (st' := [(2, some ⟨2, 37, 0, [.t (encT t)]⟩), (3, some ⟨5, 30, 0, [.t (encF f)]⟩), (4, some ⟨2, 37, 0, [.t z37]⟩)]) ⟨rfl, rfl, rfl, rfl, rfl, rfl, rfl, rfl, rfl, rfl, rfl, rfl, rfl, rfl, rfl, rfl, trivial⟩ ⟨rfl, okE_one rfl, rfl, okE_one rfl, rfl, okE_one rfl, trivial⟩, 0, (by omega), (by exact gget_same _ _ _), rfl, rfl⟩) ?_
    rintro m s g ⟨i, hi, hgO, rfl, rfl⟩
    refine awj_seq ?_
    refine awj_rj rfl ?_
    refine RJ.op rfl rfl (eff_iop rfl rfl rfl rfl rfl) ?_
    refine RJ.nil ?_
    refine awj_seq ?_
    refine awj_cond rfl (fun h5 => ?_) (fun h5 => ?_)
    · try simp only [decide_eq_true_eq, decide_eq_false_iff_not, beq_iff_eq, bne_iff_ne, bne_eq_false_iff_eq, beq_eq_false_iff_ne, Bool.not_eq_true, Bool.not_eq_false, Bool.not_eq_true', Bool.not_eq_false', ne_eq] at h5
      refine awj_skip ?_
      refine awj_seq ?_
      refine awj_block ?_
      refine awj_seq ?_
      refine awj_rj rfl ?_
      refine RJ.op rfl rfl (eff_indexM rfl rfl te35 rfl rfl rfl (by first | assumption | exact List.getElem?_eq_getElem (by omega)) rfl (by decide)) ?_
      refine RJ.op rfl rfl (eff_loadW rfl rfl ti23 rfl rfl rfl) ?_
      refine RJ.new rfl rfl (eff_allocK (k := 4) (id := 9) rfl rfl tz23 rfl rfl) ?_
      refine RJ.store rfl rfl (eff_storeW (v := .t _) (els := [_]) (els' := [_]) rfl rfl ti23 rfl rfl rfl rfl rfl rfl rfl rfl rfl) ?_
      refine RJ.nil ?_
      refine awj_rj rfl ?_
      refine RJ.op rfl rfl (eff_move (v := .t _) rfl rfl rfl) ?_
      refine RJ.op rfl rfl (eff_load rfl rfl ti23 rfl (.whole rfl rfl rfl rfl rfl rfl)) ?_
      refine RJ.sPut (t.poss[i]'(by omega)) (t.poss.take i) rfl rfl (.inl rfl) Tryd.underlying78 rfl rfl rfl hgO ?_
      refine RJ.nil ?_
      refine awj_rj rfl ?_
      refine RJ.op rfl rfl (eff_iop rfl rfl rfl rfl (iadd (by omega))) ?_
      refine RJ.op rfl rfl (eff_move (v := .t _) rfl rfl rfl) ?_
      refine RJ.nil ?_
      refine ⟨_, ?_, _, weak_keep (n := 56) (fr' := [(2, .ptr 2 0 0 0), (3, .ptr 3 0 0 0), (4, .ptr 4 0 0 0), (7, .t (.mp rO)), (30, .t (.sl (t.poss.map encR) false)), (31, .t (encI t.poss.length)), (32, .t (encI ((i + 1) : Nat))), (57, .t deT)]) (st' := [(2, some ⟨2, 37, 0, [.t (encT t)]⟩), (3, some ⟨5, 30, 0, [.t (encF f)]⟩), (4, some ⟨2, 37, 0, [.t z37]⟩)]) ⟨rfl, rfl, rfl, rfl, rfl, rfl, rfl, rfl, rfl, rfl, rfl, rfl, rfl, rfl, rfl, rfl, trivial⟩ ⟨rfl, okE_one rfl, rfl, okE_one rfl, rfl, okE_one rfl, trivial⟩, i + 1, (by omega), (by rw [gget_same, ins_take (srt_nodup hs) (by omega)]), rfl, rfl⟩
      omega
    · try simp only [decide_eq_true_eq, decide_eq_false_iff_not, beq_iff_eq, bne_iff_ne, bne_eq_false_iff_eq, beq_eq_false_iff_ne, Bool.not_eq_true, Bool.not_eq_false, Bool.not_eq_true', Bool.not_eq_false', ne_eq] at h5
      refine awj_exit ?_
      refine awj_seq ?_
      have hi2 : i = t.poss.length := by omega
      subst hi2
      rw [List.take_length] at hgO
      refine awj_freezeS 7 (l0 := t.poss) t.poss rfl hgO (.refl _) ?_
      have hfl := stepF_len t.poss f
      refine awj_rj rfl ?_
      refine RJ.op rfl rfl (eff_move (v := .t _) rfl rfl rfl) ?_
      refine RJ.op rfl rfl (eff_load rfl rfl ti30 rfl (.whole rfl rfl rfl rfl rfl rfl)) ?_
      refine RJ.op rfl rfl (eff_callXT (spread_ret t.poss f hs hp) co43 rfl rfl rfl ⟨rfl, trivial⟩ rfl) ?_
      refine RJ.op rfl rfl (eff_assign (v := .t _) rfl rfl rfl) ?_
      refine RJ.nil ?_
      refine awj_seq ?_
      refine awj_seq ?_
      refine awj_rj rfl ?_
      refine RJ.op rfl rfl (eff_move (v := .t _) rfl rfl rfl) ?_
      refine RJ.op rfl rfl (eff_lenS rfl rfl Tryd.underlying78 rfl) ?_
      refine RJ.op rfl rfl (eff_iop rfl rfl rfl rfl rfl) ?_
      refine RJ.nil ?_
      refine awj_cond rfl (fun h6 => ?_) (fun h6 => ?_)
      · try simp only [decide_eq_true_eq, decide_eq_false_iff_not, beq_iff_eq, bne_iff_ne, bne_eq_false_iff_eq, beq_eq_false_iff_ne, Bool.not_eq_true, Bool.not_eq_false, Bool.not_eq_true', Bool.not_eq_false', ne_eq] at h6
        refine awj_seq ?_
        refine awj_rj rfl ?_
        refine RJ.op rfl rfl (eff_buildT (ys := [_, _]) rfl rfl tz37 tg37 rfl) ?_
        refine RJ.store rfl rfl (eff_storeW (v := .t _) (els := [_]) (els' := [_]) rfl rfl ti37 rfl rfl rfl rfl rfl rfl rfl rfl rfl) ?_
        refine RJ.op rfl rfl (eff_assign (v := .t _) rfl rfl rfl) ?_
        refine RJ.nil ?_
        refine awj_ret ?_
        first
          | (rw [send_late (by first | (rw [late_at (by omega)]; exact decide_eq_true (by first | assumption | omega)) | (exfalso; omega))]
             exact ⟨Or.inr rfl, [_, _], ⟨.cell rfl ti37 (.whole rfl rfl rfl rfl rfl rfl) (.t _), .tmp (.t _), trivial⟩, (by repeat' first | exact trivial | exact Wk.refl _ | exact Wk.sl _ | refine And.intro ?_ ?_ | refine Wk.tupP ?_ | refine Wk.aggP ?_)⟩)
          | (rw [send_many (by first | exact late_nil (by omega) | (rw [late_at (by omega)]; exact decide_eq_false (by first | assumption | omega))) (by omega)]
             exact ⟨Or.inr rfl, [_, _], ⟨.cell rfl ti37 (.whole rfl rfl rfl rfl rfl rfl) (.t _), .tmp (.t _), trivial⟩, (by repeat' first | exact trivial | exact Wk.refl _ | exact Wk.sl _ | refine And.intro ?_ ?_ | refine Wk.tupP ?_ | refine Wk.aggP ?_)⟩)
          | (rw [send_ok (by first | exact late_nil (by omega) | (rw [late_at (by omega)]; exact decide_eq_false (by first | assumption | omega))) (by omega)]
             exact ⟨Or.inr rfl, [_, _], ⟨.cell rfl ti37 (.whole rfl rfl rfl rfl rfl rfl) (Res.aggP (xs := [_, _]) ⟨Res.ownT (xs := (t.sent ++ [f]).map encF) rfl rfl rfl (by simp), .t _, trivial⟩), .tmp (.t _), trivial⟩, .refl _⟩)
      · try simp only [decide_eq_true_eq, decide_eq_false_iff_not, beq_iff_eq, bne_iff_ne, bne_eq_false_iff_eq, beq_eq_false_iff_ne, Bool.not_eq_true, Bool.not_eq_false, Bool.not_eq_true', Bool.not_eq_false', ne_eq] at h6
        refine awj_skip ?_
        refine awj_seq ?_
        refine awj_rd [(some 46, []), (some 47, []), (some 48, []), (some 49, []), (some 50, [50]), (some 51, [51]), (some 52, [51, 56]), (some 53, []), (some 54, []), (some 55, []), (none, [4]), (some 5, [])] [[], [0], [0, 1], [], [3], [0, 1, 2, 3, 4], [0, 1, 2, 3, 4, 5], [], [0, 1, 2, 3, 4, 5, 6, 7], [0, 1, 2, 3, 4, 5, 6, 7, 8], [0, 1, 2, 3, 4, 5, 6, 7, 8, 9], [0, 1, 2, 3, 4, 5, 6, 7, 8, 9, 10]] tm rfl rfl rfl rfl ?_
        refine RD.op rfl rfl rfl (eff_fieldAddr rfl rfl tf37_0 (by decide) rfl rfl rfl (Nat.le_of_ble_eq_true rfl)) ?_
        refine RD.op rfl rfl rfl (eff_load (y := .t _) rfl rfl ti34 rfl (.one rfl rfl rfl rfl)) ?_
        refine RD.op rfl rfl rfl (eff_callT (clip_ret t.sent) co45 rfl rfl rfl rfl) ?_
        refine RD.op rfl rfl rfl (eff_load rfl rfl ti30 rfl (.whole rfl rfl rfl rfl rfl rfl)) ?_
        refine RD.new rfl rfl rfl (eff_buildSliceL (id := 50) (els := [.t (.agg [_, _, _, _, _])]) rfl rfl te34 tz30 rfl (by decide) (by decide) rfl rfl rfl rfl) ?_
        refine RD.new rfl rfl rfl (eff_appendNew (id := 51) (ys := [_]) rfl rfl ta34 rfl rfl (fun z hz => by obtain ⟨q, _, rfl⟩ := List.mem_map.1 hz; rfl) (srcOwn rfl rfl rfl rfl rfl rfl) (Nat.le_of_ble_eq_true rfl) (by simp; omega) (by simp; omega)) ?_
        refine RD.new2 rfl rfl rfl (eff_callG (ownO (t.sent ++ [f]) 0 _ _ (by simp) (by simp; rfl) (by simp; omega) (by simp) (by intro q hq; rcases List.mem_append.1 hq with h | h; exact hb q h; rw [List.mem_singleton.1 h]; exact hbf)) co44 (fun id => id + 51) rfl rfl rfl ⟨.own _ _ _ _ rfl rfl, trivial⟩ (.own _ _ _ _ rfl rfl) rfl ⟨⟨rfl, treeEls_app, ⟨_, rfl, Nat.lt_succ_self _⟩⟩, trivial⟩ ⟨⟨treeEls_app, .inl rfl⟩, ⟨treeEls_t, .inr rfl⟩, trivial⟩) ?_
        refine RD.op rfl rfl rfl (eff_move (v := .t _) rfl rfl rfl) ?_
        refine RD.op rfl rfl rfl (eff_callT (sorted_ret _ (srt_stepF hs) (by omega)) co46 rfl rfl rfl rfl) ?_
        refine RD.op rfl rfl rfl (eff_buildA (ys := [_, _]) rfl rfl tz37 tg37 rfl rfl) ?_
        refine RD.store rfl rfl rfl (eff_storeW (v := .agg _) (els := [_]) (els' := [_]) rfl rfl ti37 rfl rfl rfl rfl rfl rfl rfl rfl rfl) ?_
        refine RD.op rfl rfl rfl (eff_assign (v := .t _) rfl rfl rfl) ?_
        refine RD.nil ?_
        refine awj_ret ?_
        first
          | (rw [send_late (by first | (rw [late_at (by omega)]; exact decide_eq_true (by first | assumption | omega)) | (exfalso; omega))]
             exact ⟨Or.inr rfl, [_, _], ⟨.cell rfl ti37 (.whole rfl rfl rfl rfl rfl rfl) (.t _), .tmp (.t _), trivial⟩, (by repeat' first | exact trivial | exact Wk.refl _ | exact Wk.sl _ | refine And.intro ?_ ?_ | refine Wk.tupP ?_ | refine Wk.aggP ?_)⟩)
          | (rw [send_many (by first | exact late_nil (by omega) | (rw [late_at (by omega)]; exact decide_eq_false (by first | assumption | omega))) (by omega)]
             exact ⟨Or.inr rfl, [_, _], ⟨.cell rfl ti37 (.whole rfl rfl rfl rfl rfl rfl) (.t _), .tmp (.t _), trivial⟩, (by repeat' first | exact trivial | exact Wk.refl _ | exact Wk.sl _ | refine And.intro ?_ ?_ | refine Wk.tupP ?_ | refine Wk.aggP ?_)⟩)
          | (rw [send_ok (by first | exact late_nil (by omega) | (rw [late_at (by omega)]; exact decide_eq_false (by first | assumption | omega))) (by omega)]
             exact ⟨Or.inr rfl, [_, _], ⟨.cell rfl ti37 (.whole rfl rfl rfl rfl rfl rfl) (Res.aggP (xs := [_, _]) ⟨Res.ownT (xs := (t.sent ++ [f]).map encF) rfl rfl rfl (by simp), .t _, trivial⟩), .tmp (.t _), trivial⟩, .refl _⟩)

end Go.Tv.C34

end
section
open Go Go.Tv Go.Proofs
namespace Go.Tv.C34
set_option maxRecDepth 20000
set_option maxHeartbeats 2000000
set_option linter.unusedSimpArgs false
set_option linter.unusedVariables false
theorem thear_ret (t : Twn) (r : Rep) (hr : HP r) (hl : t.poss.length ≤ 1000) (hs : t.sent.length ≤ 1000) (hb : ∀ x, x ∈ t.sent → x.body.length ≤ 1000000) : RetT Tryd.prog 22 [(1, deT)] [encT t, encR r] (.tup [encT (hear t r).1, encI (hear t r).2]) := by
  refine retT_of_awp Tryd.func22 rfl (Nat.le_of_ble_eq_true rfl) ?_
  refine awp_seq ?_
  refine awp_rw rfl ?_
  refine RW.new rfl rfl (eff_boxK (v := .t _) (k := 2) (id := 2) rfl rfl rfl rfl rfl rfl) ?_
  refine RW.new rfl rfl (eff_boxK (v := .t _) (k := 4) (id := 3) rfl rfl rfl rfl rfl rfl) ?_
  refine RW.new rfl rfl (eff_allocK (k := 2) (id := 4) rfl rfl tz37 rfl rfl) ?_
  refine RW.op rfl rfl (eff_assign (v := .t _) rfl rfl rfl) ?_
  refine RW.nil ?_
  refine awp_seq ?_
  refine awp_rw rfl ?_
  refine RW.op rfl rfl (eff_assign (v := .t _) rfl rfl rfl) ?_
  refine RW.nil ?_
  show AWP _ _ _ _
  refine awp_weak (weak_adopt (d := 6) (id := 6) (k := 5) (ty := 30) rfl rfl) ?_
  refine awp_seq ?_
  refine awp_seq ?_
  refine awp_rw rfl ?_
  refine RW.op rfl rfl (eff_fieldAddr rfl rfl tf37_0 (by decide) rfl rfl rfl (Nat.le_of_ble_eq_true rfl)) ?_
  refine RW.op rfl rfl (eff_load (y := .t _) rfl rfl ti34 rfl (.one rfl rfl rfl rfl)) ?_
  refine RW.op rfl rfl (eff_lenM rfl rfl te34 rfl) ?_
  refine RW.op rfl rfl (eff_move (v := .t _) rfl rfl rfl) ?_
  refine RW.nil ?_
  refine awp_block ?_
  refine awp_loopW (fun m s => ∃ (i : Nat) (gn : Nat) (n : Nat) (els : List AV), (i ≤ t.sent.length) ∧ (n = (open_ (t.sent.take i) r).length) ∧ (els = ((open_ (t.sent.take i) r).map encF).map .t) ∧ m = t.sent.length - i ∧ s = ⟨57, [(2, .ptr 2 0 0 0), (3, .ptr 3 0 0 0), (4, .ptr 4 0 0 0), (6, .own 6 gn 0 n), (14, .t (.sl (t.sent.map encF) false)), (15, .t (encI t.sent.length)), (16, .t (encI (i : Nat))), (58, .t deT)], [(2, some ⟨2, 37, 0, [.t (encT t)]⟩), (3, some ⟨4, 23, 0, [.t (encR r)]⟩), (4, some ⟨2, 37, 0, [.t z37]⟩), (6, some ⟨5, 30, gn, els⟩)]⟩) (_) (⟨_, weak_keep (n := 57) (fr' := [(2, .ptr 2 0 0 0), (3, .ptr 3 0 0 0), (4, .ptr 4 0 0 0), (6, .own 6 0 0 0), (14, .t (.sl (t.sent.map encF) false)), (15, .t (encI t.sent.length)), (16, .t (encI (0 : Nat))), (58, .t deT)]) (st' := [(2, some ⟨2, 37, 0, [.t (encT t)]⟩), (3, some ⟨4, 23, 0, [.t (encR r)]⟩), (4, some ⟨2, 37, 0, [.t z37]⟩), (6, some ⟨5, 30, 0, ([])⟩)]) ⟨rfl, rfl, rfl, rfl, rfl, rfl, rfl, rfl, rfl, rfl, rfl, rfl, rfl, rfl, rfl, rfl, trivial⟩ ⟨rfl, okE_one rfl, rfl, okE_one rfl, rfl, okE_one rfl, rfl, (by first | exact okE_nil | (rw [he]; exact okE_t) | (rw [he]; intro x hx; simp only [List.mem_append, List.mem_map, List.mem_singleton] at hx; rcases hx with ⟨y, _, rfl⟩ | rfl <;> rfl)), trivial⟩, 0, 0, 0, [], (by omega), (by rfl), (by rfl), rfl, rfl⟩) ?_
  rintro m s ⟨i, gn, n, els, hi, hnn, he, rfl, rfl⟩
  have hol : (open_ (t.sent.take i) r).length ≤ t.sent.length := open_len _ _ _
  refine awp_seq ?_
  refine awp_rw rfl ?_
  refine RW.op rfl rfl (eff_iop rfl rfl rfl rfl rfl) ?_
  refine RW.nil ?_
  refine awp_seq ?_
  refine awp_cond rfl (fun h1 => ?_) (fun h1 => ?_)
  · try simp only [decide_eq_true_eq, decide_eq_false_iff_not, beq_iff_eq, bne_iff_ne, bne_eq_false_iff_eq, beq_eq_false_iff_ne, Bool.not_eq_true, Bool.not_eq_false, Bool.not_eq_true', Bool.not_eq_false', ne_eq] at h1
    refine awp_skip ?_
    refine awp_seq ?_
    refine awp_block ?_
    refine awp_seq ?_
    refine awp_rw rfl ?_
    refine RW.op rfl rfl (eff_indexM rfl rfl te34 rfl rfl rfl (by first | assumption | exact List.getElem?_eq_getElem (by omega)) rfl (by decide)) ?_
    refine RW.op rfl rfl (eff_loadW rfl rfl ti30 rfl rfl rfl) ?_
    refine RW.new rfl rfl (eff_allocK (k := 5) (id := 8) rfl rfl tz30 rfl rfl) ?_
    refine RW.store rfl rfl (eff_storeW (v := .t _) (els := [_]) (els' := [_]) rfl rfl ti30 rfl rfl rfl rfl rfl rfl rfl rfl rfl) ?_
    refine RW.nil ?_
    refine awp_seq ?_
    refine awp_rw rfl ?_
    refine RW.op rfl rfl (eff_fieldAddr rfl rfl tf30_1 (by decide) rfl rfl rfl (Nat.le_of_ble_eq_true rfl)) ?_
    refine RW.op rfl rfl (eff_load (y := .t _) rfl rfl ti3 rfl (.one rfl rfl rfl rfl)) ?_
    refine RW.op rfl rfl (eff_fieldAddr rfl rfl tf23_2 (by decide) rfl rfl rfl (Nat.le_of_ble_eq_true rfl)) ?_
    refine RW.op rfl rfl (eff_load (y := .t _) rfl rfl ti3 rfl (.one rfl rfl rfl rfl)) ?_
    refine RW.op rfl rfl (eff_iop rfl rfl rfl rfl rfl) ?_
    refine RW.nil ?_
    refine awp_cond rfl (fun h2 => ?_) (fun h2 => ?_)
    · try simp only [decide_eq_true_eq, decide_eq_false_iff_not, beq_iff_eq, bne_iff_ne, bne_eq_false_iff_eq, beq_eq_false_iff_ne, Bool.not_eq_true, Bool.not_eq_false, Bool.not_eq_true', Bool.not_eq_false', ne_eq] at h2
      refine awp_rw rfl ?_
      refine RW.op rfl rfl (eff_move (v := .own _ _ _ _) rfl rfl rfl) ?_
      refine RW.op rfl rfl (eff_load rfl rfl ti30 rfl (.whole rfl rfl rfl rfl rfl rfl)) ?_
      refine RW.new rfl rfl (eff_buildSliceL (id := 27) (els := [.t (.agg [_, _, _, _, _])]) rfl rfl te34 tz30 rfl (by decide) (by decide) rfl rfl rfl rfl) ?_
      refine RW.new rfl rfl (eff_append (id := 6) (ys := [_]) rfl rfl ta34 rfl rfl rfl (by rw [he, hnn]; simp) rfl rfl (srcOwn rfl rfl rfl rfl rfl rfl) (by simp) (by simp; omega) (by simp; omega)) ?_
      refine RW.op rfl rfl (eff_assign (v := .own _ _ _ _) rfl rfl rfl) ?_
      refine RW.nil ?_
      refine awp_rw rfl ?_
      refine RW.op rfl rfl (eff_iop rfl rfl rfl rfl (iadd (by omega))) ?_
      refine RW.op rfl rfl (eff_move (v := .t _) rfl rfl rfl) ?_
      refine RW.nil ?_
      have hil : i < t.sent.length := by omega
      first
        | have ho : open_ (t.sent.take (i + 1)) r = (open_ (t.sent.take i) r) ++ [t.sent[i]'hil] := open_take hil (by omega)
        | have ho : open_ (t.sent.take (i + 1)) r = (open_ (t.sent.take i) r) := open_skip hil (by omega)
      refine ⟨_, ?_, _, weak_keep (n := 57) (fr' := [(2, .ptr 2 0 0 0), (3, .ptr 3 0 0 0), (4, .ptr 4 0 0 0), (6, .own 6 _ 0 _), (14, .t (.sl (t.sent.map encF) false)), (15, .t (encI t.sent.length)), (16, .t (encI ((i + 1) : Nat))), (58, .t deT)]) (st' := [(2, some ⟨2, 37, 0, [.t (encT t)]⟩), (3, some ⟨4, 23, 0, [.t (encR r)]⟩), (4, some ⟨2, 37, 0, [.t z37]⟩), (6, some ⟨5, 30, _, _⟩)]) ⟨rfl, rfl, rfl, rfl, rfl, rfl, rfl, rfl, rfl, rfl, rfl, rfl, rfl, rfl, rfl, rfl, trivial⟩ ⟨rfl, okE_one rfl, rfl, okE_one rfl, rfl, okE_one rfl, rfl, (by first | exact okE_nil | (rw [he]; exact okE_t) | (rw [he]; intro x hx; simp only [List.mem_append, List.mem_map, List.mem_singleton] at hx; rcases hx with ⟨y, _, rfl⟩ | rfl <;> rfl)), trivial⟩, i + 1, _, _, _, (by omega), (by rw [ho]; simp [hnn]), (by rw [ho]; simp [he] <;> rfl), rfl, rfl⟩
      omega
    · try simp only [decide_eq_true_eq, decide_eq_false_iff_not, beq_iff_eq, bne_iff_ne, bne_eq_false_iff_eq, beq_eq_false_iff_ne, Bool.not_eq_true, Bool.not_eq_false, Bool.not_eq_true', Bool.not_eq_false', ne_eq] at h2
      refine awp_skip ?_
      refine awp_rw rfl ?_
      refine RW.op rfl rfl (eff_iop rfl rfl rfl rfl (iadd (by omega))) ?_
      refine RW.op rfl rfl (eff_move (v := .t _) rfl rfl rfl) ?_
      refine RW.nil ?_
      have hil : i < t.sent.length := by omega
      first
        | have ho : open_ (t.sent.take (i + 1)) r = (open_ (t.sent.take i) r) ++ [t.sent[i]'hil] := open_take hil (by omega)
        | have ho : open_ (t.sent.take (i + 1)) r = (open_ (t.sent.take i) r) := open_skip hil (by omega)
      refine ⟨_, ?_, _, weak_keep (n := 57) (fr' := [(2, .ptr 2 0 0 0), (3, .ptr 3 0 0 0), (4, .ptr 4 0 0 0), (6, .own 6 _ 0 _), (14, .t (.sl (t.sent.map encF) false)), (15, .t (encI t.sent.length)), (16, .t (encI ((i + 1) : Nat))), (58, .t deT)]) (st' := [(2, some ⟨2, 37, 0, [.t (encT t)]⟩), (3, some ⟨4, 23, 0, [.t (encR r)]⟩), (4, some ⟨2, 37, 0, [.t z37]⟩), (6, some ⟨5, 30, _, _⟩)]) ⟨rfl, rfl, rfl, rfl, rfl, rfl, rfl, rfl, rfl, rfl, rfl, rfl, rfl, rfl, rfl, rfl, trivial⟩ ⟨rfl, okE_one rfl, rfl, okE_one rfl, rfl, okE_one rfl, rfl, (by first | exact okE_nil | (rw [he]; exact okE_t) | (rw [he]; intro x hx; simp only [List.mem_append, List.mem_map, List.mem_singleton] at hx; rcases hx with ⟨y, _, rfl⟩ | rfl <;> rfl)), trivial⟩, i + 1, _, _, _, (by omega), (by rw [ho]; simp [hnn]), (by rw [ho]; simp [he] <;> rfl), rfl, rfl⟩
      omega
  · try simp only [decide_eq_true_eq, decide_eq_false_iff_not, beq_iff_eq, bne_iff_ne, bne_eq_false_iff_eq, beq_eq_false_iff_ne, Bool.not_eq_true, Bool.not_eq_false, Bool.not_eq_true', Bool.not_eq_false', ne_eq] at h1
    refine awp_exit ?_
    refine awp_seq ?_
    have hi2 : i = t.sent.length := by omega
    subst hi2
    rw [List.take_length] at hnn he
    refine awp_weak (weak_frz (n := 57) (fr' := [(2, .ptr 2 0 0 0), (3, .ptr 3 0 0 0), (4, .ptr 4 0 0 0), (6, .t (.sl ((open_ t.sent r).map encF) false)), (58, .t deT)]) (st' := [(2, some ⟨2, 37, 0, [.t (encT t)]⟩), (3, some ⟨4, 23, 0, [.t (encR r)]⟩), (4, some ⟨2, 37, 0, [.t z37]⟩)]) [(6, some ⟨5, 30, gn, els⟩)] ⟨rfl, trivial⟩ ⟨rfl, rfl, rfl, trivial⟩ ⟨wa_eq rfl rfl, wa_eq rfl rfl, wa_eq rfl rfl, .res (Res.ownT (xs := (open_ t.sent r).map encF) rfl rfl he (by rw [hnn]; simp)) (.refl _), wa_eq rfl rfl, trivial⟩ ⟨rfl, okE_one rfl, rfl, okE_one rfl, rfl, okE_one rfl, trivial⟩) ?_
    have hol2 : (open_ t.sent r).length ≤ t.sent.length := List.length_filter_le _ _
    refine awp_rw rfl ?_
    refine RW.op rfl rfl (eff_load rfl rfl ti23 rfl (.whole rfl rfl rfl rfl rfl rfl)) ?_
    refine RW.op rfl rfl (eff_move (v := .t _) rfl rfl rfl) ?_
    refine RW.op rfl rfl (eff_callXT (reach_ret r (open_ t.sent r) hr (by omega)) co48 rfl rfl rfl ⟨rfl, trivial⟩ rfl) ?_
    refine RW.op rfl rfl (eff_assign (v := .t _) rfl rfl rfl) ?_
    refine RW.nil ?_
    refine awp_seq ?_
    refine awp_rw rfl ?_
    refine RW.op rfl rfl (eff_assign (v := .t _) rfl rfl rfl) ?_
    refine RW.nil ?_
    show AWP _ _ _ _
    refine awp_weak (weak_adopt (d := 10) (id := 10) (k := 4) (ty := 23) rfl rfl) ?_
    refine awp_seq ?_
    refine awp_seq ?_
    refine awp_rw rfl ?_
    refine RW.op rfl rfl (eff_fieldAddr rfl rfl tf37_1 (by decide) rfl rfl rfl (Nat.le_of_ble_eq_true rfl)) ?_
    refine RW.op rfl rfl (eff_load (y := .t _) rfl rfl ti35 rfl (.one rfl rfl rfl rfl)) ?_
    refine RW.op rfl rfl (eff_lenM rfl rfl te35 rfl) ?_
    refine RW.op rfl rfl (eff_move (v := .t _) rfl rfl rfl) ?_
    refine RW.nil ?_
    refine awp_block ?_
    refine awp_loopW (fun m s => ∃ (k : Nat) (gm : Nat) (n2 : Nat) (els2 : List AV), (k ≤ t.poss.length) ∧ (n2 = ((t.poss.take k).filter (fun x => decide (x ∈ reachF r (open_ t.sent r)))).length) ∧ (els2 = (((t.poss.take k).filter (fun x => decide (x ∈ reachF r (open_ t.sent r)))).map encR).map .t) ∧ m = t.poss.length - k ∧ s = ⟨57, [(2, .ptr 2 0 0 0), (4, .ptr 4 0 0 0), (9, .t (mset (reachF r (open_ t.sent r)))), (10, .own 10 gm 0 n2), (34, .t (.sl (t.poss.map encR) false)), (35, .t (encI t.poss.length)), (36, .t (encI (k : Nat))), (58, .t deT)], [(2, some ⟨2, 37, 0, [.t (encT t)]⟩), (4, some ⟨2, 37, 0, [.t z37]⟩), (10, some ⟨4, 23, gm, els2⟩)]⟩) (_) (⟨_, weak_keep (n := 57) (fr' := [(2, .ptr 2 0 0 0), (4, .ptr 4 0 0 0), (9, .t (mset (reachF r (open_ t.sent r)))), (10, .own 10 0 0 0), (34, .t (.sl (t.poss.map encR) false)), (35, .t (encI t.poss.length)), (36, .t (encI (0 : Nat))), (58, .t deT)]) (st' := [(2, some ⟨2, 37, 0, [.t (encT t)]⟩), (4, some ⟨2, 37, 0, [.t z37]⟩), (10, some ⟨4, 23, 0, ([])⟩)]) ⟨rfl, rfl, rfl, rfl, rfl, rfl, rfl, rfl, rfl, rfl, rfl, rfl, rfl, rfl, rfl, rfl, trivial⟩ ⟨rfl, okE_one rfl, rfl, okE_one rfl, rfl, (by first | exact okE_nil | (rw [he2]; exact okE_t) | (rw [he2]; intro x hx; simp only [List.mem_append, List.mem_map, List.mem_singleton] at hx; rcases hx with ⟨y, _, rfl⟩ | rfl <;> rfl)), trivial⟩, 0, 0, 0, [], (by omega), (by simp), (by simp), rfl, rfl⟩) ?_
    rintro m s ⟨k, gm, n2, els2, hk, hnn2, he2, rfl, rfl⟩
    have hfl0 : n2 ≤ k := by rw [hnn2]; exact Nat.le_trans (List.length_filter_le _ _) (by simp; omega)
    refine awp_seq ?_
    refine awp_rw rfl ?_
    refine RW.op rfl rfl (eff_iop rfl rfl rfl rfl rfl) ?_
    refine RW.nil ?_
    refine awp_seq ?_
    refine awp_cond rfl (fun h3 => ?_) (fun h3 => ?_)
    · try simp only [decide_eq_true_eq, decide_eq_false_iff_not, beq_iff_eq, bne_iff_ne, bne_eq_false_iff_eq, beq_eq_false_iff_ne, Bool.not_eq_true, Bool.not_eq_false, Bool.not_eq_true', Bool.not_eq_false', ne_eq] at h3
      refine awp_skip ?_
      refine awp_seq ?_
      refine awp_block ?_
      refine awp_seq ?_
      refine awp_rw rfl ?_
      refine RW.op rfl rfl (eff_indexM rfl rfl te35 rfl rfl rfl (by first | assumption | exact List.getElem?_eq_getElem (by omega)) rfl (by decide)) ?_
      refine RW.op rfl rfl (eff_loadW rfl rfl ti23 rfl rfl rfl) ?_
      refine RW.new rfl rfl (eff_allocK (k := 4) (id := 12) rfl rfl tz23 rfl rfl) ?_
      refine RW.store rfl rfl (eff_storeW (v := .t _) (els := [_]) (els' := [_]) rfl rfl ti23 rfl rfl rfl rfl rfl rfl rfl rfl rfl) ?_
      refine RW.nil ?_
      refine awp_seq ?_
      refine awp_rw rfl ?_
      refine RW.op rfl rfl (eff_move (v := .t _) rfl rfl rfl) ?_
      refine RW.op rfl rfl (eff_load rfl rfl ti23 rfl (.whole rfl rfl rfl rfl rfl rfl)) ?_
      refine RW.op rfl rfl (eff_hasS (t.poss[k]'(by omega)) (srt_nodup (srt_reach r _)) Tryd.underlying78 tz4 rfl rfl rfl rfl) ?_
      refine RW.nil ?_
      refine awp_cond rfl (fun h4 => ?_) (fun h4 => ?_)
      · try simp only [decide_eq_true_eq, decide_eq_false_iff_not, beq_iff_eq, bne_iff_ne, bne_eq_false_iff_eq, beq_eq_false_iff_ne, Bool.not_eq_true, Bool.not_eq_false, Bool.not_eq_true', Bool.not_eq_false', ne_eq] at h4
        refine awp_rw rfl ?_
        refine RW.op rfl rfl (eff_move (v := .own _ _ _ _) rfl rfl rfl) ?_
        refine RW.op rfl rfl (eff_load rfl rfl ti23 rfl (.whole rfl rfl rfl rfl rfl rfl)) ?_
        refine RW.new rfl rfl (eff_buildSliceL (id := 45) (els := [.t (.agg [_, _, _, _])]) rfl rfl te35 tz23 rfl (by decide) (by decide) rfl rfl rfl rfl) ?_
        refine RW.new rfl rfl (eff_append (id := 10) (ys := [_]) rfl rfl ta35 rfl rfl rfl (by rw [he2, hnn2]; simp) rfl rfl (srcOwn rfl rfl rfl rfl rfl rfl) (by simp) (by simp; omega) (by simp; omega)) ?_
        refine RW.op rfl rfl (eff_assign (v := .own _ _ _ _) rfl rfl rfl) ?_
        refine RW.nil ?_
        refine awp_rw rfl ?_
        refine RW.op rfl rfl (eff_iop rfl rfl rfl rfl (iadd (by omega))) ?_
        refine RW.op rfl rfl (eff_move (v := .t _) rfl rfl rfl) ?_
        refine RW.nil ?_
        have hft : (t.poss.take (k + 1)).filter (fun x => decide (x ∈ reachF r (open_ t.sent r))) = _ := (left_take (by omega)).trans (congrArg _ (by first | exact if_pos (by assumption) | exact if_neg (by assumption)))
        refine ⟨_, ?_, _, weak_keep (n := 57) (fr' := [(2, .ptr 2 0 0 0), (4, .ptr 4 0 0 0), (9, .t (mset (reachF r (open_ t.sent r)))), (10, .own 10 _ 0 _), (34, .t (.sl (t.poss.map encR) false)), (35, .t (encI t.poss.length)), (36, .t (encI ((k + 1) : Nat))), (58, .t deT)]) (st' := [(2, some ⟨2, 37, 0, [.t (encT t)]⟩), (4, some ⟨2, 37, 0, [.t z37]⟩), (10, some ⟨4, 23, _, _⟩)]) ⟨rfl, rfl, rfl, rfl, rfl, rfl, rfl, rfl, rfl, rfl, rfl, rfl, rfl, rfl, rfl, rfl, trivial⟩ ⟨rfl, okE_one rfl, rfl, okE_one rfl, rfl, (by first | exact okE_nil | (rw [he2]; exact okE_t) | (rw [he2]; intro x hx; simp only [List.mem_append, List.mem_map, List.mem_singleton] at hx; rcases hx with ⟨y, _, rfl⟩ | rfl <;> rfl)), trivial⟩, k + 1, _, _, _, (by omega), (by rw [hft, hnn2]; simp), (by rw [hft, he2]; simp <;> rfl), rfl, rfl⟩
        omega
      · try simp only [decide_eq_true_eq, decide_eq_false_iff_not, beq_iff_eq, bne_iff_ne, bne_eq_false_iff_eq, beq_eq_false_iff_ne, Bool.not_eq_true, Bool.not_eq_false, Bool.not_eq_true', Bool.not_eq_false', ne_eq] at h4
        refine awp_skip ?_
        refine awp_rw rfl ?_
        refine RW.op rfl rfl (eff_iop rfl rfl rfl rfl (iadd (by omega))) ?_
        refine RW.op rfl rfl (eff_move (v := .t _) rfl rfl rfl) ?_
        refine RW.nil ?_
        have hft : (t.poss.take (k + 1)).filter (fun x => decide (x ∈ reachF r (open_ t.sent r))) = _ := (left_take (by omega)).trans (congrArg _ (by first | exact if_pos (by assumption) | exact if_neg (by assumption)))
        refine ⟨_, ?_, _, weak_keep (n := 57) (fr' := [(2, .ptr 2 0 0 0), (4, .ptr 4 0 0 0), (9, .t (mset (reachF r (open_ t.sent r)))), (10, .own 10 _ 0 _), (34, .t (.sl (t.poss.map encR) false)), (35, .t (encI t.poss.length)), (36, .t (encI ((k + 1) : Nat))), (58, .t deT)]) (st' := [(2, some ⟨2, 37, 0, [.t (encT t)]⟩), (4, some ⟨2, 37, 0, [.t z37]⟩), (10, some ⟨4, 23, _, _⟩)]) ⟨rfl, rfl, rfl, rfl, rfl, rfl, rfl, rfl, rfl, rfl, rfl, rfl, rfl, rfl, rfl, rfl, trivial⟩ ⟨rfl, okE_one rfl, rfl, okE_one rfl, rfl, (by first | exact okE_nil | (rw [he2]; exact okE_t) | (rw [he2]; intro x hx; simp only [List.mem_append, List.mem_map, List.mem_singleton] at hx; rcases hx with ⟨y, _, rfl⟩ | rfl <;> rfl)), trivial⟩, k + 1, _, _, _, (by omega), (by rw [hft, hnn2]; simp), (by rw [hft, he2]; simp <;> rfl), rfl, rfl⟩
        omega
    · try simp only [decide_eq_true_eq, decide_eq_false_iff_not, beq_iff_eq, bne_iff_ne, bne_eq_false_iff_eq, beq_eq_false_iff_ne, Bool.not_eq_true, Bool.not_eq_false, Bool.not_eq_true', Bool.not_eq_false', ne_eq] at h3
      refine awp_exit ?_
      refine awp_seq ?_
      refine awp_seq ?_
      refine awp_rw rfl ?_
      refine RW.op rfl rfl (eff_move (v := .own _ _ _ _) rfl rfl rfl) ?_
      refine RW.op rfl rfl (eff_len rfl rfl te35 rfl rfl rfl) ?_
      refine RW.op rfl rfl (eff_iop rfl rfl rfl rfl rfl) ?_
      refine RW.nil ?_
      refine awp_cond rfl (fun h5 => ?_) (fun h5 => ?_)
      · try simp only [decide_eq_true_eq, decide_eq_false_iff_not, beq_iff_eq, bne_iff_ne, bne_eq_false_iff_eq, beq_eq_false_iff_ne, Bool.not_eq_true, Bool.not_eq_false, Bool.not_eq_true', Bool.not_eq_false', ne_eq] at h5
        refine awp_seq ?_
        refine awp_rw rfl ?_
        refine RW.op rfl rfl (eff_buildT (ys := [_, _]) rfl rfl tz37 tg37 rfl) ?_
        refine RW.store rfl rfl (eff_storeW (v := .t _) (els := [_]) (els' := [_]) rfl rfl ti37 rfl rfl rfl rfl rfl rfl rfl rfl rfl) ?_
        refine RW.op rfl rfl (eff_assign (v := .t _) rfl rfl rfl) ?_
        refine RW.nil ?_
        refine awp_ret ?_
        have hk2 : k = t.poss.length := by omega
        subst hk2
        have htl : t.poss.take t.poss.length = t.poss := List.take_length
        have hlf : left_ t r = (t.poss.take t.poss.length).filter (fun x => decide (x ∈ reachF r (open_ t.sent r))) := by rw [htl]; rfl
        first
          | (rw [hear_no (by rw [hlf]; omega)]
             exact ⟨Or.inr rfl, [_, _], ⟨.cell rfl ti37 (.whole rfl rfl rfl rfl rfl rfl) (.t _), .tmp (.t _), trivial⟩, (by repeat' first | exact trivial | exact Wk.refl _ | exact Wk.sl _ | refine And.intro ?_ ?_ | refine Wk.tupP ?_ | refine Wk.aggP ?_)⟩)
          | (rw [hear_ok (by rw [hlf]; omega), hlf]
             exact ⟨Or.inr rfl, [_, _], ⟨.cell rfl ti37 (.whole rfl rfl rfl rfl rfl rfl) (Res.aggP (xs := [_, _]) ⟨.t _, Res.ownT (xs := ((t.poss.take t.poss.length).filter (fun x => decide (x ∈ reachF r (open_ t.sent r)))).map encR) rfl rfl he2 (by rw [hnn2]; simp), trivial⟩), .tmp (.t _), trivial⟩, .refl _⟩)
      · try simp only [decide_eq_true_eq, decide_eq_false_iff_not, beq_iff_eq, bne_iff_ne, bne_eq_false_iff_eq, beq_eq_false_iff_ne, Bool.not_eq_true, Bool.not_eq_false, Bool.not_eq_true', Bool.not_eq_false', ne_eq] at h5
        refine awp_skip ?_
        refine awp_seq ?_
        refine awp_rw rfl ?_
        refine RW.op rfl rfl (eff_fieldAddr rfl rfl tf37_0 (by decide) rfl rfl rfl (Nat.le_of_ble_eq_true rfl)) ?_
        refine RW.op rfl rfl (eff_load (y := .t _) rfl rfl ti34 rfl (.one rfl rfl rfl rfl)) ?_
        refine RW.op rfl rfl (eff_callT (own_ret t.sent (by omega) hb) co44 rfl rfl rfl rfl) ?_
        refine RW.op rfl rfl (eff_move (v := .own _ _ _ _) rfl rfl rfl) ?_
        refine RW.op rfl rfl (eff_buildA (ys := [_, _]) rfl rfl tz37 tg37 rfl rfl) ?_
        refine RW.store rfl rfl (eff_storeW (v := .agg _) (els := [_]) (els' := [_]) rfl rfl ti37 rfl rfl rfl rfl rfl rfl rfl rfl rfl) ?_
        refine RW.op rfl rfl (eff_assign (v := .t _) rfl rfl rfl) ?_
        refine RW.nil ?_
        refine awp_ret ?_
        have hk2 : k = t.poss.length := by omega
        subst hk2
        have htl : t.poss.take t.poss.length = t.poss := List.take_length
        have hlf : left_ t r = (t.poss.take t.poss.length).filter (fun x => decide (x ∈ reachF r (open_ t.sent r))) := by rw [htl]; rfl
        first
          | (rw [hear_no (by rw [hlf]; omega)]
             exact ⟨Or.inr rfl, [_, _], ⟨.cell rfl ti37 (.whole rfl rfl rfl rfl rfl rfl) (.t _), .tmp (.t _), trivial⟩, (by repeat' first | exact trivial | exact Wk.refl _ | exact Wk.sl _ | refine And.intro ?_ ?_ | refine Wk.tupP ?_ | refine Wk.aggP ?_)⟩)
          | (rw [hear_ok (by rw [hlf]; omega), hlf]
             exact ⟨Or.inr rfl, [_, _], ⟨.cell rfl ti37 (.whole rfl rfl rfl rfl rfl rfl) (Res.aggP (xs := [_, _]) ⟨.t _, Res.ownT (xs := ((t.poss.take t.poss.length).filter (fun x => decide (x ∈ reachF r (open_ t.sent r)))).map encR) rfl rfl he2 (by rw [hnn2]; simp), trivial⟩), .tmp (.t _), trivial⟩, .refl _⟩)

end Go.Tv.C34

end
section
open Go Go.Tv Go.Proofs
namespace Go.Tv.C34

def frm (x : Int) (i : Nat) (key : Int) : Frm :=
  if around x 1000000 / 7 % 12 = 0 then ⟨imax 0 ((i : Int) - 3) + around x 1000000 % 7, key, true, [], 0⟩
  else if around x 1000000 / 7 % 12 = 1 then ⟨around x 1000000 / 84 % 300, key, false, [], 0⟩
  else ⟨imax 0 ((i : Int) - 3) + around x 1000000 % 7, key, false, [], 0⟩
def nxt (x key : Int) : Int := key + 1 + around x 1000000 / 84 % 40 / 39 * 5000
def keyAt (l : List Int) : Nat → Int
  | 0 => 0
  | j + 1 => nxt (l.getD j 0) (keyAt l j)
def frameAt (l : List Int) (j : Nat) : Frm := frm (l.getD j 0) j (keyAt l j)
def frames (l : List Int) (m : Nat) : List Frm := (List.range (min l.length m)).map (frameAt l)

theorem range_succ {α : Type} (f : Nat → α) (i : Nat) : (List.range (i + 1)).map f = (List.range i).map f ++ [f i] := by rw [List.range_succ, List.map_append]; rfl
theorem getD_get {l : List Int} {i : Nat} (h : i < l.length) : l.getD i 0 = l[i] := by simp [List.getD_eq_getElem?_getD, h]
theorem nxt_range (x key : Int) : key < nxt x key ∧ nxt x key ≤ key + 5001 := by
  unfold nxt
  have := around_range (n := x) (m := 1000000) (by decide)
  omega
theorem keyAt_range (l : List Int) : ∀ j : Nat, 0 ≤ keyAt l j ∧ keyAt l j ≤ 5001 * j
  | 0 => by simp [keyAt]
  | j + 1 => by
    have h1 := keyAt_range l j
    have h2 := nxt_range (l.getD j 0) (keyAt l j)
    show 0 ≤ nxt _ _ ∧ nxt _ _ ≤ _
    omega
theorem frames_len (l : List Int) (m : Nat) : (frames l m).length = min l.length m := by simp [frames]
theorem quoN {n d : Int} (h : 0 ≤ n ∧ n ≤ 4000000000000000000) (hd : 0 < d) : IntKind.i64.wrap (n.tdiv d) = n / d := by
  rw [Int.tdiv_eq_ediv_of_nonneg h.1]
  have h1 := Int.ediv_nonneg h.1 (Int.le_of_lt hd)
  have h2 := Int.ediv_le_self d h.1
  rw [wi64]; omega
theorem frm_0 {x key : Int} {i : Nat} (h : around x 1000000 / 7 % 12 = 0) : frm x i key = ⟨imax 0 ((i : Int) - 3) + around x 1000000 % 7, key, true, [], 0⟩ := by unfold frm; rw [if_pos h]
theorem frm_1 {x key : Int} {i : Nat} (h : ¬ around x 1000000 / 7 % 12 = 0) (h2 : around x 1000000 / 7 % 12 = 1) : frm x i key = ⟨around x 1000000 / 84 % 300, key, false, [], 0⟩ := by unfold frm; rw [if_neg h, if_pos h2]
theorem frm_2 {x key : Int} {i : Nat} (h : ¬ around x 1000000 / 7 % 12 = 0) (h2 : ¬ around x 1000000 / 7 % 12 = 1) : frm x i key = ⟨imax 0 ((i : Int) - 3) + around x 1000000 % 7, key, false, [], 0⟩ := by unfold frm; rw [if_neg h, if_neg h2]
end Go.Tv.C34

end
section
open Go Go.Tv Go.Proofs
namespace Go.Tv.C34
set_option maxRecDepth 20000
set_option maxHeartbeats 2000000
set_option linter.unusedSimpArgs false
set_option linter.unusedVariables false
theorem frames_ret (l : List Int) (mo : Nat) (hI : ∀ x, x ∈ l → I64 x) (hl : l.length ≤ 9223372036854775807) (hm : mo ≤ 20) : Ret Tryd.prog 19 [.sl (l.map encI) false, encI (mo : Nat)] (.sl ((frames l mo).map encF) false) := by
  refine ret_of_awp Tryd.func19 rfl (Nat.le_of_ble_eq_true rfl) ?_
  refine awp_seq ?_
  refine awp_rw rfl ?_
  refine RW.op rfl rfl (eff_assign (v := .t _) rfl rfl rfl) ?_
  refine RW.nil ?_
  refine awp_seq ?_
  refine awp_rw rfl ?_
  refine RW.op rfl rfl (eff_assign (v := .t _) rfl rfl rfl) ?_
  refine RW.nil ?_
  show AWP _ _ _ _
  refine awp_weak (weak_adopt (d := 5) (id := 5) (k := 5) (ty := 30) rfl rfl) ?_
  refine awp_seq ?_
  refine awp_rw rfl ?_
  refine RW.op rfl rfl (eff_assign (v := .t _) rfl rfl rfl) ?_
  refine RW.nil ?_
  refine awp_seq ?_
  refine awp_seq ?_
  refine awp_rw rfl ?_
  refine RW.op rfl rfl (eff_assign (v := .t _) rfl rfl rfl) ?_
  refine RW.nil ?_
  refine awp_block ?_
  refine awp_loopW (fun m s => ∃ (i : Nat) (gn : Nat) (n : Nat) (key : Int) (els : List AV), (i ≤ l.length) ∧ (i ≤ mo) ∧ (n = i) ∧ (key = keyAt l i) ∧ (els = (((List.range i).map (frameAt l)).map encF).map .t) ∧ m = l.length - i ∧ s = ⟨59, [(0, .t (.sl (l.map encI) false)), (1, .t (encI (mo : Nat))), (5, .own 5 gn 0 n), (6, .t (encI key)), (7, .t (encI (i : Nat)))], [(5, some ⟨5, 30, gn, els⟩)]⟩) (_) (⟨_, weak_keep (n := 59) (fr' := [(0, .t (.sl (l.map encI) false)), (1, .t (encI (mo : Nat))), (5, .own 5 0 0 0), (6, .t (encI 0)), (7, .t (encI (0 : Nat)))]) (st' := [(5, some ⟨5, 30, 0, ([])⟩)]) ⟨rfl, rfl, rfl, rfl, rfl, rfl, rfl, rfl, rfl, rfl, trivial⟩ ⟨rfl, (by first | exact okE_nil | (rw [he]; exact okE_t) | (rw [he]; intro x hx; simp only [List.mem_append, List.mem_map, List.mem_singleton] at hx; rcases hx with ⟨y, _, rfl⟩ | rfl <;> rfl)), trivial⟩, 0, 0, 0, 0, [], (by omega), (by omega), (by rfl), (by rfl), (by rfl), rfl, rfl⟩) ?_
  rintro m s ⟨i, gn, n, key, els, hi, him, hnn, hky, he, rfl, rfl⟩
  have hkr := keyAt_range l i
  rw [← hky] at hkr
  refine awp_seq ?_
  refine awp_seq ?_
  refine awp_rw rfl ?_
  refine RW.op rfl rfl (eff_move (v := .t _) rfl rfl rfl) ?_
  refine RW.op rfl rfl (eff_move (v := .t _) rfl rfl rfl) ?_
  refine RW.op rfl rfl (eff_lenM rfl rfl te26 rfl) ?_
  refine RW.op rfl rfl (eff_iop rfl rfl rfl rfl rfl) ?_
  refine RW.op rfl rfl (eff_move (v := .t _) rfl rfl rfl) ?_
  refine RW.split 14 rfl (fun h1 => ?_) (fun h1 => ?_)
  · try simp only [decide_eq_true_eq, decide_eq_false_iff_not, beq_iff_eq, bne_iff_ne, bne_eq_false_iff_eq, beq_eq_false_iff_ne, Bool.not_eq_true, Bool.not_eq_false, Bool.not_eq_true', Bool.not_eq_false', ne_eq] at h1
    refine RW.gop rfl rfl rfl rfl rfl rfl (eff_move (v := .t _) rfl rfl rfl) ?_
    refine RW.gop rfl rfl rfl rfl rfl rfl (eff_move (v := .t _) rfl rfl rfl) ?_
    refine RW.gop rfl rfl rfl rfl rfl rfl (eff_iop rfl rfl rfl rfl rfl) ?_
    refine RW.op rfl rfl (eff_pick (v := .t _) rfl rfl rfl rfl) ?_
    refine RW.nil ?_
    refine awp_cond rfl (fun h2 => ?_) (fun h2 => ?_)
    · try simp only [decide_eq_true_eq, decide_eq_false_iff_not, beq_iff_eq, bne_iff_ne, bne_eq_false_iff_eq, beq_eq_false_iff_ne, Bool.not_eq_true, Bool.not_eq_false, Bool.not_eq_true', Bool.not_eq_false', ne_eq] at h2
      refine awp_skip ?_
      refine awp_seq ?_
      refine awp_block ?_
      refine awp_seq ?_
      refine awp_rw rfl ?_
      have hil : i < l.length := by omega
      refine RW.op rfl rfl (eff_move (v := .t _) rfl rfl rfl) ?_
      refine RW.op rfl rfl (eff_move (v := .t _) rfl rfl rfl) ?_
      refine RW.op rfl rfl (eff_indexM rfl rfl te26 rfl rfl rfl (by first | assumption | exact List.getElem?_eq_getElem (by omega)) rfl (by decide)) ?_
      refine RW.op rfl rfl (eff_loadW1 rfl rfl ti3 rfl rfl) ?_
      refine RW.op rfl rfl (eff_callT (around_ret _ _ (hI _ (List.getElem_mem _)) (by omega)) co13 rfl rfl rfl rfl) ?_
      refine RW.op rfl rfl (eff_assign (v := .t _) rfl rfl rfl) ?_
      refine RW.nil ?_
      refine awp_seq ?_
      refine awp_rw rfl ?_
      have har := around_range (n := l[i]'hil) (m := 1000000) (by decide)
      have him2 : 0 ≤ imax 0 ((i : Int) - 3) ∧ imax 0 ((i : Int) - 3) ≤ 20 := by unfold imax; split <;> omega
      refine RW.op rfl rfl (eff_move (v := .t _) rfl rfl rfl) ?_
      refine RW.op rfl rfl (eff_move (v := .t _) rfl rfl rfl) ?_
      refine RW.op rfl rfl (eff_iop rfl rfl rfl rfl (isub (by omega))) ?_
      refine RW.op rfl rfl (eff_max rfl rfl rfl rfl) ?_
      refine RW.op rfl rfl (eff_move (v := .t _) rfl rfl rfl) ?_
      refine RW.op rfl rfl (eff_remE (r := (around (l[i]'hil) 1000000) % 7) rfl rfl rfl rfl (by decide) (tmod_pos (by omega))) ?_
      refine RW.op rfl rfl (eff_iop rfl rfl rfl rfl (iadd (by omega))) ?_
      refine RW.op rfl rfl (eff_buildT (ys := [_, _, _, _, _]) rfl rfl tz30 tg30 rfl) ?_
      refine RW.new rfl rfl (eff_allocK (k := 5) (id := 9) rfl rfl tz30 rfl rfl) ?_
      refine RW.store rfl rfl (eff_storeW (v := .t _) (els := [_]) (els' := [_]) rfl rfl ti30 rfl rfl rfl rfl rfl rfl rfl rfl rfl) ?_
      refine RW.nil ?_
      refine awp_seq ?_
      refine awp_seq ?_
      refine awp_rw rfl ?_
      refine RW.op rfl rfl (eff_move (v := .t _) rfl rfl rfl) ?_
      refine RW.op rfl rfl (eff_quoE (r := (around (l[i]'hil) 1000000) / 7) rfl rfl rfl rfl (by decide) (quoN (by omega) (by decide))) ?_
      refine RW.op rfl rfl (eff_remE (r := ((around (l[i]'hil) 1000000) / 7) % 12) rfl rfl rfl rfl (by decide) (tmod_pos (by omega))) ?_
      refine RW.nil ?_
      refine awp_block ?_
      refine awp_seq ?_
      refine awp_rw rfl ?_
      refine RW.op rfl rfl (eff_iop rfl rfl rfl rfl rfl) ?_
      refine RW.op rfl rfl (eff_assign (v := .t _) rfl rfl rfl) ?_
      refine RW.nil ?_
      refine awp_cond rfl (fun h3 => ?_) (fun h3 => ?_)
      · try simp only [decide_eq_true_eq, decide_eq_false_iff_not, beq_iff_eq, bne_iff_ne, bne_eq_false_iff_eq, beq_eq_false_iff_ne, Bool.not_eq_true, Bool.not_eq_false, Bool.not_eq_true', Bool.not_eq_false', ne_eq] at h3
        refine awp_rw rfl ?_
        refine RW.op rfl rfl (eff_fieldAddr rfl rfl tf30_2 (by decide) rfl rfl rfl (Nat.le_of_ble_eq_true rfl)) ?_
        refine RW.store rfl rfl (eff_storeS (v := .t _) (ys := [_, _, _, _, _]) (els := [_]) (els' := [_]) rfl rfl ti4 rfl rfl rfl rfl rfl rfl rfl (Nat.le_of_ble_eq_true rfl) rfl rfl) ?_
        refine RW.nil ?_
        refine awp_seq ?_
        refine awp_rw rfl ?_
        refine RW.op rfl rfl (eff_move (v := .own _ _ _ _) rfl rfl rfl) ?_
        refine RW.op rfl rfl (eff_load rfl rfl ti30 rfl (.whole rfl rfl rfl rfl rfl rfl)) ?_
        first
          | (have hfr : frameAt l i = ⟨imax 0 ((i : Int) - 3) + (around (l[i]'hil) 1000000) % 7, key, true, [], 0⟩ := by unfold frameAt; rw [getD_get hil, ← hky]; exact frm_0 (by omega)
             refine RW.weak (weak_slot 47 (y := encF ⟨imax 0 ((i : Int) - 3) + (around (l[i]'hil) 1000000) % 7, key, true, [], 0⟩) rfl (by repeat' first | exact trivial | exact Wk.refl _ | exact Wk.sl _ | refine And.intro ?_ ?_ | refine Wk.tupP ?_ | refine Wk.aggP ?_)) rfl ?_)
          | (have hfr : frameAt l i = ⟨(around (l[i]'hil) 1000000) / 84 % 300, key, false, [], 0⟩ := by unfold frameAt; rw [getD_get hil, ← hky]; exact frm_1 (by omega) (by omega)
             refine RW.weak (weak_slot 47 (y := encF ⟨(around (l[i]'hil) 1000000) / 84 % 300, key, false, [], 0⟩) rfl (by repeat' first | exact trivial | exact Wk.refl _ | exact Wk.sl _ | refine And.intro ?_ ?_ | refine Wk.tupP ?_ | refine Wk.aggP ?_)) rfl ?_)
          | (have hfr : frameAt l i = ⟨imax 0 ((i : Int) - 3) + (around (l[i]'hil) 1000000) % 7, key, false, [], 0⟩ := by unfold frameAt; rw [getD_get hil, ← hky]; exact frm_2 (by omega) (by omega)
             refine RW.weak (weak_slot 47 (y := encF ⟨imax 0 ((i : Int) - 3) + (around (l[i]'hil) 1000000) % 7, key, false, [], 0⟩) rfl (by repeat' first | exact trivial | exact Wk.refl _ | exact Wk.sl _ | refine And.intro ?_ ?_ | refine Wk.tupP ?_ | refine Wk.aggP ?_)) rfl ?_)
        refine RW.new rfl rfl (eff_buildSliceL (id := 48) (els := [.t (.agg [_, _, _, _, _])]) rfl rfl te34 tz30 rfl (by decide) (by decide) rfl rfl rfl rfl) ?_
        refine RW.new rfl rfl (eff_append (id := 5) (ys := [_]) rfl rfl ta34 rfl rfl rfl (by rw [he, hnn]; simp) rfl rfl (srcOwn rfl rfl rfl rfl rfl rfl) (by simp) (by simp; omega) (by simp; omega)) ?_
        refine RW.op rfl rfl (eff_assign (v := .own _ _ _ _) rfl rfl rfl) ?_
        refine RW.nil ?_
        refine awp_rw rfl ?_
        refine RW.op rfl rfl (eff_move (v := .t _) rfl rfl rfl) ?_
        refine RW.op rfl rfl (eff_iop rfl rfl rfl rfl (iadd (by omega))) ?_
        refine RW.op rfl rfl (eff_move (v := .t _) rfl rfl rfl) ?_
        refine RW.op rfl rfl (eff_quoE (r := (around (l[i]'hil) 1000000) / 84) rfl rfl rfl rfl (by decide) (quoN (by omega) (by decide))) ?_
        refine RW.op rfl rfl (eff_remE (r := ((around (l[i]'hil) 1000000) / 84) % 40) rfl rfl rfl rfl (by decide) (tmod_pos (by omega))) ?_
        refine RW.op rfl rfl (eff_quoE (r := ((around (l[i]'hil) 1000000) / 84 % 40) / 39) rfl rfl rfl rfl (by decide) (quoN (by omega) (by decide))) ?_
        refine RW.op rfl rfl (eff_iop rfl rfl rfl rfl (imul (by omega))) ?_
        refine RW.op rfl rfl (eff_iop rfl rfl rfl rfl (iadd (by omega))) ?_
        refine RW.op rfl rfl (eff_assign (v := .t _) rfl rfl rfl) ?_
        refine RW.nil ?_
        refine awp_rw rfl ?_
        refine RW.op rfl rfl (eff_move (v := .t _) rfl rfl rfl) ?_
        refine RW.op rfl rfl (eff_iop rfl rfl rfl rfl (iadd (by omega))) ?_
        refine RW.op rfl rfl (eff_assign (v := .t _) rfl rfl rfl) ?_
        refine RW.nil ?_
        have hkn : keyAt l (i + 1) = key + 1 + (around (l[i]'hil) 1000000) / 84 % 40 / 39 * 5000 := by show nxt _ _ = _; rw [getD_get hil, ← hky]; rfl
        refine ⟨_, ?_, _, weak_keep (n := 59) (fr' := [(0, .t (.sl (l.map encI) false)), (1, .t (encI (mo : Nat))), (5, .own 5 _ 0 _), (6, .t (encI _)), (7, .t (encI ((i + 1) : Nat)))]) (st' := [(5, some ⟨5, 30, _, _⟩)]) ⟨rfl, rfl, rfl, rfl, rfl, rfl, rfl, rfl, rfl, rfl, trivial⟩ ⟨rfl, (by first | exact okE_nil | (rw [he]; exact okE_t) | (rw [he]; intro x hx; simp only [List.mem_append, List.mem_map, List.mem_singleton] at hx; rcases hx with ⟨y, _, rfl⟩ | rfl <;> rfl)), trivial⟩, i + 1, _, _, _, _, (by omega), (by omega), (by rw [hnn]; simp), (by exact hkn.symm), (by rw [range_succ, he]; simp only [List.map_append, List.map_cons, List.map_nil]; rw [hfr]; rfl), rfl, rfl⟩
        omega
      · try simp only [decide_eq_true_eq, decide_eq_false_iff_not, beq_iff_eq, bne_iff_ne, bne_eq_false_iff_eq, beq_eq_false_iff_ne, Bool.not_eq_true, Bool.not_eq_false, Bool.not_eq_true', Bool.not_eq_false', ne_eq] at h3
        refine awp_seq ?_
        refine awp_rw rfl ?_
        refine RW.op rfl rfl (eff_iop rfl rfl rfl rfl rfl) ?_
        refine RW.op rfl rfl (eff_assign (v := .t _) rfl rfl rfl) ?_
        refine RW.nil ?_
        refine awp_cond rfl (fun h4 => ?_) (fun h4 => ?_)
        · try simp only [decide_eq_true_eq, decide_eq_false_iff_not, beq_iff_eq, bne_iff_ne, bne_eq_false_iff_eq, beq_eq_false_iff_ne, Bool.not_eq_true, Bool.not_eq_false, Bool.not_eq_true', Bool.not_eq_false', ne_eq] at h4
          refine awp_rw rfl ?_
          refine RW.op rfl rfl (eff_move (v := .t _) rfl rfl rfl) ?_
          refine RW.op rfl rfl (eff_quoE (r := (around (l[i]'hil) 1000000) / 84) rfl rfl rfl rfl (by decide) (quoN (by omega) (by decide))) ?_
          refine RW.op rfl rfl (eff_remE (r := ((around (l[i]'hil) 1000000) / 84) % 300) rfl rfl rfl rfl (by decide) (tmod_pos (by omega))) ?_
          refine RW.op rfl rfl (eff_fieldAddr rfl rfl tf30_0 (by decide) rfl rfl rfl (Nat.le_of_ble_eq_true rfl)) ?_
          refine RW.store rfl rfl (eff_storeS (v := .t _) (ys := [_, _, _, _, _]) (els := [_]) (els' := [_]) rfl rfl ti3 rfl rfl rfl rfl rfl rfl rfl (Nat.le_of_ble_eq_true rfl) rfl rfl) ?_
          refine RW.nil ?_
          refine awp_seq ?_
          refine awp_rw rfl ?_
          refine RW.op rfl rfl (eff_move (v := .own _ _ _ _) rfl rfl rfl) ?_
          refine RW.op rfl rfl (eff_load rfl rfl ti30 rfl (.whole rfl rfl rfl rfl rfl rfl)) ?_
          first
            | (have hfr : frameAt l i = ⟨imax 0 ((i : Int) - 3) + (around (l[i]'hil) 1000000) % 7, key, true, [], 0⟩ := by unfold frameAt; rw [getD_get hil, ← hky]; exact frm_0 (by omega)
               refine RW.weak (weak_slot 47 (y := encF ⟨imax 0 ((i : Int) - 3) + (around (l[i]'hil) 1000000) % 7, key, true, [], 0⟩) rfl (by repeat' first | exact trivial | exact Wk.refl _ | exact Wk.sl _ | refine And.intro ?_ ?_ | refine Wk.tupP ?_ | refine Wk.aggP ?_)) rfl ?_)
            | (have hfr : frameAt l i = ⟨(around (l[i]'hil) 1000000) / 84 % 300, key, false, [], 0⟩ := by unfold frameAt; rw [getD_get hil, ← hky]; exact frm_1 (by omega) (by omega)
               refine RW.weak (weak_slot 47 (y := encF ⟨(around (l[i]'hil) 1000000) / 84 % 300, key, false, [], 0⟩) rfl (by repeat' first | exact trivial | exact Wk.refl _ | exact Wk.sl _ | refine And.intro ?_ ?_ | refine Wk.tupP ?_ | refine Wk.aggP ?_)) rfl ?_)
            | (have hfr : frameAt l i = ⟨imax 0 ((i : Int) - 3) + (around (l[i]'hil) 1000000) % 7, key, false, [], 0⟩ := by unfold frameAt; rw [getD_get hil, ← hky]; exact frm_2 (by omega) (by omega)
               refine RW.weak (weak_slot 47 (y := encF ⟨imax 0 ((i : Int) - 3) + (around (l[i]'hil) 1000000) % 7, key, false, [], 0⟩) rfl (by repeat' first | exact trivial | exact Wk.refl _ | exact Wk.sl _ | refine And.intro ?_ ?_ | refine Wk.tupP ?_ | refine Wk.aggP ?_)) rfl ?_)
          refine RW.new rfl rfl (eff_buildSliceL (id := 48) (els := [.t (.agg [_, _, _, _, _])]) rfl rfl te34 tz30 rfl (by decide) (by decide) rfl rfl rfl rfl) ?_
          refine RW.new rfl rfl (eff_append (id := 5) (ys := [_]) rfl rfl ta34 rfl rfl rfl (by rw [he, hnn]; simp) rfl rfl (srcOwn rfl rfl rfl rfl rfl rfl) (by simp) (by simp; omega) (by simp; omega)) ?_
          refine RW.op rfl rfl (eff_assign (v := .own _ _ _ _) rfl rfl rfl) ?_
          refine RW.nil ?_
          refine awp_rw rfl ?_
          refine RW.op rfl rfl (eff_move (v := .t _) rfl rfl rfl) ?_
          refine RW.op rfl rfl (eff_iop rfl rfl rfl rfl (iadd (by omega))) ?_
          refine RW.op rfl rfl (eff_move (v := .t _) rfl rfl rfl) ?_
          refine RW.op rfl rfl (eff_quoE (r := (around (l[i]'hil) 1000000) / 84) rfl rfl rfl rfl (by decide) (quoN (by omega) (by decide))) ?_
          refine RW.op rfl rfl (eff_remE (r := ((around (l[i]'hil) 1000000) / 84) % 40) rfl rfl rfl rfl (by decide) (tmod_pos (by omega))) ?_
          refine RW.op rfl rfl (eff_quoE (r := ((around (l[i]'hil) 1000000) / 84 % 40) / 39) rfl rfl rfl rfl (by decide) (quoN (by omega) (by decide))) ?_
          refine RW.op rfl rfl (eff_iop rfl rfl rfl rfl (imul (by omega))) ?_
          refine RW.op rfl rfl (eff_iop rfl rfl rfl rfl (iadd (by omega))) ?_
          refine RW.op rfl rfl (eff_assign (v := .t _) rfl rfl rfl) ?_
          refine RW.nil ?_
          refine awp_rw rfl ?_
          refine RW.op rfl rfl (eff_move (v := .t _) rfl rfl rfl) ?_
          refine RW.op rfl rfl (eff_iop rfl rfl rfl rfl (iadd (by omega))) ?_
          refine RW.op rfl rfl (eff_assign (v := .t _) rfl rfl rfl) ?_
          refine RW.nil ?_
          have hkn : keyAt l (i + 1) = key + 1 + (around (l[i]'hil) 1000000) / 84 % 40 / 39 * 5000 := by show nxt _ _ = _; rw [getD_get hil, ← hky]; rfl
          refine ⟨_, ?_, _, weak_keep (n := 59) (fr' := [(0, .t (.sl (l.map encI) false)), (1, .t (encI (mo : Nat))), (5, .own 5 _ 0 _), (6, .t (encI _)), (7, .t (encI ((i + 1) : Nat)))]) (st' := [(5, some ⟨5, 30, _, _⟩)]) ⟨rfl, rfl, rfl, rfl, rfl, rfl, rfl, rfl, rfl, rfl, trivial⟩ ⟨rfl, (by first | exact okE_nil | (rw [he]; exact okE_t) | (rw [he]; intro x hx; simp only [List.mem_append, List.mem_map, List.mem_singleton] at hx; rcases hx with ⟨y, _, rfl⟩ | rfl <;> rfl)), trivial⟩, i + 1, _, _, _, _, (by omega), (by omega), (by rw [hnn]; simp), (by exact hkn.symm), (by rw [range_succ, he]; simp only [List.map_append, List.map_cons, List.map_nil]; rw [hfr]; rfl), rfl, rfl⟩
          omega
        · try simp only [decide_eq_true_eq, decide_eq_false_iff_not, beq_iff_eq, bne_iff_ne, bne_eq_false_iff_eq, beq_eq_false_iff_ne, Bool.not_eq_true, Bool.not_eq_false, Bool.not_eq_true', Bool.not_eq_false', ne_eq] at h4
          refine awp_skip ?_
          refine awp_seq ?_
          refine awp_rw rfl ?_
          refine RW.op rfl rfl (eff_move (v := .own _ _ _ _) rfl rfl rfl) ?_
          refine RW.op rfl rfl (eff_load rfl rfl ti30 rfl (.whole rfl rfl rfl rfl rfl rfl)) ?_
          first
            | (have hfr : frameAt l i = ⟨imax 0 ((i : Int) - 3) + (around (l[i]'hil) 1000000) % 7, key, true, [], 0⟩ := by unfold frameAt; rw [getD_get hil, ← hky]; exact frm_0 (by omega)
               refine RW.weak (weak_slot 47 (y := encF ⟨imax 0 ((i : Int) - 3) + (around (l[i]'hil) 1000000) % 7, key, true, [], 0⟩) rfl (by repeat' first | exact trivial | exact Wk.refl _ | exact Wk.sl _ | refine And.intro ?_ ?_ | refine Wk.tupP ?_ | refine Wk.aggP ?_)) rfl ?_)
            | (have hfr : frameAt l i = ⟨(around (l[i]'hil) 1000000) / 84 % 300, key, false, [], 0⟩ := by unfold frameAt; rw [getD_get hil, ← hky]; exact frm_1 (by omega) (by omega)
               refine RW.weak (weak_slot 47 (y := encF ⟨(around (l[i]'hil) 1000000) / 84 % 300, key, false, [], 0⟩) rfl (by repeat' first | exact trivial | exact Wk.refl _ | exact Wk.sl _ | refine And.intro ?_ ?_ | refine Wk.tupP ?_ | refine Wk.aggP ?_)) rfl ?_)
            | (have hfr : frameAt l i = ⟨imax 0 ((i : Int) - 3) + (around (l[i]'hil) 1000000) % 7, key, false, [], 0⟩ := by unfold frameAt; rw [getD_get hil, ← hky]; exact frm_2 (by omega) (by omega)
               refine RW.weak (weak_slot 47 (y := encF ⟨imax 0 ((i : Int) - 3) + (around (l[i]'hil) 1000000) % 7, key, false, [], 0⟩) rfl (by repeat' first | exact trivial | exact Wk.refl _ | exact Wk.sl _ | refine And.intro ?_ ?_ | refine Wk.tupP ?_ | refine Wk.aggP ?_)) rfl ?_)
          refine RW.new rfl rfl (eff_buildSliceL (id := 48) (els := [.t (.agg [_, _, _, _, _])]) rfl rfl te34 tz30 rfl (by decide) (by decide) rfl rfl rfl rfl) ?_
          refine RW.new rfl rfl (eff_append (id := 5) (ys := [_]) rfl rfl ta34 rfl rfl rfl (by rw [he, hnn]; simp) rfl rfl (srcOwn rfl rfl rfl rfl rfl rfl) (by simp) (by simp; omega) (by simp; omega)) ?_
          refine RW.op rfl rfl (eff_assign (v := .own _ _ _ _) rfl rfl rfl) ?_
          refine RW.nil ?_
          refine awp_rw rfl ?_
          refine RW.op rfl rfl (eff_move (v := .t _) rfl rfl rfl) ?_
          refine RW.op rfl rfl (eff_iop rfl rfl rfl rfl (iadd (by omega))) ?_
          refine RW.op rfl rfl (eff_move (v := .t _) rfl rfl rfl) ?_
          refine RW.op rfl rfl (eff_quoE (r := (around (l[i]'hil) 1000000) / 84) rfl rfl rfl rfl (by decide) (quoN (by omega) (by decide))) ?_
          refine RW.op rfl rfl (eff_remE (r := ((around (l[i]'hil) 1000000) / 84) % 40) rfl rfl rfl rfl (by decide) (tmod_pos (by omega))) ?_
          refine RW.op rfl rfl (eff_quoE (r := ((around (l[i]'hil) 1000000) / 84 % 40) / 39) rfl rfl rfl rfl (by decide) (quoN (by omega) (by decide))) ?_
          refine RW.op rfl rfl (eff_iop rfl rfl rfl rfl (imul (by omega))) ?_
          refine RW.op rfl rfl (eff_iop rfl rfl rfl rfl (iadd (by omega))) ?_
          refine RW.op rfl rfl (eff_assign (v := .t _) rfl rfl rfl) ?_
          refine RW.nil ?_
          refine awp_rw rfl ?_
          refine RW.op rfl rfl (eff_move (v := .t _) rfl rfl rfl) ?_
          refine RW.op rfl rfl (eff_iop rfl rfl rfl rfl (iadd (by omega))) ?_
          refine RW.op rfl rfl (eff_assign (v := .t _) rfl rfl rfl) ?_
          refine RW.nil ?_
          have hkn : keyAt l (i + 1) = key + 1 + (around (l[i]'hil) 1000000) / 84 % 40 / 39 * 5000 := by show nxt _ _ = _; rw [getD_get hil, ← hky]; rfl
          refine ⟨_, ?_, _, weak_keep (n := 59) (fr' := [(0, .t (.sl (l.map encI) false)), (1, .t (encI (mo : Nat))), (5, .own 5 _ 0 _), (6, .t (encI _)), (7, .t (encI ((i + 1) : Nat)))]) (st' := [(5, some ⟨5, 30, _, _⟩)]) ⟨rfl, rfl, rfl, rfl, rfl, rfl, rfl, rfl, rfl, rfl, trivial⟩ ⟨rfl, (by first | exact okE_nil | (rw [he]; exact okE_t) | (rw [he]; intro x hx; simp only [List.mem_append, List.mem_map, List.mem_singleton] at hx; rcases hx with ⟨y, _, rfl⟩ | rfl <;> rfl)), trivial⟩, i + 1, _, _, _, _, (by omega), (by omega), (by rw [hnn]; simp), (by exact hkn.symm), (by rw [range_succ, he]; simp only [List.map_append, List.map_cons, List.map_nil]; rw [hfr]; rfl), rfl, rfl⟩
          omega
    · try simp only [decide_eq_true_eq, decide_eq_false_iff_not, beq_iff_eq, bne_iff_ne, bne_eq_false_iff_eq, beq_eq_false_iff_ne, Bool.not_eq_true, Bool.not_eq_false, Bool.not_eq_true', Bool.not_eq_false', ne_eq] at h2
      refine awp_exit ?_
      refine awp_seq ?_
      refine awp_rw rfl ?_
      refine RW.op rfl rfl (eff_move (v := .own _ _ _ _) rfl rfl rfl) ?_
      refine RW.op rfl rfl (eff_assign (v := .own _ _ _ _) rfl rfl rfl) ?_
      refine RW.nil ?_
      refine awp_ret ?_
      have hmi : i = min l.length mo := by omega
      exact ⟨Or.inr rfl, [_], ⟨.tmp (Res.ownT (xs := (frames l mo).map encF) rfl rfl (by unfold frames; rw [← hmi]; exact he) (by rw [hnn]; simp [frames_len]; omega)), trivial⟩, .refl _⟩
  · try simp only [decide_eq_true_eq, decide_eq_false_iff_not, beq_iff_eq, bne_iff_ne, bne_eq_false_iff_eq, beq_eq_false_iff_ne, Bool.not_eq_true, Bool.not_eq_false, Bool.not_eq_true', Bool.not_eq_false', ne_eq] at h1
    refine RW.gskip rfl rfl rfl rfl rfl (by decide) ?_
    refine RW.gskip rfl rfl rfl rfl rfl (by decide) ?_
    refine RW.gskip rfl rfl rfl rfl rfl (by decide) ?_
    refine RW.op rfl rfl (eff_pick (v := .t _) rfl rfl rfl rfl) ?_
    refine RW.nil ?_
    refine awp_cond rfl (fun h => nomatch h) (fun _ => ?_)
    refine awp_exit ?_
    refine awp_seq ?_
    refine awp_rw rfl ?_
    refine RW.op rfl rfl (eff_move (v := .own _ _ _ _) rfl rfl rfl) ?_
    refine RW.op rfl rfl (eff_assign (v := .own _ _ _ _) rfl rfl rfl) ?_
    refine RW.nil ?_
    refine awp_ret ?_
    have hmi : i = min l.length mo := by omega
    exact ⟨Or.inr rfl, [_], ⟨.tmp (Res.ownT (xs := (frames l mo).map encF) rfl rfl (by unfold frames; rw [← hmi]; exact he) (by rw [hnn]; simp [frames_len]; omega)), trivial⟩, .refl _⟩

end Go.Tv.C34

end
section
open Go Go.Tv Go.Proofs
namespace Go.Tv.C34
abbrev f1 : Frm := ⟨1, 1, false, [], 0⟩
abbrev tA : Twn := ⟨[zf], [zr, ⟨1, 0, 1, false⟩]⟩
abbrev L4 : List Rep := [zr, ⟨0, 1, 2, false⟩, ⟨1, 0, 1, false⟩, ⟨2, 0, 2, false⟩]
abbrev tB : Twn := ⟨[zf, f1], L4⟩
abbrev tC : Twn := ⟨[zf, f1], [⟨1, 0, 1, false⟩, ⟨2, 0, 2, false⟩]⟩
theorem liv1 : send ⟨[], [zr]⟩ zf = (tA, 0) := by decide +kernel
theorem liv2 : send tA f1 = (tB, 0) := by decide +kernel
theorem liv3 : hear tB ⟨1, 0, 1, false⟩ = (tC, 0) := by decide +kernel
theorem liv4 : hear tB ⟨3, 0, 2, false⟩ = (zt, 45) := by decide +kernel
theorem srtA : Srt tA.poss := by unfold Srt; decide +kernel
theorem hp0 : ∀ y, y ∈ [zr] → HP y := by intro y hy; rw [List.mem_singleton.1 hy]; exact ⟨by decide, by decide⟩
theorem srt0 : Srt [zr] := List.pairwise_singleton _ _
theorem hpA : ∀ y, y ∈ tA.poss → HP y := by
  intro y hy
  have : y = zr ∨ y = ⟨1, 0, 1, false⟩ := by simpa using hy
  rcases this with rfl | rfl <;> exact ⟨by decide, by decide⟩
theorem state_hp (n h k : Int) (b : Bool) : HP (state n h k b) := by
  have := around_range (n := h) (m := 32768) (by decide)
  exact ⟨this.1, this.2⟩
theorem hpz (n : Int) : HP ⟨n, 0, 0, false⟩ := ⟨Int.le_refl _, by show (0 : Int) < 32768; decide⟩
end Go.Tv.C34

end
section
open Go Go.Tv Go.Proofs
namespace Go.Tv.C34
set_option maxRecDepth 20000
set_option maxHeartbeats 2000000
set_option linter.unusedSimpArgs false
set_option linter.unusedVariables false
theorem sendA : RetT Tryd.prog 20 [(1, deT)] [encT ⟨[], [zr]⟩, encF zf] (.tup [encT tA, encI 0]) := by
  have h := tsend_ret ⟨[], [zr]⟩ zf srt0 hp0 (by decide) (by decide) (fun x hx => by simp at hx) (by decide)
  rw [liv1] at h; exact h
theorem sendB : RetT Tryd.prog 20 [(1, deT)] [encT tA, encF f1] (.tup [encT tB, encI 0]) := by
  have h := tsend_ret tA f1 srtA hpA (by decide) (by decide) (fun x hx => by rw [List.mem_singleton.1 hx]; decide) (by decide)
  rw [liv2] at h; exact h
theorem bodB : ∀ x, x ∈ tB.sent → x.body.length ≤ 1000000 := by
  intro x hx
  have : x = zf ∨ x = f1 := by simpa using hx
  rcases this with rfl | rfl <;> decide
theorem hearC : RetT Tryd.prog 22 [(1, deT)] [encT tB, encR ⟨1, 0, 1, false⟩] (.tup [encT tC, encI 0]) := by
  have h := thear_ret tB ⟨1, 0, 1, false⟩ ⟨by decide, by decide⟩ (by decide) (by decide) bodB
  rw [liv3] at h; exact h
theorem hearD : RetT Tryd.prog 22 [(1, deT)] [encT tB, encR ⟨3, 0, 2, false⟩] (.tup [encT zt, encI 45]) := by
  have h := thear_ret tB ⟨3, 0, 2, false⟩ ⟨by decide, by decide⟩ (by decide) (by decide) bodB
  rw [liv4] at h; exact h

theorem lives_ret  : RetT Tryd.prog 16 [(1, deT)] [] (.bool true) := by
  refine retT_of_awp Tryd.func16 rfl (Nat.le_of_ble_eq_true rfl) ?_
  refine awp_seq ?_
  refine awp_rw rfl ?_
  refine RW.op rfl rfl (eff_assign (v := .t _) rfl rfl rfl) ?_
  refine RW.nil ?_
  refine awp_seq ?_
  refine awp_rw rfl ?_
  refine RW.op rfl rfl (eff_callT (new17_ret) co17 rfl rfl rfl rfl) ?_
  refine RW.op rfl rfl (eff_buildT (ys := [_, _, _, _, _]) rfl rfl tz30 tg30 rfl) ?_
  refine RW.op rfl rfl (eff_callXW (xs := [_, _]) (sendA) co20 rfl rfl rfl ⟨rfl, trivial⟩ rfl (by repeat' first | exact trivial | exact Wk.refl _ | exact Wk.sl _ | refine And.intro ?_ ?_ | refine Wk.aggP ?_)) ?_
  refine RW.op rfl rfl (eff_move (v := .t _) rfl rfl rfl) ?_
  refine RW.op rfl rfl (eff_extract rfl rfl rfl rfl) ?_
  refine RW.op rfl rfl (eff_extract rfl rfl rfl rfl) ?_
  refine RW.new rfl rfl (eff_allocK (k := 2) (id := 1) rfl rfl tz37 rfl rfl) ?_
  refine RW.store rfl rfl (eff_storeW (v := .t _) (els := [_]) (els' := [_]) rfl rfl ti37 rfl rfl rfl rfl rfl rfl rfl rfl rfl) ?_
  refine RW.op rfl rfl (eff_assign (v := .t _) rfl rfl rfl) ?_
  refine RW.nil ?_
  refine awp_seq ?_
  refine awp_rw rfl ?_
  refine RW.op rfl rfl (eff_load rfl rfl ti37 rfl (.whole rfl rfl rfl rfl rfl rfl)) ?_
  refine RW.op rfl rfl (eff_buildT (ys := [_, _, _, _, _]) rfl rfl tz30 tg30 rfl) ?_
  refine RW.op rfl rfl (eff_callXW (xs := [_, _]) (sendB) co20 rfl rfl rfl ⟨rfl, trivial⟩ rfl (by repeat' first | exact trivial | exact Wk.refl _ | exact Wk.sl _ | refine And.intro ?_ ?_ | refine Wk.aggP ?_)) ?_
  refine RW.op rfl rfl (eff_move (v := .t _) rfl rfl rfl) ?_
  refine RW.op rfl rfl (eff_extract rfl rfl rfl rfl) ?_
  refine RW.op rfl rfl (eff_extract rfl rfl rfl rfl) ?_
  refine RW.new rfl rfl (eff_allocK (k := 2) (id := 3) rfl rfl tz37 rfl rfl) ?_
  refine RW.store rfl rfl (eff_storeW (v := .t _) (els := [_]) (els' := [_]) rfl rfl ti37 rfl rfl rfl rfl rfl rfl rfl rfl rfl) ?_
  refine RW.op rfl rfl (eff_assign (v := .t _) rfl rfl rfl) ?_
  refine RW.nil ?_
  refine awp_seq ?_
  refine awp_rw rfl ?_
  refine RW.op rfl rfl (eff_load rfl rfl ti37 rfl (.whole rfl rfl rfl rfl rfl rfl)) ?_
  refine RW.op rfl rfl (eff_buildT (ys := [_, _, _, _]) rfl rfl tz23 tg23 rfl) ?_
  refine RW.op rfl rfl (eff_callXT (hearC) co22 rfl rfl rfl ⟨rfl, trivial⟩ rfl) ?_
  refine RW.op rfl rfl (eff_move (v := .t _) rfl rfl rfl) ?_
  refine RW.op rfl rfl (eff_extract rfl rfl rfl rfl) ?_
  refine RW.op rfl rfl (eff_extract rfl rfl rfl rfl) ?_
  refine RW.new rfl rfl (eff_allocK (k := 2) (id := 5) rfl rfl tz37 rfl rfl) ?_
  refine RW.store rfl rfl (eff_storeW (v := .t _) (els := [_]) (els' := [_]) rfl rfl ti37 rfl rfl rfl rfl rfl rfl rfl rfl rfl) ?_
  refine RW.op rfl rfl (eff_assign (v := .t _) rfl rfl rfl) ?_
  refine RW.nil ?_
  refine awp_seq ?_
  refine awp_rw rfl ?_
  refine RW.op rfl rfl (eff_load rfl rfl ti37 rfl (.whole rfl rfl rfl rfl rfl rfl)) ?_
  refine RW.op rfl rfl (eff_buildT (ys := [_, _, _, _]) rfl rfl tz23 tg23 rfl) ?_
  refine RW.op rfl rfl (eff_callXT (hearD) co22 rfl rfl rfl ⟨rfl, trivial⟩ rfl) ?_
  refine RW.op rfl rfl (eff_move (v := .t _) rfl rfl rfl) ?_
  refine RW.op rfl rfl (eff_extract rfl rfl rfl rfl) ?_
  refine RW.op rfl rfl (eff_extract rfl rfl rfl rfl) ?_
  refine RW.new rfl rfl (eff_allocK (k := 2) (id := 7) rfl rfl tz37 rfl rfl) ?_
  refine RW.store rfl rfl (eff_storeW (v := .t _) (els := [_]) (els' := [_]) rfl rfl ti37 rfl rfl rfl rfl rfl rfl rfl rfl rfl) ?_
  refine RW.op rfl rfl (eff_assign (v := .t _) rfl rfl rfl) ?_
  refine RW.nil ?_
  refine awp_seq ?_
  refine awp_seq ?_
  refine awp_rw rfl ?_
  refine RW.op rfl rfl (eff_move (v := .t _) rfl rfl rfl) ?_
  refine RW.op rfl rfl (eff_iop (r := .bool false) rfl rfl rfl rfl (by rfl)) ?_
  refine RW.op rfl rfl (eff_move (v := .t _) rfl rfl rfl) ?_
  refine RW.gop rfl rfl rfl rfl rfl rfl (eff_move (v := .t _) rfl rfl rfl) ?_
  refine RW.gop rfl rfl rfl rfl rfl rfl (eff_iop (r := .bool false) rfl rfl rfl rfl (by rfl)) ?_
  refine RW.op rfl rfl (eff_pick (v := .t _) rfl rfl rfl rfl) ?_
  refine RW.op rfl rfl (eff_move (v := .t _) rfl rfl rfl) ?_
  refine RW.gop rfl rfl rfl rfl rfl rfl (eff_move (v := .t _) rfl rfl rfl) ?_
  refine RW.gop rfl rfl rfl rfl rfl rfl (eff_iop (r := .bool false) rfl rfl rfl rfl (by rfl)) ?_
  refine RW.op rfl rfl (eff_pick (v := .t _) rfl rfl rfl rfl) ?_
  refine RW.op rfl rfl (eff_move (v := .t _) rfl rfl rfl) ?_
  refine RW.gop rfl rfl rfl rfl rfl rfl (eff_move (v := .t _) rfl rfl rfl) ?_
  refine RW.gop rfl rfl rfl rfl rfl rfl (eff_iop (r := .bool false) rfl rfl rfl rfl (by rfl)) ?_
  refine RW.op rfl rfl (eff_pick (v := .t _) rfl rfl rfl rfl) ?_
  refine RW.nil ?_
  refine awp_cond rfl (fun h => nomatch h) (fun _ => ?_)
  refine awp_skip ?_
  refine awp_seq ?_
  refine awp_rw rfl ?_
  refine RW.op rfl rfl (eff_buildT (ys := [_, _, _, _]) rfl rfl tz23 tg23 rfl) ?_
  refine RW.op rfl rfl (eff_buildT (ys := [_, _, _, _]) rfl rfl tz23 tg23 rfl) ?_
  refine RW.op rfl rfl (eff_buildT (ys := [_, _, _, _]) rfl rfl tz23 tg23 rfl) ?_
  refine RW.op rfl rfl (eff_buildT (ys := [_, _, _, _]) rfl rfl tz23 tg23 rfl) ?_
  refine RW.new rfl rfl (eff_buildSliceL (id := 52) (els := [.t (.agg [_, _, _, _]), .t (.agg [_, _, _, _]), .t (.agg [_, _, _, _]), .t (.agg [_, _, _, _])]) rfl rfl te35 tz23 rfl (by decide) (by decide) rfl rfl rfl rfl) ?_
  refine RW.op rfl rfl (eff_assign (v := .own _ _ _ _) rfl rfl rfl) ?_
  refine RW.nil ?_
  refine awp_seq ?_
  refine awp_weak (weak_frz (n := 70) (fr' := [(3, .ptr 3 0 0 0), (5, .ptr 5 0 0 0), (9, .t (.sl (L4.map encR) false)), (71, .t deT)]) (st' := [(3, some ⟨2, 37, 0, [.t (encT tB)]⟩), (5, some ⟨2, 37, 0, [.t (encT tC)]⟩)]) [(52, some ⟨4, 23, 0, (L4.map encR).map .t⟩)] ⟨rfl, trivial⟩ ⟨rfl, rfl, trivial⟩ ⟨wa_eq rfl rfl, wa_eq rfl rfl, .res (Res.ownT (xs := L4.map encR) rfl rfl rfl rfl) (.refl _), wa_eq rfl rfl, trivial⟩ ⟨rfl, okE_one rfl, rfl, okE_one rfl, trivial⟩) ?_
  refine awp_rd [(some 53, []), (some 54, []), (some 55, []), (some 56, []), (some 57, []), (some 58, []), (some 59, []), (some 60, []), (some 61, []), (some 62, []), (some 63, []), (some 64, []), (some 65, []), (some 66, []), (some 67, []), (some 68, []), (some 69, []), (some 0, [])] [[], [0], [], [0, 1, 2], [0, 1, 2, 3], [0, 1, 2, 3, 4], [0, 1, 2, 3, 4, 5], [0, 1, 2, 3, 4], [0, 1, 2, 3, 4, 7], [0, 1, 2, 3, 4, 5, 6, 7, 8], [0, 1, 2, 3, 4, 5, 6, 7, 8, 9], [0, 1, 2, 3, 4, 5, 6, 7, 8, 9, 10], [0, 1, 2, 3, 4, 5, 6, 7, 8, 9, 10, 11], [0, 1, 2, 3, 4, 5, 6, 7, 8, 9, 10, 11, 12], [0, 1, 2, 3, 4, 5, 6, 7, 8, 9, 10, 11, 12, 13], [0, 1, 2, 3, 4, 5, 6, 7, 8, 9, 10, 11, 12, 13, 14], [0, 1, 2, 3, 4, 5, 6, 7, 8, 9, 10, 11, 12, 13, 14, 15], [0, 1, 2, 3, 4, 5, 6, 7, 8, 9, 10, 11, 12, 13, 14, 15, 16]] tm rfl rfl rfl rfl ?_
  refine RD.op rfl rfl rfl (eff_fieldAddr rfl rfl tf37_1 (by decide) rfl rfl rfl (Nat.le_of_ble_eq_true rfl)) ?_
  refine RD.op rfl rfl rfl (eff_load (y := .t _) rfl rfl ti35 rfl (.one rfl rfl rfl rfl)) ?_
  refine RD.op rfl rfl rfl (eff_move (v := .t _) rfl rfl rfl) ?_
  refine RD.op rfl rfl rfl (eff_callT (sameStates_ret L4 (by decide)) co25 rfl rfl rfl rfl) ?_
  refine RD.op rfl rfl rfl (eff_move (v := .t _) rfl rfl rfl) ?_
  refine RD.gop rfl rfl rfl rfl rfl rfl rfl (eff_fieldAddr rfl rfl tf37_1 (by decide) rfl rfl rfl (Nat.le_of_ble_eq_true rfl)) ?_
  refine RD.gop rfl rfl rfl rfl rfl rfl rfl (eff_load (y := .t _) rfl rfl ti35 rfl (.one rfl rfl rfl rfl)) ?_
  refine RD.gop rfl rfl rfl rfl rfl rfl rfl (eff_move (v := .t _) rfl rfl rfl) ?_
  refine RD.gop rfl rfl rfl rfl rfl rfl rfl (eff_sliceM (g := encR) (xs := L4) (l := some 2) (h := none) (r := [⟨1, 0, 1, false⟩, ⟨2, 0, 2, false⟩]) rfl rfl te35 rfl (fun _ => rfl) (.yes rfl rfl) .no (by decide) (by decide) (by decide)) ?_
  refine RD.gop rfl rfl rfl rfl rfl rfl rfl (eff_callT (sameStates_ret [⟨1, 0, 1, false⟩, ⟨2, 0, 2, false⟩] (by decide)) co25 rfl rfl rfl rfl) ?_
  refine RD.op rfl rfl rfl (eff_pick (v := .t _) rfl rfl rfl rfl) ?_
  refine RD.op rfl rfl rfl (eff_move (v := .t _) rfl rfl rfl) ?_
  refine RD.gop rfl rfl rfl rfl rfl rfl rfl (eff_fieldAddr rfl rfl tf37_0 (by decide) rfl rfl rfl (Nat.le_of_ble_eq_true rfl)) ?_
  refine RD.gop rfl rfl rfl rfl rfl rfl rfl (eff_load (y := .t _) rfl rfl ti34 rfl (.one rfl rfl rfl rfl)) ?_
  refine RD.gop rfl rfl rfl rfl rfl rfl rfl (eff_lenM rfl rfl te34 rfl) ?_
  refine RD.gop rfl rfl rfl rfl rfl rfl rfl (eff_iop (r := .bool true) rfl rfl rfl rfl (by rfl)) ?_
  refine RD.op rfl rfl rfl (eff_pick (v := .t _) rfl rfl rfl rfl) ?_
  refine RD.op rfl rfl rfl (eff_assign (v := .t _) rfl rfl rfl) ?_
  refine RD.nil ?_
  refine awp_ret ?_
  first
    | exact ⟨Or.inr rfl, [_], ⟨.tmp (.t _), trivial⟩, .refl _⟩
    | exact ⟨Or.inr rfl, [_], ⟨.tmp (.t _), trivial⟩, (by repeat' first | exact trivial | exact Wk.refl _ | exact Wk.sl _ | refine And.intro ?_ ?_ | refine Wk.tupP ?_ | refine Wk.aggP ?_)⟩
    | exact ⟨Or.inr rfl, [_], ⟨.tmp (Res.ownT rfl rfl rfl rfl), trivial⟩, .refl _⟩
    | exact ⟨Or.inr rfl, [_], ⟨.tmp (Res.ownT rfl rfl rfl rfl), trivial⟩, (by repeat' first | exact trivial | exact Wk.refl _ | exact Wk.sl _ | refine And.intro ?_ ?_ | refine Wk.tupP ?_ | refine Wk.aggP ?_)⟩

theorem law6 (l : List Int) (n h : Int) (lk : Bool) (hI : ∀ x, x ∈ l → I64 x) (hl : l.length ≤ 9223372036854775807) (hn : I64 n) (hh : I64 h) : RetT Tryd.prog 6 [(1, deT)] [.sl (l.map encI) false, encI n, encI h, .bool lk] (.bool true) := by
  refine retT_of_awp Tryd.func6 rfl (Nat.le_of_ble_eq_true rfl) ?_
  refine awp_seq ?_
  refine awp_rw rfl ?_
  refine RW.op rfl rfl (eff_assign (v := .t _) rfl rfl rfl) ?_
  refine RW.nil ?_
  refine awp_seq ?_
  refine awp_rw rfl ?_
  refine RW.op rfl rfl (eff_move (v := .t _) rfl rfl rfl) ?_
  refine RW.op rfl rfl (eff_callT (frames_ret l 7 hI hl (by decide)) co19 rfl rfl rfl rfl) ?_
  refine RW.op rfl rfl (eff_assign (v := .t _) rfl rfl rfl) ?_
  refine RW.nil ?_
  refine awp_seq ?_
  refine awp_rw rfl ?_
  refine RW.op rfl rfl (eff_move (v := .t _) rfl rfl rfl) ?_
  refine RW.op rfl rfl (eff_move (v := .t _) rfl rfl rfl) ?_
  refine RW.op rfl rfl (eff_move (v := .t _) rfl rfl rfl) ?_
  refine RW.op rfl rfl (eff_callT (state_ret n h 0 lk hn hh (by unfold I64; decide)) co12 rfl rfl rfl rfl) ?_
  refine RW.new rfl rfl (eff_allocK (k := 4) (id := 10) rfl rfl tz23 rfl rfl) ?_
  refine RW.store rfl rfl (eff_storeW (v := .t _) (els := [_]) (els' := [_]) rfl rfl ti23 rfl rfl rfl rfl rfl rfl rfl rfl rfl) ?_
  refine RW.nil ?_
  refine awp_seq ?_
  refine awp_rw rfl ?_
  refine RW.op rfl rfl (eff_move (v := .t _) rfl rfl rfl) ?_
  refine RW.op rfl rfl (eff_callT (around_ret n 4 hn (by decide)) co13 rfl rfl rfl rfl) ?_
  refine RW.op rfl rfl (eff_buildT (ys := [_, _, _, _]) rfl rfl tz23 tg23 rfl) ?_
  refine RW.new rfl rfl (eff_allocK (k := 4) (id := 11) rfl rfl tz23 rfl rfl) ?_
  refine RW.store rfl rfl (eff_storeW (v := .t _) (els := [_]) (els' := [_]) rfl rfl ti23 rfl rfl rfl rfl rfl rfl rfl rfl rfl) ?_
  refine RW.nil ?_
  refine awp_seq ?_
  refine awp_rd [(some 21, []), (some 22, []), (some 23, []), (some 24, []), (some 25, []), (some 26, []), (some 27, []), (some 28, []), (some 29, []), (some 30, []), (some 31, []), (some 32, []), (some 33, []), (some 34, []), (some 35, []), (some 36, []), (some 37, []), (some 38, []), (some 39, []), (some 8, [])] [[], [], [0, 1], [], [], [0, 1, 2, 3, 4], [0, 1, 2, 3, 4, 5], [0, 1, 2, 3, 4, 5, 6], [0, 1, 2, 3, 4, 5, 6, 7], [0, 1, 2, 3, 4, 5, 6, 7], [0, 1, 2, 3, 4, 5, 6, 7, 8, 9], [0, 1, 2, 3, 4, 5, 6, 7], [0, 1, 2, 3, 4, 5, 6, 7], [0, 1, 2, 3, 4, 5, 6, 7, 8, 9, 10, 11, 12], [0, 1, 2, 3, 4, 5, 6, 7, 8, 9, 10, 11, 12, 13], [0, 1, 2, 3, 4, 5, 6, 7, 8, 9, 10, 11, 12, 13, 14], [0, 1, 2, 3, 4, 5, 6, 7, 8, 9, 10, 11, 12, 13, 14, 15], [0, 1, 2, 3, 4, 5, 6, 7, 8, 9, 10, 11, 12, 13, 14, 15, 16], [0, 1, 2, 3, 4, 5, 6, 7, 8, 9, 10, 11, 12, 13, 14, 15, 16, 17], [0, 1, 2, 3, 4, 5, 6, 7, 8, 9, 10, 11, 12, 13, 14, 15, 16, 17, 18]] tm rfl rfl rfl rfl ?_
  refine RD.op rfl rfl rfl (eff_load rfl rfl ti23 rfl (.whole rfl rfl rfl rfl rfl rfl)) ?_
  refine RD.op rfl rfl rfl (eff_move (v := .t _) rfl rfl rfl) ?_
  refine RD.op rfl rfl rfl (eff_callXT (treach_ret (state n h 0 lk) (frames l 7) (state_hp _ _ _ _) (by rw [frames_len]; omega)) co26 rfl rfl rfl ⟨rfl, trivial⟩ rfl) ?_
  refine RD.op rfl rfl rfl (eff_load rfl rfl ti23 rfl (.whole rfl rfl rfl rfl rfl rfl)) ?_
  refine RD.op rfl rfl rfl (eff_move (v := .t _) rfl rfl rfl) ?_
  refine RD.op rfl rfl rfl (eff_callT (rreach_ret (state n h 0 lk) (frames l 7) (state_hp _ _ _ _) (by rw [frames_len]; omega)) co27 rfl rfl rfl rfl) ?_
  refine RD.op rfl rfl rfl (eff_callT (sameStates_ret (reachF (state n h 0 lk) (frames l 7)) (by have := reach_len (state n h 0 lk) (frames l 7) 12 (by rw [frames_len]; omega); omega)) co25 rfl rfl rfl rfl) ?_
  refine RD.op rfl rfl rfl (eff_move (v := .t _) rfl rfl rfl) ?_
  refine RD.gop rfl rfl rfl rfl rfl rfl rfl (eff_load rfl rfl ti23 rfl (.whole rfl rfl rfl rfl rfl rfl)) ?_
  refine RD.gop rfl rfl rfl rfl rfl rfl rfl (eff_move (v := .t _) rfl rfl rfl) ?_
  refine RD.gop rfl rfl rfl rfl rfl rfl rfl (eff_callXT (treach_ret ⟨around n 4, 0, 0, false⟩ (frames l 7) (hpz _) (by rw [frames_len]; omega)) co26 rfl rfl rfl ⟨rfl, trivial⟩ rfl) ?_
  refine RD.gop rfl rfl rfl rfl rfl rfl rfl (eff_load rfl rfl ti23 rfl (.whole rfl rfl rfl rfl rfl rfl)) ?_
  refine RD.gop rfl rfl rfl rfl rfl rfl rfl (eff_move (v := .t _) rfl rfl rfl) ?_
  refine RD.gop rfl rfl rfl rfl rfl rfl rfl (eff_callT (rreach_ret ⟨around n 4, 0, 0, false⟩ (frames l 7) (hpz _) (by rw [frames_len]; omega)) co27 rfl rfl rfl rfl) ?_
  refine RD.gop rfl rfl rfl rfl rfl rfl rfl (eff_callT (sameStates_ret (reachF ⟨around n 4, 0, 0, false⟩ (frames l 7)) (by have := reach_len ⟨around n 4, 0, 0, false⟩ (frames l 7) 12 (by rw [frames_len]; omega); omega)) co25 rfl rfl rfl rfl) ?_
  refine RD.op rfl rfl rfl (eff_pick (v := .t _) rfl rfl rfl rfl) ?_
  refine RD.op rfl rfl rfl (eff_move (v := .t _) rfl rfl rfl) ?_
  refine RD.gop rfl rfl rfl rfl rfl rfl rfl (eff_callXT (lives_ret) co16 rfl rfl rfl ⟨rfl, trivial⟩ rfl) ?_
  refine RD.op rfl rfl rfl (eff_pick (v := .t _) rfl rfl rfl rfl) ?_
  refine RD.op rfl rfl rfl (eff_assign (v := .t _) rfl rfl rfl) ?_
  refine RD.nil ?_
  refine awp_ret ?_
  first
    | exact ⟨Or.inr rfl, [_], ⟨.tmp (.t _), trivial⟩, .refl _⟩
    | exact ⟨Or.inr rfl, [_], ⟨.tmp (.t _), trivial⟩, (by repeat' first | exact trivial | exact Wk.refl _ | exact Wk.sl _ | refine And.intro ?_ ?_ | refine Wk.tupP ?_ | refine Wk.aggP ?_)⟩
    | exact ⟨Or.inr rfl, [_], ⟨.tmp (Res.ownT rfl rfl rfl rfl), trivial⟩, .refl _⟩
    | exact ⟨Or.inr rfl, [_], ⟨.tmp (Res.ownT rfl rfl rfl rfl), trivial⟩, (by repeat' first | exact trivial | exact Wk.refl _ | exact Wk.sl _ | refine And.intro ?_ ?_ | refine Wk.tupP ?_ | refine Wk.aggP ?_)⟩

end Go.Tv.C34

end
section
open Go Go.Tv Go.Proofs Go.ChangeShapes Go.WideShapes Go.ChangeAt Go.RowKit
namespace Go.Tv.C34
set_option maxRecDepth 100000

theorem wfI64 {n : Int} (h : (Lit.int .i64 n).wf = true) : I64 n := by
  unfold I64
  simp [Lit.wf, IntKind.min, IntKind.max, IntKind.signed, IntKind.bits] at h; omega
theorem map_of {α : Type} {f : α → Tr} {p : α → Prop} : ∀ {els : List Tr}, (∀ x, x ∈ els → ∃ n, p n ∧ x = f n) → ∃ l : List α, els = l.map f ∧ ∀ n, n ∈ l → p n
  | [], _ => ⟨[], rfl, fun n h => by simp at h⟩
  | x :: els, h => by
    obtain ⟨n, hp, rfl⟩ := h x List.mem_cons_self
    obtain ⟨l, rfl, hl⟩ := map_of (els := els) (fun y hy => h y (List.mem_cons_of_mem _ hy))
    exact ⟨n :: l, rfl, fun m hm => (List.mem_cons.1 hm).elim (fun e => e ▸ hp) (hl m)⟩
theorem rd3 : Reads Tryd.prog 3 1 (fun ts => ∃ n, ts = [encI n] ∧ I64 n) := (reads_int Tryd.underlying3 (by kernel_rfl)).mono (fun ts ⟨n, h, hw⟩ => ⟨n, h, wfI64 hw⟩)
theorem rd26 : Reads Tryd.prog 26 1 (fun ts => ∃ l : List Int, ts = [.sl (l.map encI) false] ∧ l.length ≤ maxLen ∧ ∀ n, n ∈ l → I64 n) :=
  (reads_slice Tryd.underlying26 (by kernel_rfl) (by decide) (.inr rfl) rd3 (g := false)).mono (by
    rintro ts ⟨els, rfl, hm, h⟩
    obtain ⟨l, rfl, hl⟩ := map_of (f := encI) (p := I64) (fun x hx => by obtain ⟨_, ⟨n, rfl, hn⟩, rfl⟩ := h x hx; exact ⟨n, hn, rfl⟩)
    exact ⟨l, rfl, by simpa using hm, hl⟩)
def laid1 : List (String × DataW Unit) := [("math/bits.deBruijn32tab", Go.Proofs.YtofiemifpgcfhaaDoor.Rows.laid_math_bits_deBruijn32tab), ("math/bits.deBruijn64tab", Go.Proofs.YtofiemifpgcfhaaDoor.Rows.laid_math_bits_deBruijn64tab)]
theorem gDe : Tryd.prog.globalNamed "math/bits.deBruijn64tab" = some 1 := by kernel_rfl
theorem tDe : (Tryd.prog.globals[1]?).map (·.type) = some 119 := by kernel_rfl
theorem door_met (os : Os) (args : Array Value) : laidMetH Tryd.prog laid1 ((World.doorLaid Tryd.prog 400 os).forCall (fun _ _ => 0) ⟨#[], args, []⟩).memory :=
  laidMetH_of_parts3 (fuel := 8) (laidMet_of_run' 8 (by kernel_rfl) (by kernel_rfl)) (by kernel_rfl) (by kernel_rfl)
theorem tabs_of_laid {W : World} (h : laidMetH Tryd.prog laid1 W) : TabOK W (fun _ => False) [(1, deT)] := by
  intro g x hm
  simp only [List.mem_singleton, Prod.mk.injEq] at hm
  obtain ⟨rfl, rfl⟩ := hm
  exact tab_of_laid (l := deB) (k := .u8) h rfl (List.mem_cons_of_mem _ (List.mem_singleton.2 rfl)) (by intro e; cases e) gDe tDe Tryd.underlying119 Tryd.underlying5 (by kernel_rfl)
end Go.Tv.C34

end
section
namespace Go.Proofs.YtofiemifpgcfhaaDoor
open Go Go.Tv Go.Tv.C34 Go.ChangeShapes Go.WideShapes Go.ChangeAt Go.RowKit
set_option linter.unusedVariables false
set_option maxRecDepth 100000
theorem twinReaches_contract (H : Type) (enc : TypeId × Value → H) (W : World) (base : Nat) (args : Array Value) (ds gs : List (DataW H)) (before : List MemPlace)
    (hval : ∀ (j : Nat) t v, Tryd.f6.params[j]? = some t → args[j]? = some v → Value.okWide Tryd.prog W .any base t v)
    (hW : DataW.Whole enc Tryd.prog Tryd.f6.params.toList Rows.twinReachesSpec.vars false W args.toList ds gs before) (hL : laidMetH Tryd.prog laid1 W) :
    Calls Tryd.prog 6 args W fun e W' => ∃ v, e = .returned v ∧ Rows.twinReachesSpec.post enc Tryd.prog Tryd.f6 false true false false W args v W' := by
  have hW' := hW
  obtain ⟨p, q, hA0, hV, rfl, hfz, hnd⟩ := hW
  have hA : DataW.TrodAll enc Tryd.prog W 0 (fun _ => true) true Tryd.f6.params.toList args.toList ds p := hA0
  rw [Tryd.params6] at hA hval
  obtain ⟨v0, vs0, d0, ds0, p0, q0, hargs, rfl, rfl, h0, r0⟩ := trodAll_cons hA
  obtain ⟨v1, vs1, d1, ds1, p1, q1, rfl, rfl, rfl, h1, r1⟩ := trodAll_cons r0
  obtain ⟨v2, vs2, d2, ds2, p2, q2, rfl, rfl, rfl, h2, r2⟩ := trodAll_cons r1
  obtain ⟨v3, vs3, d3, ds3, p3, q3, rfl, rfl, rfl, h3, r3⟩ := trodAll_cons r2
  obtain ⟨rfl, rfl, rfl⟩ := trodAll_nil r3
  obtain rfl : args = #[v0, v1, v2, v3] := by cases args; simp_all
  obtain ⟨rfl, rfl⟩ := trodVars_none hV
  have k0 := hval 0 26 v0 rfl rfl
  have k1 := hval 1 3 v1 rfl rfl
  have k2 := hval 2 3 v2 rfl rfl
  have k3 := hval 3 4 v3 rfl rfl
  obtain ⟨x0, hx0, l, e0, m0, b0⟩ := arg_slice Tryd.underlying26 rd26 k0 h0
  obtain rfl : x0 = .sl (l.map Go.Tv.C34.encI) false := by simpa using e0
  unfold maxLen at m0
  have n0 : l.length ≤ 9223372036854775807 := by simpa using m0
  obtain ⟨n, rfl, wn⟩ := arg_int Tryd.underlying3 k1 h1
  have i_n := wfI64 wn
  obtain ⟨hv, rfl, whv⟩ := arg_int Tryd.underlying3 k2 h2
  have i_hv := wfI64 whv
  obtain ⟨lk, rfl⟩ := arg_bool Tryd.underlying4 k3 h3
  refine (law_callsT (law6 l n hv lk b0 n0 i_n i_hv) (tabs_of_laid hL) (vl_cons hx0 (vl_cons (.int _ _) (vl_cons (.int _ _) (vl_cons (.bool _) vl_nil))))).mono ?_
  rintro e W' ⟨rfl, hb⟩
  refine ⟨_, rfl, law_post (P := Tryd.prog) (by kernel_rfl) rfl (fun t ht => ?_) rfl Tryd.underlying4 hW' ⟨rfl, rfl, rfl⟩ hb⟩
  rw [Tryd.params6] at ht
  simp only [List.mem_cons, List.not_mem_nil, or_false] at ht
  rcases ht with rfl | rfl | rfl | rfl <;> exact ⟨by kernel_rfl, Nat.le_of_ble_eq_true (by kernel_rfl)⟩

theorem twinReaches_lifted (os : Os) (started : os.Started) (H : Type) (enc : TypeId × Value → H) :
    ReturnsInHanded {} Tryd.checked os 6 .any (fun w args => (Rows.twinReachesSpec.pre enc Tryd.prog Tryd.f6 [] false w args ∧ laidMetH Tryd.prog laid1 w) ∧ sizedMet enc Tryd.prog Tryd.f6 (OpenSpec.ofChange Rows.twinReachesSpec) false w args)
      (Rows.twinReachesSpec.post enc Tryd.prog Tryd.f6 false true false false) := by
  refine returnsInHanded_of_change_and (C := Tryd.checked) (X := fun w _ => laidMetH Tryd.prog laid1 w) (fun _ _ _ hh h => h.of_heap hh) (by kernel_rfl) started (by kernel_rfl) Tryd.func6
    (ChangeSpec.witness_shaped (enc := enc) (C := Tryd.checked) (os := os) (X := fun w _ => laidMetH Tryd.prog laid1 w) false (World.doorLaid Tryd.prog 400 os) #[.slice none 0 0, .int .i64 0, .int .i64 0, .bool false] 8 rfl (World.shaped_of_RefB (by kernel_rfl) (by kernel_rfl)) (by kernel_rfl) (by kernel_rfl) (by kernel_rfl) (door_met os _)) ?_
  intro W base args ds gs before hval hW _ _ hL _
  exact twinReaches_contract H enc W base args ds gs before hval hW hL

theorem twinReaches_row_holds : Rows.TwinReachesSaid :=
  OpenClaim.holds_of_wide 6 Tryd.f6 rfl rfl rfl rfl rfl rfl rfl ⟨rfl, rfl, rfl, rfl, rfl⟩ rfl rfl rfl rfl rfl (by kernel_rfl) Tryd.func6 (by kernel_rfl)
    (of_decide_eq_true (by kernel_rfl)) (by unfold Func.isWrapper; first | (rw [if_pos (by decide +kernel)]; kernel_rfl) | (rw [if_neg (by decide +kernel)]; exact ⟨rfl, rfl⟩))
    (fun os started H enc _ => twinReaches_lifted os started H enc)

theorem twinReachesCard_holds : Rows.TwinReachesCardSaid :=
  Claim7.holds_tied_plain_at .later [] [.data, .data] true _ false
    twinReaches_row_holds (fun _ h => by cases h) (by kernel_rfl) (fun _ h => by cases h) twinReaches_row_tie rfl ⟨rfl, rfl⟩ (by kernel_rfl) rfl
    (fun f fn hf hfn => by
      obtain rfl : f = 6 := Option.some.inj ((show Tryd.prog.funcNamed "perigee/perigeelaw34.TwinReaches" = some 6 by kernel_rfl).symm.trans hf) |>.symm
      obtain rfl : fn = Tryd.f6 := (Option.some.inj (Tryd.func6.symm.trans hfn)).symm
      exact ⟨by kernel_rfl, fun j t ht => by
        rw [Tryd.params6] at ht
        have hm : t ∈ [26, 3, 3, 4] := by simpa using Array.mem_of_getElem? ht
        have hall : ([26, 3, 3, 4].all fun u => !Tryd.prog.wantsStandIn u) = true := by kernel_rfl
        exact (show Tryd.prog.wantsStandIn t = false by simpa using List.all_eq_true.1 hall t hm)⟩)
    (by kernel_rfl)

end Go.Proofs.YtofiemifpgcfhaaDoor

end
