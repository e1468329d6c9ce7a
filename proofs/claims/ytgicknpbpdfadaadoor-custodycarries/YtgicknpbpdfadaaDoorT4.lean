/- CustodyCarries: for every input that reads as data, the call returns true and leaves its arguments as they were. No condition. -/
import Derived.Test.YtgicknpbpdfadaaDoorT3
import Derived.Test.YtgicknpbpdfadaaDoorT2
import Derived.Test.YtgicknpbpdfadaaDoorT1
import Derived.Test.YtgicknpbpdfadaaDoorRows
import Derived.ProofKit
import Derived.LaidMore
import Derived.OpenShut
import Derived.Stop.Joined
import Derived.Test.YtgicknpbpdfadaaDoorTie
import Derived.Test.YtgicknpbpdfadaaDoorCards
import Derived.SevenTiedAt
section
open Go Go.Tv Go.Proofs
namespace Go.Tv.D27
set_option maxRecDepth 20000
set_option linter.unusedSimpArgs false
set_option linter.unusedVariables false
theorem putL_rep {l : List Bool} {o i : Nat} (h : o + i < l.length) : (putL l o (List.replicate i true)).set (o + i) true = putL l o (List.replicate (i + 1) true) := by
  have := putL_step (l := l) (o := o) (vs := List.replicate i true) (v := true) (by simpa using h)
  rw [List.length_replicate] at this
  rw [this, List.replicate_succ']
theorem putL_take {l d : List Int} {o i : Nat} (hi : i < d.length) (h : o + i < l.length) : (putL l o (d.take i)).set (o + i) d[i] = putL l o (d.take (i + 1)) := by
  have hl : (d.take i).length = i := by rw [List.length_take]; omega
  have := putL_step (l := l) (o := o) (vs := d.take i) (v := d[i]) (by rw [hl]; exact h)
  rw [hl] at this
  rw [this, take_succ_get hi]
theorem put_known (q : Seg) (gn n off : Nat) (H : List Bool) (L : List Int) (h1 : 0 ≤ q.total) (h2 : q.total ≤ 65536) (h3 : q.data.length ≤ 256) (ho : q.offset = (off : Nat)) (h5 : off + q.data.length ≤ n) (hn : q.total = (n : Nat)) (hH : H.length = n) (hL : L.length = n) (hcf : ∀ i, i < q.data.length → H.getD (off + i) false = true → L.getD (off + i) 0 = q.data.getD i 0) : RetK Tryd.prog 10 [(1000, some ⟨5, 74, 0, [.agg [.t (encI q.file), .t (.bool true), .t (.int .u32 q.sum), .own 63 gn 0 n, .own 66 gn 0 n]]⟩), (63, some ⟨1, 4, gn, (H.map Tr.bool).map .t⟩), (66, some ⟨1, 5, gn, (L.map encBy).map .t⟩)] [.ptr 1000 0 0 0, .t (encSg q)] [(1000, some ⟨5, 74, 0, [.agg [.t (encI q.file), .t (.bool true), .t (.int .u32 q.sum), .own 63 (gn + 1) 0 n, .own 66 (gn + 1) 0 n]]⟩), (63, some ⟨1, 4, (gn + 1), ((putL H off (List.replicate q.data.length true)).map Tr.bool).map .t⟩), (66, some ⟨1, 5, (gn + 1), ((putL L off q.data).map encBy).map .t⟩)] (.t (encI 0)) [(0, .ptr 1000 0 0 0)] := by
  refine retK_of_awj (kp := fun i => Nat.beq i 0) Tryd.func10 rfl (Nat.le_of_ble_eq_true rfl) (by simp) ?_
  intro F0 w0
  refine awj_seq ?_
  refine awj_rj rfl ?_
  refine RJ.new rfl rfl (eff_boxK (v := .t _) (k := 5) (id := 3) rfl rfl rfl rfl rfl rfl) ?_
  refine RJ.op rfl rfl (eff_assign (v := .t _) rfl rfl rfl) ?_
  refine RJ.nil ?_
  refine awj_seq ?_
  refine awj_block ?_
  refine awj_seq ?_
  refine awj_rd [(some 11, []), (some 12, []), (some 13, []), (some 14, []), (some 15, []), (some 16, []), (some 17, []), (some 10, [])] [[], [0], [], [2], [2, 3], [2, 3, 4], [0, 1, 2, 3, 4, 5], [0, 1, 2, 3, 4, 5, 6]] tm rfl rfl rfl rfl ?_
  refine RD.op rfl rfl rfl (eff_fieldAddr rfl rfl tf38_0 (by decide) rfl rfl rfl (Nat.le_of_ble_eq_true rfl)) ?_
  refine RD.op rfl rfl rfl (eff_load (y := .t _) rfl rfl ti3 rfl (.one rfl rfl rfl rfl)) ?_
  refine RD.op rfl rfl rfl (eff_move (v := .ptr _ _ _ _) rfl rfl rfl) ?_
  refine RD.op rfl rfl rfl (eff_nilCheck (v := .ptr _ _ _ _) rfl rfl rfl rfl (fun _ _ _ _ e => by cases e; exact ⟨_, rfl, rfl⟩)) ?_
  refine RD.op rfl rfl rfl (eff_fieldAddr rfl rfl tf74_0 (by decide) rfl rfl rfl (Nat.le_of_ble_eq_true rfl)) ?_
  refine RD.op rfl rfl rfl (eff_load (y := .t _) rfl rfl ti3 rfl (.one rfl rfl rfl rfl)) ?_
  refine RD.op rfl rfl rfl (eff_iop (r := .bool false) rfl rfl rfl rfl (by show some (Tr.bool ((_ : Int) != _)) = _; simp)) ?_
  refine RD.op rfl rfl rfl (eff_assign (v := .t _) rfl rfl rfl) ?_
  refine RD.nil ?_
  refine awj_cond rfl (fun h => nomatch h) (fun _ => ?_)
  refine awj_seq ?_
  refine awj_rj rfl ?_
  refine RJ.op rfl rfl (eff_load rfl rfl ti38 rfl (.whole rfl rfl rfl rfl rfl rfl)) ?_
  refine RJ.op rfl rfl (eff_callT (valid_ret q h1 h2 h3 (by omega) (by omega)) co28 rfl rfl rfl rfl) ?_
  refine RJ.op rfl rfl (eff_unop rfl rfl rfl rfl) ?_
  refine RJ.op rfl rfl (eff_assign (v := .t _) rfl rfl rfl) ?_
  refine RJ.nil ?_
  refine awj_cond rfl (fun h => nomatch h) (fun _ => ?_)
  refine awj_seq ?_
  refine awj_rd [(some 23, []), (some 24, []), (some 25, []), (some 26, []), (some 27, []), (some 28, []), (some 29, []), (some 30, []), (some 31, []), (some 32, []), (some 33, []), (some 34, []), (some 35, []), (some 36, []), (some 37, []), (some 38, []), (some 39, []), (some 40, []), (some 41, []), (some 42, []), (some 43, []), (some 44, []), (some 45, []), (some 22, [])] [[], [0], [0, 1], [0, 1, 2], [0, 1, 2, 3], [0, 1, 2, 3, 4], [0, 1, 2, 3, 4, 5], [0, 1, 2, 3, 4], [0, 1, 2, 3, 4, 7], [0, 1, 2, 3, 4, 7, 8], [0, 1, 2, 3, 4, 7, 8, 9], [0, 1, 2, 3, 4, 7, 8, 9, 10], [0, 1, 2, 3, 4, 5, 6, 7, 8, 9, 10, 11], [0, 1, 2, 3, 4, 5, 6, 7, 8, 9, 10, 11, 12], [0, 1, 2, 3, 4, 5, 6, 7, 8, 9, 10, 11, 12, 13], [0, 1, 2, 3, 4, 5, 6, 7, 8, 9, 10, 11, 12, 13, 14], [0, 1, 2, 3, 4, 5, 6, 7, 8, 9, 10, 11, 12, 13], [0, 1, 2, 3, 4, 5, 6, 7, 8, 9, 10, 11, 12, 13, 16], [0, 1, 2, 3, 4, 5, 6, 7, 8, 9, 10, 11, 12, 13, 16, 17], [0, 1, 2, 3, 4, 5, 6, 7, 8, 9, 10, 11, 12, 13, 16, 17, 18], [0, 1, 2, 3, 4, 5, 6, 7, 8, 9, 10, 11, 12, 13, 14, 15, 16, 17, 18, 19], [0, 1, 2, 3, 4, 5, 6, 7, 8, 9, 10, 11, 12, 13, 14, 15, 16, 17, 18, 19, 20], [0, 1, 2, 3, 4, 5, 6, 7, 8, 9, 10, 11, 12, 13, 14, 15, 16, 17, 18, 19, 20, 21], [0, 1, 2, 3, 4, 5, 6, 7, 8, 9, 10, 11, 12, 13, 14, 15, 16, 17, 18, 19, 20, 21, 22]] tm rfl rfl rfl rfl ?_
  refine RD.op rfl rfl rfl (eff_move (v := .ptr _ _ _ _) rfl rfl rfl) ?_
  refine RD.op rfl rfl rfl (eff_nilCheck (v := .ptr _ _ _ _) rfl rfl rfl rfl (fun _ _ _ _ e => by cases e; exact ⟨_, rfl, rfl⟩)) ?_
  refine RD.op rfl rfl rfl (eff_fieldAddr rfl rfl tf74_1 (by decide) rfl rfl rfl (Nat.le_of_ble_eq_true rfl)) ?_
  refine RD.op rfl rfl rfl (eff_load (y := .t _) rfl rfl ti4 rfl (.one rfl rfl rfl rfl)) ?_
  refine RD.op rfl rfl rfl (eff_move (v := .t _) rfl rfl rfl) ?_
  refine RD.gop rfl rfl rfl rfl rfl rfl rfl (eff_fieldAddr rfl rfl tf38_2 (by decide) rfl rfl rfl (Nat.le_of_ble_eq_true rfl)) ?_
  refine RD.gop rfl rfl rfl rfl rfl rfl rfl (eff_load (y := .t _) rfl rfl ti3 rfl (.one rfl rfl rfl rfl)) ?_
  refine RD.gop rfl rfl rfl rfl rfl rfl rfl (eff_move (v := .ptr _ _ _ _) rfl rfl rfl) ?_
  refine RD.gop rfl rfl rfl rfl rfl rfl rfl (eff_nilCheck (v := .ptr _ _ _ _) rfl rfl rfl rfl (fun _ _ _ _ e => by cases e; exact ⟨_, rfl, rfl⟩)) ?_
  refine RD.gop rfl rfl rfl rfl rfl rfl rfl (eff_fieldAddr rfl rfl tf74_4 (by decide) rfl rfl rfl (Nat.le_of_ble_eq_true rfl)) ?_
  refine RD.gop rfl rfl rfl rfl rfl rfl rfl (eff_load (y := .own _ _ _ _) rfl rfl ti22 rfl (.one rfl rfl rfl rfl)) ?_
  refine RD.gop rfl rfl rfl rfl rfl rfl rfl (eff_len rfl rfl te22 rfl rfl rfl) ?_
  refine RD.gop rfl rfl rfl rfl rfl rfl rfl (eff_iop (r := .bool false) rfl rfl rfl rfl (by show some (Tr.bool ((_ : Int) != _)) = _; simp [hn])) ?_
  refine RD.gop rfl rfl rfl rfl rfl rfl rfl (eff_move (v := .t _) rfl rfl rfl) ?_
  refine RD.gop rfl rfl rfl rfl rfl rfl rfl (eff_fieldAddr rfl rfl tf38_3 (by decide) rfl rfl rfl (Nat.le_of_ble_eq_true rfl)) ?_
  refine RD.gop rfl rfl rfl rfl rfl rfl rfl (eff_load (y := .t _) rfl rfl ti36 rfl (.one rfl rfl rfl rfl)) ?_
  refine RD.gop rfl rfl rfl rfl rfl rfl rfl (eff_move (v := .ptr _ _ _ _) rfl rfl rfl) ?_
  refine RD.gop rfl rfl rfl rfl rfl rfl rfl (eff_nilCheck (v := .ptr _ _ _ _) rfl rfl rfl rfl (fun _ _ _ _ e => by cases e; exact ⟨_, rfl, rfl⟩)) ?_
  refine RD.gop rfl rfl rfl rfl rfl rfl rfl (eff_fieldAddr rfl rfl tf74_2 (by decide) rfl rfl rfl (Nat.le_of_ble_eq_true rfl)) ?_
  refine RD.gop rfl rfl rfl rfl rfl rfl rfl (eff_load (y := .t _) rfl rfl ti36 rfl (.one rfl rfl rfl rfl)) ?_
  refine RD.gop rfl rfl rfl rfl rfl rfl rfl (eff_iop (r := .bool false) rfl rfl rfl rfl (by show some (Tr.bool ((_ : Int) != _)) = _; simp)) ?_
  refine RD.gop rfl rfl rfl rfl rfl rfl rfl (eff_pick (v := .t _) rfl rfl rfl rfl) ?_
  refine RD.op rfl rfl rfl (eff_pick (v := .t _) rfl rfl rfl rfl) ?_
  refine RD.op rfl rfl rfl (eff_assign (v := .t _) rfl rfl rfl) ?_
  refine RD.nil ?_
  refine awj_cond rfl (fun h => nomatch h) (fun _ => ?_)
  refine awj_skip ?_
  refine awj_seq ?_
  refine awj_seq ?_
  refine awj_rj rfl ?_
  refine RJ.op rfl rfl (eff_move (v := .ptr _ _ _ _) rfl rfl rfl) ?_
  refine RJ.op rfl rfl (eff_nilCheck (v := .ptr _ _ _ _) rfl rfl rfl rfl (fun _ _ _ _ e => by cases e; exact ⟨_, rfl, rfl⟩)) ?_
  refine RJ.op rfl rfl (eff_fieldAddr rfl rfl tf74_1 (by decide) rfl rfl rfl (Nat.le_of_ble_eq_true rfl)) ?_
  refine RJ.op rfl rfl (eff_load (y := .t _) rfl rfl ti4 rfl (.one rfl rfl rfl rfl)) ?_
  refine RJ.op rfl rfl (eff_unop rfl rfl rfl rfl) ?_
  refine RJ.nil ?_
  refine awj_cond rfl (fun h => nomatch h) (fun _ => ?_)
  refine awj_skip ?_
  refine awj_seq ?_
  refine awj_seq ?_
  refine awj_rj rfl ?_
  refine RJ.op rfl rfl (eff_fieldAddr rfl rfl tf38_4 (by decide) rfl rfl rfl (Nat.le_of_ble_eq_true rfl)) ?_
  refine RJ.op rfl rfl (eff_load (y := .t _) rfl rfl ti22 rfl (.one rfl rfl rfl rfl)) ?_
  refine RJ.op rfl rfl (eff_lenM rfl rfl te22 rfl) ?_
  refine RJ.op rfl rfl (eff_move (v := .t _) rfl rfl rfl) ?_
  refine RJ.nil ?_
  refine awj_block ?_
  refine awj_loopW (fun m s g => ∃ (i : Nat), (i ≤ q.data.length) ∧ m = q.data.length - i ∧ s = ⟨130, [(0, .ptr 1000 0 0 0), (3, .ptr 3 0 0 0), (72, .t (.sl (q.data.map encBy) false)), (73, .t (encI q.data.length)), (74, .t (encI (i : Nat)))], [(1000, some ⟨5, 74, 0, [.agg [.t (encI q.file), .t (.bool true), .t (.int .u32 q.sum), .own 63 gn 0 n, .own 66 gn 0 n]]⟩), (63, some ⟨1, 4, gn, (H.map Tr.bool).map .t⟩), (66, some ⟨1, 5, gn, (L.map encBy).map .t⟩), (3, some ⟨5, 38, 0, [.t (encSg q)]⟩)]⟩) (_) (⟨_, weak_keep (n := 130) (fr' := [(0, .ptr 1000 0 0 0), (3, .ptr 3 0 0 0), (72, .t (.sl (q.data.map encBy) false)), (73, .t (encI q.data.length)), (74, .t (encI (0 : Nat)))]) (st' := [(1000, some ⟨5, 74, 0, [.agg [.t (encI q.file), .t (.bool true), .t (.int .u32 q.sum), .own 63 gn 0 n, .own 66 gn 0 n]]⟩), (63, some ⟨1, 4, gn, (H.map Tr.bool).map .t⟩), (66, some ⟨1, 5, gn, (L.map encBy).map .t⟩), (3, some ⟨5, 38, 0, [.t (encSg q)]⟩)]) ⟨rfl, rfl, rfl, rfl, rfl, rfl, rfl, rfl, rfl, rfl, trivial⟩ ⟨rfl, okE_one rfl, rfl, okE_t, rfl, okE_t, rfl, okE_one rfl, trivial⟩, 0, (by omega), rfl, rfl⟩) ?_
  rintro m s g ⟨i, hi, rfl, rfl⟩
  refine awj_seq ?_
  refine awj_rj rfl ?_
  refine RJ.op rfl rfl (eff_iop rfl rfl rfl rfl rfl) ?_
  refine RJ.nil ?_
  refine awj_seq ?_
  refine awj_cond rfl (fun h1 => ?_) (fun h1 => ?_)
  · try simp only [decide_eq_true_eq, decide_eq_false_iff_not, beq_iff_eq, bne_iff_ne, bne_eq_false_iff_eq, beq_eq_false_iff_ne, Bool.not_eq_true, Bool.not_eq_false, Bool.not_eq_true', Bool.not_eq_false', ne_eq] at h1
    refine awj_skip ?_
    refine awj_seq ?_
    refine awj_block ?_
    refine awj_seq ?_
    refine awj_rj rfl ?_
    refine RJ.op rfl rfl (eff_move (v := .t _) rfl rfl rfl) ?_
    refine RJ.op rfl rfl (eff_indexM rfl rfl te22 rfl rfl rfl (by first | assumption | exact List.getElem?_eq_getElem (by omega)) rfl (by decide)) ?_
    refine RJ.op rfl rfl (eff_loadW1 rfl rfl ti5 rfl rfl) ?_
    refine RJ.op rfl rfl (eff_assign (v := .t _) rfl rfl rfl) ?_
    refine RJ.op rfl rfl (eff_assign (v := .t _) rfl rfl rfl) ?_
    refine RJ.nil ?_
    refine awj_seq ?_
    refine awj_rj rfl ?_
    refine RJ.op rfl rfl (eff_fieldAddr rfl rfl tf38_1 (by decide) rfl rfl rfl (Nat.le_of_ble_eq_true rfl)) ?_
    refine RJ.op rfl rfl (eff_load (y := .t _) rfl rfl ti3 rfl (.one rfl rfl rfl rfl)) ?_
    refine RJ.op rfl rfl (eff_move (v := .t _) rfl rfl rfl) ?_
    refine RJ.op rfl rfl (eff_iop rfl rfl rfl rfl (iadd (by omega))) ?_
    refine RJ.op rfl rfl (eff_assign (v := .t _) rfl rfl rfl) ?_
    refine RJ.nil ?_
    refine awj_seq ?_
    refine awj_rj rfl ?_
    refine RJ.op rfl rfl (eff_move (v := .ptr _ _ _ _) rfl rfl rfl) ?_
    refine RJ.op rfl rfl (eff_nilCheck (v := .ptr _ _ _ _) rfl rfl rfl rfl (fun _ _ _ _ e => by cases e; exact ⟨_, rfl, rfl⟩)) ?_
    refine RJ.op rfl rfl (eff_fieldAddr rfl rfl tf74_3 (by decide) rfl rfl rfl (Nat.le_of_ble_eq_true rfl)) ?_
    refine RJ.op rfl rfl (eff_load (y := .own _ _ _ _) rfl rfl ti72 rfl (.one rfl rfl rfl rfl)) ?_
    refine RJ.op rfl rfl (eff_move (v := .t _) rfl rfl rfl) ?_
    refine RJ.op rfl rfl (eff_indexAddr (i := off + i) rfl rfl te72 rfl rfl (by rw [ho]; omega) rfl rfl rfl (by omega)) ?_
    refine RJ.op rfl rfl (eff_load (y := .t (.bool (H.getD (off + i) false))) rfl rfl ti4 rfl (.one (el := .t (.bool (H.getD (off + i) false))) rfl rfl (by rw [Nat.zero_add]; exact mget (f := Tr.bool) false (by omega)) rfl)) ?_
    refine RJ.op rfl rfl (eff_move (v := .t _) rfl rfl rfl) ?_
    refine RJ.split 90 rfl (fun h2 => ?_) (fun h2 => ?_)
    · try simp only [decide_eq_true_eq, decide_eq_false_iff_not, beq_iff_eq, bne_iff_ne, bne_eq_false_iff_eq, beq_eq_false_iff_ne, Bool.not_eq_true, Bool.not_eq_false, Bool.not_eq_true', Bool.not_eq_false', ne_eq] at h2
      refine RJ.gop rfl rfl rfl rfl rfl rfl (eff_move (v := .ptr _ _ _ _) rfl rfl rfl) ?_
      refine RJ.gop rfl rfl rfl rfl rfl rfl (eff_nilCheck (v := .ptr _ _ _ _) rfl rfl rfl rfl (fun _ _ _ _ e => by cases e; exact ⟨_, rfl, rfl⟩)) ?_
      refine RJ.gop rfl rfl rfl rfl rfl rfl (eff_fieldAddr rfl rfl tf74_4 (by decide) rfl rfl rfl (Nat.le_of_ble_eq_true rfl)) ?_
      refine RJ.gop rfl rfl rfl rfl rfl rfl (eff_load (y := .own _ _ _ _) rfl rfl ti22 rfl (.one rfl rfl rfl rfl)) ?_
      refine RJ.gop rfl rfl rfl rfl rfl rfl (eff_move (v := .t _) rfl rfl rfl) ?_
      refine RJ.gop rfl rfl rfl rfl rfl rfl (eff_indexAddr (i := off + i) rfl rfl te22 rfl rfl (by rw [ho]; omega) rfl rfl rfl (by omega)) ?_
      refine RJ.gop rfl rfl rfl rfl rfl rfl (eff_load (y := .t (encBy (L.getD (off + i) 0))) rfl rfl ti5 rfl (.one (el := .t (encBy (L.getD (off + i) 0))) rfl rfl (by rw [Nat.zero_add]; exact mget (f := encBy) 0 (by omega)) rfl)) ?_
      refine RJ.gop rfl rfl rfl rfl rfl rfl (eff_move (v := .t _) rfl rfl rfl) ?_
      refine RJ.gop rfl rfl rfl rfl rfl rfl (eff_iop (r := .bool false) rfl rfl rfl rfl (by show some (Tr.bool ((_ : Int) != _)) = _; rw [hcf i (by omega) (by assumption)]; simp [List.getD_eq_getElem?_getD, List.getElem?_eq_getElem (show i < q.data.length by omega)])) ?_
      refine RJ.op rfl rfl (eff_pick (v := .t _) rfl rfl rfl rfl) ?_
      refine RJ.nil ?_
      refine awj_cond rfl (fun h => nomatch h) (fun _ => ?_)
      refine awj_skip ?_
      refine awj_rj rfl ?_
      refine RJ.op rfl rfl (eff_iop rfl rfl rfl rfl (iadd (by omega))) ?_
      refine RJ.op rfl rfl (eff_move (v := .t _) rfl rfl rfl) ?_
      refine RJ.nil ?_
      refine ⟨_, ?_, _, weak_keep (n := 130) (fr' := [(0, .ptr 1000 0 0 0), (3, .ptr 3 0 0 0), (72, .t (.sl (q.data.map encBy) false)), (73, .t (encI q.data.length)), (74, .t (encI ((i + 1) : Nat)))]) (st' := [(1000, some ⟨5, 74, 0, [.agg [.t (encI q.file), .t (.bool true), .t (.int .u32 q.sum), .own 63 gn 0 n, .own 66 gn 0 n]]⟩), (63, some ⟨1, 4, gn, (H.map Tr.bool).map .t⟩), (66, some ⟨1, 5, gn, (L.map encBy).map .t⟩), (3, some ⟨5, 38, 0, [.t (encSg q)]⟩)]) ⟨rfl, rfl, rfl, rfl, rfl, rfl, rfl, rfl, rfl, rfl, trivial⟩ ⟨rfl, okE_one rfl, rfl, okE_t, rfl, okE_t, rfl, okE_one rfl, trivial⟩, i + 1, (by omega), rfl, rfl⟩
      omega
    · try simp only [decide_eq_true_eq, decide_eq_false_iff_not, beq_iff_eq, bne_iff_ne, bne_eq_false_iff_eq, beq_eq_false_iff_ne, Bool.not_eq_true, Bool.not_eq_false, Bool.not_eq_true', Bool.not_eq_false', ne_eq] at h2
      refine RJ.gskip rfl rfl rfl rfl rfl (by decide) ?_
      refine RJ.gskip rfl rfl rfl rfl rfl (by decide) ?_
      refine RJ.gskip rfl rfl rfl rfl rfl (by decide) ?_
      refine RJ.gskip rfl rfl rfl rfl rfl (by decide) ?_
      refine RJ.gskip rfl rfl rfl rfl rfl (by decide) ?_
      refine RJ.gskip rfl rfl rfl rfl rfl (by decide) ?_
      refine RJ.gskip rfl rfl rfl rfl rfl (by decide) ?_
      refine RJ.gskip rfl rfl rfl rfl rfl (by decide) ?_
      refine RJ.gskip rfl rfl rfl rfl rfl (by decide) ?_
      refine RJ.op rfl rfl (eff_pick (v := .t _) rfl rfl rfl rfl) ?_
      refine RJ.nil ?_
      refine awj_cond rfl (fun h => nomatch h) (fun _ => ?_)
      refine awj_skip ?_
      refine awj_rj rfl ?_
      refine RJ.op rfl rfl (eff_iop rfl rfl rfl rfl (iadd (by omega))) ?_
      refine RJ.op rfl rfl (eff_move (v := .t _) rfl rfl rfl) ?_
      refine RJ.nil ?_
      refine ⟨_, ?_, _, weak_keep (n := 130) (fr' := [(0, .ptr 1000 0 0 0), (3, .ptr 3 0 0 0), (72, .t (.sl (q.data.map encBy) false)), (73, .t (encI q.data.length)), (74, .t (encI ((i + 1) : Nat)))]) (st' := [(1000, some ⟨5, 74, 0, [.agg [.t (encI q.file), .t (.bool true), .t (.int .u32 q.sum), .own 63 gn 0 n, .own 66 gn 0 n]]⟩), (63, some ⟨1, 4, gn, (H.map Tr.bool).map .t⟩), (66, some ⟨1, 5, gn, (L.map encBy).map .t⟩), (3, some ⟨5, 38, 0, [.t (encSg q)]⟩)]) ⟨rfl, rfl, rfl, rfl, rfl, rfl, rfl, rfl, rfl, rfl, trivial⟩ ⟨rfl, okE_one rfl, rfl, okE_t, rfl, okE_t, rfl, okE_one rfl, trivial⟩, i + 1, (by omega), rfl, rfl⟩
      omega
  · try simp only [decide_eq_true_eq, decide_eq_false_iff_not, beq_iff_eq, bne_iff_ne, bne_eq_false_iff_eq, beq_eq_false_iff_ne, Bool.not_eq_true, Bool.not_eq_false, Bool.not_eq_true', Bool.not_eq_false', ne_eq] at h1
    refine awj_exit ?_
    refine awj_seq ?_
    refine awj_seq ?_
    refine awj_rj rfl ?_
    refine RJ.op rfl rfl (eff_fieldAddr rfl rfl tf38_4 (by decide) rfl rfl rfl (Nat.le_of_ble_eq_true rfl)) ?_
    refine RJ.op rfl rfl (eff_load (y := .t _) rfl rfl ti22 rfl (.one rfl rfl rfl rfl)) ?_
    refine RJ.op rfl rfl (eff_lenM rfl rfl te22 rfl) ?_
    refine RJ.op rfl rfl (eff_move (v := .t _) rfl rfl rfl) ?_
    refine RJ.nil ?_
    refine awj_block ?_
    refine awj_loopW (fun m s g => ∃ (i : Nat) (Hs : List Bool) (Ls : List Int), (i ≤ q.data.length) ∧ (Hs = putL H off (List.replicate i true)) ∧ (Ls = putL L off (q.data.take i)) ∧ m = q.data.length - i ∧ s = ⟨130, [(0, .ptr 1000 0 0 0), (3, .ptr 3 0 0 0), (103, .t (.sl (q.data.map encBy) false)), (104, .t (encI q.data.length)), (105, .t (encI (i : Nat)))], [(1000, some ⟨5, 74, 0, [.agg [.t (encI q.file), .t (.bool true), .t (.int .u32 q.sum), .own 63 gn 0 n, .own 66 gn 0 n]]⟩), (63, some ⟨1, 4, gn, (Hs.map Tr.bool).map .t⟩), (66, some ⟨1, 5, gn, (Ls.map encBy).map .t⟩), (3, some ⟨5, 38, 0, [.t (encSg q)]⟩)]⟩) (_) (⟨_, weak_keep (n := 130) (fr' := [(0, .ptr 1000 0 0 0), (3, .ptr 3 0 0 0), (103, .t (.sl (q.data.map encBy) false)), (104, .t (encI q.data.length)), (105, .t (encI (0 : Nat)))]) (st' := [(1000, some ⟨5, 74, 0, [.agg [.t (encI q.file), .t (.bool true), .t (.int .u32 q.sum), .own 63 gn 0 n, .own 66 gn 0 n]]⟩), (63, some ⟨1, 4, gn, (H.map Tr.bool).map .t⟩), (66, some ⟨1, 5, gn, (L.map encBy).map .t⟩), (3, some ⟨5, 38, 0, [.t (encSg q)]⟩)]) ⟨rfl, rfl, rfl, rfl, rfl, rfl, rfl, rfl, rfl, rfl, trivial⟩ ⟨rfl, okE_one rfl, rfl, okE_t, rfl, okE_t, rfl, okE_one rfl, trivial⟩, 0, H, L, (by omega), (by exact (putL_nil _ _).symm), (by rw [List.take_zero, putL_nil]), rfl, rfl⟩) ?_
    rintro m s g ⟨i, Hs, Ls, hi, hHs, hLs, rfl, rfl⟩
    have hHl : Hs.length = n := by rw [hHs, putL_len (by simp; omega)]; exact hH
    have hLl : Ls.length = n := by rw [hLs, putL_len (by simp; omega)]; exact hL
    refine awj_seq ?_
    refine awj_rj rfl ?_
    refine RJ.op rfl rfl (eff_iop rfl rfl rfl rfl rfl) ?_
    refine RJ.nil ?_
    refine awj_seq ?_
    refine awj_cond rfl (fun h3 => ?_) (fun h3 => ?_)
    · try simp only [decide_eq_true_eq, decide_eq_false_iff_not, beq_iff_eq, bne_iff_ne, bne_eq_false_iff_eq, beq_eq_false_iff_ne, Bool.not_eq_true, Bool.not_eq_false, Bool.not_eq_true', Bool.not_eq_false', ne_eq] at h3
      refine awj_skip ?_
      refine awj_seq ?_
      refine awj_block ?_
      refine awj_seq ?_
      refine awj_rj rfl ?_
      refine RJ.op rfl rfl (eff_move (v := .t _) rfl rfl rfl) ?_
      refine RJ.op rfl rfl (eff_indexM rfl rfl te22 rfl rfl rfl (by first | assumption | exact List.getElem?_eq_getElem (by omega)) rfl (by decide)) ?_
      refine RJ.op rfl rfl (eff_loadW1 rfl rfl ti5 rfl rfl) ?_
      refine RJ.op rfl rfl (eff_assign (v := .t _) rfl rfl rfl) ?_
      refine RJ.op rfl rfl (eff_assign (v := .t _) rfl rfl rfl) ?_
      refine RJ.nil ?_
      refine awj_rd [(some 110, []), (some 111, []), (some 112, []), (some 113, []), (some 114, []), (some 115, []), (some 116, []), (some 117, []), (some 118, []), (some 119, []), (some 120, []), (some 121, []), (some 122, []), (some 123, []), (some 124, []), (some 125, []), (some 126, []), (some 127, []), (none, [63]), (some 128, []), (none, [66])] [[], [0], [0, 1], [0, 1, 2], [], [4], [], [4, 5, 6], [], [8], [8, 9], [8, 9, 10], [], [12], [], [12, 13, 14], [], [0, 1, 2, 3, 4, 5, 6, 7, 8, 9, 10, 11], [0, 1, 2, 3, 4, 5, 6, 7, 8, 9, 10, 11, 17], [0, 1, 2, 3, 4, 5, 6, 7, 8, 9, 10, 11, 12, 13, 14, 15, 16, 17, 18], [0, 1, 2, 3, 4, 5, 6, 7, 8, 9, 10, 11, 12, 13, 14, 15, 16, 17, 18, 19]] tm rfl rfl rfl rfl ?_
      refine RD.op rfl rfl rfl (eff_move (v := .ptr _ _ _ _) rfl rfl rfl) ?_
      refine RD.op rfl rfl rfl (eff_nilCheck (v := .ptr _ _ _ _) rfl rfl rfl rfl (fun _ _ _ _ e => by cases e; exact ⟨_, rfl, rfl⟩)) ?_
      refine RD.op rfl rfl rfl (eff_fieldAddr rfl rfl tf74_3 (by decide) rfl rfl rfl (Nat.le_of_ble_eq_true rfl)) ?_
      refine RD.op rfl rfl rfl (eff_load (y := .own _ _ _ _) rfl rfl ti72 rfl (.one rfl rfl rfl rfl)) ?_
      refine RD.op rfl rfl rfl (eff_fieldAddr rfl rfl tf38_1 (by decide) rfl rfl rfl (Nat.le_of_ble_eq_true rfl)) ?_
      refine RD.op rfl rfl rfl (eff_load (y := .t _) rfl rfl ti3 rfl (.one rfl rfl rfl rfl)) ?_
      refine RD.op rfl rfl rfl (eff_move (v := .t _) rfl rfl rfl) ?_
      refine RD.op rfl rfl rfl (eff_iop rfl rfl rfl rfl (iadd (by omega))) ?_
      refine RD.op rfl rfl rfl (eff_move (v := .ptr _ _ _ _) rfl rfl rfl) ?_
      refine RD.op rfl rfl rfl (eff_nilCheck (v := .ptr _ _ _ _) rfl rfl rfl rfl (fun _ _ _ _ e => by cases e; exact ⟨_, rfl, rfl⟩)) ?_
      refine RD.op rfl rfl rfl (eff_fieldAddr rfl rfl tf74_4 (by decide) rfl rfl rfl (Nat.le_of_ble_eq_true rfl)) ?_
      refine RD.op rfl rfl rfl (eff_load (y := .own _ _ _ _) rfl rfl ti22 rfl (.one rfl rfl rfl rfl)) ?_
      refine RD.op rfl rfl rfl (eff_fieldAddr rfl rfl tf38_1 (by decide) rfl rfl rfl (Nat.le_of_ble_eq_true rfl)) ?_
      refine RD.op rfl rfl rfl (eff_load (y := .t _) rfl rfl ti3 rfl (.one rfl rfl rfl rfl)) ?_
      refine RD.op rfl rfl rfl (eff_move (v := .t _) rfl rfl rfl) ?_
      refine RD.op rfl rfl rfl (eff_iop rfl rfl rfl rfl (iadd (by omega))) ?_
      refine RD.op rfl rfl rfl (eff_move (v := .t _) rfl rfl rfl) ?_
      refine RD.op rfl rfl rfl (eff_indexAddr (i := off + i) rfl rfl te72 rfl rfl (by rw [ho]; omega) rfl rfl rfl (by omega)) ?_
      refine RD.store rfl rfl rfl (eff_storeW (v := .t (.bool true)) (els' := ((Hs.set (off + i) true).map Tr.bool).map .t) (el := .t (.bool (Hs.getD (off + i) false))) rfl rfl ti4 rfl rfl rfl rfl rfl rfl (by rw [Nat.zero_add]; exact mget (f := Tr.bool) false (by omega)) rfl (by rw [Nat.zero_add]; exact mset)) ?_
      refine RD.op rfl rfl rfl (eff_indexAddr (i := off + i) rfl rfl te22 rfl rfl (by rw [ho]; omega) rfl rfl rfl (by omega)) ?_
      refine RD.store rfl rfl rfl (eff_storeW (v := .t (encBy (q.data[i]'(by omega)))) (els' := ((Ls.set (off + i) (q.data[i]'(by omega))).map encBy).map .t) (el := .t (encBy (Ls.getD (off + i) 0))) rfl rfl ti5 rfl rfl rfl rfl rfl rfl (by rw [Nat.zero_add]; exact mget (f := encBy) 0 (by omega)) rfl (by rw [Nat.zero_add]; exact mset)) ?_
      refine RD.nil ?_
      refine awj_rj rfl ?_
      refine RJ.op rfl rfl (eff_iop rfl rfl rfl rfl (iadd (by omega))) ?_
      refine RJ.op rfl rfl (eff_move (v := .t _) rfl rfl rfl) ?_
      refine RJ.nil ?_
      refine ⟨_, ?_, _, weak_keep (n := 130) (fr' := [(0, .ptr 1000 0 0 0), (3, .ptr 3 0 0 0), (103, .t (.sl (q.data.map encBy) false)), (104, .t (encI q.data.length)), (105, .t (encI ((i + 1) : Nat)))]) (st' := [(1000, some ⟨5, 74, 0, [.agg [.t (encI q.file), .t (.bool true), .t (.int .u32 q.sum), .own 63 gn 0 n, .own 66 gn 0 n]]⟩), (63, some ⟨1, 4, gn, ((Hs.set (off + i) true).map Tr.bool).map .t⟩), (66, some ⟨1, 5, gn, ((Ls.set (off + i) (q.data[i]'(by omega))).map encBy).map .t⟩), (3, some ⟨5, 38, 0, [.t (encSg q)]⟩)]) ⟨rfl, rfl, rfl, rfl, rfl, rfl, rfl, rfl, rfl, rfl, trivial⟩ ⟨rfl, okE_one rfl, rfl, okE_t, rfl, okE_t, rfl, okE_one rfl, trivial⟩, i + 1, Hs.set (off + i) true, Ls.set (off + i) (q.data[i]'(by omega)), (by omega), (by rw [hHs, putL_rep (by omega)]), (by rw [hLs, putL_take (by omega) (by omega)]), rfl, rfl⟩
      omega
    · try simp only [decide_eq_true_eq, decide_eq_false_iff_not, beq_iff_eq, bne_iff_ne, bne_eq_false_iff_eq, beq_eq_false_iff_ne, Bool.not_eq_true, Bool.not_eq_false, Bool.not_eq_true', Bool.not_eq_false', ne_eq] at h3
      refine awj_exit ?_
      refine awj_seq ?_
      refine awj_rj rfl ?_
      refine RJ.op rfl rfl (eff_assign (v := .t _) rfl rfl rfl) ?_
      refine RJ.nil ?_
      refine awj_ret ?_
      obtain rfl : i = q.data.length := by omega
      rw [List.take_length] at hLs
      subst hHs
      subst hLs
      exact ⟨Or.inr rfl, [_], [.t (encI 0)], ⟨.tmp rfl, trivial⟩, rfl, weak_gen ⟨.t _, .ptr 1000 0 0 0 0 rfl rfl rfl rfl rfl rfl, trivial⟩ ⟨⟨_, rfl, rfl, rfl, rfl, gen_agg ⟨⟨.t _, AV.noConfusion⟩, ⟨.t _, AV.noConfusion⟩, ⟨.t _, AV.noConfusion⟩, ⟨.own 63 _ _ 0 _ rfl rfl rfl rfl rfl rfl rfl, AV.noConfusion⟩, ⟨.own 66 _ _ 0 _ rfl rfl rfl rfl rfl rfl rfl, AV.noConfusion⟩, trivial⟩⟩, ⟨_, rfl, rfl, rfl, rfl, gen_trees⟩, ⟨_, rfl, rfl, rfl, rfl, gen_trees⟩, trivial⟩, rfl⟩

end Go.Tv.D27

end
section
open Go Go.Tv Go.Proofs
namespace Go.Tv.D27
set_option maxRecDepth 20000
set_option linter.unusedSimpArgs false
set_option linter.unusedVariables false
theorem put_first (q : Seg) (sm : Int) (n off : Nat) (h1 : 0 ≤ q.total) (h2 : q.total ≤ 65536) (h3 : q.data.length ≤ 256) (ho : q.offset = (off : Nat)) (h5 : off + q.data.length ≤ n) (hn : q.total = (n : Nat)) (H : List Bool) (L : List Int) (hH0 : H = List.replicate n false) (hL0 : L = List.replicate n 0) : RetK Tryd.prog 10 [(1000, some ⟨5, 74, 0, [.agg [.t (encI q.file), .t (.bool false), .t (.int .u32 sm), .own 63 0 0 0, .own 66 0 0 0]]⟩), (63, some ⟨1, 4, 0, []⟩), (66, some ⟨1, 5, 0, []⟩)] [.ptr 1000 0 0 0, .t (encSg q)] [(1000, some ⟨5, 74, 0, [.agg [.t (encI q.file), .t (.bool true), .t (.int .u32 q.sum), .own 63 1 0 n, .own 66 1 0 n]]⟩), (63, some ⟨1, 4, 1, ((putL H off (List.replicate q.data.length true)).map Tr.bool).map .t⟩), (66, some ⟨1, 5, 1, ((putL L off q.data).map encBy).map .t⟩)] (.t (encI 0)) [(0, .ptr 1000 0 0 0)] := by
  have hH : H.length = n := by rw [hH0]; simp
  have hL : L.length = n := by rw [hL0]; simp
  have hcf : ∀ i, i < q.data.length → H.getD (off + i) false = true → L.getD (off + i) 0 = q.data.getD i 0 := by
    intro i hi h
    rw [hH0, List.getD_eq_getElem?_getD, List.getElem?_replicate] at h
    split at h <;> simp at h
  refine retK_of_awj (kp := fun i => Nat.beq i 0) Tryd.func10 rfl (Nat.le_of_ble_eq_true rfl) (by simp) ?_
  intro F0 w0
  refine awj_seq ?_
  refine awj_rj rfl ?_
  refine RJ.weak (s' := ⟨130, [(0, .ptr 1000 0 0 0), (1, .t (encSg q))], [(1000, some ⟨5, 74, 0, [.agg [.t (encI q.file), .t (.bool false), .t (.int .u32 sm), .t (.sl [] false), .t (.sl [] false)]]⟩)]⟩) (weak_frzE [(63, some ⟨1, 4, 0, []⟩), (66, some ⟨1, 5, 0, []⟩)] ⟨rfl, rfl, trivial⟩ ⟨.ptr 1000 0 0 0 rfl, .t _, trivial⟩ ⟨waS_agg rfl rfl ⟨⟨rfl, .t _⟩, ⟨rfl, .t _⟩, ⟨rfl, .t _⟩, ⟨rfl, .res (Res.ownT (xs := []) rfl rfl rfl rfl) (.refl _)⟩, ⟨rfl, .res (Res.ownT (xs := []) rfl rfl rfl rfl) (.refl _)⟩, trivial⟩, trivial⟩) rfl ?_
  refine RJ.new rfl rfl (eff_boxK (v := .t _) (k := 5) (id := 3) rfl rfl rfl rfl rfl rfl) ?_
  refine RJ.op rfl rfl (eff_assign (v := .t _) rfl rfl rfl) ?_
  refine RJ.nil ?_
  refine awj_seq ?_
  refine awj_block ?_
  refine awj_seq ?_
  refine awj_rd [(some 11, []), (some 12, []), (some 13, []), (some 14, []), (some 15, []), (some 16, []), (some 17, []), (some 10, [])] [[], [0], [], [2], [2, 3], [2, 3, 4], [0, 1, 2, 3, 4, 5], [0, 1, 2, 3, 4, 5, 6]] tm rfl rfl rfl rfl ?_
  refine RD.op rfl rfl rfl (eff_fieldAddr rfl rfl tf38_0 (by decide) rfl rfl rfl (Nat.le_of_ble_eq_true rfl)) ?_
  refine RD.op rfl rfl rfl (eff_load (y := .t _) rfl rfl ti3 rfl (.one rfl rfl rfl rfl)) ?_
  refine RD.op rfl rfl rfl (eff_move (v := .ptr _ _ _ _) rfl rfl rfl) ?_
  refine RD.op rfl rfl rfl (eff_nilCheck (v := .ptr _ _ _ _) rfl rfl rfl rfl (fun _ _ _ _ e => by cases e; exact ⟨_, rfl, rfl⟩)) ?_
  refine RD.op rfl rfl rfl (eff_fieldAddr rfl rfl tf74_0 (by decide) rfl rfl rfl (Nat.le_of_ble_eq_true rfl)) ?_
  refine RD.op rfl rfl rfl (eff_load (y := .t _) rfl rfl ti3 rfl (.one rfl rfl rfl rfl)) ?_
  refine RD.op rfl rfl rfl (eff_iop (r := .bool false) rfl rfl rfl rfl (by show some (Tr.bool ((_ : Int) != _)) = _; simp)) ?_
  refine RD.op rfl rfl rfl (eff_assign (v := .t _) rfl rfl rfl) ?_
  refine RD.nil ?_
  refine awj_cond rfl (fun h => nomatch h) (fun _ => ?_)
  refine awj_seq ?_
  refine awj_rj rfl ?_
  refine RJ.op rfl rfl (eff_load rfl rfl ti38 rfl (.whole rfl rfl rfl rfl rfl rfl)) ?_
  refine RJ.op rfl rfl (eff_callT (valid_ret q h1 h2 h3 (by omega) (by omega)) co28 rfl rfl rfl rfl) ?_
  refine RJ.op rfl rfl (eff_unop rfl rfl rfl rfl) ?_
  refine RJ.op rfl rfl (eff_assign (v := .t _) rfl rfl rfl) ?_
  refine RJ.nil ?_
  refine awj_cond rfl (fun h => nomatch h) (fun _ => ?_)
  refine awj_seq ?_
  refine awj_rd [(some 23, []), (some 24, []), (some 25, []), (some 26, []), (some 27, []), (some 28, []), (some 29, []), (some 30, []), (some 31, []), (some 32, []), (some 33, []), (some 34, []), (some 35, []), (some 36, []), (some 37, []), (some 38, []), (some 39, []), (some 40, []), (some 41, []), (some 42, []), (some 43, []), (some 44, []), (some 45, []), (some 22, [])] [[], [0], [0, 1], [0, 1, 2], [0, 1, 2, 3], [0, 1, 2, 3, 4], [0, 1, 2, 3, 4, 5], [0, 1, 2, 3, 4], [0, 1, 2, 3, 4, 7], [0, 1, 2, 3, 4, 7, 8], [0, 1, 2, 3, 4, 7, 8, 9], [0, 1, 2, 3, 4, 7, 8, 9, 10], [0, 1, 2, 3, 4, 5, 6, 7, 8, 9, 10, 11], [0, 1, 2, 3, 4, 5, 6, 7, 8, 9, 10, 11, 12], [0, 1, 2, 3, 4, 5, 6, 7, 8, 9, 10, 11, 12, 13], [0, 1, 2, 3, 4, 5, 6, 7, 8, 9, 10, 11, 12, 13, 14], [0, 1, 2, 3, 4, 5, 6, 7, 8, 9, 10, 11, 12, 13], [0, 1, 2, 3, 4, 5, 6, 7, 8, 9, 10, 11, 12, 13, 16], [0, 1, 2, 3, 4, 5, 6, 7, 8, 9, 10, 11, 12, 13, 16, 17], [0, 1, 2, 3, 4, 5, 6, 7, 8, 9, 10, 11, 12, 13, 16, 17, 18], [0, 1, 2, 3, 4, 5, 6, 7, 8, 9, 10, 11, 12, 13, 14, 15, 16, 17, 18, 19], [0, 1, 2, 3, 4, 5, 6, 7, 8, 9, 10, 11, 12, 13, 14, 15, 16, 17, 18, 19, 20], [0, 1, 2, 3, 4, 5, 6, 7, 8, 9, 10, 11, 12, 13, 14, 15, 16, 17, 18, 19, 20, 21], [0, 1, 2, 3, 4, 5, 6, 7, 8, 9, 10, 11, 12, 13, 14, 15, 16, 17, 18, 19, 20, 21, 22]] tm rfl rfl rfl rfl ?_
  refine RD.op rfl rfl rfl (eff_move (v := .ptr _ _ _ _) rfl rfl rfl) ?_
  refine RD.op rfl rfl rfl (eff_nilCheck (v := .ptr _ _ _ _) rfl rfl rfl rfl (fun _ _ _ _ e => by cases e; exact ⟨_, rfl, rfl⟩)) ?_
  refine RD.op rfl rfl rfl (eff_fieldAddr rfl rfl tf74_1 (by decide) rfl rfl rfl (Nat.le_of_ble_eq_true rfl)) ?_
  refine RD.op rfl rfl rfl (eff_load (y := .t _) rfl rfl ti4 rfl (.one rfl rfl rfl rfl)) ?_
  refine RD.op rfl rfl rfl (eff_move (v := .t _) rfl rfl rfl) ?_
  refine RD.gskip rfl rfl rfl rfl rfl rfl (by decide) ?_
  refine RD.gskip rfl rfl rfl rfl rfl rfl (by decide) ?_
  refine RD.gskip rfl rfl rfl rfl rfl rfl (by decide) ?_
  refine RD.gskip rfl rfl rfl rfl rfl rfl (by decide) ?_
  refine RD.gskip rfl rfl rfl rfl rfl rfl (by decide) ?_
  refine RD.gskip rfl rfl rfl rfl rfl rfl (by decide) ?_
  refine RD.gskip rfl rfl rfl rfl rfl rfl (by decide) ?_
  refine RD.gskip rfl rfl rfl rfl rfl rfl (by decide) ?_
  refine RD.gskip rfl rfl rfl rfl rfl rfl (by decide) ?_
  refine RD.gundef rfl rfl rfl rfl rfl rfl ?_
  refine RD.gundef rfl rfl rfl rfl rfl rfl ?_
  refine RD.gundef rfl rfl rfl rfl rfl rfl ?_
  refine RD.gundef rfl rfl rfl rfl rfl rfl ?_
  refine RD.gundef rfl rfl rfl rfl rfl rfl ?_
  refine RD.gundef rfl rfl rfl rfl rfl rfl ?_
  refine RD.gundef rfl rfl rfl rfl rfl rfl ?_
  refine RD.gskip rfl rfl rfl rfl rfl rfl (by decide) ?_
  refine RD.op rfl rfl rfl (eff_pick (v := .t _) rfl rfl rfl rfl) ?_
  refine RD.op rfl rfl rfl (eff_assign (v := .t _) rfl rfl rfl) ?_
  refine RD.nil ?_
  refine awj_cond rfl (fun h => nomatch h) (fun _ => ?_)
  refine awj_skip ?_
  refine awj_seq ?_
  refine awj_seq ?_
  refine awj_rj rfl ?_
  refine RJ.op rfl rfl (eff_move (v := .ptr _ _ _ _) rfl rfl rfl) ?_
  refine RJ.op rfl rfl (eff_nilCheck (v := .ptr _ _ _ _) rfl rfl rfl rfl (fun _ _ _ _ e => by cases e; exact ⟨_, rfl, rfl⟩)) ?_
  refine RJ.op rfl rfl (eff_fieldAddr rfl rfl tf74_1 (by decide) rfl rfl rfl (Nat.le_of_ble_eq_true rfl)) ?_
  refine RJ.op rfl rfl (eff_load (y := .t _) rfl rfl ti4 rfl (.one rfl rfl rfl rfl)) ?_
  refine RJ.op rfl rfl (eff_unop rfl rfl rfl rfl) ?_
  refine RJ.nil ?_
  refine awj_cond rfl (fun _ => ?_) (fun h => nomatch h)
  refine awj_seq ?_
  refine awj_rd [(some 51, []), (some 52, []), (some 53, []), (some 54, []), (some 55, []), (some 56, []), (none, [1000]), (some 57, []), (some 58, []), (none, [1000])] [[], [], [], [2], [0], [0, 4], [0, 4, 5], [0, 1, 2, 3, 4, 5, 6], [0, 1, 2, 3, 4, 5, 6, 7], [0, 1, 2, 3, 4, 5, 6, 7, 8]] tm rfl rfl rfl rfl ?_
  refine RD.op rfl rfl rfl (eff_move (v := .ptr _ _ _ _) rfl rfl rfl) ?_
  refine RD.op rfl rfl rfl (eff_move (v := .ptr _ _ _ _) rfl rfl rfl) ?_
  refine RD.op rfl rfl rfl (eff_fieldAddr rfl rfl tf38_3 (by decide) rfl rfl rfl (Nat.le_of_ble_eq_true rfl)) ?_
  refine RD.op rfl rfl rfl (eff_load (y := .t _) rfl rfl ti36 rfl (.one rfl rfl rfl rfl)) ?_
  refine RD.op rfl rfl rfl (eff_nilCheck (v := .ptr _ _ _ _) rfl rfl rfl rfl (fun _ _ _ _ e => by cases e; exact ⟨_, rfl, rfl⟩)) ?_
  refine RD.op rfl rfl rfl (eff_fieldAddr rfl rfl tf74_1 (by decide) rfl rfl rfl (Nat.le_of_ble_eq_true rfl)) ?_
  refine RD.store rfl rfl rfl (eff_storeS (v := .t _) (ys := [_, _, _, _, _]) (els := [_]) (els' := [_]) rfl rfl ti4 rfl rfl rfl rfl rfl rfl rfl (Nat.le_of_ble_eq_true rfl) rfl rfl) ?_
  refine RD.op rfl rfl rfl (eff_nilCheck (v := .ptr _ _ _ _) rfl rfl rfl rfl (fun _ _ _ _ e => by cases e; exact ⟨_, rfl, rfl⟩)) ?_
  refine RD.op rfl rfl rfl (eff_fieldAddr rfl rfl tf74_2 (by decide) rfl rfl rfl (Nat.le_of_ble_eq_true rfl)) ?_
  refine RD.store rfl rfl rfl (eff_storeS (v := .t _) (ys := [_, _, _, _, _]) (els := [_]) (els' := [_]) rfl rfl ti36 rfl rfl rfl rfl rfl rfl rfl (Nat.le_of_ble_eq_true rfl) rfl rfl) ?_
  refine RD.nil ?_
  refine awj_rd [(some 59, []), (some 60, []), (some 61, []), (some 62, []), (some 63, [63]), (some 64, []), (some 65, []), (some 66, [66]), (some 67, []), (some 68, []), (none, [1000]), (some 69, []), (some 70, []), (none, [1000])] [[], [], [], [2], [2, 3], [], [5], [5, 6], [0, 2, 3, 4], [0, 2, 3, 4, 8], [0, 2, 3, 4, 8, 9], [0, 1, 2, 3, 4, 5, 6, 7, 8, 9, 10], [0, 1, 2, 3, 4, 5, 6, 7, 8, 9, 10, 11], [0, 1, 2, 3, 4, 5, 6, 7, 8, 9, 10, 11, 12]] tm rfl rfl rfl rfl ?_
  refine RD.op rfl rfl rfl (eff_move (v := .ptr _ _ _ _) rfl rfl rfl) ?_
  refine RD.op rfl rfl rfl (eff_move (v := .ptr _ _ _ _) rfl rfl rfl) ?_
  refine RD.op rfl rfl rfl (eff_fieldAddr rfl rfl tf38_2 (by decide) rfl rfl rfl (Nat.le_of_ble_eq_true rfl)) ?_
  refine RD.op rfl rfl rfl (eff_load (y := .t _) rfl rfl ti3 rfl (.one rfl rfl rfl rfl)) ?_
  refine RD.new rfl rfl rfl (eff_makeSliceM (id := 63) (l := n) rfl rfl te72 tz4 rfl (by decide) tb4 rfl rfl hn hn (by omega) (by omega) rfl (rep_map (f := Tr.bool) hH0)) ?_
  refine RD.op rfl rfl rfl (eff_fieldAddr rfl rfl tf38_2 (by decide) rfl rfl rfl (Nat.le_of_ble_eq_true rfl)) ?_
  refine RD.op rfl rfl rfl (eff_load (y := .t _) rfl rfl ti3 rfl (.one rfl rfl rfl rfl)) ?_
  refine RD.new rfl rfl rfl (eff_makeSliceM (id := 66) (l := n) rfl rfl te22 tz5 rfl (by decide) tb5 rfl rfl hn hn (by omega) (by omega) rfl (rep_map (f := encBy) hL0)) ?_
  refine RD.op rfl rfl rfl (eff_nilCheck (v := .ptr _ _ _ _) rfl rfl rfl rfl (fun _ _ _ _ e => by cases e; exact ⟨_, rfl, rfl⟩)) ?_
  refine RD.op rfl rfl rfl (eff_fieldAddr rfl rfl tf74_3 (by decide) rfl rfl rfl (Nat.le_of_ble_eq_true rfl)) ?_
  refine RD.store rfl rfl rfl (eff_storeA (v := .own _ _ _ _) (ys := [_, _, _, _, _]) (els := [_]) (els' := [_]) rfl rfl ti72 rfl rfl rfl rfl rfl rfl rfl (Nat.le_of_ble_eq_true rfl) rfl rfl rfl) ?_
  refine RD.op rfl rfl rfl (eff_nilCheck (v := .ptr _ _ _ _) rfl rfl rfl rfl (fun _ _ _ _ e => by cases e; exact ⟨_, rfl, rfl⟩)) ?_
  refine RD.op rfl rfl rfl (eff_fieldAddr rfl rfl tf74_4 (by decide) rfl rfl rfl (Nat.le_of_ble_eq_true rfl)) ?_
  refine RD.store rfl rfl rfl (eff_storeA (v := .own _ _ _ _) (ys := [_, _, _, _, _]) (els := [_]) (els' := [_]) rfl rfl ti22 rfl rfl rfl rfl rfl rfl rfl (Nat.le_of_ble_eq_true rfl) rfl rfl rfl) ?_
  refine RD.nil ?_
  refine awj_seq ?_
  refine awj_seq ?_
  refine awj_rj rfl ?_
  refine RJ.op rfl rfl (eff_fieldAddr rfl rfl tf38_4 (by decide) rfl rfl rfl (Nat.le_of_ble_eq_true rfl)) ?_
  refine RJ.op rfl rfl (eff_load (y := .t _) rfl rfl ti22 rfl (.one rfl rfl rfl rfl)) ?_
  refine RJ.op rfl rfl (eff_lenM rfl rfl te22 rfl) ?_
  refine RJ.op rfl rfl (eff_move (v := .t _) rfl rfl rfl) ?_
  refine RJ.nil ?_
  refine awj_block ?_
  refine awj_loopW (fun m s g => ∃ (i : Nat), (i ≤ q.data.length) ∧ m = q.data.length - i ∧ s = ⟨130, [(0, .ptr 1000 0 0 0), (3, .ptr 3 0 0 0), (72, .t (.sl (q.data.map encBy) false)), (73, .t (encI q.data.length)), (74, .t (encI (i : Nat)))], [(1000, some ⟨5, 74, 0, [.agg [.t (encI q.file), .t (.bool true), .t (.int .u32 q.sum), .own 63 0 0 n, .own 66 0 0 n]]⟩), (63, some ⟨1, 4, 0, (H.map Tr.bool).map .t⟩), (66, some ⟨1, 5, 0, (L.map encBy).map .t⟩), (3, some ⟨5, 38, 0, [.t (encSg q)]⟩)]⟩) (_) (⟨_, weak_keep (n := 130) (fr' := [(0, .ptr 1000 0 0 0), (3, .ptr 3 0 0 0), (72, .t (.sl (q.data.map encBy) false)), (73, .t (encI q.data.length)), (74, .t (encI (0 : Nat)))]) (st' := [(1000, some ⟨5, 74, 0, [.agg [.t (encI q.file), .t (.bool true), .t (.int .u32 q.sum), .own 63 0 0 n, .own 66 0 0 n]]⟩), (63, some ⟨1, 4, 0, (H.map Tr.bool).map .t⟩), (66, some ⟨1, 5, 0, (L.map encBy).map .t⟩), (3, some ⟨5, 38, 0, [.t (encSg q)]⟩)]) ⟨rfl, rfl, rfl, rfl, rfl, rfl, rfl, rfl, rfl, rfl, trivial⟩ ⟨rfl, okE_one rfl, rfl, okE_t, rfl, okE_t, rfl, okE_one rfl, trivial⟩, 0, (by omega), rfl, rfl⟩) ?_
  rintro m s g ⟨i, hi, rfl, rfl⟩
  refine awj_seq ?_
  refine awj_rj rfl ?_
  refine RJ.op rfl rfl (eff_iop rfl rfl rfl rfl rfl) ?_
  refine RJ.nil ?_
  refine awj_seq ?_
  refine awj_cond rfl (fun h1 => ?_) (fun h1 => ?_)
  · try simp only [decide_eq_true_eq, decide_eq_false_iff_not, beq_iff_eq, bne_iff_ne, bne_eq_false_iff_eq, beq_eq_false_iff_ne, Bool.not_eq_true, Bool.not_eq_false, Bool.not_eq_true', Bool.not_eq_false', ne_eq] at h1
    refine awj_skip ?_
    refine awj_seq ?_
    refine awj_block ?_
    refine awj_seq ?_
    refine awj_rj rfl ?_
    refine RJ.op rfl rfl (eff_move (v := .t _) rfl rfl rfl) ?_
    refine RJ.op rfl rfl (eff_indexM rfl rfl te22 rfl rfl rfl (by first | assumption | exact List.getElem?_eq_getElem (by omega)) rfl (by decide)) ?_
    refine RJ.op rfl rfl (eff_loadW1 rfl rfl ti5 rfl rfl) ?_
    refine RJ.op rfl rfl (eff_assign (v := .t _) rfl rfl rfl) ?_
    refine RJ.op rfl rfl (eff_assign (v := .t _) rfl rfl rfl) ?_
    refine RJ.nil ?_
    refine awj_seq ?_
    refine awj_rj rfl ?_
    refine RJ.op rfl rfl (eff_fieldAddr rfl rfl tf38_1 (by decide) rfl rfl rfl (Nat.le_of_ble_eq_true rfl)) ?_
    refine RJ.op rfl rfl (eff_load (y := .t _) rfl rfl ti3 rfl (.one rfl rfl rfl rfl)) ?_
    refine RJ.op rfl rfl (eff_move (v := .t _) rfl rfl rfl) ?_
    refine RJ.op rfl rfl (eff_iop rfl rfl rfl rfl (iadd (by omega))) ?_
    refine RJ.op rfl rfl (eff_assign (v := .t _) rfl rfl rfl) ?_
    refine RJ.nil ?_
    refine awj_seq ?_
    refine awj_rj rfl ?_
    refine RJ.op rfl rfl (eff_move (v := .ptr _ _ _ _) rfl rfl rfl) ?_
    refine RJ.op rfl rfl (eff_nilCheck (v := .ptr _ _ _ _) rfl rfl rfl rfl (fun _ _ _ _ e => by cases e; exact ⟨_, rfl, rfl⟩)) ?_
    refine RJ.op rfl rfl (eff_fieldAddr rfl rfl tf74_3 (by decide) rfl rfl rfl (Nat.le_of_ble_eq_true rfl)) ?_
    refine RJ.op rfl rfl (eff_load (y := .own _ _ _ _) rfl rfl ti72 rfl (.one rfl rfl rfl rfl)) ?_
    refine RJ.op rfl rfl (eff_move (v := .t _) rfl rfl rfl) ?_
    refine RJ.op rfl rfl (eff_indexAddr (i := off + i) rfl rfl te72 rfl rfl (by rw [ho]; omega) rfl rfl rfl (by omega)) ?_
    refine RJ.op rfl rfl (eff_load (y := .t (.bool (H.getD (off + i) false))) rfl rfl ti4 rfl (.one (el := .t (.bool (H.getD (off + i) false))) rfl rfl (by rw [Nat.zero_add]; exact mget (f := Tr.bool) false (by omega)) rfl)) ?_
    refine RJ.op rfl rfl (eff_move (v := .t _) rfl rfl rfl) ?_
    refine RJ.split 90 rfl (fun h2 => ?_) (fun h2 => ?_)
    · try simp only [decide_eq_true_eq, decide_eq_false_iff_not, beq_iff_eq, bne_iff_ne, bne_eq_false_iff_eq, beq_eq_false_iff_ne, Bool.not_eq_true, Bool.not_eq_false, Bool.not_eq_true', Bool.not_eq_false', ne_eq] at h2
      refine RJ.gop rfl rfl rfl rfl rfl rfl (eff_move (v := .ptr _ _ _ _) rfl rfl rfl) ?_
      refine RJ.gop rfl rfl rfl rfl rfl rfl (eff_nilCheck (v := .ptr _ _ _ _) rfl rfl rfl rfl (fun _ _ _ _ e => by cases e; exact ⟨_, rfl, rfl⟩)) ?_
      refine RJ.gop rfl rfl rfl rfl rfl rfl (eff_fieldAddr rfl rfl tf74_4 (by decide) rfl rfl rfl (Nat.le_of_ble_eq_true rfl)) ?_
      refine RJ.gop rfl rfl rfl rfl rfl rfl (eff_load (y := .own _ _ _ _) rfl rfl ti22 rfl (.one rfl rfl rfl rfl)) ?_
      refine RJ.gop rfl rfl rfl rfl rfl rfl (eff_move (v := .t _) rfl rfl rfl) ?_
      refine RJ.gop rfl rfl rfl rfl rfl rfl (eff_indexAddr (i := off + i) rfl rfl te22 rfl rfl (by rw [ho]; omega) rfl rfl rfl (by omega)) ?_
      refine RJ.gop rfl rfl rfl rfl rfl rfl (eff_load (y := .t (encBy (L.getD (off + i) 0))) rfl rfl ti5 rfl (.one (el := .t (encBy (L.getD (off + i) 0))) rfl rfl (by rw [Nat.zero_add]; exact mget (f := encBy) 0 (by omega)) rfl)) ?_
      refine RJ.gop rfl rfl rfl rfl rfl rfl (eff_move (v := .t _) rfl rfl rfl) ?_
      refine RJ.gop rfl rfl rfl rfl rfl rfl (eff_iop (r := .bool false) rfl rfl rfl rfl (by show some (Tr.bool ((_ : Int) != _)) = _; rw [hcf i (by omega) (by assumption)]; simp [List.getD_eq_getElem?_getD, List.getElem?_eq_getElem (show i < q.data.length by omega)])) ?_
      refine RJ.op rfl rfl (eff_pick (v := .t _) rfl rfl rfl rfl) ?_
      refine RJ.nil ?_
      refine awj_cond rfl (fun h => nomatch h) (fun _ => ?_)
      refine awj_skip ?_
      refine awj_rj rfl ?_
      refine RJ.op rfl rfl (eff_iop rfl rfl rfl rfl (iadd (by omega))) ?_
      refine RJ.op rfl rfl (eff_move (v := .t _) rfl rfl rfl) ?_
      refine RJ.nil ?_
      refine ⟨_, ?_, _, weak_keep (n := 130) (fr' := [(0, .ptr 1000 0 0 0), (3, .ptr 3 0 0 0), (72, .t (.sl (q.data.map encBy) false)), (73, .t (encI q.data.length)), (74, .t (encI ((i + 1) : Nat)))]) (st' := [(1000, some ⟨5, 74, 0, [.agg [.t (encI q.file), .t (.bool true), .t (.int .u32 q.sum), .own 63 0 0 n, .own 66 0 0 n]]⟩), (63, some ⟨1, 4, 0, (H.map Tr.bool).map .t⟩), (66, some ⟨1, 5, 0, (L.map encBy).map .t⟩), (3, some ⟨5, 38, 0, [.t (encSg q)]⟩)]) ⟨rfl, rfl, rfl, rfl, rfl, rfl, rfl, rfl, rfl, rfl, trivial⟩ ⟨rfl, okE_one rfl, rfl, okE_t, rfl, okE_t, rfl, okE_one rfl, trivial⟩, i + 1, (by omega), rfl, rfl⟩
      omega
    · try simp only [decide_eq_true_eq, decide_eq_false_iff_not, beq_iff_eq, bne_iff_ne, bne_eq_false_iff_eq, beq_eq_false_iff_ne, Bool.not_eq_true, Bool.not_eq_false, Bool.not_eq_true', Bool.not_eq_false', ne_eq] at h2
      refine RJ.gskip rfl rfl rfl rfl rfl (by decide) ?_
      refine RJ.gskip rfl rfl rfl rfl rfl (by decide) ?_
      refine RJ.gskip rfl rfl rfl rfl rfl (by decide) ?_
      refine RJ.gskip rfl rfl rfl rfl rfl (by decide) ?_
      refine RJ.gskip rfl rfl rfl rfl rfl (by decide) ?_
      refine RJ.gskip rfl rfl rfl rfl rfl (by decide) ?_
      refine RJ.gskip rfl rfl rfl rfl rfl (by decide) ?_
      refine RJ.gskip rfl rfl rfl rfl rfl (by decide) ?_
      refine RJ.gskip rfl rfl rfl rfl rfl (by decide) ?_
      refine RJ.op rfl rfl (eff_pick (v := .t _) rfl rfl rfl rfl) ?_
      refine RJ.nil ?_
      refine awj_cond rfl (fun h => nomatch h) (fun _ => ?_)
      refine awj_skip ?_
      refine awj_rj rfl ?_
      refine RJ.op rfl rfl (eff_iop rfl rfl rfl rfl (iadd (by omega))) ?_
      refine RJ.op rfl rfl (eff_move (v := .t _) rfl rfl rfl) ?_
      refine RJ.nil ?_
      refine ⟨_, ?_, _, weak_keep (n := 130) (fr' := [(0, .ptr 1000 0 0 0), (3, .ptr 3 0 0 0), (72, .t (.sl (q.data.map encBy) false)), (73, .t (encI q.data.length)), (74, .t (encI ((i + 1) : Nat)))]) (st' := [(1000, some ⟨5, 74, 0, [.agg [.t (encI q.file), .t (.bool true), .t (.int .u32 q.sum), .own 63 0 0 n, .own 66 0 0 n]]⟩), (63, some ⟨1, 4, 0, (H.map Tr.bool).map .t⟩), (66, some ⟨1, 5, 0, (L.map encBy).map .t⟩), (3, some ⟨5, 38, 0, [.t (encSg q)]⟩)]) ⟨rfl, rfl, rfl, rfl, rfl, rfl, rfl, rfl, rfl, rfl, trivial⟩ ⟨rfl, okE_one rfl, rfl, okE_t, rfl, okE_t, rfl, okE_one rfl, trivial⟩, i + 1, (by omega), rfl, rfl⟩
      omega
  · try simp only [decide_eq_true_eq, decide_eq_false_iff_not, beq_iff_eq, bne_iff_ne, bne_eq_false_iff_eq, beq_eq_false_iff_ne, Bool.not_eq_true, Bool.not_eq_false, Bool.not_eq_true', Bool.not_eq_false', ne_eq] at h1
    refine awj_exit ?_
    refine awj_seq ?_
    refine awj_seq ?_
    refine awj_rj rfl ?_
    refine RJ.op rfl rfl (eff_fieldAddr rfl rfl tf38_4 (by decide) rfl rfl rfl (Nat.le_of_ble_eq_true rfl)) ?_
    refine RJ.op rfl rfl (eff_load (y := .t _) rfl rfl ti22 rfl (.one rfl rfl rfl rfl)) ?_
    refine RJ.op rfl rfl (eff_lenM rfl rfl te22 rfl) ?_
    refine RJ.op rfl rfl (eff_move (v := .t _) rfl rfl rfl) ?_
    refine RJ.nil ?_
    refine awj_block ?_
    refine awj_loopW (fun m s g => ∃ (i : Nat) (Hs : List Bool) (Ls : List Int), (i ≤ q.data.length) ∧ (Hs = putL H off (List.replicate i true)) ∧ (Ls = putL L off (q.data.take i)) ∧ m = q.data.length - i ∧ s = ⟨130, [(0, .ptr 1000 0 0 0), (3, .ptr 3 0 0 0), (103, .t (.sl (q.data.map encBy) false)), (104, .t (encI q.data.length)), (105, .t (encI (i : Nat)))], [(1000, some ⟨5, 74, 0, [.agg [.t (encI q.file), .t (.bool true), .t (.int .u32 q.sum), .own 63 0 0 n, .own 66 0 0 n]]⟩), (63, some ⟨1, 4, 0, (Hs.map Tr.bool).map .t⟩), (66, some ⟨1, 5, 0, (Ls.map encBy).map .t⟩), (3, some ⟨5, 38, 0, [.t (encSg q)]⟩)]⟩) (_) (⟨_, weak_keep (n := 130) (fr' := [(0, .ptr 1000 0 0 0), (3, .ptr 3 0 0 0), (103, .t (.sl (q.data.map encBy) false)), (104, .t (encI q.data.length)), (105, .t (encI (0 : Nat)))]) (st' := [(1000, some ⟨5, 74, 0, [.agg [.t (encI q.file), .t (.bool true), .t (.int .u32 q.sum), .own 63 0 0 n, .own 66 0 0 n]]⟩), (63, some ⟨1, 4, 0, (H.map Tr.bool).map .t⟩), (66, some ⟨1, 5, 0, (L.map encBy).map .t⟩), (3, some ⟨5, 38, 0, [.t (encSg q)]⟩)]) ⟨rfl, rfl, rfl, rfl, rfl, rfl, rfl, rfl, rfl, rfl, trivial⟩ ⟨rfl, okE_one rfl, rfl, okE_t, rfl, okE_t, rfl, okE_one rfl, trivial⟩, 0, H, L, (by omega), (by exact (putL_nil _ _).symm), (by rw [List.take_zero, putL_nil]), rfl, rfl⟩) ?_
    rintro m s g ⟨i, Hs, Ls, hi, hHs, hLs, rfl, rfl⟩
    have hHl : Hs.length = n := by rw [hHs, putL_len (by simp; omega)]; exact hH
    have hLl : Ls.length = n := by rw [hLs, putL_len (by simp; omega)]; exact hL
    refine awj_seq ?_
    refine awj_rj rfl ?_
    refine RJ.op rfl rfl (eff_iop rfl rfl rfl rfl rfl) ?_
    refine RJ.nil ?_
    refine awj_seq ?_
    refine awj_cond rfl (fun h3 => ?_) (fun h3 => ?_)
    · try simp only [decide_eq_true_eq, decide_eq_false_iff_not, beq_iff_eq, bne_iff_ne, bne_eq_false_iff_eq, beq_eq_false_iff_ne, Bool.not_eq_true, Bool.not_eq_false, Bool.not_eq_true', Bool.not_eq_false', ne_eq] at h3
      refine awj_skip ?_
      refine awj_seq ?_
      refine awj_block ?_
      refine awj_seq ?_
      refine awj_rj rfl ?_
      refine RJ.op rfl rfl (eff_move (v := .t _) rfl rfl rfl) ?_
      refine RJ.op rfl rfl (eff_indexM rfl rfl te22 rfl rfl rfl (by first | assumption | exact List.getElem?_eq_getElem (by omega)) rfl (by decide)) ?_
      refine RJ.op rfl rfl (eff_loadW1 rfl rfl ti5 rfl rfl) ?_
      refine RJ.op rfl rfl (eff_assign (v := .t _) rfl rfl rfl) ?_
      refine RJ.op rfl rfl (eff_assign (v := .t _) rfl rfl rfl) ?_
      refine RJ.nil ?_
      refine awj_rd [(some 110, []), (some 111, []), (some 112, []), (some 113, []), (some 114, []), (some 115, []), (some 116, []), (some 117, []), (some 118, []), (some 119, []), (some 120, []), (some 121, []), (some 122, []), (some 123, []), (some 124, []), (some 125, []), (some 126, []), (some 127, []), (none, [63]), (some 128, []), (none, [66])] [[], [0], [0, 1], [0, 1, 2], [], [4], [], [4, 5, 6], [], [8], [8, 9], [8, 9, 10], [], [12], [], [12, 13, 14], [], [0, 1, 2, 3, 4, 5, 6, 7, 8, 9, 10, 11], [0, 1, 2, 3, 4, 5, 6, 7, 8, 9, 10, 11, 17], [0, 1, 2, 3, 4, 5, 6, 7, 8, 9, 10, 11, 12, 13, 14, 15, 16, 17, 18], [0, 1, 2, 3, 4, 5, 6, 7, 8, 9, 10, 11, 12, 13, 14, 15, 16, 17, 18, 19]] tm rfl rfl rfl rfl ?_
      refine RD.op rfl rfl rfl (eff_move (v := .ptr _ _ _ _) rfl rfl rfl) ?_
      refine RD.op rfl rfl rfl (eff_nilCheck (v := .ptr _ _ _ _) rfl rfl rfl rfl (fun _ _ _ _ e => by cases e; exact ⟨_, rfl, rfl⟩)) ?_
      refine RD.op rfl rfl rfl (eff_fieldAddr rfl rfl tf74_3 (by decide) rfl rfl rfl (Nat.le_of_ble_eq_true rfl)) ?_
      refine RD.op rfl rfl rfl (eff_load (y := .own _ _ _ _) rfl rfl ti72 rfl (.one rfl rfl rfl rfl)) ?_
      refine RD.op rfl rfl rfl (eff_fieldAddr rfl rfl tf38_1 (by decide) rfl rfl rfl (Nat.le_of_ble_eq_true rfl)) ?_
      refine RD.op rfl rfl rfl (eff_load (y := .t _) rfl rfl ti3 rfl (.one rfl rfl rfl rfl)) ?_
      refine RD.op rfl rfl rfl (eff_move (v := .t _) rfl rfl rfl) ?_
      refine RD.op rfl rfl rfl (eff_iop rfl rfl rfl rfl (iadd (by omega))) ?_
      refine RD.op rfl rfl rfl (eff_move (v := .ptr _ _ _ _) rfl rfl rfl) ?_
      refine RD.op rfl rfl rfl (eff_nilCheck (v := .ptr _ _ _ _) rfl rfl rfl rfl (fun _ _ _ _ e => by cases e; exact ⟨_, rfl, rfl⟩)) ?_
      refine RD.op rfl rfl rfl (eff_fieldAddr rfl rfl tf74_4 (by decide) rfl rfl rfl (Nat.le_of_ble_eq_true rfl)) ?_
      refine RD.op rfl rfl rfl (eff_load (y := .own _ _ _ _) rfl rfl ti22 rfl (.one rfl rfl rfl rfl)) ?_
      refine RD.op rfl rfl rfl (eff_fieldAddr rfl rfl tf38_1 (by decide) rfl rfl rfl (Nat.le_of_ble_eq_true rfl)) ?_
      refine RD.op rfl rfl rfl (eff_load (y := .t _) rfl rfl ti3 rfl (.one rfl rfl rfl rfl)) ?_
      refine RD.op rfl rfl rfl (eff_move (v := .t _) rfl rfl rfl) ?_
      refine RD.op rfl rfl rfl (eff_iop rfl rfl rfl rfl (iadd (by omega))) ?_
      refine RD.op rfl rfl rfl (eff_move (v := .t _) rfl rfl rfl) ?_
      refine RD.op rfl rfl rfl (eff_indexAddr (i := off + i) rfl rfl te72 rfl rfl (by rw [ho]; omega) rfl rfl rfl (by omega)) ?_
      refine RD.store rfl rfl rfl (eff_storeW (v := .t (.bool true)) (els' := ((Hs.set (off + i) true).map Tr.bool).map .t) (el := .t (.bool (Hs.getD (off + i) false))) rfl rfl ti4 rfl rfl rfl rfl rfl rfl (by rw [Nat.zero_add]; exact mget (f := Tr.bool) false (by omega)) rfl (by rw [Nat.zero_add]; exact mset)) ?_
      refine RD.op rfl rfl rfl (eff_indexAddr (i := off + i) rfl rfl te22 rfl rfl (by rw [ho]; omega) rfl rfl rfl (by omega)) ?_
      refine RD.store rfl rfl rfl (eff_storeW (v := .t (encBy (q.data[i]'(by omega)))) (els' := ((Ls.set (off + i) (q.data[i]'(by omega))).map encBy).map .t) (el := .t (encBy (Ls.getD (off + i) 0))) rfl rfl ti5 rfl rfl rfl rfl rfl rfl (by rw [Nat.zero_add]; exact mget (f := encBy) 0 (by omega)) rfl (by rw [Nat.zero_add]; exact mset)) ?_
      refine RD.nil ?_
      refine awj_rj rfl ?_
      refine RJ.op rfl rfl (eff_iop rfl rfl rfl rfl (iadd (by omega))) ?_
      refine RJ.op rfl rfl (eff_move (v := .t _) rfl rfl rfl) ?_
      refine RJ.nil ?_
      refine ⟨_, ?_, _, weak_keep (n := 130) (fr' := [(0, .ptr 1000 0 0 0), (3, .ptr 3 0 0 0), (103, .t (.sl (q.data.map encBy) false)), (104, .t (encI q.data.length)), (105, .t (encI ((i + 1) : Nat)))]) (st' := [(1000, some ⟨5, 74, 0, [.agg [.t (encI q.file), .t (.bool true), .t (.int .u32 q.sum), .own 63 0 0 n, .own 66 0 0 n]]⟩), (63, some ⟨1, 4, 0, ((Hs.set (off + i) true).map Tr.bool).map .t⟩), (66, some ⟨1, 5, 0, ((Ls.set (off + i) (q.data[i]'(by omega))).map encBy).map .t⟩), (3, some ⟨5, 38, 0, [.t (encSg q)]⟩)]) ⟨rfl, rfl, rfl, rfl, rfl, rfl, rfl, rfl, rfl, rfl, trivial⟩ ⟨rfl, okE_one rfl, rfl, okE_t, rfl, okE_t, rfl, okE_one rfl, trivial⟩, i + 1, Hs.set (off + i) true, Ls.set (off + i) (q.data[i]'(by omega)), (by omega), (by rw [hHs, putL_rep (by omega)]), (by rw [hLs, putL_take (by omega) (by omega)]), rfl, rfl⟩
      omega
    · try simp only [decide_eq_true_eq, decide_eq_false_iff_not, beq_iff_eq, bne_iff_ne, bne_eq_false_iff_eq, beq_eq_false_iff_ne, Bool.not_eq_true, Bool.not_eq_false, Bool.not_eq_true', Bool.not_eq_false', ne_eq] at h3
      refine awj_exit ?_
      refine awj_seq ?_
      refine awj_rj rfl ?_
      refine RJ.op rfl rfl (eff_assign (v := .t _) rfl rfl rfl) ?_
      refine RJ.nil ?_
      refine awj_ret ?_
      obtain rfl : i = q.data.length := by omega
      rw [List.take_length] at hLs
      subst hHs
      subst hLs
      exact ⟨Or.inr rfl, [_], [.t (encI 0)], ⟨.tmp rfl, trivial⟩, rfl, weak_gen ⟨.t _, .ptr 1000 0 0 0 0 rfl rfl rfl rfl rfl rfl, trivial⟩ ⟨⟨_, rfl, rfl, rfl, rfl, gen_agg ⟨⟨.t _, AV.noConfusion⟩, ⟨.t _, AV.noConfusion⟩, ⟨.t _, AV.noConfusion⟩, ⟨.own 63 _ _ 0 _ rfl rfl rfl rfl rfl rfl rfl, AV.noConfusion⟩, ⟨.own 66 _ _ 0 _ rfl rfl rfl rfl rfl rfl rfl, AV.noConfusion⟩, trivial⟩⟩, ⟨_, rfl, rfl, rfl, rfl, gen_trees⟩, ⟨_, rfl, rfl, rfl, rfl, gen_trees⟩, trivial⟩, rfl⟩

end Go.Tv.D27

end
section
open Go Go.Tv Go.Proofs
namespace Go.Tv.D27

/-- The bundle that carries piece i. -/
def bw (b : List Int) (z i : Nat) : Bundle := ⟨100 + (i : Int), 0, 2, 3, (i * z : Nat), b.length, crcF b, (b.drop (i * z)).take z⟩
def mkV (b : List Int) (z : Nat) : List Bundle := (List.range (segN b z)).map (bw b z)

theorem segN_mul {b : List Int} {z : Nat} (hz : 0 < z) : segN b z * z < b.length + z ∧ b.length ≤ segN b z * z := by
  unfold segN
  have h1 := Nat.div_mul_le_self (b.length + z - 1) z
  have h2 := Nat.lt_div_mul_add (a := b.length + z - 1) hz
  omega

theorem segN_le {b : List Int} {z : Nat} (hl : b.length ≤ 1000) (hz : 16 ≤ z) : segN b z ≤ 63 := by
  have h := (segN_mul (b := b) (z := z) (by omega)).1
  rcases Nat.lt_or_ge (segN b z) 64 with h1 | h1
  · omega
  · have := Nat.mul_le_mul_right z h1
    omega

theorem used_lim {k : Int} : ∀ {l : List Bundle}, (∀ b, b ∈ l → size b ≤ k) → used l ≤ k * (l.length : Int)
  | [], _ => by simp [used]
  | b :: l, h => by
    have h1 := h b List.mem_cons_self
    have h2 := used_lim (fun x hx => h x (List.mem_cons_of_mem _ hx))
    have h3 : k * (((b :: l).length : Nat) : Int) = k * (l.length : Int) + k := by rw [List.length_cons, Int.natCast_add, Int.mul_add]; simp
    rw [h3]
    simp only [used]
    omega

theorem bytes_sub {b : List Int} (h : Bytes b) (p z : Nat) : Bytes ((b.drop p).take z) := fun x hx => h x (List.mem_of_mem_drop (List.mem_of_mem_take hx))

theorem mkV_univ {b : List Int} {z : Nat} (hb : Bytes b) (hl : b.length ≤ 1000) (hz : 16 ≤ z) (hz2 : z ≤ 256) : Univ (mkV b z) where
  nd := by
    unfold mkV
    rw [List.map_map]
    refine (List.pairwise_map.2 ?_ : List.Pairwise (· ≠ ·) _)
    refine List.Pairwise.imp ?_ (List.pairwise_lt_range (n := segN b z))
    intro i j hij
    show (100 + (i : Int)) ≠ 100 + (j : Int)
    omega
  len := by
    have := segN_le hl hz
    unfold mkV; simp; omega
  usd := by
    have h1 := used_lim (k := (z : Int) + 16) (l := mkV b z) (fun x hx => by
      unfold mkV at hx
      obtain ⟨i, _, rfl⟩ := List.mem_map.1 hx
      unfold size bw
      have : ((b.drop (i * z)).take z).length ≤ z := List.length_take_le _ _
      show (((b.drop (i * z)).take z).length : Int) + 16 ≤ _
      omega)
    have h2 := (segN_mul (b := b) (z := z) (by omega)).1
    have h3 := segN_le hl hz
    have h4 : (mkV b z).length = segN b z := by unfold mkV; simp
    rw [h4, Int.add_mul] at h1
    have h5 : (z : Int) * (segN b z : Int) = ((segN b z * z : Nat) : Int) := by rw [Nat.mul_comm]; exact (Int.natCast_mul _ _).symm
    rw [h5] at h1
    omega
  ok := fun x hx => by
    unfold mkV at hx
    obtain ⟨i, _, rfl⟩ := List.mem_map.1 hx
    refine ⟨?_, bytes_sub hb _ _⟩
    have : ((b.drop (i * z)).take z).length ≤ z := List.length_take_le _ _
    show ((b.drop (i * z)).take z).length ≤ 256
    omega

theorem mkV_mem {b : List Int} {z i : Nat} (hi : i < segN b z) : bw b z i ∈ mkV b z := List.mem_map.2 ⟨i, List.mem_range.2 hi, rfl⟩
end Go.Tv.D27

end
section
open Go Go.Tv Go.Proofs
namespace Go.Tv.D27
set_option linter.unusedVariables false

def baseH (kn : Bool) (n : Nat) (H : List Bool) : List Bool := if kn then H else List.replicate n false
def baseL (kn : Bool) (n : Nat) (L : List Int) : List Int := if kn then L else List.replicate n 0

/-- What is known of a part that is being put together from d. -/
structure PartOK (d : List Int) (kn : Bool) (sm s : Int) (gn m n : Nat) (H : List Bool) (L : List Int) : Prop where
  yes : kn = true → sm = s ∧ m = n ∧ H.length = n ∧ L.length = n
  no : kn = false → gn = 0 ∧ m = 0 ∧ H = [] ∧ L = []
  eq : ∀ p, H.getD p false = true → L.getD p 0 = d.getD p 0

theorem put_any (q : Seg) (d : List Int) (kn : Bool) (sm : Int) (gn m n off : Nat) (H : List Bool) (L : List Int) (h1 : 0 ≤ q.total) (h2 : q.total ≤ 65536) (h3 : q.data.length ≤ 256) (ho : q.offset = (off : Nat))
    (h5 : off + q.data.length ≤ n) (hn : q.total = (n : Nat)) (hd : ∀ i, i < q.data.length → q.data.getD i 0 = d.getD (off + i) 0) (hP : PartOK d kn sm q.sum gn m n H L) :
    RetK Tryd.prog 10 [(1000, some ⟨5, 74, 0, [.agg [.t (encI q.file), .t (.bool kn), .t (.int .u32 sm), .own 63 gn 0 m, .own 66 gn 0 m]]⟩), (63, some ⟨1, 4, gn, (H.map Tr.bool).map .t⟩), (66, some ⟨1, 5, gn, (L.map encBy).map .t⟩)]
      [.ptr 1000 0 0 0, .t (encSg q)]
      [(1000, some ⟨5, 74, 0, [.agg [.t (encI q.file), .t (.bool true), .t (.int .u32 q.sum), .own 63 (gn + 1) 0 n, .own 66 (gn + 1) 0 n]]⟩), (63, some ⟨1, 4, gn + 1, ((putL (baseH kn n H) off (List.replicate q.data.length true)).map Tr.bool).map .t⟩), (66, some ⟨1, 5, gn + 1, ((putL (baseL kn n L) off q.data).map encBy).map .t⟩)]
      (.t (encI 0)) [(0, .ptr 1000 0 0 0)] := by
  cases kn with
  | true =>
    obtain ⟨rfl, rfl, e3, e4⟩ := hP.yes rfl
    exact put_known q gn m off H L h1 h2 h3 ho h5 hn e3 e4 (fun i hi h => by rw [hP.eq _ h, hd i hi])
  | false =>
    obtain ⟨rfl, rfl, rfl, rfl⟩ := hP.no rfl
    exact put_first q sm n off h1 h2 h3 ho h5 hn _ _ rfl rfl

theorem putL_getD {α : Type} {l vs : List α} {o p : Nat} {z : α} (h : o + vs.length ≤ l.length) : (putL l o vs).getD p z = if o ≤ p ∧ p < o + vs.length then vs.getD (p - o) z else l.getD p z := by
  unfold putL
  have h1 : (l.take o).length = o := by rw [List.length_take]; omega
  simp only [List.getD_eq_getElem?_getD]
  by_cases hp : p < o
  · rw [if_neg (by omega), List.append_assoc, List.getElem?_append_left (by omega), List.getElem?_take, if_pos hp]
  · by_cases hq : p < o + vs.length
    · rw [if_pos ⟨by omega, hq⟩, List.getElem?_append_left (by simp; omega), List.getElem?_append_right (by omega), h1]
    · rw [if_neg (by omega), List.getElem?_append_right (by simp; omega), List.getElem?_drop]
      congr 2
      simp only [List.length_append, h1]
      omega

theorem getD_rep {n p : Nat} : (List.replicate n false).getD p false = false := by
  rw [List.getD_eq_getElem?_getD, List.getElem?_replicate]
  split <;> rfl

/-- The part behind a Put. -/
theorem PartOK.put {d : List Int} {kn : Bool} {sm s : Int} {gn m n off : Nat} {H : List Bool} {L : List Int} {data : List Int} (hP : PartOK d kn sm s gn m n H L) (h5 : off + data.length ≤ n)
    (hd : ∀ i, i < data.length → data.getD i 0 = d.getD (off + i) 0) :
    PartOK d true s s (gn + 1) n n (putL (baseH kn n H) off (List.replicate data.length true)) (putL (baseL kn n L) off data) ∧
    (∀ p, off ≤ p → p < off + data.length → (putL (baseH kn n H) off (List.replicate data.length true)).getD p false = true) ∧
    ∀ p, H.getD p false = true → (putL (baseH kn n H) off (List.replicate data.length true)).getD p false = true := by
  have hbH : (baseH kn n H).length = n := by
    cases kn with
    | true => exact (hP.yes rfl).2.2.1
    | false => simp [baseH]
  have hbL : (baseL kn n L).length = n := by
    cases kn with
    | true => exact (hP.yes rfl).2.2.2
    | false => simp [baseL]
  have hH : ∀ p, (putL (baseH kn n H) off (List.replicate data.length true)).getD p false = if off ≤ p ∧ p < off + data.length then true else (baseH kn n H).getD p false := fun p => by
    rw [putL_getD (by rw [List.length_replicate, hbH]; exact h5), List.length_replicate]
    split
    · rename_i h
      rw [List.getD_eq_getElem?_getD, List.getElem?_replicate, if_pos (by omega)]; rfl
    · rfl
  have hL : ∀ p, (putL (baseL kn n L) off data).getD p 0 = if off ≤ p ∧ p < off + data.length then data.getD (p - off) 0 else (baseL kn n L).getD p 0 := fun p => putL_getD (by rw [hbL]; exact h5)
  have hb : ∀ p, H.getD p false = true → (baseH kn n H).getD p false = true := fun p h => by
    cases kn with
    | true => exact h
    | false => rw [(hP.no rfl).2.2.1] at h; simp at h
  refine ⟨⟨fun _ => ⟨rfl, rfl, ?_, ?_⟩, (fun h => nomatch h), fun p h => ?_⟩, fun p h1 h2 => ?_, fun p h => ?_⟩
  · rw [putL_len (by rw [List.length_replicate, hbH]; exact h5)]; exact hbH
  · rw [putL_len (by rw [hbL]; exact h5)]; exact hbL
  · rw [hL]
    rw [hH] at h
    split
    · rename_i hc
      rw [hd (p - off) (by omega)]
      congr 1; omega
    · rename_i hc
      rw [if_neg hc] at h
      cases kn with
      | true => exact hP.eq p h
      | false => rw [show baseH false n H = List.replicate n false from rfl, getD_rep] at h; cases h
  · rw [hH, if_pos ⟨h1, h2⟩]
  · rw [hH]
    split
    · rfl
    · exact hb p h
end Go.Tv.D27

end
section
open Go Go.Tv Go.Proofs
namespace Go.Tv.D27

theorem cover {b : List Int} {z p : Nat} (hz : 0 < z) (hp : p < b.length) : p / z < segN b z ∧ p / z * z ≤ p ∧ p < p / z * z + ((b.drop (p / z * z)).take z).length := by
  have h1 := Nat.div_mul_le_self p z
  have h2 := Nat.lt_div_mul_add (a := p) hz
  have h3 := (segN_mul (b := b) hz).2
  refine ⟨?_, h1, ?_⟩
  · rcases Nat.lt_or_ge (p / z) (segN b z) with h | h
    · exact h
    · have := Nat.mul_le_mul_right z h
      omega
  · rw [List.length_take, List.length_drop]
    omega

theorem piece_getD {b : List Int} {z i j : Nat} (hj : j < ((b.drop (i * z)).take z).length) : ((b.drop (i * z)).take z).getD j 0 = b.getD (i * z + j) 0 := by
  have h2 : j < z := by rw [List.length_take] at hj; omega
  rw [List.getD_eq_getElem?_getD, List.getD_eq_getElem?_getD, List.getElem?_take, if_pos h2, List.getElem?_drop]

theorem piece_in {b : List Int} {z i : Nat} (hi : i < segN b z) (hz : 0 < z) : i * z + ((b.drop (i * z)).take z).length ≤ b.length := by
  have h1 := (segN_mul (b := b) hz).1
  have h2 : (i + 1) * z ≤ segN b z * z := Nat.mul_le_mul_right z hi
  rw [Nat.succ_mul] at h2
  rw [List.length_take, List.length_drop]
  omega

/-- When all pieces were put, the part is the file. -/
theorem part_whole {b : List Int} {sm s : Int} {gn m n : Nat} {H : List Bool} {L : List Int} (hP : PartOK b true sm s gn m n H L) (hn : n = b.length) (hall : ∀ p, p < n → H.getD p false = true) :
    H = List.replicate n true ∧ L = b := by
  obtain ⟨_, _, h3, h4⟩ := hP.yes rfl
  constructor
  · refine List.ext_getElem (by rw [h3]; simp) (fun i hi _ => ?_)
    have := hall i (by omega)
    rw [List.getD_eq_getElem?_getD, List.getElem?_eq_getElem hi] at this
    simpa using this
  · refine List.ext_getElem (by omega) (fun i hi hi2 => ?_)
    have := hP.eq i (hall i (by omega))
    rw [List.getD_eq_getElem?_getD, List.getElem?_eq_getElem hi, List.getD_eq_getElem?_getD, List.getElem?_eq_getElem hi2] at this
    simpa using this
end Go.Tv.D27

end
section
open Go Go.Tv Go.Proofs
namespace Go.Tv.D27
set_option maxRecDepth 20000
set_option linter.unusedSimpArgs false
set_option linter.unusedVariables false
theorem tu46 : Tryd.prog.underlying 46 = some (.pointer 74) := by kernel_rfl
theorem self_t {σ : Sto} {ren : Nat → Nat} {xs : List Tr} {k g : Nat} {ty : TypeId} : selfEls σ ren ⟨k, ty, g, xs.map .t⟩ := fun x hx => by
  obtain ⟨t, _, rfl⟩ := List.mem_map.1 hx
  exact .t t
theorem self_p {σ : Sto} {a b c : Tr} {g m k0 g0 : Nat} {ty : TypeId} (h1 : (sget σ 63).isSome = true := by rfl) (h2 : (sget σ 66).isSome = true := by rfl) :
    selfEls σ (fun id => id) ⟨k0, ty, g0, [.agg [.t a, .t b, .t c, .own 63 g 0 m, .own 66 g 0 m]]⟩ := fun x hx => by
  obtain rfl := List.mem_singleton.1 hx
  exact .aggL ⟨.t _, .t _, .t _, .own _ _ _ _ h1 rfl, .own _ _ _ _ h2 rfl, trivial⟩
theorem last_one {U : List Bundle} {n : Nat} {L : List Store} (h : QInv U n L) (he : ∀ j, j < 3 → (at' L j).bundles = []) {c : Int} (hs : c ∈ (at' L 0).seen) : c ∈ ids (at' L 3) := by
  obtain ⟨k, _, k1, k2⟩ := h.l.fl 0 c (by omega) hs
  by_cases e : k = 3
  · subst e; exact k2
  · have := he k (by omega)
    unfold ids at k2
    rw [this] at k2
    simp at k2
theorem last_bw {b : List Int} {z n : Nat} {L : List Store} (h : QInv (mkV b z) n L) (he : ∀ j, j < 3 → (at' L j).bundles = []) {k : Nat} (hs : 100 + (k : Int) ∈ (at' L 0).seen) : bw b z k ∈ (at' L 3).bundles := by
  have h1 := last_one h he hs
  unfold ids at h1
  obtain ⟨x, hx, hid⟩ := List.mem_map.1 h1
  obtain ⟨i, _, rfl⟩ := List.mem_map.1 (h.bu 3 x (by omega) hx)
  have : i = k := by
    have h2 : (bw b z i).id = 100 + (i : Int) := rfl
    rw [h2] at hid; omega
  subst this; exact hx
theorem eff_maxR {P : Program} {o : Oper} {D : St} {t t2 : TypeId} {x y : Operand} {k : IntKind} {n m r : Int} (hd : dstOK D.n o.dst = true)
    (ho : o.op = .call { callee := .builtin .max, args := #[x, y], argTypes := #[t, t2] }) (hx : D.ev x = .t (.int k n)) (hy : D.ev y = .t (.int k m)) (hr : imax n m = r) : Eff P o D ⟨.t (.int k r), []⟩ := hr ▸ eff_max hd ho hx hy

theorem carries_ret (b : List Int) (hB : Bytes b) (hbl : b.length ≤ 9223372036854775807) (sz : Int) (hsz : 0 ≤ sz ∧ sz < 256) (ft : List Fate) (hft : ∀ f, f ∈ ft → FateOK f) (hfl : ft.length ≤ 9223372036854775807) : RetT Tryd.prog 3 [(0, crcT)] [.sl (b.map encBy) false, .int .u8 sz, .sl (ft.map encFt) false] (.bool true) := by
  refine retT_of_awp Tryd.func3 rfl (Nat.le_of_ble_eq_true rfl) ?_
  refine awp_seq ?_
  refine awp_rw rfl ?_
  refine RW.op rfl rfl (eff_assign (v := .t _) rfl rfl rfl) ?_
  refine RW.nil ?_
  refine awp_seq ?_
  refine awp_seq ?_
  refine awp_rw rfl ?_
  refine RW.op rfl rfl (eff_move (v := .t _) rfl rfl rfl) ?_
  refine RW.op rfl rfl (eff_lenM rfl rfl te22 rfl) ?_
  refine RW.op rfl rfl (eff_iop rfl rfl rfl rfl rfl) ?_
  refine RW.op rfl rfl (eff_move (v := .t _) rfl rfl rfl) ?_
  refine RW.split 23 rfl (fun h1 => ?_) (fun h1 => ?_)
  · try simp only [decide_eq_true_eq, decide_eq_false_iff_not, beq_iff_eq, bne_iff_ne, bne_eq_false_iff_eq, beq_eq_false_iff_ne, Bool.not_eq_true, Bool.not_eq_false, Bool.not_eq_true', Bool.not_eq_false', ne_eq] at h1
    refine RW.gskip rfl rfl rfl rfl rfl (by decide) ?_
    refine RW.gskip rfl rfl rfl rfl rfl (by decide) ?_
    refine RW.gskip rfl rfl rfl rfl rfl (by decide) ?_
    refine RW.op rfl rfl (eff_pick (v := .t _) rfl rfl rfl rfl) ?_
    refine RW.op rfl rfl (eff_move (v := .t _) rfl rfl rfl) ?_
    refine RW.gskip rfl rfl rfl rfl rfl (by decide) ?_
    refine RW.gskip rfl rfl rfl rfl rfl (by decide) ?_
    refine RW.gskip rfl rfl rfl rfl rfl (by decide) ?_
    refine RW.op rfl rfl (eff_pick (v := .t _) rfl rfl rfl rfl) ?_
    refine RW.nil ?_
    refine awp_cond rfl (fun _ => ?_) (fun h => nomatch h)
    refine awp_seq ?_
    refine awp_rw rfl ?_
    refine RW.op rfl rfl (eff_callT (lives_ret) co4 rfl rfl rfl rfl) ?_
    refine RW.op rfl rfl (eff_assign (v := .t _) rfl rfl rfl) ?_
    refine RW.nil ?_
    refine awp_ret ?_
    exact ⟨Or.inr rfl, [_], ⟨.tmp (.t _), trivial⟩, .refl _⟩
  · try simp only [decide_eq_true_eq, decide_eq_false_iff_not, beq_iff_eq, bne_iff_ne, bne_eq_false_iff_eq, beq_eq_false_iff_ne, Bool.not_eq_true, Bool.not_eq_false, Bool.not_eq_true', Bool.not_eq_false', ne_eq] at h1
    refine RW.gop rfl rfl rfl rfl rfl rfl (eff_move (v := .t _) rfl rfl rfl) ?_
    refine RW.gop rfl rfl rfl rfl rfl rfl (eff_lenM rfl rfl te22 rfl) ?_
    refine RW.gop rfl rfl rfl rfl rfl rfl (eff_iop rfl rfl rfl rfl rfl) ?_
    refine RW.op rfl rfl (eff_pick (v := .t _) rfl rfl rfl rfl) ?_
    refine RW.op rfl rfl (eff_move (v := .t _) rfl rfl rfl) ?_
    refine RW.split 28 rfl (fun h2 => ?_) (fun h2 => ?_)
    · try simp only [decide_eq_true_eq, decide_eq_false_iff_not, beq_iff_eq, bne_iff_ne, bne_eq_false_iff_eq, beq_eq_false_iff_ne, Bool.not_eq_true, Bool.not_eq_false, Bool.not_eq_true', Bool.not_eq_false', ne_eq] at h2
      refine RW.gskip rfl rfl rfl rfl rfl (by decide) ?_
      refine RW.gskip rfl rfl rfl rfl rfl (by decide) ?_
      refine RW.gskip rfl rfl rfl rfl rfl (by decide) ?_
      refine RW.op rfl rfl (eff_pick (v := .t _) rfl rfl rfl rfl) ?_
      refine RW.nil ?_
      refine awp_cond rfl (fun _ => ?_) (fun h => nomatch h)
      refine awp_seq ?_
      refine awp_rw rfl ?_
      refine RW.op rfl rfl (eff_callT (lives_ret) co4 rfl rfl rfl rfl) ?_
      refine RW.op rfl rfl (eff_assign (v := .t _) rfl rfl rfl) ?_
      refine RW.nil ?_
      refine awp_ret ?_
      exact ⟨Or.inr rfl, [_], ⟨.tmp (.t _), trivial⟩, .refl _⟩
    · try simp only [decide_eq_true_eq, decide_eq_false_iff_not, beq_iff_eq, bne_iff_ne, bne_eq_false_iff_eq, beq_eq_false_iff_ne, Bool.not_eq_true, Bool.not_eq_false, Bool.not_eq_true', Bool.not_eq_false', ne_eq] at h2
      refine RW.gop rfl rfl rfl rfl rfl rfl (eff_move (v := .t _) rfl rfl rfl) ?_
      refine RW.gop rfl rfl rfl rfl rfl rfl (eff_lenM rfl rfl te23 rfl) ?_
      refine RW.gop rfl rfl rfl rfl rfl rfl (eff_iop rfl rfl rfl rfl rfl) ?_
      refine RW.op rfl rfl (eff_pick (v := .t _) rfl rfl rfl rfl) ?_
      refine RW.nil ?_
      refine awp_cond rfl (fun h3 => ?_) (fun h3 => ?_)
      · try simp only [decide_eq_true_eq, decide_eq_false_iff_not, beq_iff_eq, bne_iff_ne, bne_eq_false_iff_eq, beq_eq_false_iff_ne, Bool.not_eq_true, Bool.not_eq_false, Bool.not_eq_true', Bool.not_eq_false', ne_eq] at h3
        refine awp_seq ?_
        refine awp_rw rfl ?_
        refine RW.op rfl rfl (eff_callT (lives_ret) co4 rfl rfl rfl rfl) ?_
        refine RW.op rfl rfl (eff_assign (v := .t _) rfl rfl rfl) ?_
        refine RW.nil ?_
        refine awp_ret ?_
        exact ⟨Or.inr rfl, [_], ⟨.tmp (.t _), trivial⟩, .refl _⟩
      · try simp only [decide_eq_true_eq, decide_eq_false_iff_not, beq_iff_eq, bne_iff_ne, bne_eq_false_iff_eq, beq_eq_false_iff_ne, Bool.not_eq_true, Bool.not_eq_false, Bool.not_eq_true', Bool.not_eq_false', ne_eq] at h3
        refine awp_skip ?_
        refine awp_seq ?_
        refine awp_rw rfl ?_
        obtain ⟨z, hz⟩ : ∃ z : Nat, z = max sz.toNat 16 := ⟨_, rfl⟩
        have hz16 : 16 ≤ z := by omega
        have hz256 : z ≤ 256 := by omega
        have hzm : imax sz 16 = (z : Int) := by unfold imax; split <;> omega
        have hV := mkV_univ (b := b) (z := z) hB (by omega) hz16 hz256
        have hN63 := segN_le (b := b) (z := z) (by omega) hz16
        refine RW.op rfl rfl (eff_move (v := .t _) rfl rfl rfl) ?_
        refine RW.op rfl rfl (eff_move (v := .t _) rfl rfl rfl) ?_
        refine RW.op rfl rfl (eff_convIntE (m := sz) rfl rfl (by rw [tu5]; rfl) tu3 rfl (by rw [wrap64 (by omega) (by omega)])) ?_
        refine RW.op rfl rfl (eff_maxR rfl rfl rfl rfl hzm) ?_
        refine RW.op rfl rfl (eff_callXT (cut_ret 3 b z (by omega) (by omega) (by omega) hz256) co5 rfl rfl rfl ⟨rfl, trivial⟩ rfl) ?_
        refine RW.op rfl rfl (eff_move (v := .t _) rfl rfl rfl) ?_
        refine RW.op rfl rfl (eff_extract rfl rfl rfl rfl) ?_
        refine RW.op rfl rfl (eff_extract rfl rfl rfl rfl) ?_
        refine RW.op rfl rfl (eff_assign (v := .t _) rfl rfl rfl) ?_
        refine RW.op rfl rfl (eff_assign (v := .t _) rfl rfl rfl) ?_
        refine RW.nil ?_
        refine awp_seq ?_
        refine awp_seq ?_
        refine awp_rw rfl ?_
        refine RW.op rfl rfl (eff_move (v := .t _) rfl rfl rfl) ?_
        refine RW.op rfl rfl (eff_iop (r := .bool false) rfl rfl rfl rfl (by rfl)) ?_
        refine RW.nil ?_
        refine awp_cond rfl (fun h => nomatch h) (fun _ => ?_)
        refine awp_skip ?_
        refine awp_seq ?_
        refine awp_rw rfl ?_
        refine RW.new rfl rfl (eff_allocL (y := .agg [encI 0, .sl [] false, .sl [] false, .sl [] false, encI 0, .sl [] false, .sl [] false, .sl [] false, encI 0, .sl [] false, .sl [] false, .sl [] false, encI 0, .sl [] false, .sl [] false, .sl [] false]) (k := 4) (id := 9) (els := encL (LQ 10000 0)) rfl rfl tz33 rfl (Wk.aggP ⟨.refl _, .sl _, .sl _, .sl _, .refl _, .sl _, .sl _, .sl _, .refl _, .sl _, .sl _, .sl _, .refl _, .sl _, .sl _, .sl _, trivial⟩) rfl rfl rfl rfl (List.cons_ne_nil _ _)) ?_
        refine RW.nil ?_
        refine awp_seq ?_
        refine awp_seq ?_
        refine awp_rw rfl ?_
        refine RW.op rfl rfl (eff_assign (v := .t _) rfl rfl rfl) ?_
        refine RW.nil ?_
        refine awp_block ?_
        refine awp_loopW (fun m s => ∃ (i : Nat), (i ≤ 4) ∧ m = 4 - i ∧ s = ⟨123, [(0, .t (.sl (b.map encBy) false)), (2, .t (.sl (ft.map encFt) false)), (7, .t (.sl ((segsF 3 b z).map encSg) false)), (9, .ptr 9 0 0 0), (10, .t (encI (i : Nat))), (123, .t crcT)], [(9, some ⟨4, 33, 0, encL (LQ 10000 i)⟩)]⟩) (_) (⟨_, weak_keep (n := 123) (fr' := [(0, .t (.sl (b.map encBy) false)), (2, .t (.sl (ft.map encFt) false)), (7, .t (.sl ((segsF 3 b z).map encSg) false)), (9, .ptr 9 0 0 0), (10, .t (encI (0 : Nat))), (123, .t crcT)]) (st' := [(9, some ⟨4, 33, 0, encL (LQ 10000 0)⟩)]) ⟨rfl, rfl, rfl, rfl, rfl, rfl, rfl, rfl, rfl, rfl, rfl, rfl, trivial⟩ ⟨rfl, okE_t, trivial⟩, 0, (by omega), rfl, rfl⟩) ?_
        rintro m s ⟨i, hi, rfl, rfl⟩
        refine awp_seq ?_
        refine awp_seq ?_
        refine awp_rw rfl ?_
        refine RW.op rfl rfl (eff_move (v := .t _) rfl rfl rfl) ?_
        refine RW.op rfl rfl (eff_iop rfl rfl rfl rfl rfl) ?_
        refine RW.nil ?_
        refine awp_cond rfl (fun h4 => ?_) (fun h4 => ?_)
        · try simp only [decide_eq_true_eq, decide_eq_false_iff_not, beq_iff_eq, bne_iff_ne, bne_eq_false_iff_eq, beq_eq_false_iff_ne, Bool.not_eq_true, Bool.not_eq_false, Bool.not_eq_true', Bool.not_eq_false', ne_eq] at h4
          refine awp_skip ?_
          refine awp_seq ?_
          refine awp_block ?_
          refine awp_rw rfl ?_
          refine RW.op rfl rfl (eff_move (v := .t _) rfl rfl rfl) ?_
          refine RW.op rfl rfl (eff_indexAddrP (i := i) rfl rfl tu33 ti32 rfl rfl rfl (by omega) rfl rfl rfl (alen (LQ_len (by omega)) (by omega))) ?_
          refine RW.op rfl rfl (eff_fieldAddr rfl rfl tf32_0 (by decide) rfl rfl rfl (Nat.le_of_ble_eq_true rfl)) ?_
          refine RW.store rfl rfl (eff_storeS (v := .t (encI 10000)) (ys := [_, _, _, _]) (els := encL (LQ 10000 i)) (els' := encL (LQ 10000 (i + 1))) (el := .t (encS ⟨0, [], [], []⟩)) rfl rfl ti3 rfl rfl rfl rfl rfl rfl (by rw [ael (LQ_len (by omega)) (by omega), LQ_at (by omega)]) (Nat.le_of_ble_eq_true rfl) rfl (by rw [← LQ_step (by omega)]; exact aset (t := ⟨10000, [], [], []⟩))) ?_
          refine RW.nil ?_
          refine awp_rw rfl ?_
          refine RW.op rfl rfl (eff_move (v := .t _) rfl rfl rfl) ?_
          refine RW.op rfl rfl (eff_iop rfl rfl rfl rfl (iadd (by omega))) ?_
          refine RW.op rfl rfl (eff_assign (v := .t _) rfl rfl rfl) ?_
          refine RW.nil ?_
          refine ⟨_, ?_, _, weak_keep (n := 123) (fr' := [(0, .t (.sl (b.map encBy) false)), (2, .t (.sl (ft.map encFt) false)), (7, .t (.sl ((segsF 3 b z).map encSg) false)), (9, .ptr 9 0 0 0), (10, .t (encI ((i + 1) : Nat))), (123, .t crcT)]) (st' := [(9, some ⟨4, 33, 0, encL (LQ 10000 (i + 1))⟩)]) ⟨rfl, rfl, rfl, rfl, rfl, rfl, rfl, rfl, rfl, rfl, rfl, rfl, trivial⟩ ⟨rfl, okE_t, trivial⟩, i + 1, (by omega), rfl, rfl⟩
          omega
        · try simp only [decide_eq_true_eq, decide_eq_false_iff_not, beq_iff_eq, bne_iff_ne, bne_eq_false_iff_eq, beq_eq_false_iff_ne, Bool.not_eq_true, Bool.not_eq_false, Bool.not_eq_true', Bool.not_eq_false', ne_eq] at h4
          refine awp_exit ?_
          refine awp_seq ?_
          refine awp_seq ?_
          refine awp_rw rfl ?_
          have hi4 : i = 4 := by omega
          subst hi4
          refine RW.op rfl rfl (eff_assign (v := .t _) rfl rfl rfl) ?_
          refine RW.nil ?_
          refine awp_block ?_
          refine awp_loopW (fun m s => ∃ (i : Nat) (M : List Store), (i ≤ segN b z) ∧ (QInv (mkV b z) i M) ∧ (∀ c : Int, c ∈ (at' M 0).seen ↔ 100 ≤ c ∧ c < 100 + i) ∧ m = segN b z - i ∧ s = ⟨123, [(0, .t (.sl (b.map encBy) false)), (2, .t (.sl (ft.map encFt) false)), (7, .t (.sl ((segsF 3 b z).map encSg) false)), (9, .ptr 9 0 0 0), (11, .t (encI (i : Nat))), (123, .t crcT)], [(9, some ⟨4, 33, 0, encL M⟩)]⟩) (_) (⟨_, weak_keep (n := 123) (fr' := [(0, .t (.sl (b.map encBy) false)), (2, .t (.sl (ft.map encFt) false)), (7, .t (.sl ((segsF 3 b z).map encSg) false)), (9, .ptr 9 0 0 0), (11, .t (encI (0 : Nat))), (123, .t crcT)]) (st' := [(9, some ⟨4, 33, 0, encL ((Lz 10000))⟩)]) ⟨rfl, rfl, rfl, rfl, rfl, rfl, rfl, rfl, rfl, rfl, rfl, rfl, trivial⟩ ⟨rfl, okE_t, trivial⟩, 0, (Lz 10000), (by omega), (by exact Lz_q), (by intro c; constructor; (intro h; exact absurd h (by show c ∉ ([] : List Int); simp)); (intro h; omega)), rfl, rfl⟩) ?_
          rintro m s ⟨i, M, hi, hM, hsn, rfl, rfl⟩
          refine awp_seq ?_
          refine awp_seq ?_
          refine awp_rw rfl ?_
          refine RW.op rfl rfl (eff_move (v := .t _) rfl rfl rfl) ?_
          refine RW.op rfl rfl (eff_move (v := .t _) rfl rfl rfl) ?_
          have hsl : (segsF 3 b z).length = segN b z := by unfold segsF; simp
          refine RW.op rfl rfl (eff_lenM rfl rfl te25 rfl) ?_
          refine RW.op rfl rfl (eff_iop rfl rfl rfl rfl rfl) ?_
          refine RW.nil ?_
          refine awp_cond rfl (fun h5 => ?_) (fun h5 => ?_)
          · try simp only [decide_eq_true_eq, decide_eq_false_iff_not, beq_iff_eq, bne_iff_ne, bne_eq_false_iff_eq, beq_eq_false_iff_ne, Bool.not_eq_true, Bool.not_eq_false, Bool.not_eq_true', Bool.not_eq_false', ne_eq] at h5
            refine awp_skip ?_
            refine awp_seq ?_
            refine awp_block ?_
            refine awp_seq ?_
            have hgs : (segsF 3 b z)[i]? = some (pieceAt 3 b z i) := by unfold segsF; rw [List.getElem?_map, List.getElem?_range (by omega)]; rfl
            have his : i < segN b z := by omega
            obtain ⟨hc0, hq1, hq2⟩ := crea_q hV hM (mkV_mem his) (by rw [hsn]; show ¬ (100 ≤ 100 + (i : Int) ∧ 100 + (i : Int) < 100 + i); omega)
            refine awp_rd [(some 58, []), (some 59, []), (some 60, []), (some 61, []), (some 62, []), (some 63, []), (some 64, []), (some 65, []), (some 66, []), (some 67, []), (some 57, []), (some 68, []), (some 69, []), (some 12, [12]), (none, [12]), (some 13, [])] [[], [0], [], [2], [], [], [4, 5], [4, 5, 6], [2, 3, 4, 5, 6, 7], [0, 1, 2, 3, 4, 5, 6, 7, 8], [0, 1, 2, 3, 4, 5, 6, 7, 8, 9], [0, 1, 2, 3, 4, 5, 6, 7, 8, 9, 10], [0, 1, 2, 3, 4, 5, 6, 7, 8, 9, 10], [], [0, 1, 2, 3, 4, 5, 6, 7, 8, 9, 10, 11, 13], [0, 1, 2, 3, 4, 5, 6, 7, 8, 9, 10, 11, 12, 13, 14]] tm rfl rfl rfl rfl ?_
            refine RD.op rfl rfl rfl (eff_indexAddrP (i := 0) rfl rfl tu33 ti32 rfl rfl (by first | rfl | omega) (by omega) rfl rfl rfl (alen hM.l.len (by omega))) ?_
            refine RD.op rfl rfl rfl (eff_load (y := .t (encS (at' M (0)))) rfl rfl ti32 rfl (.whole rfl rfl (ael hM.l.len (by omega)) rfl rfl rfl)) ?_
            refine RD.op rfl rfl rfl (eff_move (v := .t _) rfl rfl rfl) ?_
            refine RD.op rfl rfl rfl (eff_iop rfl rfl rfl rfl (iadd (by omega))) ?_
            refine RD.op rfl rfl rfl (eff_move (v := .t _) rfl rfl rfl) ?_
            refine RD.op rfl rfl rfl (eff_move (v := .t _) rfl rfl rfl) ?_
            refine RD.op rfl rfl rfl (eff_indexM (i := i) rfl rfl te25 rfl rfl (by first | rfl | omega) (by exact hgs) rfl (by decide)) ?_
            refine RD.op rfl rfl rfl (eff_loadW rfl rfl ti38 rfl rfl rfl) ?_
            refine RD.op rfl rfl rfl (eff_buildT (ys := [_, _, _, _, _, _, _, _]) rfl rfl tz40 tg40 rfl) ?_
            refine RD.op rfl rfl rfl (eff_callT (create28_ret insC (at' M 0) (bw b z i) ((hM.l.vi (0) (by omega)).sok (by omega)) (by unfold BOK bw; simp; omega) (hM.l.vi 0 (by omega)).ss) co6 rfl rfl rfl rfl) ?_
            refine RD.op rfl rfl rfl (eff_move (v := .t _) rfl rfl rfl) ?_
            refine RD.op rfl rfl rfl (eff_extract rfl rfl rfl rfl) ?_
            refine RD.op rfl rfl rfl (eff_extract rfl rfl rfl rfl) ?_
            refine RD.new rfl rfl rfl (eff_allocK (k := 4) (id := 12) rfl rfl tz32 rfl rfl) ?_
            refine RD.store rfl rfl rfl (eff_storeW (v := .t _) (els := [_]) (els' := [_]) rfl rfl ti32 rfl rfl rfl rfl rfl rfl rfl rfl rfl) ?_
            refine RD.op rfl rfl rfl (eff_assign (v := .t _) rfl rfl rfl) ?_
            refine RD.nil ?_
            refine awp_seq ?_
            refine awp_seq ?_
            refine awp_rw rfl ?_
            refine RW.op rfl rfl (eff_move (v := .t _) rfl rfl rfl) ?_
            refine RW.op rfl rfl (eff_iop (r := .bool false) rfl rfl rfl rfl (by exact iop_neq_f (by exact hc0))) ?_
            refine RW.nil ?_
            refine awp_cond rfl (fun h => nomatch h) (fun _ => ?_)
            refine awp_skip ?_
            refine awp_rw rfl ?_
            refine RW.op rfl rfl (eff_load rfl rfl ti32 rfl (.whole rfl rfl rfl rfl rfl rfl)) ?_
            refine RW.op rfl rfl (eff_indexAddrP (i := 0) rfl rfl tu33 ti32 rfl rfl (by first | rfl | omega) (by omega) rfl rfl rfl (alen hM.l.len (by omega))) ?_
            refine RW.store rfl rfl (eff_storeW (v := .t (encS (create (at' M 0) (bw b z i)).1)) (els := encL M) (els' := encL (M.set 0 (create (at' M 0) (bw b z i)).1)) (el := .t (encS (at' M (0)))) rfl rfl ti32 rfl rfl rfl rfl rfl rfl (ael hM.l.len (by omega)) rfl aset) ?_
            refine RW.nil ?_
            refine awp_rw rfl ?_
            refine RW.op rfl rfl (eff_move (v := .t _) rfl rfl rfl) ?_
            refine RW.op rfl rfl (eff_iop rfl rfl rfl rfl (iadd (by omega))) ?_
            refine RW.op rfl rfl (eff_assign (v := .t _) rfl rfl rfl) ?_
            refine RW.nil ?_
            refine ⟨_, ?_, _, weak_keep (n := 123) (fr' := [(0, .t (.sl (b.map encBy) false)), (2, .t (.sl (ft.map encFt) false)), (7, .t (.sl ((segsF 3 b z).map encSg) false)), (9, .ptr 9 0 0 0), (11, .t (encI ((i + 1) : Nat))), (123, .t crcT)]) (st' := [(9, some ⟨4, 33, 0, encL _⟩)]) ⟨rfl, rfl, rfl, rfl, rfl, rfl, rfl, rfl, rfl, rfl, rfl, rfl, trivial⟩ ⟨rfl, okE_t, trivial⟩, i + 1, _, (by omega), (by exact hq1), (by intro c; rw [hq2]; rw [hsn]; show c = 100 + (i : Int) ∨ _ ↔ _; omega), rfl, rfl⟩
            omega
          · try simp only [decide_eq_true_eq, decide_eq_false_iff_not, beq_iff_eq, bne_iff_ne, bne_eq_false_iff_eq, beq_eq_false_iff_ne, Bool.not_eq_true, Bool.not_eq_false, Bool.not_eq_true', Bool.not_eq_false', ne_eq] at h5
            refine awp_exit ?_
            refine awp_seq ?_
            refine awp_seq ?_
            refine awp_rw rfl ?_
            have hi5 : segN b z = i := by omega
            refine RW.op rfl rfl (eff_assign (v := .t _) rfl rfl rfl) ?_
            refine RW.nil ?_
            refine awp_block ?_
            refine awp_loopW (fun m s => ∃ (j : Nat) (M : List Store), (j ≤ ft.length) ∧ (QInv (mkV b z) (63 + 3 * j) M) ∧ (∀ c : Int, 100 ≤ c → c < 100 + segN b z → c ∈ (at' M 0).seen) ∧ m = ft.length - j ∧ s = ⟨123, [(0, .t (.sl (b.map encBy) false)), (2, .t (.sl (ft.map encFt) false)), (9, .ptr 9 0 0 0), (14, .t (encI (j : Nat))), (123, .t crcT)], [(9, some ⟨4, 33, 0, encL M⟩)]⟩) (_) (⟨_, weak_keep (n := 123) (fr' := [(0, .t (.sl (b.map encBy) false)), (2, .t (.sl (ft.map encFt) false)), (9, .ptr 9 0 0 0), (14, .t (encI (0 : Nat))), (123, .t crcT)]) (st' := [(9, some ⟨4, 33, 0, encL _⟩)]) ⟨rfl, rfl, rfl, rfl, rfl, rfl, rfl, rfl, rfl, rfl, trivial⟩ ⟨rfl, okE_t, trivial⟩, 0, _, (by omega), (by exact ⟨hM.l.mono (by omega), hM.qu, hM.bu⟩), (by intro c h0 h1; exact (hsn c).2 ⟨h0, by omega⟩), rfl, rfl⟩) ?_
            rintro m s ⟨j, M, hj, hM, hs, rfl, rfl⟩
            refine awp_seq ?_
            refine awp_seq ?_
            refine awp_rw rfl ?_
            refine RW.op rfl rfl (eff_move (v := .t _) rfl rfl rfl) ?_
            refine RW.op rfl rfl (eff_move (v := .t _) rfl rfl rfl) ?_
            refine RW.op rfl rfl (eff_lenM rfl rfl te23 rfl) ?_
            refine RW.op rfl rfl (eff_iop rfl rfl rfl rfl rfl) ?_
            refine RW.nil ?_
            refine awp_cond rfl (fun h6 => ?_) (fun h6 => ?_)
            · try simp only [decide_eq_true_eq, decide_eq_false_iff_not, beq_iff_eq, bne_iff_ne, bne_eq_false_iff_eq, beq_eq_false_iff_ne, Bool.not_eq_true, Bool.not_eq_false, Bool.not_eq_true', Bool.not_eq_false', ne_eq] at h6
              refine awp_skip ?_
              refine awp_seq ?_
              refine awp_block ?_
              refine awp_seq ?_
              refine awp_rw rfl ?_
              refine RW.op rfl rfl (eff_move (v := .t _) rfl rfl rfl) ?_
              refine RW.op rfl rfl (eff_move (v := .t _) rfl rfl rfl) ?_
              refine RW.op rfl rfl (eff_indexM rfl rfl te23 rfl rfl rfl (by first | assumption | exact List.getElem?_eq_getElem (by omega)) rfl (by decide)) ?_
              refine RW.op rfl rfl (eff_loadW rfl rfl ti44 rfl rfl rfl) ?_
              refine RW.new rfl rfl (eff_callK (event_fate (63 + 3 * j) (by omega) M hM.l (ft[j]'(by omega)) (hft _ (List.getElem_mem _))) co7 (fun _ => 9) rfl rfl rfl ⟨.ptr _ _ _ _ rfl rfl, .t _, trivial⟩ (.t _) rfl ⟨⟨rfl, treeEls_t, ⟨_, rfl, .inr ⟨rfl, rfl, rfl, alen2 (evF_inv hM.l _).1.len hM.l.len, 0, rfl, List.mem_singleton.2 rfl⟩⟩⟩, trivial⟩ ⟨⟨treeEls_t, .inl rfl⟩, trivial⟩) ?_
              refine RW.op rfl rfl (eff_unop rfl rfl rfl rfl) ?_
              refine RW.nil ?_
              refine awp_cond rfl (fun h => nomatch h) (fun _ => ?_)
              refine awp_skip ?_
              refine awp_rw rfl ?_
              refine RW.op rfl rfl (eff_move (v := .t _) rfl rfl rfl) ?_
              refine RW.op rfl rfl (eff_iop rfl rfl rfl rfl (iadd (by omega))) ?_
              refine RW.op rfl rfl (eff_assign (v := .t _) rfl rfl rfl) ?_
              refine RW.nil ?_
              refine ⟨_, ?_, _, weak_keep (n := 123) (fr' := [(0, .t (.sl (b.map encBy) false)), (2, .t (.sl (ft.map encFt) false)), (9, .ptr 9 0 0 0), (14, .t (encI ((j + 1) : Nat))), (123, .t crcT)]) (st' := [(9, some ⟨4, 33, 0, encL _⟩)]) ⟨rfl, rfl, rfl, rfl, rfl, rfl, rfl, rfl, rfl, rfl, trivial⟩ ⟨rfl, okE_t, trivial⟩, j + 1, _, (by omega), (by exact ⟨(evF_q hM _).l.mono (by omega), (evF_q hM _).qu, (evF_q hM _).bu⟩), (by intro c h0 h1; exact (evF_inv hM.l _).2 0 c (by omega) (hs c h0 h1)), rfl, rfl⟩
              omega
            · try simp only [decide_eq_true_eq, decide_eq_false_iff_not, beq_iff_eq, bne_iff_ne, bne_eq_false_iff_eq, beq_eq_false_iff_ne, Bool.not_eq_true, Bool.not_eq_false, Bool.not_eq_true', Bool.not_eq_false', ne_eq] at h6
              refine awp_exit ?_
              refine awp_seq ?_
              refine awp_seq ?_
              refine awp_rw rfl ?_
              have hn80 : j ≤ 80 := by omega
              obtain ⟨hE, hem⟩ := setl_spec hV hM 3 (Nat.le_refl _)
              have hBL : (at' (setl 3 M) 3).bundles.length ≤ 64 := Nat.le_trans (used_le (hE.l.vi 3 (by omega)).nd (fun x hx => hE.bu 3 x (by omega) hx)).2 hV.len
              have hS0 := settle_sees hV hM 3 (Nat.le_refl _)
              have hs3 : ∀ c : Int, 100 ≤ c → c < 100 + segN b z → c ∈ (at' (setl 3 M) 0).seen := fun c h0 h1 => hS0 0 c (by omega) (hs c h0 h1)
              refine RW.new rfl rfl (eff_callK (settle_ret (mkV b z) hV (63 + 3 * j) (by omega) M hM) co8 (fun _ => 9) rfl rfl rfl ⟨.ptr _ _ _ _ rfl rfl, trivial⟩ (.t _) rfl ⟨⟨rfl, treeEls_t, ⟨_, rfl, .inr ⟨rfl, rfl, rfl, alen2 hE.l.len hM.l.len, 0, rfl, List.mem_singleton.2 rfl⟩⟩⟩, trivial⟩ ⟨⟨treeEls_t, .inl rfl⟩, trivial⟩) ?_
              refine RW.op rfl rfl (eff_unop rfl rfl rfl rfl) ?_
              refine RW.nil ?_
              refine awp_cond rfl (fun h => nomatch h) (fun _ => ?_)
              refine awp_skip ?_
              refine awp_seq ?_
              refine awp_rw rfl ?_
              refine RW.new rfl rfl (eff_callG (newPart_retG 3) co9 (fun _ => 1000) rfl rfl rfl ⟨.t _, trivial⟩ (.ptr _ _ _ _ rfl rfl) rfl trivial ⟨⟨treeEls_t (xs := [.agg [encI 3, .bool false, .int .u32 0, .sl [] true, .sl [] true]]), .inr rfl⟩, trivial⟩) ?_
              refine RW.op rfl rfl (eff_assign (v := .ptr _ _ _ _) rfl rfl rfl) ?_
              refine RW.nil ?_
              refine awp_seq ?_
              refine awp_seq ?_
              refine awp_rw rfl ?_
              refine RW.op rfl rfl (eff_move (v := .ptr _ _ _ _) rfl rfl rfl) ?_
              refine RW.op rfl rfl (eff_ptrNil rfl rfl tu46 rfl rfl rfl) ?_
              refine RW.nil ?_
              refine awp_cond rfl (fun h => nomatch h) (fun _ => ?_)
              refine awp_skip ?_
              refine awp_seq ?_
              refine awp_rw rfl ?_
              refine RW.op rfl rfl (eff_indexAddrP (i := 3) rfl rfl tu33 ti32 rfl rfl (by first | rfl | omega) (by omega) rfl rfl rfl (alen hE.l.len (by omega))) ?_
              refine RW.op rfl rfl (eff_fieldAddr rfl rfl tf32_1 (by decide) rfl rfl rfl (Nat.le_of_ble_eq_true rfl)) ?_
              refine RW.op rfl rfl (eff_load (y := .t (.sl ((at' (setl 3 M) 3).bundles.map encB) false)) rfl rfl ti29 rfl (.one rfl rfl (ael hE.l.len (by omega)) rfl)) ?_
              refine RW.op rfl rfl (eff_assign (v := .t _) rfl rfl rfl) ?_
              refine RW.nil ?_
              refine awp_seq ?_
              refine awp_seq ?_
              refine awp_rw rfl ?_
              refine RW.op rfl rfl (eff_assign (v := .t _) rfl rfl rfl) ?_
              refine RW.nil ?_
              show AWP _ _ _ _
              refine awp_weak (weak_frzE (n := 123) (fr' := [(0, .t (.sl (b.map encBy) false)), (2, .t (.sl (ft.map encFt) false)), (15, .ptr 1000 0 0 0), (16, .t (.sl ((at' (setl 3 M) 3).bundles.map encB) false)), (17, .t (encI 0)), (123, .t crcT)]) (st' := [(1000, some ⟨5, 74, 0, [.agg ([encI 3, .bool false, .int .u32 0, .sl [] true, .sl [] true].map .t)]⟩)]) [] trivial ⟨.t _, .t _, .ptr 1000 0 0 0 rfl, .t _, .t _, .t _, trivial⟩ ⟨waS_tagg rfl rfl rfl, trivial⟩) ?_
              refine awp_weak (weak_adoptC (id0 := 1000) (cs := [_, _, _, _, _]) (cs' := [_, _, _, .own 63 0 0 0, _]) 63 1 4 3 rfl rfl rfl rfl) ?_
              refine awp_weak (weak_adoptC (id0 := 1000) (cs := [_, _, _, _, _]) (cs' := [_, _, _, _, .own 66 0 0 0]) 66 1 5 4 rfl rfl rfl rfl) ?_
              refine awp_block ?_
              refine awp_loopW (fun m s => ∃ (d : Nat) (kn : Bool) (sm : Int) (gn : Nat) (mm : Nat) (H : List Bool) (L : List Int), (d ≤ (at' (setl 3 M) 3).bundles.length) ∧ (PartOK b kn sm (crcF b) gn mm b.length H L) ∧ (d = 0 ∨ kn = true) ∧ (∀ k, bw b z k ∈ (at' (setl 3 M) 3).bundles.take d → ∀ p, k * z ≤ p → p < k * z + ((b.drop (k * z)).take z).length → H.getD p false = true) ∧ m = (at' (setl 3 M) 3).bundles.length - d ∧ s = ⟨123, [(0, .t (.sl (b.map encBy) false)), (2, .t (.sl (ft.map encFt) false)), (15, .ptr 1000 0 0 0), (16, .t (.sl ((at' (setl 3 M) 3).bundles.map encB) false)), (17, .t (encI (d : Nat))), (123, .t crcT)], [(1000, some ⟨5, 74, 0, [.agg [.t (encI 3), .t (.bool kn), .t (.int .u32 sm), .own 63 gn 0 mm, .own 66 gn 0 mm]]⟩), (63, some ⟨1, 4, gn, (H.map Tr.bool).map .t⟩), (66, some ⟨1, 5, gn, (L.map encBy).map .t⟩)]⟩) (_) (⟨_, weak_keep (n := 123) (fr' := [(0, .t (.sl (b.map encBy) false)), (2, .t (.sl (ft.map encFt) false)), (15, .ptr 1000 0 0 0), (16, .t (.sl ((at' (setl 3 M) 3).bundles.map encB) false)), (17, .t (encI (0 : Nat))), (123, .t crcT)]) (st' := [(1000, some ⟨5, 74, 0, [.agg [.t (encI 3), .t (.bool false), .t (.int .u32 0), .own 63 0 0 0, .own 66 0 0 0]]⟩), (63, some ⟨1, 4, 0, (([]).map Tr.bool).map .t⟩), (66, some ⟨1, 5, 0, (([]).map encBy).map .t⟩)]) ⟨rfl, rfl, rfl, rfl, rfl, rfl, rfl, rfl, rfl, rfl, rfl, rfl, trivial⟩ ⟨rfl, okE_one rfl, rfl, okE_t, rfl, okE_t, trivial⟩, 0, false, 0, 0, 0, [], [], (by omega), (by exact ⟨(fun h => nomatch h), (fun _ => ⟨rfl, rfl, rfl, rfl⟩), fun p h => by simp at h⟩), (by omega), (by intro k hk; simp at hk), rfl, rfl⟩) ?_
              rintro m s ⟨d, kn, sm, gn, mm, H, L, hd, hP, hkn, hcv, rfl, rfl⟩
              refine awp_seq ?_
              refine awp_seq ?_
              refine awp_rw rfl ?_
              refine RW.op rfl rfl (eff_move (v := .t _) rfl rfl rfl) ?_
              refine RW.op rfl rfl (eff_move (v := .t _) rfl rfl rfl) ?_
              refine RW.op rfl rfl (eff_lenM rfl rfl te29 rfl) ?_
              refine RW.op rfl rfl (eff_iop rfl rfl rfl rfl rfl) ?_
              refine RW.nil ?_
              refine awp_cond rfl (fun h7 => ?_) (fun h7 => ?_)
              · try simp only [decide_eq_true_eq, decide_eq_false_iff_not, beq_iff_eq, bne_iff_ne, bne_eq_false_iff_eq, beq_eq_false_iff_ne, Bool.not_eq_true, Bool.not_eq_false, Bool.not_eq_true', Bool.not_eq_false', ne_eq] at h7
                refine awp_skip ?_
                refine awp_seq ?_
                refine awp_block ?_
                refine awp_seq ?_
                refine awp_rw rfl ?_
                obtain ⟨k, hk1, hbd0⟩ := List.mem_map.1 (show (at' (setl 3 M) 3).bundles[d] ∈ mkV b z from hE.bu 3 _ (by omega) (List.getElem_mem _))
                have hbd : (at' (setl 3 M) 3).bundles[d] = bw b z k := hbd0.symm
                have hkN : k < segN b z := List.mem_range.1 hk1
                have hgb : (at' (setl 3 M) 3).bundles[d]? = some (bw b z k) := by rw [List.getElem?_eq_getElem (by omega), hbd]
                have hq5 := piece_in (b := b) hkN (by omega : 0 < z)
                have hq3 : (pieceAt 3 b z k).data.length ≤ 256 := by have : ((b.drop (k * z)).take z).length ≤ z := List.length_take_le _ _; show ((b.drop (k * z)).take z).length ≤ 256; omega
                have hput := hP.put (off := k * z) (data := (b.drop (k * z)).take z) hq5 (fun i hi => piece_getD hi)
                refine RW.op rfl rfl (eff_move (v := .ptr _ _ _ _) rfl rfl rfl) ?_
                refine RW.op rfl rfl (eff_move (v := .t _) rfl rfl rfl) ?_
                refine RW.op rfl rfl (eff_move (v := .t _) rfl rfl rfl) ?_
                refine RW.op rfl rfl (eff_indexM (i := d) rfl rfl te29 rfl rfl (by first | rfl | omega) (by exact hgb) rfl (by decide)) ?_
                refine RW.op rfl rfl (eff_fieldAddrT rfl rfl tf40_3 (by decide) rfl) ?_
                refine RW.op rfl rfl (eff_loadT (ys := [_, _, _, _, _]) rfl rfl ti38 rfl rfl rfl) ?_
                refine RW.new3 rfl rfl (eff_callKR (put_any (pieceAt 3 b z k) b kn sm gn mm b.length (k * z) H L (by show (0 : Int) ≤ (b.length : Int); omega) (by show (b.length : Int) ≤ 65536; omega) hq3 rfl hq5 rfl (fun i hi => piece_getD hi) hP) co10 (fun id => id) rfl rfl rfl ⟨.ptr _ _ _ _ rfl rfl, .t _, trivial⟩ (.t _) rfl ⟨⟨rfl, self_p, ⟨_, rfl, .inr ⟨rfl, rfl, rfl, rfl, 0, rfl, List.mem_singleton.2 rfl⟩⟩⟩, ⟨rfl, self_t, ⟨_, rfl, .inl (Nat.lt_succ_self _)⟩⟩, ⟨rfl, self_t, ⟨_, rfl, .inl (Nat.lt_succ_self _)⟩⟩, trivial⟩ ⟨⟨self_p, .inl rfl⟩, ⟨self_t, .inl rfl⟩, ⟨self_t, .inl rfl⟩, trivial⟩) ?_
                refine RW.op rfl rfl (eff_iop (r := .bool false) rfl rfl rfl rfl (by rfl)) ?_
                refine RW.nil ?_
                refine awp_cond rfl (fun h => nomatch h) (fun _ => ?_)
                refine awp_skip ?_
                refine awp_rw rfl ?_
                refine RW.op rfl rfl (eff_move (v := .t _) rfl rfl rfl) ?_
                refine RW.op rfl rfl (eff_iop rfl rfl rfl rfl (iadd (by omega))) ?_
                refine RW.op rfl rfl (eff_assign (v := .t _) rfl rfl rfl) ?_
                refine RW.nil ?_
                refine ⟨_, ?_, _, weak_keep (n := 123) (fr' := [(0, .t (.sl (b.map encBy) false)), (2, .t (.sl (ft.map encFt) false)), (15, .ptr 1000 0 0 0), (16, .t (.sl ((at' (setl 3 M) 3).bundles.map encB) false)), (17, .t (encI ((d + 1) : Nat))), (123, .t crcT)]) (st' := [(1000, some ⟨5, 74, 0, [.agg [.t (encI 3), .t (.bool true), .t (.int .u32 (crcF b)), .own 63 (gn + 1) 0 (b.length), .own 66 (gn + 1) 0 (b.length)]]⟩), (63, some ⟨1, 4, (gn + 1), ((putL (baseH kn b.length H) (k * z) (List.replicate (pieceAt 3 b z k).data.length true)).map Tr.bool).map .t⟩), (66, some ⟨1, 5, (gn + 1), ((putL (baseL kn b.length L) (k * z) (pieceAt 3 b z k).data).map encBy).map .t⟩)]) ⟨rfl, rfl, rfl, rfl, rfl, rfl, rfl, rfl, rfl, rfl, rfl, rfl, trivial⟩ ⟨rfl, okE_one rfl, rfl, okE_t, rfl, okE_t, trivial⟩, d + 1, true, crcF b, gn + 1, b.length, putL (baseH kn b.length H) (k * z) (List.replicate (pieceAt 3 b z k).data.length true), putL (baseL kn b.length L) (k * z) (pieceAt 3 b z k).data, (by omega), (by exact hput.1), (by exact Or.inr rfl), (by intro k' hk'; rcases (mem_take_succ (by omega)).1 hk' with h | h; exact fun p p1 p2 => hput.2.2 p (hcv k' h p p1 p2); (rw [hbd] at h; have hkk : k' = k := by have := congrArg Bundle.id h; simp only [bw] at this; omega); subst hkk; exact hput.2.1), rfl, rfl⟩
                omega
              · try simp only [decide_eq_true_eq, decide_eq_false_iff_not, beq_iff_eq, bne_iff_ne, bne_eq_false_iff_eq, beq_eq_false_iff_ne, Bool.not_eq_true, Bool.not_eq_false, Bool.not_eq_true', Bool.not_eq_false', ne_eq] at h7
                refine awp_exit ?_
                refine awp_seq ?_
                refine awp_rw rfl ?_
                obtain rfl : d = (at' (setl 3 M) 3).bundles.length := by omega
                rw [List.take_length] at hcv
                have hall : ∀ p, p < b.length → H.getD p false = true := fun p hp => by
                  obtain ⟨c1, c2, c3⟩ := cover (b := b) (z := z) (by omega) hp
                  generalize p / z = kq at c1 c2 c3
                  exact hcv kq (last_bw hE (fun j hj => (hem j hj).1) (hs3 _ (by omega) (by omega))) p c2 c3
                have hkt : kn = true := by
                  cases kn with
                  | true => rfl
                  | false => have := hall 0 (by omega); rw [(hP.no rfl).2.2.1] at this; simp at this
                subst hkt
                obtain ⟨e1, e2, _, _⟩ := hP.yes rfl
                obtain ⟨e3, e4⟩ := part_whole hP rfl hall
                subst e1 e2 e3
                rw [e4]
                refine RW.weak (s' := ⟨123, [(0, .t (.sl (b.map encBy) false)), (15, .t (.ptr (partC 3 (crcF b) b.length b))), (123, .t crcT)], []⟩) (weak_frz [(1000, some ⟨5, 74, 0, [.agg [.t (encI 3), .t (.bool true), .t (.int .u32 (crcF b)), .own 63 gn 0 b.length, .own 66 gn 0 b.length]]⟩), (63, some ⟨1, 4, gn, ((List.replicate b.length true).map Tr.bool).map .t⟩), (66, some ⟨1, 5, gn, (b.map encBy).map .t⟩)] ⟨rfl, rfl, rfl, trivial⟩ trivial ⟨.t _, .res (Res.ptr _ _ _ _ _ _ _ rfl rfl rfl (Nat.le_of_ble_eq_true rfl) (fun m e x he hx => by match m with | 0 => (cases hx; cases he; exact Res.t _) | 1 => (cases hx; cases he; exact Res.t _) | 2 => (cases hx; cases he; exact Res.t _) | 3 => (cases hx; cases he; exact Res.ownM rfl (by simp)) | 4 => (cases hx; cases he; exact Res.ownM rfl (by simp)) | m + 5 => cases hx)) (.refl _), .t _, trivial⟩ trivial) rfl ?_
                refine RW.op rfl rfl (eff_move (v := .t _) rfl rfl rfl) ?_
                refine RW.op rfl rfl (eff_callXT (bytes_ret 3 b.length b (by omega) rfl) co11 rfl rfl rfl ⟨rfl, trivial⟩ rfl) ?_
                refine RW.op rfl rfl (eff_move (v := .t _) rfl rfl rfl) ?_
                refine RW.op rfl rfl (eff_extract rfl rfl rfl rfl) ?_
                refine RW.op rfl rfl (eff_extract rfl rfl rfl rfl) ?_
                refine RW.op rfl rfl (eff_assign (v := .t _) rfl rfl rfl) ?_
                refine RW.op rfl rfl (eff_assign (v := .t _) rfl rfl rfl) ?_
                refine RW.nil ?_
                refine awp_seq ?_
                refine awp_rw rfl ?_
                refine RW.op rfl rfl (eff_move (v := .t _) rfl rfl rfl) ?_
                refine RW.op rfl rfl (eff_iop (r := .bool true) rfl rfl rfl rfl (by rfl)) ?_
                refine RW.op rfl rfl (eff_move (v := .t _) rfl rfl rfl) ?_
                refine RW.gop rfl rfl rfl rfl rfl rfl (eff_move (v := .t _) rfl rfl rfl) ?_
                refine RW.gop rfl rfl rfl rfl rfl rfl (eff_move (v := .t _) rfl rfl rfl) ?_
                refine RW.gop rfl rfl rfl rfl rfl rfl (eff_callT (sameBytes_ret b) co12 rfl rfl rfl rfl) ?_
                refine RW.op rfl rfl (eff_pick (v := .t _) rfl rfl rfl rfl) ?_
                refine RW.op rfl rfl (eff_move (v := .t _) rfl rfl rfl) ?_
                refine RW.gop rfl rfl rfl rfl rfl rfl (eff_callT (lives_ret) co4 rfl rfl rfl rfl) ?_
                refine RW.op rfl rfl (eff_pick (v := .t _) rfl rfl rfl rfl) ?_
                refine RW.op rfl rfl (eff_assign (v := .t _) rfl rfl rfl) ?_
                refine RW.nil ?_
                refine awp_ret ?_
                exact ⟨Or.inr rfl, [_], ⟨.tmp (.t _), trivial⟩, .refl _⟩

end Go.Tv.D27

end
section
namespace Go.Proofs.YtgicknpbpdfadaaDoor
open Go Go.Tv Go.Tv.D27 Go.ChangeShapes Go.WideShapes Go.ChangeAt Go.WideMaps Go.WideElems Go.RowKit
set_option maxRecDepth 100000

theorem gNib : Tryd.prog.globalNamed "perigee/crc.nibbles" = some 0 := by kernel_rfl
theorem tNib : (Tryd.prog.globals[0]?).map (·.type) = some 105 := by kernel_rfl
def laid1 : List (String × DataW Unit) := [("perigee/crc.nibbles", Rows.laid_perigee_crc_nibbles)]
theorem door_met (os : Os) (args : Array Value) : laidMetH Tryd.prog laid1 ((World.doorLaid Tryd.prog 400 os).forCall (fun _ _ => 0) ⟨#[], args, []⟩).memory :=
  laidMetH_of_parts3 (fuel := 8) (laidMet_of_run' 8 (by kernel_rfl) (by kernel_rfl)) (by kernel_rfl) (by kernel_rfl)
theorem tabs_of_laid {W : World} (h : laidMetH Tryd.prog laid1 W) : TabOK W (fun _ => False) [(0, crcT)] := by
  intro g x hm
  simp only [List.mem_singleton, Prod.mk.injEq] at hm
  obtain ⟨rfl, rfl⟩ := hm
  exact tab_of_laid (l := crcTab) (k := .u32) h rfl (List.mem_singleton.2 rfl) (by intro e; cases e) gNib tNib Tryd.underlying105 Tryd.underlying36 (by kernel_rfl)
end Go.Proofs.YtgicknpbpdfadaaDoor

end
section
open Go Go.Tv Go.Proofs
namespace Go.Tv.D27
set_option maxRecDepth 20000

theorem map_of {α : Type} {f : α → Tr} {p : α → Prop} : ∀ {els : List Tr}, (∀ x, x ∈ els → ∃ n, p n ∧ x = f n) → ∃ l : List α, els = l.map f ∧ ∀ n, n ∈ l → p n
  | [], _ => ⟨[], rfl, fun n h => by simp at h⟩
  | x :: els, h => by
    obtain ⟨n, hp, rfl⟩ := h x List.mem_cons_self
    obtain ⟨l, rfl, hl⟩ := map_of (els := els) (fun y hy => h y (List.mem_cons_of_mem _ hy))
    exact ⟨n :: l, rfl, fun m hm => (List.mem_cons.1 hm).elim (fun e => e ▸ hp) (hl m)⟩

theorem wf_u8 {n : Int} (h : (Lit.int .u8 n).wf = true) : 0 ≤ n ∧ n < 256 := by
  simp [Lit.wf, IntKind.min, IntKind.max, IntKind.signed, IntKind.bits] at h; omega
theorem rd5 : Reads Tryd.prog 5 1 (fun ts => ∃ n, ts = [encBy n] ∧ 0 ≤ n ∧ n < 256) := (reads_int Tryd.underlying5 (by kernel_rfl)).mono (fun ts ⟨n, h, hw⟩ => ⟨n, h, wf_u8 hw⟩)
end Go.Tv.D27

end
section
open Go Go.Tv Go.Proofs
namespace Go.Tv.D27
set_option maxRecDepth 20000

theorem rd4 : Reads Tryd.prog 4 1 (fun ts => ∃ b, ts = [.bool b]) := reads_bool Tryd.underlying4 (by kernel_rfl)
theorem rd34m : Reads Tryd.prog 22 1 (fun ts => ∃ l : List Int, ts = [.sl (l.map encBy) false] ∧ l.length ≤ maxLen ∧ Bytes l) :=
  (reads_slice Tryd.underlying22 (by kernel_rfl) (by decide) (.inr rfl) rd5 (g := false)).mono (by
    rintro ts ⟨els, rfl, hm, h⟩
    obtain ⟨l, rfl, hl⟩ := map_of (f := encBy) (p := fun n => 0 ≤ n ∧ n < 256) (fun x hx => by obtain ⟨_, ⟨n, rfl, hn⟩, rfl⟩ := h x hx; exact ⟨n, hn, rfl⟩)
    exact ⟨l, rfl, by simpa using hm, hl⟩)
theorem rd64 : Reads Tryd.prog 44 4 (fun ts => ∃ f : Fate, encFt f = .agg ts ∧ FateOK f) :=
  (reads_struct Tryd.underlying44 (by kernel_rfl) (rdfs_cons rfl rd5 (rdfs_cons rfl rd5 (rdfs_cons rfl rd5 (rdfs_cons rfl rd4 rdfs_nil))))).mono (by
    rintro ts ⟨_, _, rfl, ⟨a, rfl, ha⟩, _, _, rfl, ⟨b, rfl, hb⟩, _, _, rfl, ⟨c, rfl, hc⟩, _, _, rfl, ⟨r, rfl⟩, rfl⟩
    exact ⟨⟨a, b, c, r⟩, rfl, ha, hb, hc⟩)
theorem rd57 : Reads Tryd.prog 23 1 (fun ts => ∃ l : List Fate, ts = [.sl (l.map encFt) false] ∧ l.length ≤ maxLen ∧ ∀ f, f ∈ l → FateOK f) :=
  (reads_slice Tryd.underlying23 (by kernel_rfl) (by decide) (.inl rfl) rd64 (g := true)).mono (by
    rintro ts ⟨els, rfl, hm, h⟩
    obtain ⟨l, rfl, hl⟩ := map_of (f := encFt) (p := FateOK) (fun x hx => by obtain ⟨_, ⟨o, ho, hd⟩, rfl⟩ := h x hx; exact ⟨o, hd, ho.symm⟩)
    exact ⟨l, rfl, by simpa using hm, hl⟩)
end Go.Tv.D27

end
section
namespace Go.Proofs.YtgicknpbpdfadaaDoor
open Go Go.Tv Go.Tv.D27 Go.ChangeShapes Go.WideShapes Go.ChangeAt Go.RowKit
set_option linter.unusedVariables false
set_option maxRecDepth 100000
theorem custodyCarries_contract (H : Type) (enc : TypeId × Value → H) (W : World) (base : Nat) (args : Array Value) (ds gs : List (DataW H)) (before : List MemPlace)
    (hval : ∀ (j : Nat) t v, Tryd.f3.params[j]? = some t → args[j]? = some v → Value.okWide Tryd.prog W .any base t v)
    (hW : DataW.Whole enc Tryd.prog Tryd.f3.params.toList Rows.custodyCarriesSpec.vars false W args.toList ds gs before) (hL : laidMetH Tryd.prog laid1 W) :
    Calls Tryd.prog 3 args W fun e W' => ∃ v, e = .returned v ∧ Rows.custodyCarriesSpec.post enc Tryd.prog Tryd.f3 false true false false W args v W' := by
  have hW' := hW
  obtain ⟨p, q, hA0, hV, rfl, hfz, hnd⟩ := hW
  have hA : DataW.TrodAll enc Tryd.prog W 0 (fun _ => true) true Tryd.f3.params.toList args.toList ds p := hA0
  rw [Tryd.params3] at hA hval
  obtain ⟨v0, vs0, d0, ds0, p0, q0, hargs, rfl, rfl, h0, r0⟩ := trodAll_cons hA
  obtain ⟨v1, vs1, d1, ds1, p1, q1, rfl, rfl, rfl, h1, r1⟩ := trodAll_cons r0
  obtain ⟨v2, vs2, d2, ds2, p2, q2, rfl, rfl, rfl, h2, r2⟩ := trodAll_cons r1
  obtain ⟨rfl, rfl, rfl⟩ := trodAll_nil r2
  obtain rfl : args = #[v0, v1, v2] := by cases args; simp_all
  obtain ⟨rfl, rfl⟩ := trodVars_none hV
  have k0 := hval 0 22 v0 rfl rfl
  obtain ⟨x1, hx1, l, hl, hm, hB⟩ := arg_slice Tryd.underlying22 rd34m k0 h0
  obtain rfl : x1 = .sl (l.map encBy) false := by simpa using hl
  unfold maxLen at hm
  have hm2 : l.length ≤ 9223372036854775807 := by simpa using hm
  have k1 := hval 1 5 v1 rfl rfl
  obtain ⟨z, rfl, hz⟩ := arg_int Tryd.underlying5 k1 h1
  have k2 := hval 2 23 v2 rfl rfl
  obtain ⟨x2, hx2, f, hf, hg, hF⟩ := arg_slice Tryd.underlying23 rd57 k2 h2
  obtain rfl : x2 = .sl (f.map encFt) false := by simpa using hf
  unfold maxLen at hg
  have hg2 : f.length ≤ 9223372036854775807 := by simpa using hg
  refine (law_callsT (carries_ret l hB hm2 z (wf_u8 hz) f hF hg2) (tabs_of_laid hL) (vl_cons hx1 (vl_cons (.int _ _) (vl_cons hx2 vl_nil)))).mono ?_
  rintro e W' ⟨rfl, hb⟩
  refine ⟨_, rfl, law_post (P := Tryd.prog) (by kernel_rfl) rfl (fun t ht => ?_) rfl Tryd.underlying4 hW' ⟨rfl, rfl, rfl⟩ hb⟩
  rw [Tryd.params3] at ht
  simp only [List.mem_cons, List.not_mem_nil, or_false] at ht
  rcases ht with rfl | rfl | rfl <;> exact ⟨by kernel_rfl, Nat.le_of_ble_eq_true (by kernel_rfl)⟩

theorem custodyCarries_lifted (os : Os) (started : os.Started) (H : Type) (enc : TypeId × Value → H) :
    ReturnsInHanded {} Tryd.checked os 3 .any (fun w args => (Rows.custodyCarriesSpec.pre enc Tryd.prog Tryd.f3 [] false w args ∧ laidMetH Tryd.prog laid1 w) ∧ sizedMet enc Tryd.prog Tryd.f3 (OpenSpec.ofChange Rows.custodyCarriesSpec) false w args)
      (Rows.custodyCarriesSpec.post enc Tryd.prog Tryd.f3 false true false false) := by
  refine returnsInHanded_of_change_and (C := Tryd.checked) (X := fun w _ => laidMetH Tryd.prog laid1 w) (fun _ _ _ hh h => h.of_heap hh) (by kernel_rfl) started (by kernel_rfl) Tryd.func3
    (ChangeSpec.witness_shaped (enc := enc) (C := Tryd.checked) (os := os) (X := fun w _ => laidMetH Tryd.prog laid1 w) false (World.doorLaid Tryd.prog 400 os) #[.slice none 0 0, .int .u8 0, .slice none 0 0] 8 rfl (World.shaped_of_RefB (by kernel_rfl) (by kernel_rfl)) (by kernel_rfl) (by kernel_rfl) (by kernel_rfl) (door_met os _)) ?_
  intro W base args ds gs before hval hW _ _ hL _
  exact custodyCarries_contract H enc W base args ds gs before hval hW hL

theorem custodyCarries_row_holds : Rows.CustodyCarriesSaid :=
  OpenClaim.holds_of_wide 3 Tryd.f3 rfl rfl rfl rfl rfl rfl rfl ⟨rfl, rfl, rfl, rfl, rfl⟩ rfl rfl rfl rfl rfl (by kernel_rfl) Tryd.func3 (by kernel_rfl)
    (of_decide_eq_true (by kernel_rfl)) (by unfold Func.isWrapper; first | (rw [if_pos (by decide +kernel)]; kernel_rfl) | (rw [if_neg (by decide +kernel)]; exact ⟨rfl, rfl⟩))
    (fun os started H enc _ => custodyCarries_lifted os started H enc)

theorem custodyCarriesCard_holds : Rows.CustodyCarriesCardSaid :=
  Claim7.holds_tied_plain_at .later [] [.data] true _ false
    custodyCarries_row_holds (fun _ h => by cases h) (by kernel_rfl) (fun _ h => by cases h) custodyCarries_row_tie rfl ⟨rfl, rfl⟩ (by kernel_rfl) rfl
    (fun f fn hf hfn => by
      obtain rfl : f = 3 := Option.some.inj ((show Tryd.prog.funcNamed "perigee/perigeelaw27.CustodyCarries" = some 3 by kernel_rfl).symm.trans hf) |>.symm
      obtain rfl : fn = Tryd.f3 := (Option.some.inj (Tryd.func3.symm.trans hfn)).symm
      exact ⟨by kernel_rfl, fun j t ht => by
        rw [Tryd.params3] at ht
        have hm : t ∈ [22, 5, 23] := by simpa using Array.mem_of_getElem? ht
        have hall : ([22, 5, 23].all fun u => !Tryd.prog.wantsStandIn u) = true := by kernel_rfl
        exact (show Tryd.prog.wantsStandIn t = false by simpa using List.all_eq_true.1 hall t hm)⟩)
    (by kernel_rfl)

end Go.Proofs.YtgicknpbpdfadaaDoor

end
