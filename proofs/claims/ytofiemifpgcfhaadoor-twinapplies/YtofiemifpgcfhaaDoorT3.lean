/- TwinApplies: for every input that reads as data, the call returns true and leaves its arguments as they were. No condition. -/
import Derived.Test.YtofiemifpgcfhaaDoorT2
import Derived.Test.YtofiemifpgcfhaaDoorT1
import Derived.Test.YtofiemifpgcfhaaDoorRows
import Derived.ProofKit
import Derived.Test.YtofiemifpgcfhaaDoorTie
import Derived.Test.YtofiemifpgcfhaaDoorCards
import Derived.SevenTiedAt
set_option linter.unnecessarySimpa false
set_option linter.unusedVariables false
set_option linter.unusedSimpArgs false
section
open Go Go.Tv Go.Proofs
namespace Go.Tv.C34
set_option maxRecDepth 20000
set_option maxHeartbeats 2000000
set_option linter.unusedSimpArgs false
set_option linter.unusedVariables false
theorem sendA : RetT Tryd.prog 20 [(1, deT)] [encT ⟨[], [zr]⟩, encF zf] (.tup [encT tA, encI 0]) := by
  have h := tsend_ret ⟨[], [zr]⟩ zf srt0 hp0 (by decide) (by decide) (fun x hx => by simp at hx) (by decide)
  rw [liv1] at h; exact h
theorem sendB : RetT Tryd.prog 20 [(1, deT)] [encT tA, encF f1] (.tup [encT tB, encI 0]) := by
  have h := tsend_ret tA f1 srtA hpA (by decide) (by decide) (fun x hx => by rw [List.mem_singleton.1 hx]; decide) (by decide)
  rw [liv2] at h; exact h
theorem bodB : ∀ x, x ∈ tB.sent → x.body.length ≤ 1000000 := by
  intro x hx
  have : x = zf ∨ x = f1 := by simpa using hx
  rcases this with rfl | rfl <;> decide
theorem hearC : RetT Tryd.prog 22 [(1, deT)] [encT tB, encR ⟨1, 0, 1, false⟩] (.tup [encT tC, encI 0]) := by
  have h := thear_ret tB ⟨1, 0, 1, false⟩ ⟨by decide, by decide⟩ (by decide) (by decide) bodB
  rw [liv3] at h; exact h
theorem hearD : RetT Tryd.prog 22 [(1, deT)] [encT tB, encR ⟨3, 0, 2, false⟩] (.tup [encT zt, encI 45]) := by
  have h := thear_ret tB ⟨3, 0, 2, false⟩ ⟨by decide, by decide⟩ (by decide) (by decide) bodB
  rw [liv4] at h; exact h

theorem lives_ret  : RetT Tryd.prog 16 [(1, deT)] [] (.bool true) := by
  refine retT_of_awp Tryd.func16 rfl (Nat.le_of_ble_eq_true rfl) ?_
  refine awp_seq ?_
  refine awp_rw rfl ?_
  refine RW.op rfl rfl (eff_assign (v := .t _) rfl rfl rfl) ?_
  refine RW.nil ?_
  refine awp_seq ?_
  refine awp_rw rfl ?_
  refine RW.op rfl rfl (eff_callT (new17_ret) co17 rfl rfl rfl rfl) ?_
  refine RW.op rfl rfl (eff_buildT (ys := [_, _, _, _, _]) rfl rfl tz30 tg30 rfl) ?_
  refine RW.op rfl rfl (eff_callXW (xs := [_, _]) (sendA) co20 rfl rfl rfl ⟨rfl, trivial⟩ rfl (by repeat' first | exact trivial | exact Wk.refl _ | exact Wk.sl _ | refine And.intro ?_ ?_ | refine Wk.aggP ?_)) ?_
  refine RW.op rfl rfl (eff_move (v := .t _) rfl rfl rfl) ?_
  refine RW.op rfl rfl (eff_extract rfl rfl rfl rfl) ?_
  refine RW.op rfl rfl (eff_extract rfl rfl rfl rfl) ?_
  refine RW.new rfl rfl (eff_allocK (k := 2) (id := 1) rfl rfl tz37 rfl rfl) ?_
  refine RW.store rfl rfl (eff_storeW (v := .t _) (els := [_]) (els' := [_]) rfl rfl ti37 rfl rfl rfl rfl rfl rfl rfl rfl rfl) ?_
  refine RW.op rfl rfl (eff_assign (v := .t _) rfl rfl rfl) ?_
  refine RW.nil ?_
  refine awp_seq ?_
  refine awp_rw rfl ?_
  refine RW.op rfl rfl (eff_load rfl rfl ti37 rfl (.whole rfl rfl rfl rfl rfl rfl)) ?_
  refine RW.op rfl rfl (eff_buildT (ys := [_, _, _, _, _]) rfl rfl tz30 tg30 rfl) ?_
  refine RW.op rfl rfl (eff_callXW (xs := [_, _]) (sendB) co20 rfl rfl rfl ⟨rfl, trivial⟩ rfl (by repeat' first | exact trivial | exact Wk.refl _ | exact Wk.sl _ | refine And.intro ?_ ?_ | refine Wk.aggP ?_)) ?_
  refine RW.op rfl rfl (eff_move (v := .t _) rfl rfl rfl) ?_
  refine RW.op rfl rfl (eff_extract rfl rfl rfl rfl) ?_
  refine RW.op rfl rfl (eff_extract rfl rfl rfl rfl) ?_
  refine RW.new rfl rfl (eff_allocK (k := 2) (id := 3) rfl rfl tz37 rfl rfl) ?_
  refine RW.store rfl rfl (eff_storeW (v := .t _) (els := [_]) (els' := [_]) rfl rfl ti37 rfl rfl rfl rfl rfl rfl rfl rfl rfl) ?_
  refine RW.op rfl rfl (eff_assign (v := .t _) rfl rfl rfl) ?_
  refine RW.nil ?_
  refine awp_seq ?_
  refine awp_rw rfl ?_
  refine RW.op rfl rfl (eff_load rfl rfl ti37 rfl (.whole rfl rfl rfl rfl rfl rfl)) ?_
  refine RW.op rfl rfl (eff_buildT (ys := [_, _, _, _]) rfl rfl tz23 tg23 rfl) ?_
  refine RW.op rfl rfl (eff_callXT (hearC) co22 rfl rfl rfl ⟨rfl, trivial⟩ rfl) ?_
  refine RW.op rfl rfl (eff_move (v := .t _) rfl rfl rfl) ?_
  refine RW.op rfl rfl (eff_extract rfl rfl rfl rfl) ?_
  refine RW.op rfl rfl (eff_extract rfl rfl rfl rfl) ?_
  refine RW.new rfl rfl (eff_allocK (k := 2) (id := 5) rfl rfl tz37 rfl rfl) ?_
  refine RW.store rfl rfl (eff_storeW (v := .t _) (els := [_]) (els' := [_]) rfl rfl ti37 rfl rfl rfl rfl rfl rfl rfl rfl rfl) ?_
  refine RW.op rfl rfl (eff_assign (v := .t _) rfl rfl rfl) ?_
  refine RW.nil ?_
  refine awp_seq ?_
  refine awp_rw rfl ?_
  refine RW.op rfl rfl (eff_load rfl rfl ti37 rfl (.whole rfl rfl rfl rfl rfl rfl)) ?_
  refine RW.op rfl rfl (eff_buildT (ys := [_, _, _, _]) rfl rfl tz23 tg23 rfl) ?_
  refine RW.op rfl rfl (eff_callXT (hearD) co22 rfl rfl rfl ⟨rfl, trivial⟩ rfl) ?_
  refine RW.op rfl rfl (eff_move (v := .t _) rfl rfl rfl) ?_
  refine RW.op rfl rfl (eff_extract rfl rfl rfl rfl) ?_
  refine RW.op rfl rfl (eff_extract rfl rfl rfl rfl) ?_
  refine RW.new rfl rfl (eff_allocK (k := 2) (id := 7) rfl rfl tz37 rfl rfl) ?_
  refine RW.store rfl rfl (eff_storeW (v := .t _) (els := [_]) (els' := [_]) rfl rfl ti37 rfl rfl rfl rfl rfl rfl rfl rfl rfl) ?_
  refine RW.op rfl rfl (eff_assign (v := .t _) rfl rfl rfl) ?_
  refine RW.nil ?_
  refine awp_seq ?_
  refine awp_seq ?_
  refine awp_rw rfl ?_
  refine RW.op rfl rfl (eff_move (v := .t _) rfl rfl rfl) ?_
  refine RW.op rfl rfl (eff_iop (r := .bool false) rfl rfl rfl rfl (by rfl)) ?_
  refine RW.op rfl rfl (eff_move (v := .t _) rfl rfl rfl) ?_
  refine RW.gop rfl rfl rfl rfl rfl rfl (eff_move (v := .t _) rfl rfl rfl) ?_
  refine RW.gop rfl rfl rfl rfl rfl rfl (eff_iop (r := .bool false) rfl rfl rfl rfl (by rfl)) ?_
  refine RW.op rfl rfl (eff_pick (v := .t _) rfl rfl rfl rfl) ?_
  refine RW.op rfl rfl (eff_move (v := .t _) rfl rfl rfl) ?_
  refine RW.gop rfl rfl rfl rfl rfl rfl (eff_move (v := .t _) rfl rfl rfl) ?_
  refine RW.gop rfl rfl rfl rfl rfl rfl (eff_iop (r := .bool false) rfl rfl rfl rfl (by rfl)) ?_
  refine RW.op rfl rfl (eff_pick (v := .t _) rfl rfl rfl rfl) ?_
  refine RW.op rfl rfl (eff_move (v := .t _) rfl rfl rfl) ?_
  refine RW.gop rfl rfl rfl rfl rfl rfl (eff_move (v := .t _) rfl rfl rfl) ?_
  refine RW.gop rfl rfl rfl rfl rfl rfl (eff_iop (r := .bool false) rfl rfl rfl rfl (by rfl)) ?_
  refine RW.op rfl rfl (eff_pick (v := .t _) rfl rfl rfl rfl) ?_
  refine RW.nil ?_
  refine awp_cond rfl (fun h => nomatch h) (fun _ => ?_)
  refine awp_skip ?_
  refine awp_seq ?_
  refine awp_rw rfl ?_
  refine RW.op rfl rfl (eff_buildT (ys := [_, _, _, _]) rfl rfl tz23 tg23 rfl) ?_
  refine RW.op rfl rfl (eff_buildT (ys := [_, _, _, _]) rfl rfl tz23 tg23 rfl) ?_
  refine RW.op rfl rfl (eff_buildT (ys := [_, _, _, _]) rfl rfl tz23 tg23 rfl) ?_
  refine RW.op rfl rfl (eff_buildT (ys := [_, _, _, _]) rfl rfl tz23 tg23 rfl) ?_
  refine RW.new rfl rfl (eff_buildSliceL (id := 52) (els := [.t (.agg [_, _, _, _]), .t (.agg [_, _, _, _]), .t (.agg [_, _, _, _]), .t (.agg [_, _, _, _])]) rfl rfl te35 tz23 rfl (by decide) (by decide) rfl rfl rfl rfl) ?_
  refine RW.op rfl rfl (eff_assign (v := .own _ _ _ _) rfl rfl rfl) ?_
  refine RW.nil ?_
  refine awp_seq ?_
  refine awp_weak (weak_frz (n := 70) (fr' := [(3, .ptr 3 0 0 0), (5, .ptr 5 0 0 0), (9, .t (.sl (L4.map encR) false)), (71, .t deT)]) (st' := [(3, some ⟨2, 37, 0, [.t (encT tB)]⟩), (5, some ⟨2, 37, 0, [.t (encT tC)]⟩)]) [(52, some ⟨4, 23, 0, (L4.map encR).map .t⟩)] ⟨rfl, trivial⟩ ⟨rfl, rfl, trivial⟩ ⟨wa_eq rfl rfl, wa_eq rfl rfl, .res (Res.ownT (xs := L4.map encR) rfl rfl rfl rfl) (.refl _), wa_eq rfl rfl, trivial⟩ ⟨rfl, okE_one rfl, rfl, okE_one rfl, trivial⟩) ?_
  refine awp_rd [(some 53, []), (some 54, []), (some 55, []), (some 56, []), (some 57, []), (some 58, []), (some 59, []), (some 60, []), (some 61, []), (some 62, []), (some 63, []), (some 64, []), (some 65, []), (some 66, []), (some 67, []), (some 68, []), (some 69, []), (some 0, [])] [[], [0], [], [0, 1, 2], [0, 1, 2, 3], [0, 1, 2, 3, 4], [0, 1, 2, 3, 4, 5], [0, 1, 2, 3, 4], [0, 1, 2, 3, 4, 7], [0, 1, 2, 3, 4, 5, 6, 7, 8], [0, 1, 2, 3, 4, 5, 6, 7, 8, 9], [0, 1, 2, 3, 4, 5, 6, 7, 8, 9, 10], [0, 1, 2, 3, 4, 5, 6, 7, 8, 9, 10, 11], [0, 1, 2, 3, 4, 5, 6, 7, 8, 9, 10, 11, 12], [0, 1, 2, 3, 4, 5, 6, 7, 8, 9, 10, 11, 12, 13], [0, 1, 2, 3, 4, 5, 6, 7, 8, 9, 10, 11, 12, 13, 14], [0, 1, 2, 3, 4, 5, 6, 7, 8, 9, 10, 11, 12, 13, 14, 15], [0, 1, 2, 3, 4, 5, 6, 7, 8, 9, 10, 11, 12, 13, 14, 15, 16]] tm rfl rfl rfl rfl ?_
  refine RD.op rfl rfl rfl (eff_fieldAddr rfl rfl tf37_1 (by decide) rfl rfl rfl (Nat.le_of_ble_eq_true rfl)) ?_
  refine RD.op rfl rfl rfl (eff_load (y := .t _) rfl rfl ti35 rfl (.one rfl rfl rfl rfl)) ?_
  refine RD.op rfl rfl rfl (eff_move (v := .t _) rfl rfl rfl) ?_
  refine RD.op rfl rfl rfl (eff_callT (sameStates_ret L4 (by decide)) co25 rfl rfl rfl rfl) ?_
  refine RD.op rfl rfl rfl (eff_move (v := .t _) rfl rfl rfl) ?_
  refine RD.gop rfl rfl rfl rfl rfl rfl rfl (eff_fieldAddr rfl rfl tf37_1 (by decide) rfl rfl rfl (Nat.le_of_ble_eq_true rfl)) ?_
  refine RD.gop rfl rfl rfl rfl rfl rfl rfl (eff_load (y := .t _) rfl rfl ti35 rfl (.one rfl rfl rfl rfl)) ?_
  refine RD.gop rfl rfl rfl rfl rfl rfl rfl (eff_move (v := .t _) rfl rfl rfl) ?_
  refine RD.gop rfl rfl rfl rfl rfl rfl rfl (eff_sliceM (g := encR) (xs := L4) (l := some 2) (h := none) (r := [⟨1, 0, 1, false⟩, ⟨2, 0, 2, false⟩]) rfl rfl te35 rfl (fun _ => rfl) (.yes rfl rfl) .no (by decide) (by decide) (by decide)) ?_
  refine RD.gop rfl rfl rfl rfl rfl rfl rfl (eff_callT (sameStates_ret [⟨1, 0, 1, false⟩, ⟨2, 0, 2, false⟩] (by decide)) co25 rfl rfl rfl rfl) ?_
  refine RD.op rfl rfl rfl (eff_pick (v := .t _) rfl rfl rfl rfl) ?_
  refine RD.op rfl rfl rfl (eff_move (v := .t _) rfl rfl rfl) ?_
  refine RD.gop rfl rfl rfl rfl rfl rfl rfl (eff_fieldAddr rfl rfl tf37_0 (by decide) rfl rfl rfl (Nat.le_of_ble_eq_true rfl)) ?_
  refine RD.gop rfl rfl rfl rfl rfl rfl rfl (eff_load (y := .t _) rfl rfl ti34 rfl (.one rfl rfl rfl rfl)) ?_
  refine RD.gop rfl rfl rfl rfl rfl rfl rfl (eff_lenM rfl rfl te34 rfl) ?_
  refine RD.gop rfl rfl rfl rfl rfl rfl rfl (eff_iop (r := .bool true) rfl rfl rfl rfl (by rfl)) ?_
  refine RD.op rfl rfl rfl (eff_pick (v := .t _) rfl rfl rfl rfl) ?_
  refine RD.op rfl rfl rfl (eff_assign (v := .t _) rfl rfl rfl) ?_
  refine RD.nil ?_
  refine awp_ret ?_
  first
    | exact ⟨Or.inr rfl, [_], ⟨.tmp (.t _), trivial⟩, .refl _⟩
    | exact ⟨Or.inr rfl, [_], ⟨.tmp (.t _), trivial⟩, (by repeat' first | exact trivial | exact Wk.refl _ | exact Wk.sl _ | refine And.intro ?_ ?_ | refine Wk.tupP ?_ | refine Wk.aggP ?_)⟩
    | exact ⟨Or.inr rfl, [_], ⟨.tmp (Res.ownT rfl rfl rfl rfl), trivial⟩, .refl _⟩
    | exact ⟨Or.inr rfl, [_], ⟨.tmp (Res.ownT rfl rfl rfl rfl), trivial⟩, (by repeat' first | exact trivial | exact Wk.refl _ | exact Wk.sl _ | refine And.intro ?_ ?_ | refine Wk.tupP ?_ | refine Wk.aggP ?_)⟩

theorem law3 (n h k sq ah : Int) (lk ul : Bool) (hn : I64 n) (hh : I64 h) (hk : I64 k) (hsq : I64 sq) (hah : I64 ah) : RetT Tryd.prog 3 [(1, deT)] [encI n, encI h, encI k, .bool lk, encI sq, encI ah, .bool ul] (.bool true) := by
  refine retT_of_awp Tryd.func3 rfl (Nat.le_of_ble_eq_true rfl) ?_
  refine awp_seq ?_
  refine awp_rw rfl ?_
  refine RW.op rfl rfl (eff_assign (v := .t _) rfl rfl rfl) ?_
  refine RW.nil ?_
  refine awp_seq ?_
  refine awp_rw rfl ?_
  refine RW.op rfl rfl (eff_move (v := .t _) rfl rfl rfl) ?_
  refine RW.op rfl rfl (eff_move (v := .t _) rfl rfl rfl) ?_
  refine RW.op rfl rfl (eff_move (v := .t _) rfl rfl rfl) ?_
  refine RW.op rfl rfl (eff_move (v := .t _) rfl rfl rfl) ?_
  refine RW.op rfl rfl (eff_callT (state_ret n h k lk hn hh hk) co12 rfl rfl rfl rfl) ?_
  refine RW.new rfl rfl (eff_allocK (k := 4) (id := 15) rfl rfl tz23 rfl rfl) ?_
  refine RW.store rfl rfl (eff_storeW (v := .t _) (els := [_]) (els' := [_]) rfl rfl ti23 rfl rfl rfl rfl rfl rfl rfl rfl rfl) ?_
  refine RW.nil ?_
  refine awp_seq ?_
  refine awp_rd [(some 26, []), (some 27, []), (some 28, []), (some 29, []), (some 30, []), (some 31, []), (some 32, []), (some 33, [33]), (some 16, [])] [[], [], [1], [], [3], [1, 2, 3, 4], [1, 2, 3, 4, 5], [0, 1, 2, 3, 4, 5, 6], [0, 1, 2, 3, 4, 5, 6, 7]] tm rfl rfl rfl rfl ?_
  refine RD.op rfl rfl rfl (eff_move (v := .t _) rfl rfl rfl) ?_
  refine RD.op rfl rfl rfl (eff_fieldAddr rfl rfl tf23_0 (by decide) rfl rfl rfl (Nat.le_of_ble_eq_true rfl)) ?_
  refine RD.op rfl rfl rfl (eff_load (y := .t _) rfl rfl ti3 rfl (.one rfl rfl rfl rfl)) ?_
  refine RD.op rfl rfl rfl (eff_move (v := .t _) rfl rfl rfl) ?_
  refine RD.op rfl rfl rfl (eff_callT (around_ret sq 40 hsq (by decide)) co13 rfl rfl rfl rfl) ?_
  refine RD.op rfl rfl rfl (eff_iop rfl rfl rfl rfl rfl) ?_
  refine RD.op rfl rfl rfl (eff_iop rfl rfl rfl rfl rfl) ?_
  refine RD.new rfl rfl rfl (eff_buildSlice1 (id := 33) (els := [_, _]) rfl rfl te26 tz3 rfl (by decide) rfl rfl rfl rfl) ?_
  refine RD.op rfl rfl rfl (eff_assign (v := .own _ _ _ _) rfl rfl rfl) ?_
  refine RD.nil ?_
  refine awp_seq ?_
  refine awp_rd [(some 34, []), (some 35, []), (some 36, []), (some 37, []), (some 38, []), (some 39, []), (some 40, []), (some 41, []), (some 42, []), (some 43, []), (some 44, []), (some 45, []), (some 46, []), (some 47, [47]), (some 17, [])] [[], [0], [], [2], [0, 1, 2, 3], [], [2, 3, 5], [], [7], [7, 8], [], [2, 3, 5, 6, 10], [2, 3, 5, 6, 7, 8, 9, 10, 11], [0, 1, 2, 3, 4, 5, 6, 7, 8, 9, 10, 11, 12], [0, 1, 2, 3, 4, 5, 6, 7, 8, 9, 10, 11, 12, 13]] tm rfl rfl rfl rfl ?_
  refine RD.op rfl rfl rfl (eff_fieldAddr rfl rfl tf23_2 (by decide) rfl rfl rfl (Nat.le_of_ble_eq_true rfl)) ?_
  refine RD.op rfl rfl rfl (eff_load (y := .t _) rfl rfl ti3 rfl (.one rfl rfl rfl rfl)) ?_
  refine RD.op rfl rfl rfl (eff_move (v := .t _) rfl rfl rfl) ?_
  refine RD.op rfl rfl rfl (eff_callT (around_ret ah 8 hah (by decide)) co13 rfl rfl rfl rfl) ?_
  refine RD.op rfl rfl rfl (eff_iop rfl rfl rfl rfl rfl) ?_
  refine RD.op rfl rfl rfl (eff_move (v := .t _) rfl rfl rfl) ?_
  refine RD.op rfl rfl rfl (eff_callT (around_ret ah 20000 hah (by decide)) co13 rfl rfl rfl rfl) ?_
  refine RD.op rfl rfl rfl (eff_fieldAddr rfl rfl tf23_2 (by decide) rfl rfl rfl (Nat.le_of_ble_eq_true rfl)) ?_
  refine RD.op rfl rfl rfl (eff_load (y := .t _) rfl rfl ti3 rfl (.one rfl rfl rfl rfl)) ?_
  refine RD.op rfl rfl rfl (eff_iop rfl rfl rfl rfl rfl) ?_
  refine RD.op rfl rfl rfl (eff_move (v := .t _) rfl rfl rfl) ?_
  refine RD.op rfl rfl rfl (eff_callT (around_ret ah 4 hah (by decide)) co13 rfl rfl rfl rfl) ?_
  refine RD.op rfl rfl rfl (eff_iop rfl rfl rfl rfl rfl) ?_
  refine RD.new rfl rfl rfl (eff_buildSlice1 (id := 47) (els := [_, _, _]) rfl rfl te26 tz3 rfl (by decide) rfl rfl rfl rfl) ?_
  refine RD.op rfl rfl rfl (eff_assign (v := .own _ _ _ _) rfl rfl rfl) ?_
  refine RD.nil ?_
  refine awp_seq ?_
  refine awp_seq ?_
  refine awp_rw rfl ?_
  refine RW.op rfl rfl (eff_assign (v := .t _) rfl rfl rfl) ?_
  refine RW.nil ?_
  refine awp_block ?_
  refine awp_loopW (fun m s => ∃ (i : Nat) (la : List Int) (lb : List Int), (i ≤ 2) ∧ (la.length = 2) ∧ (lb.length = 3) ∧ m = 2 - i ∧ s = ⟨74, [(6, .t (.bool ul)), (15, .ptr 15 0 0 0), (16, .own 33 0 0 la.length), (17, .own 47 0 0 lb.length), (18, .t (encI (i : Nat))), (75, .t deT)], [(15, some ⟨4, 23, 0, [.t (encR (state n h k lk))]⟩), (33, some ⟨1, 3, 0, (la.map encI).map .t⟩), (47, some ⟨1, 3, 0, (lb.map encI).map .t⟩)]⟩) (_) (⟨_, weak_keep (n := 74) (fr' := [(6, .t (.bool ul)), (15, .ptr 15 0 0 0), (16, .own 33 0 0 ([_, _]).length), (17, .own 47 0 0 ([_, _, _]).length), (18, .t (encI (0 : Nat))), (75, .t deT)]) (st' := [(15, some ⟨4, 23, 0, [.t (encR (state n h k lk))]⟩), (33, some ⟨1, 3, 0, (([_, _]).map encI).map .t⟩), (47, some ⟨1, 3, 0, (([_, _, _]).map encI).map .t⟩)]) ⟨rfl, rfl, rfl, rfl, rfl, rfl, rfl, rfl, rfl, rfl, rfl, rfl, trivial⟩ ⟨rfl, okE_one rfl, rfl, okE_t, rfl, okE_t, trivial⟩, 0, [_, _], [_, _, _], (by omega), (by rfl), (by rfl), rfl, rfl⟩) ?_
  rintro m s ⟨i, la, lb, hi, hla, hlb, rfl, rfl⟩
  refine awp_seq ?_
  refine awp_seq ?_
  refine awp_rw rfl ?_
  refine RW.op rfl rfl (eff_move (v := .t _) rfl rfl rfl) ?_
  refine RW.op rfl rfl (eff_iop rfl rfl rfl rfl rfl) ?_
  refine RW.nil ?_
  refine awp_cond rfl (fun h1 => ?_) (fun h1 => ?_)
  · try simp only [decide_eq_true_eq, decide_eq_false_iff_not, beq_iff_eq, bne_iff_ne, bne_eq_false_iff_eq, beq_eq_false_iff_ne, Bool.not_eq_true, Bool.not_eq_false, Bool.not_eq_true', Bool.not_eq_false', ne_eq] at h1
    refine awp_skip ?_
    refine awp_seq ?_
    refine awp_block ?_
    refine awp_seq ?_
    refine awp_rw rfl ?_
    refine RW.op rfl rfl (eff_assign (v := .t _) rfl rfl rfl) ?_
    refine RW.nil ?_
    refine awp_block ?_
    refine awp_loopW (fun m s => ∃ (q : Nat), (q ≤ 3) ∧ m = 3 - q ∧ s = ⟨74, [(6, .t (.bool ul)), (15, .ptr 15 0 0 0), (16, .own 33 0 0 la.length), (17, .own 47 0 0 lb.length), (18, .t (encI (i : Nat))), (19, .t (encI (q : Nat))), (75, .t deT)], [(15, some ⟨4, 23, 0, [.t (encR (state n h k lk))]⟩), (33, some ⟨1, 3, 0, (la.map encI).map .t⟩), (47, some ⟨1, 3, 0, (lb.map encI).map .t⟩)]⟩) (_) (⟨_, weak_keep (n := 74) (fr' := [(6, .t (.bool ul)), (15, .ptr 15 0 0 0), (16, .own 33 0 0 la.length), (17, .own 47 0 0 lb.length), (18, .t (encI (i : Nat))), (19, .t (encI (0 : Nat))), (75, .t deT)]) (st' := [(15, some ⟨4, 23, 0, [.t (encR (state n h k lk))]⟩), (33, some ⟨1, 3, 0, (la.map encI).map .t⟩), (47, some ⟨1, 3, 0, (lb.map encI).map .t⟩)]) ⟨rfl, rfl, rfl, rfl, rfl, rfl, rfl, rfl, rfl, rfl, rfl, rfl, rfl, rfl, trivial⟩ ⟨rfl, okE_one rfl, rfl, okE_t, rfl, okE_t, trivial⟩, 0, (by omega), rfl, rfl⟩) ?_
    rintro m s ⟨q, hq, rfl, rfl⟩
    refine awp_seq ?_
    refine awp_seq ?_
    refine awp_rw rfl ?_
    refine RW.op rfl rfl (eff_move (v := .t _) rfl rfl rfl) ?_
    refine RW.op rfl rfl (eff_iop rfl rfl rfl rfl rfl) ?_
    refine RW.nil ?_
    refine awp_cond rfl (fun h2 => ?_) (fun h2 => ?_)
    · try simp only [decide_eq_true_eq, decide_eq_false_iff_not, beq_iff_eq, bne_iff_ne, bne_eq_false_iff_eq, beq_eq_false_iff_ne, Bool.not_eq_true, Bool.not_eq_false, Bool.not_eq_true', Bool.not_eq_false', ne_eq] at h2
      refine awp_skip ?_
      refine awp_seq ?_
      refine awp_block ?_
      refine awp_seq ?_
      refine awp_rd [(some 56, []), (some 57, []), (some 58, []), (some 59, []), (some 60, []), (some 61, []), (some 62, []), (some 63, []), (some 64, []), (some 65, []), (some 20, [20]), (none, [20])] [[], [], [0, 1], [0, 1, 2], [], [], [4, 5], [4, 5, 6], [], [0, 1, 2, 3, 4, 5, 6, 7, 8], [], [0, 1, 2, 3, 4, 5, 6, 7, 8, 9, 10]] tm rfl rfl rfl rfl ?_
      refine RD.op rfl rfl rfl (eff_move (v := .own _ _ _ _) rfl rfl rfl) ?_
      refine RD.op rfl rfl rfl (eff_move (v := .t _) rfl rfl rfl) ?_
      refine RD.op rfl rfl rfl (eff_indexAddr rfl rfl te26 rfl rfl rfl rfl rfl rfl (by omega)) ?_
      refine RD.op rfl rfl rfl (eff_load (y := .t (encI (la[i]'(by omega)))) rfl rfl ti3 rfl (.one rfl rfl (by rw [Nat.zero_add]; exact elI (by omega)) rfl)) ?_
      refine RD.op rfl rfl rfl (eff_move (v := .own _ _ _ _) rfl rfl rfl) ?_
      refine RD.op rfl rfl rfl (eff_move (v := .t _) rfl rfl rfl) ?_
      refine RD.op rfl rfl rfl (eff_indexAddr rfl rfl te26 rfl rfl rfl rfl rfl rfl (by omega)) ?_
      refine RD.op rfl rfl rfl (eff_load (y := .t (encI (lb[q]'(by omega)))) rfl rfl ti3 rfl (.one rfl rfl (by rw [Nat.zero_add]; exact elI (by omega)) rfl)) ?_
      refine RD.op rfl rfl rfl (eff_move (v := .t _) rfl rfl rfl) ?_
      refine RD.op rfl rfl rfl (eff_buildT (ys := [_, _, _, _, _]) rfl rfl tz30 tg30 rfl) ?_
      refine RD.new rfl rfl rfl (eff_allocK (k := 5) (id := 20) rfl rfl tz30 rfl rfl) ?_
      refine RD.store rfl rfl rfl (eff_storeW (v := .t _) (els := [_]) (els' := [_]) rfl rfl ti30 rfl rfl rfl rfl rfl rfl rfl rfl rfl) ?_
      refine RD.nil ?_
      refine awp_seq ?_
      refine awp_rd [(some 66, []), (some 67, []), (some 68, []), (some 69, []), (some 70, []), (some 71, []), (some 72, [])] [[], [], [0, 1], [], [], [0, 1, 2, 3, 4], [0, 1, 2, 3, 4, 5]] tm rfl rfl rfl rfl ?_
      refine RD.op rfl rfl rfl (eff_load rfl rfl ti23 rfl (.whole rfl rfl rfl rfl rfl rfl)) ?_
      refine RD.op rfl rfl rfl (eff_load rfl rfl ti30 rfl (.whole rfl rfl rfl rfl rfl rfl)) ?_
      refine RD.op rfl rfl rfl (eff_callXW (xs := [_, _]) (apply_ret _ ⟨_, _, _, [], _⟩ (state_hp _ _ _ _)) co14 rfl rfl rfl ⟨rfl, trivial⟩ rfl (by repeat' first | exact trivial | exact Wk.refl _ | exact Wk.sl _ | refine And.intro ?_ ?_ | refine Wk.aggP ?_)) ?_
      refine RD.op rfl rfl rfl (eff_load rfl rfl ti23 rfl (.whole rfl rfl rfl rfl rfl rfl)) ?_
      refine RD.op rfl rfl rfl (eff_load rfl rfl ti30 rfl (.whole rfl rfl rfl rfl rfl rfl)) ?_
      refine RD.op rfl rfl rfl (eff_callW (xs := [_, _]) (rapply_ret _ ⟨_, _, _, [], _⟩ (state_hp _ _ _ _)) co15 rfl rfl rfl rfl (by repeat' first | exact trivial | exact Wk.refl _ | exact Wk.sl _ | refine And.intro ?_ ?_ | refine Wk.aggP ?_)) ?_
      refine RD.op rfl rfl rfl (eff_structNeqA (cells := cellsR) (a := (apply _ _)) (b := (apply _ _)) rfl rfl ts23s ti23 th23 cellsR_inj cellsR_kind rfl rfl) ?_
      refine RD.nil ?_
      refine awp_cond rfl (fun h3 => ?_) (fun h3 => ?_)
      · try simp only [decide_eq_true_eq, decide_eq_false_iff_not, beq_iff_eq, bne_iff_ne, bne_eq_false_iff_eq, beq_eq_false_iff_ne, Bool.not_eq_true, Bool.not_eq_false, Bool.not_eq_true', Bool.not_eq_false', ne_eq] at h3
        refine awp_seq ?_
        refine awp_rw rfl ?_
        refine RW.op rfl rfl (eff_assign (v := .t _) rfl rfl rfl) ?_
        refine RW.nil ?_
        refine awp_ret ?_
        exfalso; simp_all
      · try simp only [decide_eq_true_eq, decide_eq_false_iff_not, beq_iff_eq, bne_iff_ne, bne_eq_false_iff_eq, beq_eq_false_iff_ne, Bool.not_eq_true, Bool.not_eq_false, Bool.not_eq_true', Bool.not_eq_false', ne_eq] at h3
        refine awp_skip ?_
        refine awp_rw rfl ?_
        refine RW.op rfl rfl (eff_move (v := .t _) rfl rfl rfl) ?_
        refine RW.op rfl rfl (eff_iop rfl rfl rfl rfl (iadd (by omega))) ?_
        refine RW.op rfl rfl (eff_assign (v := .t _) rfl rfl rfl) ?_
        refine RW.nil ?_
        refine ⟨_, ?_, _, weak_keep (n := 74) (fr' := [(6, .t (.bool ul)), (15, .ptr 15 0 0 0), (16, .own 33 0 0 la.length), (17, .own 47 0 0 lb.length), (18, .t (encI (i : Nat))), (19, .t (encI ((q + 1) : Nat))), (75, .t deT)]) (st' := [(15, some ⟨4, 23, 0, [.t (encR (state n h k lk))]⟩), (33, some ⟨1, 3, 0, (la.map encI).map .t⟩), (47, some ⟨1, 3, 0, (lb.map encI).map .t⟩)]) ⟨rfl, rfl, rfl, rfl, rfl, rfl, rfl, rfl, rfl, rfl, rfl, rfl, rfl, rfl, trivial⟩ ⟨rfl, okE_one rfl, rfl, okE_t, rfl, okE_t, trivial⟩, q + 1, (by omega), rfl, rfl⟩
        omega
    · try simp only [decide_eq_true_eq, decide_eq_false_iff_not, beq_iff_eq, bne_iff_ne, bne_eq_false_iff_eq, beq_eq_false_iff_ne, Bool.not_eq_true, Bool.not_eq_false, Bool.not_eq_true', Bool.not_eq_false', ne_eq] at h2
      refine awp_exit ?_
      refine awp_rw rfl ?_
      refine RW.op rfl rfl (eff_move (v := .t _) rfl rfl rfl) ?_
      refine RW.op rfl rfl (eff_iop rfl rfl rfl rfl (iadd (by omega))) ?_
      refine RW.op rfl rfl (eff_assign (v := .t _) rfl rfl rfl) ?_
      refine RW.nil ?_
      refine ⟨_, ?_, _, weak_keep (n := 74) (fr' := [(6, .t (.bool ul)), (15, .ptr 15 0 0 0), (16, .own 33 0 0 la.length), (17, .own 47 0 0 lb.length), (18, .t (encI ((i + 1) : Nat))), (75, .t deT)]) (st' := [(15, some ⟨4, 23, 0, [.t (encR (state n h k lk))]⟩), (33, some ⟨1, 3, 0, (la.map encI).map .t⟩), (47, some ⟨1, 3, 0, (lb.map encI).map .t⟩)]) ⟨rfl, rfl, rfl, rfl, rfl, rfl, rfl, rfl, rfl, rfl, rfl, rfl, trivial⟩ ⟨rfl, okE_one rfl, rfl, okE_t, rfl, okE_t, trivial⟩, i + 1, la, lb, (by omega), (by exact hla), (by exact hlb), rfl, rfl⟩
      omega
  · try simp only [decide_eq_true_eq, decide_eq_false_iff_not, beq_iff_eq, bne_iff_ne, bne_eq_false_iff_eq, beq_eq_false_iff_ne, Bool.not_eq_true, Bool.not_eq_false, Bool.not_eq_true', Bool.not_eq_false', ne_eq] at h1
    refine awp_exit ?_
    refine awp_seq ?_
    refine awp_rw rfl ?_
    refine RW.op rfl rfl (eff_callXT (lives_ret) co16 rfl rfl rfl ⟨rfl, trivial⟩ rfl) ?_
    refine RW.op rfl rfl (eff_assign (v := .t _) rfl rfl rfl) ?_
    refine RW.nil ?_
    refine awp_ret ?_
    first
      | exact ⟨Or.inr rfl, [_], ⟨.tmp (.t _), trivial⟩, .refl _⟩
      | exact ⟨Or.inr rfl, [_], ⟨.tmp (.t _), trivial⟩, (by repeat' first | exact trivial | exact Wk.refl _ | exact Wk.sl _ | refine And.intro ?_ ?_ | refine Wk.tupP ?_ | refine Wk.aggP ?_)⟩
      | exact ⟨Or.inr rfl, [_], ⟨.tmp (Res.ownT rfl rfl rfl rfl), trivial⟩, .refl _⟩
      | exact ⟨Or.inr rfl, [_], ⟨.tmp (Res.ownT rfl rfl rfl rfl), trivial⟩, (by repeat' first | exact trivial | exact Wk.refl _ | exact Wk.sl _ | refine And.intro ?_ ?_ | refine Wk.tupP ?_ | refine Wk.aggP ?_)⟩

end Go.Tv.C34

end
section
open Go Go.Tv Go.Proofs Go.ChangeShapes Go.WideShapes Go.ChangeAt Go.RowKit
namespace Go.Tv.C34
set_option maxRecDepth 100000

theorem wfI64 {n : Int} (h : (Lit.int .i64 n).wf = true) : I64 n := by
  unfold I64
  simp [Lit.wf, IntKind.min, IntKind.max, IntKind.signed, IntKind.bits] at h; omega
def laid1 : List (String × DataW Unit) := [("math/bits.deBruijn32tab", Go.Proofs.YtofiemifpgcfhaaDoor.Rows.laid_math_bits_deBruijn32tab), ("math/bits.deBruijn64tab", Go.Proofs.YtofiemifpgcfhaaDoor.Rows.laid_math_bits_deBruijn64tab)]
theorem gDe : Tryd.prog.globalNamed "math/bits.deBruijn64tab" = some 1 := by kernel_rfl
theorem tDe : (Tryd.prog.globals[1]?).map (·.type) = some 119 := by kernel_rfl
theorem door_met (os : Os) (args : Array Value) : laidMetH Tryd.prog laid1 ((World.doorLaid Tryd.prog 400 os).forCall (fun _ _ => 0) ⟨#[], args, []⟩).memory :=
  laidMetH_of_parts3 (fuel := 8) (laidMet_of_run' 8 (by kernel_rfl) (by kernel_rfl)) (by kernel_rfl) (by kernel_rfl)
theorem tabs_of_laid {W : World} (h : laidMetH Tryd.prog laid1 W) : TabOK W (fun _ => False) [(1, deT)] := by
  intro g x hm
  simp only [List.mem_singleton, Prod.mk.injEq] at hm
  obtain ⟨rfl, rfl⟩ := hm
  exact tab_of_laid (l := deB) (k := .u8) h rfl (List.mem_cons_of_mem _ (List.mem_singleton.2 rfl)) (by intro e; cases e) gDe tDe Tryd.underlying119 Tryd.underlying5 (by kernel_rfl)
end Go.Tv.C34

end
section
namespace Go.Proofs.YtofiemifpgcfhaaDoor
open Go Go.Tv Go.Tv.C34 Go.ChangeShapes Go.WideShapes Go.ChangeAt Go.RowKit
set_option linter.unusedVariables false
set_option maxRecDepth 100000
theorem twinApplies_contract (H : Type) (enc : TypeId × Value → H) (W : World) (base : Nat) (args : Array Value) (ds gs : List (DataW H)) (before : List MemPlace)
    (hval : ∀ (j : Nat) t v, Tryd.f3.params[j]? = some t → args[j]? = some v → Value.okWide Tryd.prog W .any base t v)
    (hW : DataW.Whole enc Tryd.prog Tryd.f3.params.toList Rows.twinAppliesSpec.vars false W args.toList ds gs before) (hL : laidMetH Tryd.prog laid1 W) :
    Calls Tryd.prog 3 args W fun e W' => ∃ v, e = .returned v ∧ Rows.twinAppliesSpec.post enc Tryd.prog Tryd.f3 false true false false W args v W' := by
  have hW' := hW
  obtain ⟨p, q, hA0, hV, rfl, hfz, hnd⟩ := hW
  have hA : DataW.TrodAll enc Tryd.prog W 0 (fun _ => true) true Tryd.f3.params.toList args.toList ds p := hA0
  rw [Tryd.params3] at hA hval
  obtain ⟨v0, vs0, d0, ds0, p0, q0, hargs, rfl, rfl, h0, r0⟩ := trodAll_cons hA
  obtain ⟨v1, vs1, d1, ds1, p1, q1, rfl, rfl, rfl, h1, r1⟩ := trodAll_cons r0
  obtain ⟨v2, vs2, d2, ds2, p2, q2, rfl, rfl, rfl, h2, r2⟩ := trodAll_cons r1
  obtain ⟨v3, vs3, d3, ds3, p3, q3, rfl, rfl, rfl, h3, r3⟩ := trodAll_cons r2
  obtain ⟨v4, vs4, d4, ds4, p4, q4, rfl, rfl, rfl, h4, r4⟩ := trodAll_cons r3
  obtain ⟨v5, vs5, d5, ds5, p5, q5, rfl, rfl, rfl, h5, r5⟩ := trodAll_cons r4
  obtain ⟨v6, vs6, d6, ds6, p6, q6, rfl, rfl, rfl, h6, r6⟩ := trodAll_cons r5
  obtain ⟨rfl, rfl, rfl⟩ := trodAll_nil r6
  obtain rfl : args = #[v0, v1, v2, v3, v4, v5, v6] := by cases args; simp_all
  obtain ⟨rfl, rfl⟩ := trodVars_none hV
  have k0 := hval 0 3 v0 rfl rfl
  have k1 := hval 1 3 v1 rfl rfl
  have k2 := hval 2 3 v2 rfl rfl
  have k3 := hval 3 4 v3 rfl rfl
  have k4 := hval 4 3 v4 rfl rfl
  have k5 := hval 5 3 v5 rfl rfl
  have k6 := hval 6 4 v6 rfl rfl
  obtain ⟨n, rfl, wn⟩ := arg_int Tryd.underlying3 k0 h0
  have i_n := wfI64 wn
  obtain ⟨hv, rfl, whv⟩ := arg_int Tryd.underlying3 k1 h1
  have i_hv := wfI64 whv
  obtain ⟨ky, rfl, wky⟩ := arg_int Tryd.underlying3 k2 h2
  have i_ky := wfI64 wky
  obtain ⟨lk, rfl⟩ := arg_bool Tryd.underlying4 k3 h3
  obtain ⟨sq, rfl, wsq⟩ := arg_int Tryd.underlying3 k4 h4
  have i_sq := wfI64 wsq
  obtain ⟨ah, rfl, wah⟩ := arg_int Tryd.underlying3 k5 h5
  have i_ah := wfI64 wah
  obtain ⟨ul, rfl⟩ := arg_bool Tryd.underlying4 k6 h6
  refine (law_callsT (law3 n hv ky sq ah lk ul i_n i_hv i_ky i_sq i_ah) (tabs_of_laid hL) (vl_cons (.int _ _) (vl_cons (.int _ _) (vl_cons (.int _ _) (vl_cons (.bool _) (vl_cons (.int _ _) (vl_cons (.int _ _) (vl_cons (.bool _) vl_nil)))))))).mono ?_
  rintro e W' ⟨rfl, hb⟩
  refine ⟨_, rfl, law_post (P := Tryd.prog) (by kernel_rfl) rfl (fun t ht => ?_) rfl Tryd.underlying4 hW' ⟨rfl, rfl, rfl⟩ hb⟩
  rw [Tryd.params3] at ht
  simp only [List.mem_cons, List.not_mem_nil, or_false] at ht
  rcases ht with rfl | rfl | rfl | rfl | rfl | rfl | rfl <;> exact ⟨by kernel_rfl, Nat.le_of_ble_eq_true (by kernel_rfl)⟩

theorem twinApplies_lifted (os : Os) (started : os.Started) (H : Type) (enc : TypeId × Value → H) :
    ReturnsInHanded {} Tryd.checked os 3 .any (fun w args => (Rows.twinAppliesSpec.pre enc Tryd.prog Tryd.f3 [] false w args ∧ laidMetH Tryd.prog laid1 w) ∧ sizedMet enc Tryd.prog Tryd.f3 (OpenSpec.ofChange Rows.twinAppliesSpec) false w args)
      (Rows.twinAppliesSpec.post enc Tryd.prog Tryd.f3 false true false false) := by
  refine returnsInHanded_of_change_and (C := Tryd.checked) (X := fun w _ => laidMetH Tryd.prog laid1 w) (fun _ _ _ hh h => h.of_heap hh) (by kernel_rfl) started (by kernel_rfl) Tryd.func3
    (ChangeSpec.witness_shaped (enc := enc) (C := Tryd.checked) (os := os) (X := fun w _ => laidMetH Tryd.prog laid1 w) false (World.doorLaid Tryd.prog 400 os) #[.int .i64 0, .int .i64 0, .int .i64 0, .bool false, .int .i64 0, .int .i64 0, .bool false] 8 rfl (World.shaped_of_RefB (by kernel_rfl) (by kernel_rfl)) (by kernel_rfl) (by kernel_rfl) (by kernel_rfl) (door_met os _)) ?_
  intro W base args ds gs before hval hW _ _ hL _
  exact twinApplies_contract H enc W base args ds gs before hval hW hL

theorem twinApplies_row_holds : Rows.TwinAppliesSaid :=
  OpenClaim.holds_of_wide 3 Tryd.f3 rfl rfl rfl rfl rfl rfl rfl ⟨rfl, rfl, rfl, rfl, rfl⟩ rfl rfl rfl rfl rfl (by kernel_rfl) Tryd.func3 (by kernel_rfl)
    (of_decide_eq_true (by kernel_rfl)) (by unfold Func.isWrapper; first | (rw [if_pos (by decide +kernel)]; kernel_rfl) | (rw [if_neg (by decide +kernel)]; exact ⟨rfl, rfl⟩))
    (fun os started H enc _ => twinApplies_lifted os started H enc)

theorem twinAppliesCard_holds : Rows.TwinAppliesCardSaid :=
  Claim7.holds_tied_plain_at .later [] [.data, .data] true _ false
    twinApplies_row_holds (fun _ h => by cases h) (by kernel_rfl) (fun _ h => by cases h) twinApplies_row_tie rfl ⟨rfl, rfl⟩ (by kernel_rfl) rfl
    (fun f fn hf hfn => by
      obtain rfl : f = 3 := Option.some.inj ((show Tryd.prog.funcNamed "perigee/perigeelaw34.TwinApplies" = some 3 by kernel_rfl).symm.trans hf) |>.symm
      obtain rfl : fn = Tryd.f3 := (Option.some.inj (Tryd.func3.symm.trans hfn)).symm
      exact ⟨by kernel_rfl, fun j t ht => by
        rw [Tryd.params3] at ht
        have hm : t ∈ [3, 3, 3, 4, 3, 3, 4] := by simpa using Array.mem_of_getElem? ht
        have hall : ([3, 3, 3, 4, 3, 3, 4].all fun u => !Tryd.prog.wantsStandIn u) = true := by kernel_rfl
        exact (show Tryd.prog.wantsStandIn t = false by simpa using List.all_eq_true.1 hall t hm)⟩)
    (by kernel_rfl)

end Go.Proofs.YtofiemifpgcfhaaDoor

end
