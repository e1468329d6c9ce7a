/- Part of the proof that the laws of this seat return true for every input. No condition. -/
import Derived.Test.YtgicknpbpdfadaaDoorT2
import Derived.Test.YtgicknpbpdfadaaDoorT1
section
open Go Go.Tv Go.Proofs
namespace Go.Tv.D27
set_option maxRecDepth 20000
set_option maxHeartbeats 2000000
set_option linter.unusedSimpArgs false
set_option linter.unusedVariables false
def bun (i : Int) (m : Nat) : Bundle := ⟨i, 0, 1, 0, 0, 0, 0, List.replicate m 0⟩
theorem bytes_rep (m : Nat) : Bytes (List.replicate m 0) := fun x hx => by rw [(List.mem_replicate.1 hx).2]; omega
def L0 : Store := ⟨100, [], [], []⟩
def L1 : Store := ⟨100, [bun 5 40], [], [5]⟩
def L2 : Store := ⟨100, [bun 5 40, bun 6 28], [], [5, 6]⟩
def L3 : Store := ⟨100, [bun 5 40, bun 6 28], [5], [5, 6]⟩
def L4 : Store := ⟨100, [bun 6 28], [], [5, 6]⟩
def L9 : Store := ⟨1000, [], [], []⟩
theorem lv1 : create L0 (bun 5 40) = (L1, 0) := by rfl
theorem lv2 : create L1 (bun 6 29) = (zs, 42) := by rfl
theorem lv3 : create L1 (bun 6 28) = (L2, 0) := by rfl
theorem lv4 : create L2 (bun 5 1) = (zs, 4) := by rfl
theorem lv5 : accept L2 (bun 5 40) = (L2, true, 0) := by rfl
theorem lv6 : offer L2 100 = (bun 5 40, true) := by rfl
theorem lv7 : pass L2 5 = (L3, 0) := by rfl
theorem lv8 : offer L3 100 = (bun 6 28, true) := by rfl
theorem lv9 : offer L3 43 = (zb, false) := by rfl
theorem lv10 : pass L3 5 = (zs, 44) := by rfl
theorem lv11 : confirm L3 5 = (L4, 0) := by rfl
theorem lv12 : accept L4 (bun 5 40) = (L4, true, 0) := by rfl
theorem lv13 : confirm L4 5 = (zs, 3) := by rfl
theorem lv14 : create L9 (bun 1 257) = (zs, 2) := by rfl
theorem V0 : VInv 0 L0 := VInv.empty 100 (by omega) (by omega)
theorem V9 : VInv 0 L9 := VInv.empty 1000 (by omega) (by omega)
theorem V1 : VInv 1 L1 := by have h := (inv_create V0 (bytes_rep 40) (b := bun 5 40) (by rw [lv1])).1; rw [lv1] at h; exact h
theorem V2 : VInv 2 L2 := by have h := (inv_create V1 (bytes_rep 28) (b := bun 6 28) (by rw [lv3])).1; rw [lv3] at h; exact h
theorem V3 : VInv 3 L3 := by have h := (inv_pass V2 (k := 5) (by rw [lv7])).1; rw [lv7] at h; exact h
theorem V4 : VInv 3 L4 := by have h := (inv_confirm V3 (k := 5) (by rw [lv11])).1; rw [lv11] at h; exact h
theorem bok_bun (i : Int) {m : Nat} (h : m ≤ 1000) : BOK (bun i m) := by unfold BOK bun; simp; omega
theorem same_refl (A : Store) : sameS A A = true := by unfold sameS; simp

theorem lives_ret  : Ret Tryd.prog 4 [] (.bool true) := by
  refine ret_of_awp Tryd.func4 rfl (Nat.le_of_ble_eq_true rfl) ?_
  refine awp_seq ?_
  refine awp_rw rfl ?_
  refine RW.op rfl rfl (eff_assign (v := .t _) rfl rfl rfl) ?_
  refine RW.nil ?_
  refine awp_seq ?_
  refine awp_rw rfl ?_
  refine RW.op rfl rfl (eff_buildT (ys := [_, _, _, _]) rfl rfl tz32 tg32 rfl) ?_
  refine RW.op rfl rfl (eff_callT (bundle_ret 5 40 (by omega)) co13 rfl rfl rfl rfl) ?_
  refine RW.op rfl rfl (eff_callW (xs := [_, _]) ((by have h := create28_ret insC L0 (bun 5 40) (V0.sok (by omega)) (bok_bun 5 (by omega)) V0.ss; rw [lv1] at h; exact h)) co6 rfl rfl rfl rfl (by repeat' first | exact trivial | exact Wk.refl _ | exact Wk.sl _ | refine And.intro ?_ ?_ | refine Wk.aggP ?_)) ?_
  refine RW.op rfl rfl (eff_move (v := .t _) rfl rfl rfl) ?_
  refine RW.op rfl rfl (eff_extract rfl rfl rfl rfl) ?_
  refine RW.op rfl rfl (eff_extract rfl rfl rfl rfl) ?_
  refine RW.new rfl rfl (eff_allocK (k := 4) (id := 1) rfl rfl tz32 rfl rfl) ?_
  refine RW.store rfl rfl (eff_storeW (v := .t _) (els := [_]) (els' := [_]) rfl rfl ti32 rfl rfl rfl rfl rfl rfl rfl rfl rfl) ?_
  refine RW.op rfl rfl (eff_assign (v := .t _) rfl rfl rfl) ?_
  refine RW.nil ?_
  refine awp_seq ?_
  refine awp_rd [(some 38, []), (some 39, []), (some 40, []), (some 37, []), (some 41, []), (some 42, []), (some 3, [3]), (none, [3]), (some 4, [])] [[], [], [0, 1], [0, 1, 2], [0, 1, 2, 3], [0, 1, 2, 3], [], [0, 1, 2, 3, 4, 6], [0, 1, 2, 3, 4, 5, 6, 7]] tm rfl rfl rfl rfl ?_
  refine RD.op rfl rfl rfl (eff_load rfl rfl ti32 rfl (.whole rfl rfl rfl rfl rfl rfl)) ?_
  refine RD.op rfl rfl rfl (eff_callT (bundle_ret 6 29 (by omega)) co13 rfl rfl rfl rfl) ?_
  refine RD.op rfl rfl rfl (eff_callT ((by have h := create28_ret insC L1 (bun 6 29) (V1.sok (by omega)) (bok_bun 6 (by omega)) V1.ss; rw [lv2] at h; exact h)) co6 rfl rfl rfl rfl) ?_
  refine RD.op rfl rfl rfl (eff_move (v := .t _) rfl rfl rfl) ?_
  refine RD.op rfl rfl rfl (eff_extract rfl rfl rfl rfl) ?_
  refine RD.op rfl rfl rfl (eff_extract rfl rfl rfl rfl) ?_
  refine RD.new rfl rfl rfl (eff_allocK (k := 4) (id := 3) rfl rfl tz32 rfl rfl) ?_
  refine RD.store rfl rfl rfl (eff_storeW (v := .t _) (els := [_]) (els' := [_]) rfl rfl ti32 rfl rfl rfl rfl rfl rfl rfl rfl rfl) ?_
  refine RD.op rfl rfl rfl (eff_assign (v := .t _) rfl rfl rfl) ?_
  refine RD.nil ?_
  refine awp_seq ?_
  refine awp_rd [(some 44, []), (some 45, []), (some 46, []), (some 43, []), (some 47, []), (some 48, []), (some 5, [5]), (none, [5]), (some 6, [])] [[], [], [0, 1], [0, 1, 2], [0, 1, 2, 3], [0, 1, 2, 3], [], [0, 1, 2, 3, 4, 6], [0, 1, 2, 3, 4, 5, 6, 7]] tm rfl rfl rfl rfl ?_
  refine RD.op rfl rfl rfl (eff_load rfl rfl ti32 rfl (.whole rfl rfl rfl rfl rfl rfl)) ?_
  refine RD.op rfl rfl rfl (eff_callT (bundle_ret 6 28 (by omega)) co13 rfl rfl rfl rfl) ?_
  refine RD.op rfl rfl rfl (eff_callT ((by have h := create28_ret insC L1 (bun 6 28) (V1.sok (by omega)) (bok_bun 6 (by omega)) V1.ss; rw [lv3] at h; exact h)) co6 rfl rfl rfl rfl) ?_
  refine RD.op rfl rfl rfl (eff_move (v := .t _) rfl rfl rfl) ?_
  refine RD.op rfl rfl rfl (eff_extract rfl rfl rfl rfl) ?_
  refine RD.op rfl rfl rfl (eff_extract rfl rfl rfl rfl) ?_
  refine RD.new rfl rfl rfl (eff_allocK (k := 4) (id := 5) rfl rfl tz32 rfl rfl) ?_
  refine RD.store rfl rfl rfl (eff_storeW (v := .t _) (els := [_]) (els' := [_]) rfl rfl ti32 rfl rfl rfl rfl rfl rfl rfl rfl rfl) ?_
  refine RD.op rfl rfl rfl (eff_assign (v := .t _) rfl rfl rfl) ?_
  refine RD.nil ?_
  refine awp_seq ?_
  refine awp_rd [(some 50, []), (some 51, []), (some 52, []), (some 49, []), (some 53, []), (some 54, []), (some 7, [7]), (none, [7]), (some 8, [])] [[], [], [0, 1], [0, 1, 2], [0, 1, 2, 3], [0, 1, 2, 3], [], [0, 1, 2, 3, 4, 6], [0, 1, 2, 3, 4, 5, 6, 7]] tm rfl rfl rfl rfl ?_
  refine RD.op rfl rfl rfl (eff_load rfl rfl ti32 rfl (.whole rfl rfl rfl rfl rfl rfl)) ?_
  refine RD.op rfl rfl rfl (eff_callT (bundle_ret 5 1 (by omega)) co13 rfl rfl rfl rfl) ?_
  refine RD.op rfl rfl rfl (eff_callT ((by have h := create28_ret insC L2 (bun 5 1) (V2.sok (by omega)) (bok_bun 5 (by omega)) V2.ss; rw [lv4] at h; exact h)) co6 rfl rfl rfl rfl) ?_
  refine RD.op rfl rfl rfl (eff_move (v := .t _) rfl rfl rfl) ?_
  refine RD.op rfl rfl rfl (eff_extract rfl rfl rfl rfl) ?_
  refine RD.op rfl rfl rfl (eff_extract rfl rfl rfl rfl) ?_
  refine RD.new rfl rfl rfl (eff_allocK (k := 4) (id := 7) rfl rfl tz32 rfl rfl) ?_
  refine RD.store rfl rfl rfl (eff_storeW (v := .t _) (els := [_]) (els' := [_]) rfl rfl ti32 rfl rfl rfl rfl rfl rfl rfl rfl rfl) ?_
  refine RD.op rfl rfl rfl (eff_assign (v := .t _) rfl rfl rfl) ?_
  refine RD.nil ?_
  refine awp_seq ?_
  refine awp_rd [(some 56, []), (some 57, []), (some 58, []), (some 55, []), (some 59, []), (some 60, []), (some 61, []), (some 9, [9]), (none, [9]), (some 10, []), (some 11, [])] [[], [], [0, 1], [0, 1, 2], [0, 1, 2, 3], [0, 1, 2, 3], [0, 1, 2, 3], [], [0, 1, 2, 3, 4, 7], [0, 1, 2, 3, 4, 5, 7, 8], [0, 1, 2, 3, 4, 5, 6, 7, 8, 9]] tm rfl rfl rfl rfl ?_
  refine RD.op rfl rfl rfl (eff_load rfl rfl ti32 rfl (.whole rfl rfl rfl rfl rfl rfl)) ?_
  refine RD.op rfl rfl rfl (eff_callT (bundle_ret 5 40 (by omega)) co13 rfl rfl rfl rfl) ?_
  refine RD.op rfl rfl rfl (eff_callT ((by have h := accept23_ret insC L2 (bun 5 40) (V2.sok (by omega)) (bok_bun 5 (by omega)) V2.ss; rw [lv5] at h; exact h)) co14 rfl rfl rfl rfl) ?_
  refine RD.op rfl rfl rfl (eff_move (v := .t _) rfl rfl rfl) ?_
  refine RD.op rfl rfl rfl (eff_extract rfl rfl rfl rfl) ?_
  refine RD.op rfl rfl rfl (eff_extract rfl rfl rfl rfl) ?_
  refine RD.op rfl rfl rfl (eff_extract rfl rfl rfl rfl) ?_
  refine RD.new rfl rfl rfl (eff_allocK (k := 4) (id := 9) rfl rfl tz32 rfl rfl) ?_
  refine RD.store rfl rfl rfl (eff_storeW (v := .t _) (els := [_]) (els' := [_]) rfl rfl ti32 rfl rfl rfl rfl rfl rfl rfl rfl rfl) ?_
  refine RD.op rfl rfl rfl (eff_assign (v := .t _) rfl rfl rfl) ?_
  refine RD.op rfl rfl rfl (eff_assign (v := .t _) rfl rfl rfl) ?_
  refine RD.nil ?_
  refine awp_seq ?_
  refine awp_rw rfl ?_
  refine RW.op rfl rfl (eff_load rfl rfl ti32 rfl (.whole rfl rfl rfl rfl rfl rfl)) ?_
  refine RW.op rfl rfl (eff_callT ((by have h := offer18_ret L2 100 (V2.sok (by omega)) V2.ps; rw [lv6] at h; exact h)) co15 rfl rfl rfl rfl) ?_
  refine RW.op rfl rfl (eff_move (v := .t _) rfl rfl rfl) ?_
  refine RW.op rfl rfl (eff_extract rfl rfl rfl rfl) ?_
  refine RW.op rfl rfl (eff_extract rfl rfl rfl rfl) ?_
  refine RW.new rfl rfl (eff_allocK (k := 8) (id := 12) rfl rfl tz40 rfl rfl) ?_
  refine RW.store rfl rfl (eff_storeW (v := .t _) (els := [_]) (els' := [_]) rfl rfl ti40 rfl rfl rfl rfl rfl rfl rfl rfl rfl) ?_
  refine RW.op rfl rfl (eff_assign (v := .t _) rfl rfl rfl) ?_
  refine RW.nil ?_
  refine awp_seq ?_
  refine awp_rw rfl ?_
  refine RW.op rfl rfl (eff_load rfl rfl ti32 rfl (.whole rfl rfl rfl rfl rfl rfl)) ?_
  refine RW.op rfl rfl (eff_callT ((by have h := pass26_ret insC L2 5 (V2.sok (by omega)) V2.ps; rw [lv7] at h; exact h)) co16 rfl rfl rfl rfl) ?_
  refine RW.op rfl rfl (eff_move (v := .t _) rfl rfl rfl) ?_
  refine RW.op rfl rfl (eff_extract rfl rfl rfl rfl) ?_
  refine RW.op rfl rfl (eff_extract rfl rfl rfl rfl) ?_
  refine RW.new rfl rfl (eff_allocK (k := 4) (id := 14) rfl rfl tz32 rfl rfl) ?_
  refine RW.store rfl rfl (eff_storeW (v := .t _) (els := [_]) (els' := [_]) rfl rfl ti32 rfl rfl rfl rfl rfl rfl rfl rfl rfl) ?_
  refine RW.op rfl rfl (eff_assign (v := .t _) rfl rfl rfl) ?_
  refine RW.nil ?_
  refine awp_seq ?_
  refine awp_rw rfl ?_
  refine RW.op rfl rfl (eff_load rfl rfl ti32 rfl (.whole rfl rfl rfl rfl rfl rfl)) ?_
  refine RW.op rfl rfl (eff_callT ((by have h := offer18_ret L3 100 (V3.sok (by omega)) V3.ps; rw [lv8] at h; exact h)) co15 rfl rfl rfl rfl) ?_
  refine RW.op rfl rfl (eff_move (v := .t _) rfl rfl rfl) ?_
  refine RW.op rfl rfl (eff_extract rfl rfl rfl rfl) ?_
  refine RW.op rfl rfl (eff_extract rfl rfl rfl rfl) ?_
  refine RW.new rfl rfl (eff_allocK (k := 8) (id := 16) rfl rfl tz40 rfl rfl) ?_
  refine RW.store rfl rfl (eff_storeW (v := .t _) (els := [_]) (els' := [_]) rfl rfl ti40 rfl rfl rfl rfl rfl rfl rfl rfl rfl) ?_
  refine RW.op rfl rfl (eff_assign (v := .t _) rfl rfl rfl) ?_
  refine RW.nil ?_
  refine awp_seq ?_
  refine awp_rw rfl ?_
  refine RW.op rfl rfl (eff_load rfl rfl ti32 rfl (.whole rfl rfl rfl rfl rfl rfl)) ?_
  refine RW.op rfl rfl (eff_callT ((by have h := offer18_ret L3 43 (V3.sok (by omega)) V3.ps; rw [lv9] at h; exact h)) co15 rfl rfl rfl rfl) ?_
  refine RW.op rfl rfl (eff_move (v := .t _) rfl rfl rfl) ?_
  refine RW.op rfl rfl (eff_extract rfl rfl rfl rfl) ?_
  refine RW.op rfl rfl (eff_extract rfl rfl rfl rfl) ?_
  refine RW.new rfl rfl (eff_allocK (k := 8) (id := 18) rfl rfl tz40 rfl rfl) ?_
  refine RW.store rfl rfl (eff_storeW (v := .t _) (els := [_]) (els' := [_]) rfl rfl ti40 rfl rfl rfl rfl rfl rfl rfl rfl rfl) ?_
  refine RW.op rfl rfl (eff_assign (v := .t _) rfl rfl rfl) ?_
  refine RW.nil ?_
  refine awp_seq ?_
  refine awp_rw rfl ?_
  refine RW.op rfl rfl (eff_load rfl rfl ti32 rfl (.whole rfl rfl rfl rfl rfl rfl)) ?_
  refine RW.op rfl rfl (eff_callT ((by have h := pass26_ret insC L3 5 (V3.sok (by omega)) V3.ps; rw [lv10] at h; exact h)) co16 rfl rfl rfl rfl) ?_
  refine RW.op rfl rfl (eff_move (v := .t _) rfl rfl rfl) ?_
  refine RW.op rfl rfl (eff_extract rfl rfl rfl rfl) ?_
  refine RW.op rfl rfl (eff_extract rfl rfl rfl rfl) ?_
  refine RW.new rfl rfl (eff_allocK (k := 4) (id := 20) rfl rfl tz32 rfl rfl) ?_
  refine RW.store rfl rfl (eff_storeW (v := .t _) (els := [_]) (els' := [_]) rfl rfl ti32 rfl rfl rfl rfl rfl rfl rfl rfl rfl) ?_
  refine RW.op rfl rfl (eff_assign (v := .t _) rfl rfl rfl) ?_
  refine RW.nil ?_
  refine awp_seq ?_
  refine awp_rw rfl ?_
  refine RW.op rfl rfl (eff_load rfl rfl ti32 rfl (.whole rfl rfl rfl rfl rfl rfl)) ?_
  refine RW.op rfl rfl (eff_callT ((by have h := confirm24_ret L3 5 (V3.sok (by omega)) V3.ps; rw [lv11] at h; exact h)) co17 rfl rfl rfl rfl) ?_
  refine RW.op rfl rfl (eff_move (v := .t _) rfl rfl rfl) ?_
  refine RW.op rfl rfl (eff_extract rfl rfl rfl rfl) ?_
  refine RW.op rfl rfl (eff_extract rfl rfl rfl rfl) ?_
  refine RW.new rfl rfl (eff_allocK (k := 4) (id := 22) rfl rfl tz32 rfl rfl) ?_
  refine RW.store rfl rfl (eff_storeW (v := .t _) (els := [_]) (els' := [_]) rfl rfl ti32 rfl rfl rfl rfl rfl rfl rfl rfl rfl) ?_
  refine RW.op rfl rfl (eff_assign (v := .t _) rfl rfl rfl) ?_
  refine RW.nil ?_
  refine awp_seq ?_
  refine awp_rd [(some 93, []), (some 94, []), (some 95, []), (some 92, []), (some 96, []), (some 97, []), (some 98, []), (some 24, [24]), (none, [24]), (some 25, []), (some 26, [])] [[], [], [0, 1], [0, 1, 2], [0, 1, 2, 3], [0, 1, 2, 3], [0, 1, 2, 3], [], [0, 1, 2, 3, 4, 7], [0, 1, 2, 3, 4, 5, 7, 8], [0, 1, 2, 3, 4, 5, 6, 7, 8, 9]] tm rfl rfl rfl rfl ?_
  refine RD.op rfl rfl rfl (eff_load rfl rfl ti32 rfl (.whole rfl rfl rfl rfl rfl rfl)) ?_
  refine RD.op rfl rfl rfl (eff_callT (bundle_ret 5 40 (by omega)) co13 rfl rfl rfl rfl) ?_
  refine RD.op rfl rfl rfl (eff_callT ((by have h := accept23_ret insC L4 (bun 5 40) (V4.sok (by omega)) (bok_bun 5 (by omega)) V4.ss; rw [lv12] at h; exact h)) co14 rfl rfl rfl rfl) ?_
  refine RD.op rfl rfl rfl (eff_move (v := .t _) rfl rfl rfl) ?_
  refine RD.op rfl rfl rfl (eff_extract rfl rfl rfl rfl) ?_
  refine RD.op rfl rfl rfl (eff_extract rfl rfl rfl rfl) ?_
  refine RD.op rfl rfl rfl (eff_extract rfl rfl rfl rfl) ?_
  refine RD.new rfl rfl rfl (eff_allocK (k := 4) (id := 24) rfl rfl tz32 rfl rfl) ?_
  refine RD.store rfl rfl rfl (eff_storeW (v := .t _) (els := [_]) (els' := [_]) rfl rfl ti32 rfl rfl rfl rfl rfl rfl rfl rfl rfl) ?_
  refine RD.op rfl rfl rfl (eff_assign (v := .t _) rfl rfl rfl) ?_
  refine RD.op rfl rfl rfl (eff_assign (v := .t _) rfl rfl rfl) ?_
  refine RD.nil ?_
  refine awp_seq ?_
  refine awp_rw rfl ?_
  refine RW.op rfl rfl (eff_load rfl rfl ti32 rfl (.whole rfl rfl rfl rfl rfl rfl)) ?_
  refine RW.op rfl rfl (eff_callT ((by have h := confirm24_ret L4 5 (V4.sok (by omega)) V4.ps; rw [lv13] at h; exact h)) co17 rfl rfl rfl rfl) ?_
  refine RW.op rfl rfl (eff_move (v := .t _) rfl rfl rfl) ?_
  refine RW.op rfl rfl (eff_extract rfl rfl rfl rfl) ?_
  refine RW.op rfl rfl (eff_extract rfl rfl rfl rfl) ?_
  refine RW.new rfl rfl (eff_allocK (k := 4) (id := 27) rfl rfl tz32 rfl rfl) ?_
  refine RW.store rfl rfl (eff_storeW (v := .t _) (els := [_]) (els' := [_]) rfl rfl ti32 rfl rfl rfl rfl rfl rfl rfl rfl rfl) ?_
  refine RW.op rfl rfl (eff_assign (v := .t _) rfl rfl rfl) ?_
  refine RW.nil ?_
  refine awp_seq ?_
  refine awp_rw rfl ?_
  refine RW.op rfl rfl (eff_buildT (ys := [_, _, _, _]) rfl rfl tz32 tg32 rfl) ?_
  refine RW.op rfl rfl (eff_callT (bundle_ret 1 257 (by omega)) co13 rfl rfl rfl rfl) ?_
  refine RW.op rfl rfl (eff_callW (xs := [_, _]) ((by have h := create28_ret insC L9 (bun 1 257) (V9.sok (by omega)) (bok_bun 1 (by omega)) V9.ss; rw [lv14] at h; exact h)) co6 rfl rfl rfl rfl (by repeat' first | exact trivial | exact Wk.refl _ | exact Wk.sl _ | refine And.intro ?_ ?_ | refine Wk.aggP ?_)) ?_
  refine RW.op rfl rfl (eff_move (v := .t _) rfl rfl rfl) ?_
  refine RW.op rfl rfl (eff_extract rfl rfl rfl rfl) ?_
  refine RW.op rfl rfl (eff_extract rfl rfl rfl rfl) ?_
  refine RW.new rfl rfl (eff_allocK (k := 4) (id := 29) rfl rfl tz32 rfl rfl) ?_
  refine RW.store rfl rfl (eff_storeW (v := .t _) (els := [_]) (els' := [_]) rfl rfl ti32 rfl rfl rfl rfl rfl rfl rfl rfl rfl) ?_
  refine RW.op rfl rfl (eff_assign (v := .t _) rfl rfl rfl) ?_
  refine RW.nil ?_
  refine awp_seq ?_
  refine awp_seq ?_
  refine awp_rw rfl ?_
  refine RW.op rfl rfl (eff_move (v := .t _) rfl rfl rfl) ?_
  refine RW.op rfl rfl (eff_iop (r := .bool false) rfl rfl rfl rfl (by exact iop_neq_f (by rfl))) ?_
  refine RW.op rfl rfl (eff_move (v := .t _) rfl rfl rfl) ?_
  refine RW.gop rfl rfl rfl rfl rfl rfl (eff_move (v := .t _) rfl rfl rfl) ?_
  refine RW.gop rfl rfl rfl rfl rfl rfl (eff_iop (r := .bool false) rfl rfl rfl rfl (by exact iop_neq_f (by rfl))) ?_
  refine RW.op rfl rfl (eff_pick (v := .t _) rfl rfl rfl rfl) ?_
  refine RW.op rfl rfl (eff_move (v := .t _) rfl rfl rfl) ?_
  refine RW.gop rfl rfl rfl rfl rfl rfl (eff_move (v := .t _) rfl rfl rfl) ?_
  refine RW.gop rfl rfl rfl rfl rfl rfl (eff_iop (r := .bool false) rfl rfl rfl rfl (by exact iop_neq_f (by rfl))) ?_
  refine RW.op rfl rfl (eff_pick (v := .t _) rfl rfl rfl rfl) ?_
  refine RW.op rfl rfl (eff_move (v := .t _) rfl rfl rfl) ?_
  refine RW.gop rfl rfl rfl rfl rfl rfl (eff_move (v := .t _) rfl rfl rfl) ?_
  refine RW.gop rfl rfl rfl rfl rfl rfl (eff_iop (r := .bool false) rfl rfl rfl rfl (by exact iop_neq_f (by rfl))) ?_
  refine RW.op rfl rfl (eff_pick (v := .t _) rfl rfl rfl rfl) ?_
  refine RW.op rfl rfl (eff_move (v := .t _) rfl rfl rfl) ?_
  refine RW.gop rfl rfl rfl rfl rfl rfl (eff_move (v := .t _) rfl rfl rfl) ?_
  refine RW.gop rfl rfl rfl rfl rfl rfl (eff_iop (r := .bool false) rfl rfl rfl rfl (by exact iop_neq_f (by rfl))) ?_
  refine RW.op rfl rfl (eff_pick (v := .t _) rfl rfl rfl rfl) ?_
  refine RW.op rfl rfl (eff_move (v := .t _) rfl rfl rfl) ?_
  refine RW.gop rfl rfl rfl rfl rfl rfl (eff_move (v := .t _) rfl rfl rfl) ?_
  refine RW.gop rfl rfl rfl rfl rfl rfl (eff_iop (r := .bool false) rfl rfl rfl rfl (by exact iop_neq_f (by rfl))) ?_
  refine RW.op rfl rfl (eff_pick (v := .t _) rfl rfl rfl rfl) ?_
  refine RW.op rfl rfl (eff_move (v := .t _) rfl rfl rfl) ?_
  refine RW.gop rfl rfl rfl rfl rfl rfl (eff_move (v := .t _) rfl rfl rfl) ?_
  refine RW.gop rfl rfl rfl rfl rfl rfl (eff_iop (r := .bool false) rfl rfl rfl rfl (by exact iop_neq_f (by rfl))) ?_
  refine RW.op rfl rfl (eff_pick (v := .t _) rfl rfl rfl rfl) ?_
  refine RW.op rfl rfl (eff_move (v := .t _) rfl rfl rfl) ?_
  refine RW.gop rfl rfl rfl rfl rfl rfl (eff_move (v := .t _) rfl rfl rfl) ?_
  refine RW.gop rfl rfl rfl rfl rfl rfl (eff_iop (r := .bool false) rfl rfl rfl rfl (by exact iop_neq_f (by rfl))) ?_
  refine RW.op rfl rfl (eff_pick (v := .t _) rfl rfl rfl rfl) ?_
  refine RW.op rfl rfl (eff_move (v := .t _) rfl rfl rfl) ?_
  refine RW.gop rfl rfl rfl rfl rfl rfl (eff_move (v := .t _) rfl rfl rfl) ?_
  refine RW.gop rfl rfl rfl rfl rfl rfl (eff_iop (r := .bool false) rfl rfl rfl rfl (by exact iop_neq_f (by rfl))) ?_
  refine RW.op rfl rfl (eff_pick (v := .t _) rfl rfl rfl rfl) ?_
  refine RW.op rfl rfl (eff_move (v := .t _) rfl rfl rfl) ?_
  refine RW.gop rfl rfl rfl rfl rfl rfl (eff_move (v := .t _) rfl rfl rfl) ?_
  refine RW.gop rfl rfl rfl rfl rfl rfl (eff_iop (r := .bool false) rfl rfl rfl rfl (by exact iop_neq_f (by rfl))) ?_
  refine RW.op rfl rfl (eff_pick (v := .t _) rfl rfl rfl rfl) ?_
  refine RW.op rfl rfl (eff_move (v := .t _) rfl rfl rfl) ?_
  refine RW.gop rfl rfl rfl rfl rfl rfl (eff_move (v := .t _) rfl rfl rfl) ?_
  refine RW.gop rfl rfl rfl rfl rfl rfl (eff_iop (r := .bool false) rfl rfl rfl rfl (by exact iop_neq_f (by rfl))) ?_
  refine RW.op rfl rfl (eff_pick (v := .t _) rfl rfl rfl rfl) ?_
  refine RW.nil ?_
  refine awp_cond rfl (fun h => nomatch h) (fun _ => ?_)
  refine awp_skip ?_
  refine awp_seq ?_
  refine awp_rw rfl ?_
  refine RW.op rfl rfl (eff_load rfl rfl ti32 rfl (.whole rfl rfl rfl rfl rfl rfl)) ?_
  refine RW.op rfl rfl (eff_callT (used_ret L1 (V1.sok (by omega))) co18 rfl rfl rfl rfl) ?_
  refine RW.op rfl rfl (eff_iop (r := .bool true) rfl rfl rfl rfl (by exact iop_eql_t (by rfl))) ?_
  refine RW.op rfl rfl (eff_move (v := .t _) rfl rfl rfl) ?_
  refine RW.gop rfl rfl rfl rfl rfl rfl (eff_callT (bundle_ret 1 4 (by omega)) co13 rfl rfl rfl rfl) ?_
  refine RW.gop rfl rfl rfl rfl rfl rfl (eff_callT (size_ret (bun 1 4) (bok_bun 1 (by omega))) co19 rfl rfl rfl rfl) ?_
  refine RW.gop rfl rfl rfl rfl rfl rfl (eff_iop (r := .bool true) rfl rfl rfl rfl (by exact iop_eql_t (by rfl))) ?_
  refine RW.op rfl rfl (eff_pick (v := .t _) rfl rfl rfl rfl) ?_
  refine RW.op rfl rfl (eff_move (v := .t _) rfl rfl rfl) ?_
  refine RW.gop rfl rfl rfl rfl rfl rfl (eff_move (v := .t _) rfl rfl rfl) ?_
  refine RW.op rfl rfl (eff_pick (v := .t _) rfl rfl rfl rfl) ?_
  refine RW.op rfl rfl (eff_move (v := .t _) rfl rfl rfl) ?_
  refine RW.gop rfl rfl rfl rfl rfl rfl (eff_load rfl rfl ti32 rfl (.whole rfl rfl rfl rfl rfl rfl)) ?_
  refine RW.gop rfl rfl rfl rfl rfl rfl (eff_load rfl rfl ti32 rfl (.whole rfl rfl rfl rfl rfl rfl)) ?_
  refine RW.gop rfl rfl rfl rfl rfl rfl (eff_callT ((by have h := same_ret L2 L2 (V2.sok (by omega)) (fun b hb => (V2.bs b hb).2.1) (fun b hb => (V2.bs b hb).2.1); rw [same_refl] at h; exact h)) co20 rfl rfl rfl rfl) ?_
  refine RW.op rfl rfl (eff_pick (v := .t _) rfl rfl rfl rfl) ?_
  refine RW.op rfl rfl (eff_move (v := .t _) rfl rfl rfl) ?_
  refine RW.gop rfl rfl rfl rfl rfl rfl (eff_move (v := .t _) rfl rfl rfl) ?_
  refine RW.op rfl rfl (eff_pick (v := .t _) rfl rfl rfl rfl) ?_
  refine RW.op rfl rfl (eff_move (v := .t _) rfl rfl rfl) ?_
  refine RW.gop rfl rfl rfl rfl rfl rfl (eff_fieldAddr rfl rfl tf40_0 (by decide) rfl rfl rfl (Nat.le_of_ble_eq_true rfl)) ?_
  refine RW.gop rfl rfl rfl rfl rfl rfl (eff_load (y := .t _) rfl rfl ti3 rfl (.one rfl rfl rfl rfl)) ?_
  refine RW.gop rfl rfl rfl rfl rfl rfl (eff_iop (r := .bool true) rfl rfl rfl rfl (by exact iop_eql_t (by rfl))) ?_
  refine RW.op rfl rfl (eff_pick (v := .t _) rfl rfl rfl rfl) ?_
  refine RW.op rfl rfl (eff_move (v := .t _) rfl rfl rfl) ?_
  refine RW.gop rfl rfl rfl rfl rfl rfl (eff_move (v := .t _) rfl rfl rfl) ?_
  refine RW.op rfl rfl (eff_pick (v := .t _) rfl rfl rfl rfl) ?_
  refine RW.op rfl rfl (eff_move (v := .t _) rfl rfl rfl) ?_
  refine RW.gop rfl rfl rfl rfl rfl rfl (eff_fieldAddr rfl rfl tf40_0 (by decide) rfl rfl rfl (Nat.le_of_ble_eq_true rfl)) ?_
  refine RW.gop rfl rfl rfl rfl rfl rfl (eff_load (y := .t _) rfl rfl ti3 rfl (.one rfl rfl rfl rfl)) ?_
  refine RW.gop rfl rfl rfl rfl rfl rfl (eff_iop (r := .bool true) rfl rfl rfl rfl (by exact iop_eql_t (by rfl))) ?_
  refine RW.op rfl rfl (eff_pick (v := .t _) rfl rfl rfl rfl) ?_
  refine RW.op rfl rfl (eff_move (v := .t _) rfl rfl rfl) ?_
  refine RW.gop rfl rfl rfl rfl rfl rfl (eff_move (v := .t _) rfl rfl rfl) ?_
  refine RW.gop rfl rfl rfl rfl rfl rfl (eff_unop rfl rfl rfl rfl) ?_
  refine RW.op rfl rfl (eff_pick (v := .t _) rfl rfl rfl rfl) ?_
  refine RW.op rfl rfl (eff_move (v := .t _) rfl rfl rfl) ?_
  refine RW.gop rfl rfl rfl rfl rfl rfl (eff_load rfl rfl ti32 rfl (.whole rfl rfl rfl rfl rfl rfl)) ?_
  refine RW.gop rfl rfl rfl rfl rfl rfl (eff_callT (used_ret L3 (V3.sok (by omega))) co18 rfl rfl rfl rfl) ?_
  refine RW.gop rfl rfl rfl rfl rfl rfl (eff_iop (r := .bool true) rfl rfl rfl rfl (by exact iop_eql_t (by rfl))) ?_
  refine RW.op rfl rfl (eff_pick (v := .t _) rfl rfl rfl rfl) ?_
  refine RW.op rfl rfl (eff_move (v := .t _) rfl rfl rfl) ?_
  refine RW.gop rfl rfl rfl rfl rfl rfl (eff_load rfl rfl ti32 rfl (.whole rfl rfl rfl rfl rfl rfl)) ?_
  refine RW.gop rfl rfl rfl rfl rfl rfl (eff_callT (used_ret L4 (V4.sok (by omega))) co18 rfl rfl rfl rfl) ?_
  refine RW.gop rfl rfl rfl rfl rfl rfl (eff_iop (r := .bool true) rfl rfl rfl rfl (by exact iop_eql_t (by rfl))) ?_
  refine RW.op rfl rfl (eff_pick (v := .t _) rfl rfl rfl rfl) ?_
  refine RW.op rfl rfl (eff_move (v := .t _) rfl rfl rfl) ?_
  refine RW.gop rfl rfl rfl rfl rfl rfl (eff_move (v := .t _) rfl rfl rfl) ?_
  refine RW.op rfl rfl (eff_pick (v := .t _) rfl rfl rfl rfl) ?_
  refine RW.op rfl rfl (eff_move (v := .t _) rfl rfl rfl) ?_
  refine RW.gop rfl rfl rfl rfl rfl rfl (eff_load rfl rfl ti32 rfl (.whole rfl rfl rfl rfl rfl rfl)) ?_
  refine RW.gop rfl rfl rfl rfl rfl rfl (eff_load rfl rfl ti32 rfl (.whole rfl rfl rfl rfl rfl rfl)) ?_
  refine RW.gop rfl rfl rfl rfl rfl rfl (eff_callT ((by have h := same_ret L4 L4 (V4.sok (by omega)) (fun b hb => (V4.bs b hb).2.1) (fun b hb => (V4.bs b hb).2.1); rw [same_refl] at h; exact h)) co20 rfl rfl rfl rfl) ?_
  refine RW.op rfl rfl (eff_pick (v := .t _) rfl rfl rfl rfl) ?_
  refine RW.op rfl rfl (eff_move (v := .t _) rfl rfl rfl) ?_
  refine RW.gop rfl rfl rfl rfl rfl rfl (eff_load rfl rfl ti32 rfl (.whole rfl rfl rfl rfl rfl rfl)) ?_
  refine RW.gop rfl rfl rfl rfl rfl rfl (eff_callT (retry27_ret L3 (V3.sok (by omega))) co21 rfl rfl rfl rfl) ?_
  refine RW.gop rfl rfl rfl rfl rfl rfl (eff_field rfl rfl tf32_2 rfl rfl) ?_
  refine RW.gop rfl rfl rfl rfl rfl rfl (eff_lenM rfl rfl te30 rfl) ?_
  refine RW.gop rfl rfl rfl rfl rfl rfl (eff_iop (r := .bool true) rfl rfl rfl rfl (by exact iop_eql_t (by rfl))) ?_
  refine RW.op rfl rfl (eff_pick (v := .t _) rfl rfl rfl rfl) ?_
  refine RW.op rfl rfl (eff_move (v := .t _) rfl rfl rfl) ?_
  refine RW.gop rfl rfl rfl rfl rfl rfl (eff_fieldAddr rfl rfl tf32_2 (by decide) rfl rfl rfl (Nat.le_of_ble_eq_true rfl)) ?_
  refine RW.gop rfl rfl rfl rfl rfl rfl (eff_load (y := .t _) rfl rfl ti30 rfl (.one rfl rfl rfl rfl)) ?_
  refine RW.gop rfl rfl rfl rfl rfl rfl (eff_lenM rfl rfl te30 rfl) ?_
  refine RW.gop rfl rfl rfl rfl rfl rfl (eff_iop (r := .bool true) rfl rfl rfl rfl (by exact iop_eql_t (by rfl))) ?_
  refine RW.op rfl rfl (eff_pick (v := .t _) rfl rfl rfl rfl) ?_
  refine RW.op rfl rfl (eff_assign (v := .t _) rfl rfl rfl) ?_
  refine RW.nil ?_
  refine awp_ret ?_
  exact ⟨Or.inr rfl, [_], ⟨.tmp (.t _), trivial⟩, .refl _⟩

end Go.Tv.D27

end
section
open Go Go.Tv Go.Proofs
namespace Go.Tv.D27
set_option maxRecDepth 20000
set_option maxHeartbeats 2000000
set_option linter.unusedSimpArgs false
set_option linter.unusedVariables false
end Go.Tv.D27

end
section
open Go Go.Tv Go.Proofs
namespace Go.Tv.D27

theorem confirm_ends {n : Nat} {s : Store} (h : VInv n s) (k : Int) :
    (k ∉ ids s ∧ confirm s k = (zs, 3)) ∨ ∃ V, confirm s k = (V, 0) ∧ VInv n V ∧ V = ⟨s.quota, s.bundles.filter (fun b => decide (b.id ≠ k)), s.passed.filter (· != k), s.seen⟩ := by
  by_cases he : (confirm s k).2 = 0
  · obtain ⟨g1, g2, _⟩ := inv_confirm h he
    refine .inr ⟨(confirm s k).1, ?_, g1, g2⟩
    rw [← he]
  · have : findIx s.bundles k < 0 := by
      apply Classical.byContradiction
      intro hh
      unfold confirm at he
      rw [if_neg hh] at he
      exact he rfl
    refine .inl ⟨findIx_neg.1 this, ?_⟩
    unfold confirm
    rw [if_pos this]

/-- Passing on what is there and was not passed on. -/
theorem pass_ok {n : Nat} {s : Store} {k : Int} (h : VInv n s) (hk : k ∈ ids s) (hp : k ∉ s.passed) :
    ∃ t, pass s k = (t, 0) ∧ t = ⟨s.quota, s.bundles, ins k s.passed, s.seen⟩ ∧ VInv (n + 1) t := by
  have h1 : ¬ findIx s.bundles k < 0 := fun hh => findIx_neg.1 hh hk
  have he : (pass s k).2 = 0 := by unfold pass; rw [if_neg h1, if_neg hp]
  obtain ⟨g1, g2, _, _⟩ := inv_pass h he
  exact ⟨(pass s k).1, by rw [← he], g2, g1⟩

end Go.Tv.D27

end
section
open Go Go.Tv Go.Proofs
namespace Go.Tv.D27

end Go.Tv.D27

end
section
open Go Go.Tv Go.Proofs
namespace Go.Tv.D27

def at' (L : List Store) (j : Nat) : Store := L.getD j zs

/-- Four valid stores; what a store has seen is in it or in a later one. -/
structure LInv (n : Nat) (L : List Store) : Prop where
  len : L.length = 4
  vi : ∀ j, j < 4 → VInv n (at' L j)
  fl : ∀ j c, j < 4 → c ∈ (at' L j).seen → ∃ k, j ≤ k ∧ k < 4 ∧ c ∈ ids (at' L k)

theorem at_set {L : List Store} {i j : Nat} {t : Store} (hL : L.length = 4) (hi : i < 4) : at' (L.set i t) j = if j = i then t else at' L j := by
  unfold at'
  rw [List.getD_eq_getElem?_getD, List.getD_eq_getElem?_getD, List.getElem?_set]
  by_cases e : j = i
  · subst e; rw [if_pos rfl, if_pos rfl, if_pos (by omega)]; rfl
  · rw [if_neg (fun h => e h.symm), if_neg e]

theorem LInv.mono {n m : Nat} {L : List Store} (h : LInv n L) (hm : n ≤ m) : LInv m L := { h with vi := fun j hj => (h.vi j hj).mono hm }

theorem LInv.upd {n m i : Nat} {L : List Store} {t : Store} (h : LInv n L) (hi : i < 4) (ht : VInv m t) (hnm : n ≤ m)
    (hs : ∀ c, c ∈ t.seen → c ∈ ids t ∨ ∃ k, i < k ∧ k < 4 ∧ c ∈ ids (at' L k))
    (hd : ∀ c, c ∈ ids (at' L i) → c ∉ ids t → ∃ k, i < k ∧ k < 4 ∧ c ∈ ids (at' L k)) : LInv m (L.set i t) := by
  have hat := fun j => at_set (L := L) (i := i) (j := j) (t := t) h.len hi
  have later : ∀ j c, j ≤ i → (∃ k, i < k ∧ k < 4 ∧ c ∈ ids (at' L k)) → ∃ k, j ≤ k ∧ k < 4 ∧ c ∈ ids (at' (L.set i t) k) := by
    rintro j c hj ⟨k, h1, h2, h3⟩
    exact ⟨k, by omega, h2, by rw [hat, if_neg (by omega)]; exact h3⟩
  refine ⟨by simp [h.len], fun j hj => ?_, fun j c hj hc => ?_⟩
  · rw [hat]; split
    · exact ht
    · exact (h.vi j hj).mono hnm
  · rw [hat] at hc
    by_cases e : j = i
    · rw [if_pos e] at hc
      rcases hs c hc with h1 | h1
      · exact ⟨i, by omega, hi, by rw [hat, if_pos rfl]; exact h1⟩
      · exact later j c (by omega) h1
    · rw [if_neg e] at hc
      obtain ⟨k, h1, h2, h3⟩ := h.fl j c hj hc
      by_cases ek : k = i
      · subst ek
        by_cases hct : c ∈ ids t
        · exact ⟨k, h1, h2, by rw [hat, if_pos rfl]; exact hct⟩
        · exact later j c h1 (hd c h3 hct)
      · exact ⟨k, h1, h2, by rw [hat, if_neg ek]; exact h3⟩

theorem LInv.seen_at {n i : Nat} {L : List Store} (h : LInv n L) (hi : i < 4) {c : Int} (hc : c ∈ (at' L i).seen) : c ∈ ids (at' L i) ∨ ∃ k, i < k ∧ k < 4 ∧ c ∈ ids (at' L k) := by
  obtain ⟨k, h1, h2, h3⟩ := h.fl i c hi hc
  by_cases e : k = i
  · subst e; exact .inl h3
  · exact .inr ⟨k, by omega, h2, h3⟩

/-- A store changes but in what was passed on. -/
theorem LInv.same {n m i : Nat} {L : List Store} {t : Store} (h : LInv n L) (hi : i < 4) (ht : VInv m t) (hnm : n ≤ m) (hs : t.seen = (at' L i).seen) (hb : t.bundles = (at' L i).bundles) : LInv m (L.set i t) := by
  have he : ids t = ids (at' L i) := by unfold ids; rw [hb]
  refine h.upd hi ht hnm (fun c hc => ?_) (fun c hc hn => ?_)
  · rw [hs] at hc; rw [he]; exact h.seen_at hi hc
  · rw [he] at hn; exact absurd hc hn

theorem LInv.acc {n i : Nat} {L : List Store} {b : Bundle} (h : LInv n L) (hi : i < 4) (hb : Bytes b.data) (he : (accept (at' L i) b).2.2 = 0) :
    LInv (n + 1) (L.set i (accept (at' L i) b).1) ∧ b.id ∈ (accept (at' L i) b).1.seen := by
  rw [accept_eq] at he ⊢
  split
  · rename_i h1
    exact ⟨h.same hi ((h.vi i hi).mono (by omega)) (by omega) rfl rfl, h1.2⟩
  · rename_i h1
    rw [if_neg h1] at he
    obtain ⟨g1, g2, g3⟩ := inv_create (h.vi i hi) hb he
    refine ⟨h.upd hi g1 (by omega) (fun c hc => ?_) (fun c hc hn => ?_), ?_⟩
    · simp only at hc ⊢
      rw [g2] at hc ⊢
      rcases ins_mem.1 hc with rfl | hc
      · exact .inl (by unfold ids; simp)
      · refine (h.seen_at hi hc).imp (fun hh => ?_) (fun hh => hh)
        unfold ids at hh ⊢
        rw [List.map_append]; exact List.mem_append_left _ hh
    · refine absurd ?_ hn
      simp only
      rw [g2]
      unfold ids at hc ⊢
      rw [List.map_append]; exact List.mem_append_left _ hc
    · simp only
      rw [g2]; exact ins_mem.2 (.inl rfl)

theorem LInv.conf {n i : Nat} {L : List Store} {k : Int} (h : LInv n L) (hi : i < 4) (hfw : ∃ j, i < j ∧ j < 4 ∧ k ∈ ids (at' L j)) (he : (confirm (at' L i) k).2 = 0) :
    LInv n (L.set i (confirm (at' L i) k).1) := by
  obtain ⟨g1, g2, g3⟩ := inv_confirm (h.vi i hi) he
  have hin : ∀ c, c ∈ ids (at' L i) → c ≠ k → c ∈ ids (confirm (at' L i) k).1 := by
    intro c hc hne
    rw [g2]
    obtain ⟨b, hb, rfl⟩ := List.mem_map.1 hc
    exact List.mem_map.2 ⟨b, List.mem_filter.2 ⟨hb, by simpa using hne⟩, rfl⟩
  refine h.upd hi g1 (Nat.le_refl _) (fun c hc => ?_) (fun c hc hn => ?_)
  · rw [g2] at hc
    rcases h.seen_at hi hc with hh | hh
    · by_cases e : c = k
      · rw [e]; exact .inr hfw
      · exact .inl (hin c hh e)
    · exact .inr hh
  · by_cases e : c = k
    · rw [e]; exact hfw
    · exact absurd (hin c hc e) hn

/-- Offers that arrive, k times. -/
def accN (I : Nat) (b : Bundle) : Nat → List Store → List Store × Bool
  | 0, L => (L, false)
  | k + 1, L => (if (accept (at' (accN I b k L).1 (I + 1)) b).2.2 = 0 then (accN I b k L).1.set (I + 1) (accept (at' (accN I b k L).1 (I + 1)) b).1 else (accN I b k L).1,
      (accN I b k L).2 || (accept (at' (accN I b k L).1 (I + 1)) b).2.1)

/-- Confirmations that arrive, k times. -/
def cfN (I : Nat) (c : Int) : Nat → List Store → List Store
  | 0, L => L
  | k + 1, L => if (confirm (at' (cfN I c k L) I) c).2 = 0 then (cfN I c k L).set I (confirm (at' (cfN I c k L) I) c).1 else cfN I c k L

theorem accept_true {s : Store} {b : Bundle} (h : (accept s b).2.1 = true) : (accept s b).2.2 = 0 := by
  rw [accept_eq] at h ⊢
  split
  · rfl
  · rename_i h1
    rw [if_neg h1] at h
    simpa using h

theorem accN_inv {I : Nat} {b : Bundle} (hI : I < 3) (hb : Bytes b.data) {n : Nat} {L : List Store} (h : LInv n L) : ∀ k,
    LInv (n + k) (accN I b k L).1 ∧ ((accN I b k L).2 = true → b.id ∈ (at' (accN I b k L).1 (I + 1)).seen) ∧ at' (accN I b k L).1 I = at' L I
  | 0 => ⟨h, (fun h => nomatch h), rfl⟩
  | k + 1 => by
    obtain ⟨h1, h2, h3⟩ := accN_inv hI hb h k
    unfold accN
    by_cases he : (accept (at' (accN I b k L).1 (I + 1)) b).2.2 = 0
    · rw [if_pos he]
      obtain ⟨g1, g2⟩ := h1.acc (i := I + 1) (by omega) hb he
      refine ⟨g1, fun _ => ?_, ?_⟩
      · show b.id ∈ (at' ((accN I b k L).1.set (I + 1) _) (I + 1)).seen
        rw [at_set h1.len (by omega), if_pos rfl]; exact g2
      · show at' ((accN I b k L).1.set (I + 1) _) I = _
        rw [at_set h1.len (by omega), if_neg (by omega)]; exact h3
    · rw [if_neg he]
      refine ⟨h1.mono (by omega), fun hh => ?_, h3⟩
      simp only [Bool.or_eq_true] at hh
      exact hh.elim h2 (fun hh => absurd (accept_true hh) he)

theorem cfN_inv {I : Nat} {c : Int} (hI : I < 3) {n : Nat} {L : List Store} (h : LInv n L) (hfw : ∃ j, I < j ∧ j < 4 ∧ c ∈ ids (at' L j)) : ∀ k,
    LInv n (cfN I c k L) ∧ (∃ j, I < j ∧ j < 4 ∧ c ∈ ids (at' (cfN I c k L) j))
  | 0 => ⟨h, hfw⟩
  | k + 1 => by
    obtain ⟨h1, j, g1, g2, g3⟩ := cfN_inv hI h hfw k
    unfold cfN
    split
    · rename_i he
      exact ⟨h1.conf (by omega) ⟨j, g1, g2, g3⟩ he, j, g1, g2, by rw [at_set h1.len (by omega), if_neg (by omega)]; exact g3⟩
    · exact ⟨h1, j, g1, g2, g3⟩

/-- A fate of a line. -/
structure Fate where
  node : Int
  offers : Int
  confirms : Int
  retr : Bool

/-- The line behind the first steps of an event: retried, or not. -/
def evR (L : List Store) (I : Nat) (r : Bool) : List Store := if r then L.set I (retry (at' L I)) else L
/-- .. behind the rest, the bundle b being on offer. -/
def evB (L : List Store) (I : Nat) (b : Bundle) (n m : Nat) : List Store :=
  if (accN I b n (L.set I (pass (at' L I) b.id).1)).2 then cfN I b.id m (accN I b n (L.set I (pass (at' L I) b.id).1)).1 else (accN I b n (L.set I (pass (at' L I) b.id).1)).1
def evt (L : List Store) (I : Nat) (r : Bool) (n m : Nat) : List Store :=
  if (offer (at' (evR L I r) I) 1000).2 then evB (evR L I r) I (offer (at' (evR L I r) I) 1000).1 n m else evR L I r

theorem evR_inv {n I : Nat} {L : List Store} (h : LInv n L) (hI : I < 3) (r : Bool) : LInv n (evR L I r) := by
  unfold evR
  split
  · exact h.same (by omega) (inv_retry (h.vi I (by omega))) (Nat.le_refl _) rfl rfl
  · exact h

theorem offer_in {s : Store} {r : Int} (h : (offer s r).2 = true) : (offer s r).1 ∈ s.bundles ∧ (offer s r).1.id ∉ s.passed := by
  unfold offer at h ⊢
  cases hf : s.bundles.find? (fits s r) with
  | none => rw [hf] at h; cases h
  | some b =>
    have := List.find?_some hf
    unfold fits at this
    simp only [decide_eq_true_eq] at this
    exact ⟨List.mem_of_find?_eq_some hf, this.1⟩

theorem evB_inv {n I : Nat} {L : List Store} {b : Bundle} (h : LInv n L) (hI : I < 3) (hb : b ∈ (at' L I).bundles) (hp : b.id ∉ (at' L I).passed) (k m : Nat) : LInv (n + 1 + k) (evB L I b k m) := by
  have hV := h.vi I (by omega)
  have hid : b.id ∈ ids (at' L I) := List.mem_map.2 ⟨b, hb, rfl⟩
  obtain ⟨t, ht, hte, hVt⟩ := pass_ok hV hid hp
  have h1 : LInv (n + 1) (L.set I (pass (at' L I) b.id).1) := by
    rw [ht]; exact h.same (by omega) hVt (by omega) (by rw [hte]) (by rw [hte])
  obtain ⟨g1, g2, g3⟩ := accN_inv hI (hV.bs b hb).2.1 h1 k
  unfold evB
  split
  · rename_i hacc
    obtain ⟨j, j1, j2, j3⟩ := g1.fl (I + 1) b.id (by omega) (g2 hacc)
    exact (cfN_inv hI g1 ⟨j, by omega, j2, j3⟩ m).1
  · exact g1

theorem evt_inv {n I : Nat} {L : List Store} (h : LInv n L) (hI : I < 3) (r : Bool) (k m : Nat) : LInv (n + 1 + k) (evt L I r k m) := by
  unfold evt
  have h1 := evR_inv h hI r
  split
  · rename_i ho
    obtain ⟨g1, g2⟩ := offer_in ho
    exact evB_inv h1 hI g1 g2 k m
  · exact h1.mono (by omega)

end Go.Tv.D27

end
section
open Go Go.Tv Go.Proofs
namespace Go.Tv.D27
set_option maxRecDepth 20000
set_option maxHeartbeats 2000000
set_option linter.unusedSimpArgs false
set_option linter.unusedVariables false
abbrev encL (L : List Store) : List AV := (L.map encS).map .t
abbrev encF (nd f1 f2 : Int) (r : Bool) : Tr := .agg [.int .u8 nd, .int .u8 f1, .int .u8 f2, .bool r]
theorem tu33 : Tryd.prog.underlying 33 = some (.array 4 32) := by kernel_rfl
theorem ael {L : List Store} {i : Nat} (hL : L.length = 4) (hi : i < 4) : (encL L)[i]? = some (.t (encS (at' L i))) := by
  unfold encL at'
  rw [List.getElem?_map, List.getElem?_map, List.getD_eq_getElem?_getD, List.getElem?_eq_getElem (by omega)]; rfl
theorem aset {L : List Store} {i : Nat} {t : Store} : (encL L).set i (.t (encS t)) = encL (L.set i t) := by
  unfold encL; rw [List.map_set, List.map_set]
theorem alen {L : List Store} {i : Nat} (hL : L.length = 4) (hi : i < 4) : i < (encL L).length := by unfold encL; simp; omega

theorem eventN0 (gg n : Nat) (hn : n ≤ 1000) (L : List Store) (hL : LInv n L) (nd f1 f2 : Int) (hnd : 0 ≤ nd ∧ nd < 256) (hf1 : 0 ≤ f1 ∧ f1 < 256) (hf2 : 0 ≤ f2 ∧ f2 < 256) (I K C : Nat) (hI : nd % 3 = (I : Int)) (hI3 : I < 3) (hK : f1 % 3 = (K : Int)) (hC : f2 % 3 = (C : Int)) (hLL : LInv n L) (bx : Bundle) (ho : offer (at' L I) 1000 = (bx, false)) : RetK Tryd.prog 7 [(0, some ⟨4, 33, gg, encL L⟩)] [.ptr 0 gg 0 0, .t (encF nd f1 f2 false)] [(0, some ⟨4, 33, gg, encL L⟩)] (.t (.bool true)) [(0, .ptr 0 gg 0 0)] := by
  refine retK_of_awj (kp := fun i => Nat.beq i 0) Tryd.func7 rfl (Nat.le_of_ble_eq_true rfl) (by simp) ?_
  intro F0 w0
  refine awj_seq ?_
  refine awj_rj rfl ?_
  refine RJ.new rfl rfl (eff_boxK (v := .t _) (k := 4) (id := 3) rfl rfl rfl rfl rfl rfl) ?_
  refine RJ.op rfl rfl (eff_assign (v := .t _) rfl rfl rfl) ?_
  refine RJ.nil ?_
  refine awj_seq ?_
  refine awj_rj rfl ?_
  refine RJ.op rfl rfl (eff_fieldAddr rfl rfl tf44_0 (by decide) rfl rfl rfl (Nat.le_of_ble_eq_true rfl)) ?_
  refine RJ.op rfl rfl (eff_load (y := .t _) rfl rfl ti5 rfl (.one rfl rfl rfl rfl)) ?_
  refine RJ.op rfl rfl (eff_convIntE (m := nd) rfl rfl (by rw [tu5]; rfl) tu3 rfl (wrap64 (by omega) (by omega))) ?_
  refine RJ.op rfl rfl (eff_remE (r := (I : Int)) rfl rfl rfl rfl (by decide) (by rw [← hI]; exact tmod_pos hnd.1)) ?_
  refine RJ.op rfl rfl (eff_assign (v := .t _) rfl rfl rfl) ?_
  refine RJ.nil ?_
  refine awj_seq ?_
  refine awj_seq ?_
  refine awj_rj rfl ?_
  refine RJ.op rfl rfl (eff_fieldAddr rfl rfl tf44_3 (by decide) rfl rfl rfl (Nat.le_of_ble_eq_true rfl)) ?_
  refine RJ.op rfl rfl (eff_load (y := .t _) rfl rfl ti4 rfl (.one rfl rfl rfl rfl)) ?_
  refine RJ.nil ?_
  refine awj_cond rfl (fun h => nomatch h) (fun _ => ?_)
  refine awj_skip ?_
  refine awj_seq ?_
  refine awj_rj rfl ?_
  refine RJ.op rfl rfl (eff_move (v := .ptr _ _ _ _) rfl rfl rfl) ?_
  refine RJ.op rfl rfl (eff_move (v := .t _) rfl rfl rfl) ?_
  refine RJ.op rfl rfl (eff_nilCheck (v := .ptr _ _ _ _) rfl rfl rfl rfl (fun _ _ _ _ e => by cases e; exact ⟨_, rfl, rfl⟩)) ?_
  refine RJ.op rfl rfl (eff_indexAddrP (i := I) rfl rfl tu33 ti32 rfl rfl (by first | rfl | omega) (by omega) rfl rfl rfl (alen hLL.len (by omega))) ?_
  refine RJ.op rfl rfl (eff_load (y := .t (encS (at' L (I)))) rfl rfl ti32 rfl (.whole rfl rfl (ael hLL.len (by omega)) rfl rfl rfl)) ?_
  refine RJ.op rfl rfl (eff_callT ((by have h := offer18_ret (at' L I) 1000 ((hLL.vi (I) (by omega)).sok (by omega)) (hLL.vi I (by omega)).ps; rw [ho] at h; exact h)) co15 rfl rfl rfl rfl) ?_
  refine RJ.op rfl rfl (eff_move (v := .t _) rfl rfl rfl) ?_
  refine RJ.op rfl rfl (eff_extract rfl rfl rfl rfl) ?_
  refine RJ.op rfl rfl (eff_extract rfl rfl rfl rfl) ?_
  refine RJ.new rfl rfl (eff_allocK (k := 8) (id := 6) rfl rfl tz40 rfl rfl) ?_
  refine RJ.store rfl rfl (eff_storeW (v := .t _) (els := [_]) (els' := [_]) rfl rfl ti40 rfl rfl rfl rfl rfl rfl rfl rfl rfl) ?_
  refine RJ.op rfl rfl (eff_assign (v := .t _) rfl rfl rfl) ?_
  refine RJ.nil ?_
  refine awj_seq ?_
  refine awj_seq ?_
  refine awj_rj rfl ?_
  refine RJ.op rfl rfl (eff_move (v := .t _) rfl rfl rfl) ?_
  refine RJ.op rfl rfl (eff_unop rfl rfl rfl rfl) ?_
  refine RJ.nil ?_
  refine awj_cond rfl (fun _ => ?_) (fun h => nomatch h)
  refine awj_seq ?_
  refine awj_rj rfl ?_
  refine RJ.op rfl rfl (eff_assign (v := .t _) rfl rfl rfl) ?_
  refine RJ.nil ?_
  refine awj_ret ?_
  exact ⟨Or.inr rfl, [_], [.t (.bool true)], ⟨.tmp rfl, trivial⟩, rfl, weak_keep ⟨rfl, rfl, rfl, rfl, trivial⟩ ⟨rfl, okE_t, trivial⟩, rfl⟩

theorem eventN1 (gg n : Nat) (hn : n ≤ 1000) (L : List Store) (hL : LInv n L) (nd f1 f2 : Int) (hnd : 0 ≤ nd ∧ nd < 256) (hf1 : 0 ≤ f1 ∧ f1 < 256) (hf2 : 0 ≤ f2 ∧ f2 < 256) (I K C : Nat) (hI : nd % 3 = (I : Int)) (hI3 : I < 3) (hK : f1 % 3 = (K : Int)) (hC : f2 % 3 = (C : Int)) (hLL : LInv n L) (b : Bundle) (hbb : Bytes b.data) (hbl : b.data.length ≤ 256) (ho : offer (at' L I) 1000 = (b, true)) (s2 : Store) (hp : pass (at' L I) b.id = (s2, 0)) (hL2 : LInv (n + 1) (L.set I s2)) (hA : (accN I b K (L.set I s2)).2 = false) : RetK Tryd.prog 7 [(0, some ⟨4, 33, gg, encL L⟩)] [.ptr 0 gg 0 0, .t (encF nd f1 f2 false)] [(0, some ⟨4, 33, gg, encL (accN I b K (L.set I s2)).1⟩)] (.t (.bool true)) [(0, .ptr 0 gg 0 0)] := by
  refine retK_of_awj (kp := fun i => Nat.beq i 0) Tryd.func7 rfl (Nat.le_of_ble_eq_true rfl) (by simp) ?_
  intro F0 w0
  refine awj_seq ?_
  refine awj_rj rfl ?_
  refine RJ.new rfl rfl (eff_boxK (v := .t _) (k := 4) (id := 3) rfl rfl rfl rfl rfl rfl) ?_
  refine RJ.op rfl rfl (eff_assign (v := .t _) rfl rfl rfl) ?_
  refine RJ.nil ?_
  refine awj_seq ?_
  refine awj_rj rfl ?_
  refine RJ.op rfl rfl (eff_fieldAddr rfl rfl tf44_0 (by decide) rfl rfl rfl (Nat.le_of_ble_eq_true rfl)) ?_
  refine RJ.op rfl rfl (eff_load (y := .t _) rfl rfl ti5 rfl (.one rfl rfl rfl rfl)) ?_
  refine RJ.op rfl rfl (eff_convIntE (m := nd) rfl rfl (by rw [tu5]; rfl) tu3 rfl (wrap64 (by omega) (by omega))) ?_
  refine RJ.op rfl rfl (eff_remE (r := (I : Int)) rfl rfl rfl rfl (by decide) (by rw [← hI]; exact tmod_pos hnd.1)) ?_
  refine RJ.op rfl rfl (eff_assign (v := .t _) rfl rfl rfl) ?_
  refine RJ.nil ?_
  refine awj_seq ?_
  refine awj_seq ?_
  refine awj_rj rfl ?_
  refine RJ.op rfl rfl (eff_fieldAddr rfl rfl tf44_3 (by decide) rfl rfl rfl (Nat.le_of_ble_eq_true rfl)) ?_
  refine RJ.op rfl rfl (eff_load (y := .t _) rfl rfl ti4 rfl (.one rfl rfl rfl rfl)) ?_
  refine RJ.nil ?_
  refine awj_cond rfl (fun h => nomatch h) (fun _ => ?_)
  refine awj_skip ?_
  refine awj_seq ?_
  refine awj_rj rfl ?_
  refine RJ.op rfl rfl (eff_move (v := .ptr _ _ _ _) rfl rfl rfl) ?_
  refine RJ.op rfl rfl (eff_move (v := .t _) rfl rfl rfl) ?_
  refine RJ.op rfl rfl (eff_nilCheck (v := .ptr _ _ _ _) rfl rfl rfl rfl (fun _ _ _ _ e => by cases e; exact ⟨_, rfl, rfl⟩)) ?_
  refine RJ.op rfl rfl (eff_indexAddrP (i := I) rfl rfl tu33 ti32 rfl rfl (by first | rfl | omega) (by omega) rfl rfl rfl (alen hLL.len (by omega))) ?_
  refine RJ.op rfl rfl (eff_load (y := .t (encS (at' L (I)))) rfl rfl ti32 rfl (.whole rfl rfl (ael hLL.len (by omega)) rfl rfl rfl)) ?_
  refine RJ.op rfl rfl (eff_callT ((by have h := offer18_ret (at' L I) 1000 ((hLL.vi (I) (by omega)).sok (by omega)) (hLL.vi I (by omega)).ps; rw [ho] at h; exact h)) co15 rfl rfl rfl rfl) ?_
  refine RJ.op rfl rfl (eff_move (v := .t _) rfl rfl rfl) ?_
  refine RJ.op rfl rfl (eff_extract rfl rfl rfl rfl) ?_
  refine RJ.op rfl rfl (eff_extract rfl rfl rfl rfl) ?_
  refine RJ.new rfl rfl (eff_allocK (k := 8) (id := 6) rfl rfl tz40 rfl rfl) ?_
  refine RJ.store rfl rfl (eff_storeW (v := .t _) (els := [_]) (els' := [_]) rfl rfl ti40 rfl rfl rfl rfl rfl rfl rfl rfl rfl) ?_
  refine RJ.op rfl rfl (eff_assign (v := .t _) rfl rfl rfl) ?_
  refine RJ.nil ?_
  refine awj_seq ?_
  refine awj_seq ?_
  refine awj_rj rfl ?_
  refine RJ.op rfl rfl (eff_move (v := .t _) rfl rfl rfl) ?_
  refine RJ.op rfl rfl (eff_unop rfl rfl rfl rfl) ?_
  refine RJ.nil ?_
  refine awj_cond rfl (fun h => nomatch h) (fun _ => ?_)
  refine awj_skip ?_
  refine awj_seq ?_
  refine awj_rd [(some 46, []), (some 47, []), (some 48, []), (some 49, []), (some 50, []), (some 51, []), (some 52, []), (some 53, []), (some 45, []), (some 54, []), (some 55, []), (some 8, [8]), (none, [8]), (some 9, [])] [[], [], [0], [0, 1, 2], [0, 1, 2, 3], [], [5], [0, 1, 2, 3, 4, 5, 6], [0, 1, 2, 3, 4, 5, 6, 7], [0, 1, 2, 3, 4, 5, 6, 7, 8], [0, 1, 2, 3, 4, 5, 6, 7, 8], [], [0, 1, 2, 3, 4, 5, 6, 7, 8, 9, 11], [0, 1, 2, 3, 4, 5, 6, 7, 8, 9, 10, 11, 12]] tm rfl rfl rfl rfl ?_
  refine RD.op rfl rfl rfl (eff_move (v := .ptr _ _ _ _) rfl rfl rfl) ?_
  refine RD.op rfl rfl rfl (eff_move (v := .t _) rfl rfl rfl) ?_
  refine RD.op rfl rfl rfl (eff_nilCheck (v := .ptr _ _ _ _) rfl rfl rfl rfl (fun _ _ _ _ e => by cases e; exact ⟨_, rfl, rfl⟩)) ?_
  refine RD.op rfl rfl rfl (eff_indexAddrP (i := I) rfl rfl tu33 ti32 rfl rfl (by first | rfl | omega) (by omega) rfl rfl rfl (alen hLL.len (by omega))) ?_
  refine RD.op rfl rfl rfl (eff_load (y := .t (encS (at' L (I)))) rfl rfl ti32 rfl (.whole rfl rfl (ael hLL.len (by omega)) rfl rfl rfl)) ?_
  refine RD.op rfl rfl rfl (eff_fieldAddr rfl rfl tf40_0 (by decide) rfl rfl rfl (Nat.le_of_ble_eq_true rfl)) ?_
  refine RD.op rfl rfl rfl (eff_load (y := .t _) rfl rfl ti3 rfl (.one rfl rfl rfl rfl)) ?_
  refine RD.op rfl rfl rfl (eff_callT ((by have h := pass26_ret insC (at' L I) b.id ((hLL.vi (I) (by omega)).sok (by omega)) (hLL.vi I (by omega)).ps; rw [hp] at h; exact h)) co16 rfl rfl rfl rfl) ?_
  refine RD.op rfl rfl rfl (eff_move (v := .t _) rfl rfl rfl) ?_
  refine RD.op rfl rfl rfl (eff_extract rfl rfl rfl rfl) ?_
  refine RD.op rfl rfl rfl (eff_extract rfl rfl rfl rfl) ?_
  refine RD.new rfl rfl rfl (eff_allocK (k := 4) (id := 8) rfl rfl tz32 rfl rfl) ?_
  refine RD.store rfl rfl rfl (eff_storeW (v := .t _) (els := [_]) (els' := [_]) rfl rfl ti32 rfl rfl rfl rfl rfl rfl rfl rfl rfl) ?_
  refine RD.op rfl rfl rfl (eff_assign (v := .t _) rfl rfl rfl) ?_
  refine RD.nil ?_
  refine awj_seq ?_
  refine awj_seq ?_
  refine awj_rj rfl ?_
  refine RJ.op rfl rfl (eff_move (v := .t _) rfl rfl rfl) ?_
  refine RJ.op rfl rfl (eff_iop (r := .bool false) rfl rfl rfl rfl (by exact iop_neq_f (by rfl))) ?_
  refine RJ.nil ?_
  refine awj_cond rfl (fun h => nomatch h) (fun _ => ?_)
  refine awj_skip ?_
  refine awj_seq ?_
  refine awj_rd [(some 58, []), (some 59, []), (some 60, []), (some 61, []), (some 62, []), (none, [0])] [[], [], [], [0], [0, 1, 2, 3], [0, 1, 2, 3, 4]] tm rfl rfl rfl rfl ?_
  refine RD.op rfl rfl rfl (eff_move (v := .ptr _ _ _ _) rfl rfl rfl) ?_
  refine RD.op rfl rfl rfl (eff_move (v := .t _) rfl rfl rfl) ?_
  refine RD.op rfl rfl rfl (eff_load rfl rfl ti32 rfl (.whole rfl rfl rfl rfl rfl rfl)) ?_
  refine RD.op rfl rfl rfl (eff_nilCheck (v := .ptr _ _ _ _) rfl rfl rfl rfl (fun _ _ _ _ e => by cases e; exact ⟨_, rfl, rfl⟩)) ?_
  refine RD.op rfl rfl rfl (eff_indexAddrP (i := I) rfl rfl tu33 ti32 rfl rfl (by first | rfl | omega) (by omega) rfl rfl rfl (alen hLL.len (by omega))) ?_
  refine RD.store rfl rfl rfl (eff_storeW (v := .t (encS s2)) (els := encL L) (els' := encL (L.set I s2)) (el := .t (encS (at' L (I)))) rfl rfl ti32 rfl rfl rfl rfl rfl rfl (ael hLL.len (by omega)) rfl aset) ?_
  refine RD.nil ?_
  refine awj_seq ?_
  refine awj_rj rfl ?_
  refine RJ.op rfl rfl (eff_assign (v := .t _) rfl rfl rfl) ?_
  refine RJ.nil ?_
  refine awj_seq ?_
  refine awj_seq ?_
  refine awj_rj rfl ?_
  refine RJ.op rfl rfl (eff_assign (v := .t _) rfl rfl rfl) ?_
  refine RJ.nil ?_
  refine awj_block ?_
  refine awj_loopW (fun m s g => ∃ (k : Nat) (M : List Store) (ac : Bool), (k ≤ K) ∧ (M = (accN I b k (L.set I s2)).1) ∧ (ac = (accN I b k (L.set I s2)).2) ∧ m = K - k ∧ s = ⟨134, [(0, .ptr 0 gg 0 0), (3, .ptr 3 0 0 0), (5, .t (encI (I : Nat))), (6, .ptr 6 0 0 0), (10, .t (.bool ac)), (11, .t (encI (k : Nat)))], [(0, some ⟨4, 33, gg, encL M⟩), (3, some ⟨4, 44, 0, [.t (encF nd f1 f2 false)]⟩), (6, some ⟨8, 40, 0, [.t (encB b)]⟩)]⟩) (_) (⟨_, weak_keep (n := 134) (fr' := [(0, .ptr 0 gg 0 0), (3, .ptr 3 0 0 0), (5, .t (encI (I : Nat))), (6, .ptr 6 0 0 0), (10, .t (.bool _)), (11, .t (encI (0 : Nat)))]) (st' := [(0, some ⟨4, 33, gg, encL _⟩), (3, some ⟨4, 44, 0, [.t (encF nd f1 f2 false)]⟩), (6, some ⟨8, 40, 0, [.t (encB b)]⟩)]) ⟨rfl, rfl, rfl, rfl, rfl, rfl, rfl, rfl, rfl, rfl, rfl, rfl, trivial⟩ ⟨rfl, okE_t, rfl, okE_one rfl, rfl, okE_one rfl, trivial⟩, 0, _, _, (by omega), (by rfl), (by rfl), rfl, rfl⟩) ?_
  rintro m s g ⟨k, M, ac, hk, hM, hac, rfl, rfl⟩
  have hMI : LInv (n + 1 + k) M := by rw [hM]; exact (accN_inv hI3 hbb hL2 k).1
  refine awj_seq ?_
  refine awj_seq ?_
  refine awj_rj rfl ?_
  refine RJ.op rfl rfl (eff_move (v := .t _) rfl rfl rfl) ?_
  refine RJ.op rfl rfl (eff_fieldAddr rfl rfl tf44_1 (by decide) rfl rfl rfl (Nat.le_of_ble_eq_true rfl)) ?_
  refine RJ.op rfl rfl (eff_load (y := .t _) rfl rfl ti5 rfl (.one rfl rfl rfl rfl)) ?_
  refine RJ.op rfl rfl (eff_remE (r := (K : Int)) rfl rfl rfl rfl (by decide) (by rw [← hK]; exact tmod_pos hf1.1)) ?_
  refine RJ.op rfl rfl (eff_convIntE (m := (K : Int)) rfl rfl (by rw [tu5]; rfl) tu3 rfl (wrap64 (by omega) (by omega))) ?_
  refine RJ.op rfl rfl (eff_iop rfl rfl rfl rfl rfl) ?_
  refine RJ.nil ?_
  refine awj_cond rfl (fun h1 => ?_) (fun h1 => ?_)
  · try simp only [decide_eq_true_eq, decide_eq_false_iff_not, beq_iff_eq, bne_iff_ne, bne_eq_false_iff_eq, beq_eq_false_iff_ne, Bool.not_eq_true, Bool.not_eq_false, Bool.not_eq_true', Bool.not_eq_false', ne_eq] at h1
    refine awj_skip ?_
    refine awj_seq ?_
    refine awj_block ?_
    refine awj_seq ?_
    refine awj_rd [(some 72, []), (some 73, []), (some 74, []), (some 75, []), (some 76, []), (some 77, []), (some 78, []), (some 79, []), (some 71, []), (some 80, []), (some 81, []), (some 82, []), (some 12, [12]), (none, [12]), (some 13, []), (some 14, [])] [[], [], [1], [0], [0, 1, 2, 3], [0, 1, 2, 3, 4], [], [0, 1, 2, 3, 4, 5, 6], [0, 1, 2, 3, 4, 5, 6, 7], [0, 1, 2, 3, 4, 5, 6, 7, 8], [0, 1, 2, 3, 4, 5, 6, 7, 8], [0, 1, 2, 3, 4, 5, 6, 7, 8], [], [0, 1, 2, 3, 4, 5, 6, 7, 8, 9, 12], [0, 1, 2, 3, 4, 5, 6, 7, 8, 9, 10, 12, 13], [0, 1, 2, 3, 4, 5, 6, 7, 8, 9, 10, 11, 12, 13, 14]] tm rfl rfl rfl rfl ?_
    refine RD.op rfl rfl rfl (eff_move (v := .ptr _ _ _ _) rfl rfl rfl) ?_
    refine RD.op rfl rfl rfl (eff_move (v := .t _) rfl rfl rfl) ?_
    refine RD.op rfl rfl rfl (eff_iop rfl rfl rfl rfl (iadd (by omega))) ?_
    refine RD.op rfl rfl rfl (eff_nilCheck (v := .ptr _ _ _ _) rfl rfl rfl rfl (fun _ _ _ _ e => by cases e; exact ⟨_, rfl, rfl⟩)) ?_
    refine RD.op rfl rfl rfl (eff_indexAddrP (i := I + 1) rfl rfl tu33 ti32 rfl rfl (by first | rfl | omega) (by omega) rfl rfl rfl (alen hMI.len (by omega))) ?_
    refine RD.op rfl rfl rfl (eff_load (y := .t (encS (at' M (I + 1)))) rfl rfl ti32 rfl (.whole rfl rfl (ael hMI.len (by omega)) rfl rfl rfl)) ?_
    refine RD.op rfl rfl rfl (eff_load rfl rfl ti40 rfl (.whole rfl rfl rfl rfl rfl rfl)) ?_
    refine RD.op rfl rfl rfl (eff_callT (accept23_ret insC (at' M (I + 1)) b ((hMI.vi (I + 1) (by omega)).sok (by omega)) (by unfold BOK; omega) (hMI.vi (I + 1) (by omega)).ss) co14 rfl rfl rfl rfl) ?_
    refine RD.op rfl rfl rfl (eff_move (v := .t _) rfl rfl rfl) ?_
    refine RD.op rfl rfl rfl (eff_extract rfl rfl rfl rfl) ?_
    refine RD.op rfl rfl rfl (eff_extract rfl rfl rfl rfl) ?_
    refine RD.op rfl rfl rfl (eff_extract rfl rfl rfl rfl) ?_
    refine RD.new rfl rfl rfl (eff_allocK (k := 4) (id := 12) rfl rfl tz32 rfl rfl) ?_
    refine RD.store rfl rfl rfl (eff_storeW (v := .t _) (els := [_]) (els' := [_]) rfl rfl ti32 rfl rfl rfl rfl rfl rfl rfl rfl rfl) ?_
    refine RD.op rfl rfl rfl (eff_assign (v := .t _) rfl rfl rfl) ?_
    refine RD.op rfl rfl rfl (eff_assign (v := .t _) rfl rfl rfl) ?_
    refine RD.nil ?_
    refine awj_seq ?_
    refine awj_seq ?_
    refine awj_rj rfl ?_
    refine RJ.op rfl rfl (eff_move (v := .t _) rfl rfl rfl) ?_
    refine RJ.op rfl rfl (eff_iop rfl rfl rfl rfl rfl) ?_
    refine RJ.nil ?_
    refine awj_cond rfl (fun h2 => ?_) (fun h2 => ?_)
    · try simp only [decide_eq_true_eq, decide_eq_false_iff_not, beq_iff_eq, bne_iff_ne, bne_eq_false_iff_eq, beq_eq_false_iff_ne, Bool.not_eq_true, Bool.not_eq_false, Bool.not_eq_true', Bool.not_eq_false', ne_eq] at h2
      refine awj_rd [(some 85, []), (some 86, []), (some 87, []), (some 88, []), (some 89, []), (some 90, []), (none, [0])] [[], [], [1], [], [0], [0, 1, 2, 3, 4], [0, 1, 2, 3, 4, 5]] tm rfl rfl rfl rfl ?_
      refine RD.op rfl rfl rfl (eff_move (v := .ptr _ _ _ _) rfl rfl rfl) ?_
      refine RD.op rfl rfl rfl (eff_move (v := .t _) rfl rfl rfl) ?_
      refine RD.op rfl rfl rfl (eff_iop rfl rfl rfl rfl (iadd (by omega))) ?_
      refine RD.op rfl rfl rfl (eff_load rfl rfl ti32 rfl (.whole rfl rfl rfl rfl rfl rfl)) ?_
      refine RD.op rfl rfl rfl (eff_nilCheck (v := .ptr _ _ _ _) rfl rfl rfl rfl (fun _ _ _ _ e => by cases e; exact ⟨_, rfl, rfl⟩)) ?_
      refine RD.op rfl rfl rfl (eff_indexAddrP (i := I + 1) rfl rfl tu33 ti32 rfl rfl (by first | rfl | omega) (by omega) rfl rfl rfl (alen hMI.len (by omega))) ?_
      refine RD.store rfl rfl rfl (eff_storeW (v := .t (encS (accept (at' M (I + 1)) b).1)) (els := encL M) (els' := encL (M.set (I + 1) (accept (at' M (I + 1)) b).1)) (el := .t (encS (at' M (I + 1)))) rfl rfl ti32 rfl rfl rfl rfl rfl rfl (ael hMI.len (by omega)) rfl aset) ?_
      refine RD.nil ?_
      refine awj_rj rfl ?_
      refine RJ.op rfl rfl (eff_move (v := .t _) rfl rfl rfl) ?_
      refine RJ.op rfl rfl (eff_move (v := .t _) rfl rfl rfl) ?_
      refine RJ.split 92 rfl (fun h3 => ?_) (fun h3 => ?_)
      · try simp only [decide_eq_true_eq, decide_eq_false_iff_not, beq_iff_eq, bne_iff_ne, bne_eq_false_iff_eq, beq_eq_false_iff_ne, Bool.not_eq_true, Bool.not_eq_false, Bool.not_eq_true', Bool.not_eq_false', ne_eq] at h3
        refine RJ.gskip rfl rfl rfl rfl rfl (by decide) ?_
        refine RJ.op rfl rfl (eff_pick (v := .t _) rfl rfl rfl rfl) ?_
        refine RJ.op rfl rfl (eff_assign (v := .t _) rfl rfl rfl) ?_
        refine RJ.nil ?_
        refine awj_rj rfl ?_
        refine RJ.op rfl rfl (eff_move (v := .t _) rfl rfl rfl) ?_
        refine RJ.op rfl rfl (eff_iop rfl rfl rfl rfl (iadd (by omega))) ?_
        refine RJ.op rfl rfl (eff_assign (v := .t _) rfl rfl rfl) ?_
        refine RJ.nil ?_
        refine ⟨_, ?_, _, weak_keep (n := 134) (fr' := [(0, .ptr 0 gg 0 0), (3, .ptr 3 0 0 0), (5, .t (encI (I : Nat))), (6, .ptr 6 0 0 0), (10, .t (.bool _)), (11, .t (encI ((k + 1) : Nat)))]) (st' := [(0, some ⟨4, 33, gg, encL _⟩), (3, some ⟨4, 44, 0, [.t (encF nd f1 f2 false)]⟩), (6, some ⟨8, 40, 0, [.t (encB b)]⟩)]) ⟨rfl, rfl, rfl, rfl, rfl, rfl, rfl, rfl, rfl, rfl, rfl, rfl, trivial⟩ ⟨rfl, okE_t, rfl, okE_one rfl, rfl, okE_one rfl, trivial⟩, k + 1, _, _, (by omega), (by show _ = (if _ then _ else _); rw [← hM]; first | rw [if_pos (by assumption)] | rw [if_neg (by assumption)]), (by show _ = ((accN I b k (L.set I s2)).2 || _); rw [← hac, ← hM]; first | (rw [(by assumption : ac = true)]; rfl) | (rw [(by assumption : ac = false)]; rfl)), rfl, rfl⟩
        omega
      · try simp only [decide_eq_true_eq, decide_eq_false_iff_not, beq_iff_eq, bne_iff_ne, bne_eq_false_iff_eq, beq_eq_false_iff_ne, Bool.not_eq_true, Bool.not_eq_false, Bool.not_eq_true', Bool.not_eq_false', ne_eq] at h3
        refine RJ.gop rfl rfl rfl rfl rfl rfl (eff_move (v := .t _) rfl rfl rfl) ?_
        refine RJ.op rfl rfl (eff_pick (v := .t _) rfl rfl rfl rfl) ?_
        refine RJ.op rfl rfl (eff_assign (v := .t _) rfl rfl rfl) ?_
        refine RJ.nil ?_
        refine awj_rj rfl ?_
        refine RJ.op rfl rfl (eff_move (v := .t _) rfl rfl rfl) ?_
        refine RJ.op rfl rfl (eff_iop rfl rfl rfl rfl (iadd (by omega))) ?_
        refine RJ.op rfl rfl (eff_assign (v := .t _) rfl rfl rfl) ?_
        refine RJ.nil ?_
        refine ⟨_, ?_, _, weak_keep (n := 134) (fr' := [(0, .ptr 0 gg 0 0), (3, .ptr 3 0 0 0), (5, .t (encI (I : Nat))), (6, .ptr 6 0 0 0), (10, .t (.bool _)), (11, .t (encI ((k + 1) : Nat)))]) (st' := [(0, some ⟨4, 33, gg, encL _⟩), (3, some ⟨4, 44, 0, [.t (encF nd f1 f2 false)]⟩), (6, some ⟨8, 40, 0, [.t (encB b)]⟩)]) ⟨rfl, rfl, rfl, rfl, rfl, rfl, rfl, rfl, rfl, rfl, rfl, rfl, trivial⟩ ⟨rfl, okE_t, rfl, okE_one rfl, rfl, okE_one rfl, trivial⟩, k + 1, _, _, (by omega), (by show _ = (if _ then _ else _); rw [← hM]; first | rw [if_pos (by assumption)] | rw [if_neg (by assumption)]), (by show _ = ((accN I b k (L.set I s2)).2 || _); rw [← hac, ← hM]; first | (rw [(by assumption : ac = true)]; rfl) | (rw [(by assumption : ac = false)]; rfl)), rfl, rfl⟩
        omega
    · try simp only [decide_eq_true_eq, decide_eq_false_iff_not, beq_iff_eq, bne_iff_ne, bne_eq_false_iff_eq, beq_eq_false_iff_ne, Bool.not_eq_true, Bool.not_eq_false, Bool.not_eq_true', Bool.not_eq_false', ne_eq] at h2
      refine awj_skip ?_
      refine awj_rj rfl ?_
      refine RJ.op rfl rfl (eff_move (v := .t _) rfl rfl rfl) ?_
      refine RJ.op rfl rfl (eff_move (v := .t _) rfl rfl rfl) ?_
      refine RJ.split 92 rfl (fun h4 => ?_) (fun h4 => ?_)
      · try simp only [decide_eq_true_eq, decide_eq_false_iff_not, beq_iff_eq, bne_iff_ne, bne_eq_false_iff_eq, beq_eq_false_iff_ne, Bool.not_eq_true, Bool.not_eq_false, Bool.not_eq_true', Bool.not_eq_false', ne_eq] at h4
        refine RJ.gskip rfl rfl rfl rfl rfl (by decide) ?_
        refine RJ.op rfl rfl (eff_pick (v := .t _) rfl rfl rfl rfl) ?_
        refine RJ.op rfl rfl (eff_assign (v := .t _) rfl rfl rfl) ?_
        refine RJ.nil ?_
        refine awj_rj rfl ?_
        refine RJ.op rfl rfl (eff_move (v := .t _) rfl rfl rfl) ?_
        refine RJ.op rfl rfl (eff_iop rfl rfl rfl rfl (iadd (by omega))) ?_
        refine RJ.op rfl rfl (eff_assign (v := .t _) rfl rfl rfl) ?_
        refine RJ.nil ?_
        refine ⟨_, ?_, _, weak_keep (n := 134) (fr' := [(0, .ptr 0 gg 0 0), (3, .ptr 3 0 0 0), (5, .t (encI (I : Nat))), (6, .ptr 6 0 0 0), (10, .t (.bool _)), (11, .t (encI ((k + 1) : Nat)))]) (st' := [(0, some ⟨4, 33, gg, encL _⟩), (3, some ⟨4, 44, 0, [.t (encF nd f1 f2 false)]⟩), (6, some ⟨8, 40, 0, [.t (encB b)]⟩)]) ⟨rfl, rfl, rfl, rfl, rfl, rfl, rfl, rfl, rfl, rfl, rfl, rfl, trivial⟩ ⟨rfl, okE_t, rfl, okE_one rfl, rfl, okE_one rfl, trivial⟩, k + 1, _, _, (by omega), (by show _ = (if _ then _ else _); rw [← hM]; first | rw [if_pos (by assumption)] | rw [if_neg (by assumption)]), (by show _ = ((accN I b k (L.set I s2)).2 || _); rw [← hac, ← hM]; first | (rw [(by assumption : ac = true)]; rfl) | (rw [(by assumption : ac = false)]; rfl)), rfl, rfl⟩
        omega
      · try simp only [decide_eq_true_eq, decide_eq_false_iff_not, beq_iff_eq, bne_iff_ne, bne_eq_false_iff_eq, beq_eq_false_iff_ne, Bool.not_eq_true, Bool.not_eq_false, Bool.not_eq_true', Bool.not_eq_false', ne_eq] at h4
        refine RJ.gop rfl rfl rfl rfl rfl rfl (eff_move (v := .t _) rfl rfl rfl) ?_
        refine RJ.op rfl rfl (eff_pick (v := .t _) rfl rfl rfl rfl) ?_
        refine RJ.op rfl rfl (eff_assign (v := .t _) rfl rfl rfl) ?_
        refine RJ.nil ?_
        refine awj_rj rfl ?_
        refine RJ.op rfl rfl (eff_move (v := .t _) rfl rfl rfl) ?_
        refine RJ.op rfl rfl (eff_iop rfl rfl rfl rfl (iadd (by omega))) ?_
        refine RJ.op rfl rfl (eff_assign (v := .t _) rfl rfl rfl) ?_
        refine RJ.nil ?_
        refine ⟨_, ?_, _, weak_keep (n := 134) (fr' := [(0, .ptr 0 gg 0 0), (3, .ptr 3 0 0 0), (5, .t (encI (I : Nat))), (6, .ptr 6 0 0 0), (10, .t (.bool _)), (11, .t (encI ((k + 1) : Nat)))]) (st' := [(0, some ⟨4, 33, gg, encL _⟩), (3, some ⟨4, 44, 0, [.t (encF nd f1 f2 false)]⟩), (6, some ⟨8, 40, 0, [.t (encB b)]⟩)]) ⟨rfl, rfl, rfl, rfl, rfl, rfl, rfl, rfl, rfl, rfl, rfl, rfl, trivial⟩ ⟨rfl, okE_t, rfl, okE_one rfl, rfl, okE_one rfl, trivial⟩, k + 1, _, _, (by omega), (by show _ = (if _ then _ else _); rw [← hM]; first | rw [if_pos (by assumption)] | rw [if_neg (by assumption)]), (by show _ = ((accN I b k (L.set I s2)).2 || _); rw [← hac, ← hM]; first | (rw [(by assumption : ac = true)]; rfl) | (rw [(by assumption : ac = false)]; rfl)), rfl, rfl⟩
        omega
  · try simp only [decide_eq_true_eq, decide_eq_false_iff_not, beq_iff_eq, bne_iff_ne, bne_eq_false_iff_eq, beq_eq_false_iff_ne, Bool.not_eq_true, Bool.not_eq_false, Bool.not_eq_true', Bool.not_eq_false', ne_eq] at h1
    refine awj_exit ?_
    refine awj_seq ?_
    refine awj_seq ?_
    refine awj_rj rfl ?_
    have hk2 : K = k := by omega
    subst hk2
    rw [hA] at hac
    subst hac
    subst hM
    refine RJ.op rfl rfl (eff_assign (v := .t _) rfl rfl rfl) ?_
    refine RJ.nil ?_
    refine awj_block ?_
    refine awj_loopW (fun m s g => ∃ (c : Nat), (c = 0) ∧ m = C - c ∧ s = ⟨134, [(0, .ptr 0 gg 0 0), (3, .ptr 3 0 0 0), (5, .t (encI (I : Nat))), (6, .ptr 6 0 0 0), (10, .t (.bool false)), (15, .t (encI (c : Nat)))], [(0, some ⟨4, 33, gg, encL (accN I b K (L.set I s2)).1⟩), (3, some ⟨4, 44, 0, [.t (encF nd f1 f2 false)]⟩), (6, some ⟨8, 40, 0, [.t (encB b)]⟩)]⟩) (_) (⟨_, weak_keep (n := 134) (fr' := [(0, .ptr 0 gg 0 0), (3, .ptr 3 0 0 0), (5, .t (encI (I : Nat))), (6, .ptr 6 0 0 0), (10, .t (.bool false)), (15, .t (encI (0 : Nat)))]) (st' := [(0, some ⟨4, 33, gg, encL (accN I b K (L.set I s2)).1⟩), (3, some ⟨4, 44, 0, [.t (encF nd f1 f2 false)]⟩), (6, some ⟨8, 40, 0, [.t (encB b)]⟩)]) ⟨rfl, rfl, rfl, rfl, rfl, rfl, rfl, rfl, rfl, rfl, rfl, rfl, trivial⟩ ⟨rfl, okE_t, rfl, okE_one rfl, rfl, okE_one rfl, trivial⟩, 0, (by rfl), rfl, rfl⟩) ?_
    rintro m s g ⟨c, hc, rfl, rfl⟩
    refine awj_seq ?_
    refine awj_seq ?_
    refine awj_rj rfl ?_
    refine RJ.op rfl rfl (eff_move (v := .t _) rfl rfl rfl) ?_
    refine RJ.op rfl rfl (eff_fieldAddr rfl rfl tf44_2 (by decide) rfl rfl rfl (Nat.le_of_ble_eq_true rfl)) ?_
    refine RJ.op rfl rfl (eff_load (y := .t _) rfl rfl ti5 rfl (.one rfl rfl rfl rfl)) ?_
    refine RJ.op rfl rfl (eff_remE (r := (C : Int)) rfl rfl rfl rfl (by decide) (by rw [← hC]; exact tmod_pos hf2.1)) ?_
    refine RJ.op rfl rfl (eff_convIntE (m := (C : Int)) rfl rfl (by rw [tu5]; rfl) tu3 rfl (wrap64 (by omega) (by omega))) ?_
    refine RJ.op rfl rfl (eff_iop rfl rfl rfl rfl rfl) ?_
    refine RJ.op rfl rfl (eff_move (v := .t _) rfl rfl rfl) ?_
    refine RJ.split 101 rfl (fun h5 => ?_) (fun h5 => ?_)
    · try simp only [decide_eq_true_eq, decide_eq_false_iff_not, beq_iff_eq, bne_iff_ne, bne_eq_false_iff_eq, beq_eq_false_iff_ne, Bool.not_eq_true, Bool.not_eq_false, Bool.not_eq_true', Bool.not_eq_false', ne_eq] at h5
      refine RJ.gop rfl rfl rfl rfl rfl rfl (eff_move (v := .t _) rfl rfl rfl) ?_
      refine RJ.op rfl rfl (eff_pick (v := .t _) rfl rfl rfl rfl) ?_
      refine RJ.nil ?_
      refine awj_cond rfl (fun h => nomatch h) (fun _ => ?_)
      refine awj_exit ?_
      refine awj_seq ?_
      refine awj_rj rfl ?_
      refine RJ.op rfl rfl (eff_assign (v := .t _) rfl rfl rfl) ?_
      refine RJ.nil ?_
      refine awj_ret ?_
      exact ⟨Or.inr rfl, [_], [.t (.bool true)], ⟨.tmp rfl, trivial⟩, rfl, weak_keep ⟨rfl, rfl, rfl, rfl, trivial⟩ ⟨rfl, okE_t, trivial⟩, rfl⟩
    · try simp only [decide_eq_true_eq, decide_eq_false_iff_not, beq_iff_eq, bne_iff_ne, bne_eq_false_iff_eq, beq_eq_false_iff_ne, Bool.not_eq_true, Bool.not_eq_false, Bool.not_eq_true', Bool.not_eq_false', ne_eq] at h5
      refine RJ.gskip rfl rfl rfl rfl rfl (by decide) ?_
      refine RJ.op rfl rfl (eff_pick (v := .t _) rfl rfl rfl rfl) ?_
      refine RJ.nil ?_
      refine awj_cond rfl (fun h => nomatch h) (fun _ => ?_)
      refine awj_exit ?_
      refine awj_seq ?_
      refine awj_rj rfl ?_
      refine RJ.op rfl rfl (eff_assign (v := .t _) rfl rfl rfl) ?_
      refine RJ.nil ?_
      refine awj_ret ?_
      exact ⟨Or.inr rfl, [_], [.t (.bool true)], ⟨.tmp rfl, trivial⟩, rfl, weak_keep ⟨rfl, rfl, rfl, rfl, trivial⟩ ⟨rfl, okE_t, trivial⟩, rfl⟩

theorem eventN2 (gg n : Nat) (hn : n ≤ 1000) (L : List Store) (hL : LInv n L) (nd f1 f2 : Int) (hnd : 0 ≤ nd ∧ nd < 256) (hf1 : 0 ≤ f1 ∧ f1 < 256) (hf2 : 0 ≤ f2 ∧ f2 < 256) (I K C : Nat) (hI : nd % 3 = (I : Int)) (hI3 : I < 3) (hK : f1 % 3 = (K : Int)) (hC : f2 % 3 = (C : Int)) (hLL : LInv n L) (b : Bundle) (hbb : Bytes b.data) (hbl : b.data.length ≤ 256) (ho : offer (at' L I) 1000 = (b, true)) (s2 : Store) (hp : pass (at' L I) b.id = (s2, 0)) (hL2 : LInv (n + 1) (L.set I s2)) (hA : (accN I b K (L.set I s2)).2 = true) (hcf : ∀ c N, N = (cfN I b.id c (accN I b K (L.set I s2)).1) → LInv (n + 1 + K) N ∧ ((confirm (at' N I) b.id).2 = 0 ∨ ((confirm (at' N I) b.id).2 = 3 ∧ c ≠ 0))) : RetK Tryd.prog 7 [(0, some ⟨4, 33, gg, encL L⟩)] [.ptr 0 gg 0 0, .t (encF nd f1 f2 false)] [(0, some ⟨4, 33, gg, encL (cfN I b.id C (accN I b K (L.set I s2)).1)⟩)] (.t (.bool true)) [(0, .ptr 0 gg 0 0)] := by
  refine retK_of_awj (kp := fun i => Nat.beq i 0) Tryd.func7 rfl (Nat.le_of_ble_eq_true rfl) (by simp) ?_
  intro F0 w0
  refine awj_seq ?_
  refine awj_rj rfl ?_
  refine RJ.new rfl rfl (eff_boxK (v := .t _) (k := 4) (id := 3) rfl rfl rfl rfl rfl rfl) ?_
  refine RJ.op rfl rfl (eff_assign (v := .t _) rfl rfl rfl) ?_
  refine RJ.nil ?_
  refine awj_seq ?_
  refine awj_rj rfl ?_
  refine RJ.op rfl rfl (eff_fieldAddr rfl rfl tf44_0 (by decide) rfl rfl rfl (Nat.le_of_ble_eq_true rfl)) ?_
  refine RJ.op rfl rfl (eff_load (y := .t _) rfl rfl ti5 rfl (.one rfl rfl rfl rfl)) ?_
  refine RJ.op rfl rfl (eff_convIntE (m := nd) rfl rfl (by rw [tu5]; rfl) tu3 rfl (wrap64 (by omega) (by omega))) ?_
  refine RJ.op rfl rfl (eff_remE (r := (I : Int)) rfl rfl rfl rfl (by decide) (by rw [← hI]; exact tmod_pos hnd.1)) ?_
  refine RJ.op rfl rfl (eff_assign (v := .t _) rfl rfl rfl) ?_
  refine RJ.nil ?_
  refine awj_seq ?_
  refine awj_seq ?_
  refine awj_rj rfl ?_
  refine RJ.op rfl rfl (eff_fieldAddr rfl rfl tf44_3 (by decide) rfl rfl rfl (Nat.le_of_ble_eq_true rfl)) ?_
  refine RJ.op rfl rfl (eff_load (y := .t _) rfl rfl ti4 rfl (.one rfl rfl rfl rfl)) ?_
  refine RJ.nil ?_
  refine awj_cond rfl (fun h => nomatch h) (fun _ => ?_)
  refine awj_skip ?_
  refine awj_seq ?_
  refine awj_rj rfl ?_
  refine RJ.op rfl rfl (eff_move (v := .ptr _ _ _ _) rfl rfl rfl) ?_
  refine RJ.op rfl rfl (eff_move (v := .t _) rfl rfl rfl) ?_
  refine RJ.op rfl rfl (eff_nilCheck (v := .ptr _ _ _ _) rfl rfl rfl rfl (fun _ _ _ _ e => by cases e; exact ⟨_, rfl, rfl⟩)) ?_
  refine RJ.op rfl rfl (eff_indexAddrP (i := I) rfl rfl tu33 ti32 rfl rfl (by first | rfl | omega) (by omega) rfl rfl rfl (alen hLL.len (by omega))) ?_
  refine RJ.op rfl rfl (eff_load (y := .t (encS (at' L (I)))) rfl rfl ti32 rfl (.whole rfl rfl (ael hLL.len (by omega)) rfl rfl rfl)) ?_
  refine RJ.op rfl rfl (eff_callT ((by have h := offer18_ret (at' L I) 1000 ((hLL.vi (I) (by omega)).sok (by omega)) (hLL.vi I (by omega)).ps; rw [ho] at h; exact h)) co15 rfl rfl rfl rfl) ?_
  refine RJ.op rfl rfl (eff_move (v := .t _) rfl rfl rfl) ?_
  refine RJ.op rfl rfl (eff_extract rfl rfl rfl rfl) ?_
  refine RJ.op rfl rfl (eff_extract rfl rfl rfl rfl) ?_
  refine RJ.new rfl rfl (eff_allocK (k := 8) (id := 6) rfl rfl tz40 rfl rfl) ?_
  refine RJ.store rfl rfl (eff_storeW (v := .t _) (els := [_]) (els' := [_]) rfl rfl ti40 rfl rfl rfl rfl rfl rfl rfl rfl rfl) ?_
  refine RJ.op rfl rfl (eff_assign (v := .t _) rfl rfl rfl) ?_
  refine RJ.nil ?_
  refine awj_seq ?_
  refine awj_seq ?_
  refine awj_rj rfl ?_
  refine RJ.op rfl rfl (eff_move (v := .t _) rfl rfl rfl) ?_
  refine RJ.op rfl rfl (eff_unop rfl rfl rfl rfl) ?_
  refine RJ.nil ?_
  refine awj_cond rfl (fun h => nomatch h) (fun _ => ?_)
  refine awj_skip ?_
  refine awj_seq ?_
  refine awj_rd [(some 46, []), (some 47, []), (some 48, []), (some 49, []), (some 50, []), (some 51, []), (some 52, []), (some 53, []), (some 45, []), (some 54, []), (some 55, []), (some 8, [8]), (none, [8]), (some 9, [])] [[], [], [0], [0, 1, 2], [0, 1, 2, 3], [], [5], [0, 1, 2, 3, 4, 5, 6], [0, 1, 2, 3, 4, 5, 6, 7], [0, 1, 2, 3, 4, 5, 6, 7, 8], [0, 1, 2, 3, 4, 5, 6, 7, 8], [], [0, 1, 2, 3, 4, 5, 6, 7, 8, 9, 11], [0, 1, 2, 3, 4, 5, 6, 7, 8, 9, 10, 11, 12]] tm rfl rfl rfl rfl ?_
  refine RD.op rfl rfl rfl (eff_move (v := .ptr _ _ _ _) rfl rfl rfl) ?_
  refine RD.op rfl rfl rfl (eff_move (v := .t _) rfl rfl rfl) ?_
  refine RD.op rfl rfl rfl (eff_nilCheck (v := .ptr _ _ _ _) rfl rfl rfl rfl (fun _ _ _ _ e => by cases e; exact ⟨_, rfl, rfl⟩)) ?_
  refine RD.op rfl rfl rfl (eff_indexAddrP (i := I) rfl rfl tu33 ti32 rfl rfl (by first | rfl | omega) (by omega) rfl rfl rfl (alen hLL.len (by omega))) ?_
  refine RD.op rfl rfl rfl (eff_load (y := .t (encS (at' L (I)))) rfl rfl ti32 rfl (.whole rfl rfl (ael hLL.len (by omega)) rfl rfl rfl)) ?_
  refine RD.op rfl rfl rfl (eff_fieldAddr rfl rfl tf40_0 (by decide) rfl rfl rfl (Nat.le_of_ble_eq_true rfl)) ?_
  refine RD.op rfl rfl rfl (eff_load (y := .t _) rfl rfl ti3 rfl (.one rfl rfl rfl rfl)) ?_
  refine RD.op rfl rfl rfl (eff_callT ((by have h := pass26_ret insC (at' L I) b.id ((hLL.vi (I) (by omega)).sok (by omega)) (hLL.vi I (by omega)).ps; rw [hp] at h; exact h)) co16 rfl rfl rfl rfl) ?_
  refine RD.op rfl rfl rfl (eff_move (v := .t _) rfl rfl rfl) ?_
  refine RD.op rfl rfl rfl (eff_extract rfl rfl rfl rfl) ?_
  refine RD.op rfl rfl rfl (eff_extract rfl rfl rfl rfl) ?_
  refine RD.new rfl rfl rfl (eff_allocK (k := 4) (id := 8) rfl rfl tz32 rfl rfl) ?_
  refine RD.store rfl rfl rfl (eff_storeW (v := .t _) (els := [_]) (els' := [_]) rfl rfl ti32 rfl rfl rfl rfl rfl rfl rfl rfl rfl) ?_
  refine RD.op rfl rfl rfl (eff_assign (v := .t _) rfl rfl rfl) ?_
  refine RD.nil ?_
  refine awj_seq ?_
  refine awj_seq ?_
  refine awj_rj rfl ?_
  refine RJ.op rfl rfl (eff_move (v := .t _) rfl rfl rfl) ?_
  refine RJ.op rfl rfl (eff_iop (r := .bool false) rfl rfl rfl rfl (by exact iop_neq_f (by rfl))) ?_
  refine RJ.nil ?_
  refine awj_cond rfl (fun h => nomatch h) (fun _ => ?_)
  refine awj_skip ?_
  refine awj_seq ?_
  refine awj_rd [(some 58, []), (some 59, []), (some 60, []), (some 61, []), (some 62, []), (none, [0])] [[], [], [], [0], [0, 1, 2, 3], [0, 1, 2, 3, 4]] tm rfl rfl rfl rfl ?_
  refine RD.op rfl rfl rfl (eff_move (v := .ptr _ _ _ _) rfl rfl rfl) ?_
  refine RD.op rfl rfl rfl (eff_move (v := .t _) rfl rfl rfl) ?_
  refine RD.op rfl rfl rfl (eff_load rfl rfl ti32 rfl (.whole rfl rfl rfl rfl rfl rfl)) ?_
  refine RD.op rfl rfl rfl (eff_nilCheck (v := .ptr _ _ _ _) rfl rfl rfl rfl (fun _ _ _ _ e => by cases e; exact ⟨_, rfl, rfl⟩)) ?_
  refine RD.op rfl rfl rfl (eff_indexAddrP (i := I) rfl rfl tu33 ti32 rfl rfl (by first | rfl | omega) (by omega) rfl rfl rfl (alen hLL.len (by omega))) ?_
  refine RD.store rfl rfl rfl (eff_storeW (v := .t (encS s2)) (els := encL L) (els' := encL (L.set I s2)) (el := .t (encS (at' L (I)))) rfl rfl ti32 rfl rfl rfl rfl rfl rfl (ael hLL.len (by omega)) rfl aset) ?_
  refine RD.nil ?_
  refine awj_seq ?_
  refine awj_rj rfl ?_
  refine RJ.op rfl rfl (eff_assign (v := .t _) rfl rfl rfl) ?_
  refine RJ.nil ?_
  refine awj_seq ?_
  refine awj_seq ?_
  refine awj_rj rfl ?_
  refine RJ.op rfl rfl (eff_assign (v := .t _) rfl rfl rfl) ?_
  refine RJ.nil ?_
  refine awj_block ?_
  refine awj_loopW (fun m s g => ∃ (k : Nat) (M : List Store) (ac : Bool), (k ≤ K) ∧ (M = (accN I b k (L.set I s2)).1) ∧ (ac = (accN I b k (L.set I s2)).2) ∧ m = K - k ∧ s = ⟨134, [(0, .ptr 0 gg 0 0), (3, .ptr 3 0 0 0), (5, .t (encI (I : Nat))), (6, .ptr 6 0 0 0), (10, .t (.bool ac)), (11, .t (encI (k : Nat)))], [(0, some ⟨4, 33, gg, encL M⟩), (3, some ⟨4, 44, 0, [.t (encF nd f1 f2 false)]⟩), (6, some ⟨8, 40, 0, [.t (encB b)]⟩)]⟩) (_) (⟨_, weak_keep (n := 134) (fr' := [(0, .ptr 0 gg 0 0), (3, .ptr 3 0 0 0), (5, .t (encI (I : Nat))), (6, .ptr 6 0 0 0), (10, .t (.bool _)), (11, .t (encI (0 : Nat)))]) (st' := [(0, some ⟨4, 33, gg, encL _⟩), (3, some ⟨4, 44, 0, [.t (encF nd f1 f2 false)]⟩), (6, some ⟨8, 40, 0, [.t (encB b)]⟩)]) ⟨rfl, rfl, rfl, rfl, rfl, rfl, rfl, rfl, rfl, rfl, rfl, rfl, trivial⟩ ⟨rfl, okE_t, rfl, okE_one rfl, rfl, okE_one rfl, trivial⟩, 0, _, _, (by omega), (by rfl), (by rfl), rfl, rfl⟩) ?_
  rintro m s g ⟨k, M, ac, hk, hM, hac, rfl, rfl⟩
  have hMI : LInv (n + 1 + k) M := by rw [hM]; exact (accN_inv hI3 hbb hL2 k).1
  refine awj_seq ?_
  refine awj_seq ?_
  refine awj_rj rfl ?_
  refine RJ.op rfl rfl (eff_move (v := .t _) rfl rfl rfl) ?_
  refine RJ.op rfl rfl (eff_fieldAddr rfl rfl tf44_1 (by decide) rfl rfl rfl (Nat.le_of_ble_eq_true rfl)) ?_
  refine RJ.op rfl rfl (eff_load (y := .t _) rfl rfl ti5 rfl (.one rfl rfl rfl rfl)) ?_
  refine RJ.op rfl rfl (eff_remE (r := (K : Int)) rfl rfl rfl rfl (by decide) (by rw [← hK]; exact tmod_pos hf1.1)) ?_
  refine RJ.op rfl rfl (eff_convIntE (m := (K : Int)) rfl rfl (by rw [tu5]; rfl) tu3 rfl (wrap64 (by omega) (by omega))) ?_
  refine RJ.op rfl rfl (eff_iop rfl rfl rfl rfl rfl) ?_
  refine RJ.nil ?_
  refine awj_cond rfl (fun h1 => ?_) (fun h1 => ?_)
  · try simp only [decide_eq_true_eq, decide_eq_false_iff_not, beq_iff_eq, bne_iff_ne, bne_eq_false_iff_eq, beq_eq_false_iff_ne, Bool.not_eq_true, Bool.not_eq_false, Bool.not_eq_true', Bool.not_eq_false', ne_eq] at h1
    refine awj_skip ?_
    refine awj_seq ?_
    refine awj_block ?_
    refine awj_seq ?_
    refine awj_rd [(some 72, []), (some 73, []), (some 74, []), (some 75, []), (some 76, []), (some 77, []), (some 78, []), (some 79, []), (some 71, []), (some 80, []), (some 81, []), (some 82, []), (some 12, [12]), (none, [12]), (some 13, []), (some 14, [])] [[], [], [1], [0], [0, 1, 2, 3], [0, 1, 2, 3, 4], [], [0, 1, 2, 3, 4, 5, 6], [0, 1, 2, 3, 4, 5, 6, 7], [0, 1, 2, 3, 4, 5, 6, 7, 8], [0, 1, 2, 3, 4, 5, 6, 7, 8], [0, 1, 2, 3, 4, 5, 6, 7, 8], [], [0, 1, 2, 3, 4, 5, 6, 7, 8, 9, 12], [0, 1, 2, 3, 4, 5, 6, 7, 8, 9, 10, 12, 13], [0, 1, 2, 3, 4, 5, 6, 7, 8, 9, 10, 11, 12, 13, 14]] tm rfl rfl rfl rfl ?_
    refine RD.op rfl rfl rfl (eff_move (v := .ptr _ _ _ _) rfl rfl rfl) ?_
    refine RD.op rfl rfl rfl (eff_move (v := .t _) rfl rfl rfl) ?_
    refine RD.op rfl rfl rfl (eff_iop rfl rfl rfl rfl (iadd (by omega))) ?_
    refine RD.op rfl rfl rfl (eff_nilCheck (v := .ptr _ _ _ _) rfl rfl rfl rfl (fun _ _ _ _ e => by cases e; exact ⟨_, rfl, rfl⟩)) ?_
    refine RD.op rfl rfl rfl (eff_indexAddrP (i := I + 1) rfl rfl tu33 ti32 rfl rfl (by first | rfl | omega) (by omega) rfl rfl rfl (alen hMI.len (by omega))) ?_
    refine RD.op rfl rfl rfl (eff_load (y := .t (encS (at' M (I + 1)))) rfl rfl ti32 rfl (.whole rfl rfl (ael hMI.len (by omega)) rfl rfl rfl)) ?_
    refine RD.op rfl rfl rfl (eff_load rfl rfl ti40 rfl (.whole rfl rfl rfl rfl rfl rfl)) ?_
    refine RD.op rfl rfl rfl (eff_callT (accept23_ret insC (at' M (I + 1)) b ((hMI.vi (I + 1) (by omega)).sok (by omega)) (by unfold BOK; omega) (hMI.vi (I + 1) (by omega)).ss) co14 rfl rfl rfl rfl) ?_
    refine RD.op rfl rfl rfl (eff_move (v := .t _) rfl rfl rfl) ?_
    refine RD.op rfl rfl rfl (eff_extract rfl rfl rfl rfl) ?_
    refine RD.op rfl rfl rfl (eff_extract rfl rfl rfl rfl) ?_
    refine RD.op rfl rfl rfl (eff_extract rfl rfl rfl rfl) ?_
    refine RD.new rfl rfl rfl (eff_allocK (k := 4) (id := 12) rfl rfl tz32 rfl rfl) ?_
    refine RD.store rfl rfl rfl (eff_storeW (v := .t _) (els := [_]) (els' := [_]) rfl rfl ti32 rfl rfl rfl rfl rfl rfl rfl rfl rfl) ?_
    refine RD.op rfl rfl rfl (eff_assign (v := .t _) rfl rfl rfl) ?_
    refine RD.op rfl rfl rfl (eff_assign (v := .t _) rfl rfl rfl) ?_
    refine RD.nil ?_
    refine awj_seq ?_
    refine awj_seq ?_
    refine awj_rj rfl ?_
    refine RJ.op rfl rfl (eff_move (v := .t _) rfl rfl rfl) ?_
    refine RJ.op rfl rfl (eff_iop rfl rfl rfl rfl rfl) ?_
    refine RJ.nil ?_
    refine awj_cond rfl (fun h2 => ?_) (fun h2 => ?_)
    · try simp only [decide_eq_true_eq, decide_eq_false_iff_not, beq_iff_eq, bne_iff_ne, bne_eq_false_iff_eq, beq_eq_false_iff_ne, Bool.not_eq_true, Bool.not_eq_false, Bool.not_eq_true', Bool.not_eq_false', ne_eq] at h2
      refine awj_rd [(some 85, []), (some 86, []), (some 87, []), (some 88, []), (some 89, []), (some 90, []), (none, [0])] [[], [], [1], [], [0], [0, 1, 2, 3, 4], [0, 1, 2, 3, 4, 5]] tm rfl rfl rfl rfl ?_
      refine RD.op rfl rfl rfl (eff_move (v := .ptr _ _ _ _) rfl rfl rfl) ?_
      refine RD.op rfl rfl rfl (eff_move (v := .t _) rfl rfl rfl) ?_
      refine RD.op rfl rfl rfl (eff_iop rfl rfl rfl rfl (iadd (by omega))) ?_
      refine RD.op rfl rfl rfl (eff_load rfl rfl ti32 rfl (.whole rfl rfl rfl rfl rfl rfl)) ?_
      refine RD.op rfl rfl rfl (eff_nilCheck (v := .ptr _ _ _ _) rfl rfl rfl rfl (fun _ _ _ _ e => by cases e; exact ⟨_, rfl, rfl⟩)) ?_
      refine RD.op rfl rfl rfl (eff_indexAddrP (i := I + 1) rfl rfl tu33 ti32 rfl rfl (by first | rfl | omega) (by omega) rfl rfl rfl (alen hMI.len (by omega))) ?_
      refine RD.store rfl rfl rfl (eff_storeW (v := .t (encS (accept (at' M (I + 1)) b).1)) (els := encL M) (els' := encL (M.set (I + 1) (accept (at' M (I + 1)) b).1)) (el := .t (encS (at' M (I + 1)))) rfl rfl ti32 rfl rfl rfl rfl rfl rfl (ael hMI.len (by omega)) rfl aset) ?_
      refine RD.nil ?_
      refine awj_rj rfl ?_
      refine RJ.op rfl rfl (eff_move (v := .t _) rfl rfl rfl) ?_
      refine RJ.op rfl rfl (eff_move (v := .t _) rfl rfl rfl) ?_
      refine RJ.split 92 rfl (fun h3 => ?_) (fun h3 => ?_)
      · try simp only [decide_eq_true_eq, decide_eq_false_iff_not, beq_iff_eq, bne_iff_ne, bne_eq_false_iff_eq, beq_eq_false_iff_ne, Bool.not_eq_true, Bool.not_eq_false, Bool.not_eq_true', Bool.not_eq_false', ne_eq] at h3
        refine RJ.gskip rfl rfl rfl rfl rfl (by decide) ?_
        refine RJ.op rfl rfl (eff_pick (v := .t _) rfl rfl rfl rfl) ?_
        refine RJ.op rfl rfl (eff_assign (v := .t _) rfl rfl rfl) ?_
        refine RJ.nil ?_
        refine awj_rj rfl ?_
        refine RJ.op rfl rfl (eff_move (v := .t _) rfl rfl rfl) ?_
        refine RJ.op rfl rfl (eff_iop rfl rfl rfl rfl (iadd (by omega))) ?_
        refine RJ.op rfl rfl (eff_assign (v := .t _) rfl rfl rfl) ?_
        refine RJ.nil ?_
        refine ⟨_, ?_, _, weak_keep (n := 134) (fr' := [(0, .ptr 0 gg 0 0), (3, .ptr 3 0 0 0), (5, .t (encI (I : Nat))), (6, .ptr 6 0 0 0), (10, .t (.bool _)), (11, .t (encI ((k + 1) : Nat)))]) (st' := [(0, some ⟨4, 33, gg, encL _⟩), (3, some ⟨4, 44, 0, [.t (encF nd f1 f2 false)]⟩), (6, some ⟨8, 40, 0, [.t (encB b)]⟩)]) ⟨rfl, rfl, rfl, rfl, rfl, rfl, rfl, rfl, rfl, rfl, rfl, rfl, trivial⟩ ⟨rfl, okE_t, rfl, okE_one rfl, rfl, okE_one rfl, trivial⟩, k + 1, _, _, (by omega), (by show _ = (if _ then _ else _); rw [← hM]; first | rw [if_pos (by assumption)] | rw [if_neg (by assumption)]), (by show _ = ((accN I b k (L.set I s2)).2 || _); rw [← hac, ← hM]; first | (rw [(by assumption : ac = true)]; rfl) | (rw [(by assumption : ac = false)]; rfl)), rfl, rfl⟩
        omega
      · try simp only [decide_eq_true_eq, decide_eq_false_iff_not, beq_iff_eq, bne_iff_ne, bne_eq_false_iff_eq, beq_eq_false_iff_ne, Bool.not_eq_true, Bool.not_eq_false, Bool.not_eq_true', Bool.not_eq_false', ne_eq] at h3
        refine RJ.gop rfl rfl rfl rfl rfl rfl (eff_move (v := .t _) rfl rfl rfl) ?_
        refine RJ.op rfl rfl (eff_pick (v := .t _) rfl rfl rfl rfl) ?_
        refine RJ.op rfl rfl (eff_assign (v := .t _) rfl rfl rfl) ?_
        refine RJ.nil ?_
        refine awj_rj rfl ?_
        refine RJ.op rfl rfl (eff_move (v := .t _) rfl rfl rfl) ?_
        refine RJ.op rfl rfl (eff_iop rfl rfl rfl rfl (iadd (by omega))) ?_
        refine RJ.op rfl rfl (eff_assign (v := .t _) rfl rfl rfl) ?_
        refine RJ.nil ?_
        refine ⟨_, ?_, _, weak_keep (n := 134) (fr' := [(0, .ptr 0 gg 0 0), (3, .ptr 3 0 0 0), (5, .t (encI (I : Nat))), (6, .ptr 6 0 0 0), (10, .t (.bool _)), (11, .t (encI ((k + 1) : Nat)))]) (st' := [(0, some ⟨4, 33, gg, encL _⟩), (3, some ⟨4, 44, 0, [.t (encF nd f1 f2 false)]⟩), (6, some ⟨8, 40, 0, [.t (encB b)]⟩)]) ⟨rfl, rfl, rfl, rfl, rfl, rfl, rfl, rfl, rfl, rfl, rfl, rfl, trivial⟩ ⟨rfl, okE_t, rfl, okE_one rfl, rfl, okE_one rfl, trivial⟩, k + 1, _, _, (by omega), (by show _ = (if _ then _ else _); rw [← hM]; first | rw [if_pos (by assumption)] | rw [if_neg (by assumption)]), (by show _ = ((accN I b k (L.set I s2)).2 || _); rw [← hac, ← hM]; first | (rw [(by assumption : ac = true)]; rfl) | (rw [(by assumption : ac = false)]; rfl)), rfl, rfl⟩
        omega
    · try simp only [decide_eq_true_eq, decide_eq_false_iff_not, beq_iff_eq, bne_iff_ne, bne_eq_false_iff_eq, beq_eq_false_iff_ne, Bool.not_eq_true, Bool.not_eq_false, Bool.not_eq_true', Bool.not_eq_false', ne_eq] at h2
      refine awj_skip ?_
      refine awj_rj rfl ?_
      refine RJ.op rfl rfl (eff_move (v := .t _) rfl rfl rfl) ?_
      refine RJ.op rfl rfl (eff_move (v := .t _) rfl rfl rfl) ?_
      refine RJ.split 92 rfl (fun h4 => ?_) (fun h4 => ?_)
      · try simp only [decide_eq_true_eq, decide_eq_false_iff_not, beq_iff_eq, bne_iff_ne, bne_eq_false_iff_eq, beq_eq_false_iff_ne, Bool.not_eq_true, Bool.not_eq_false, Bool.not_eq_true', Bool.not_eq_false', ne_eq] at h4
        refine RJ.gskip rfl rfl rfl rfl rfl (by decide) ?_
        refine RJ.op rfl rfl (eff_pick (v := .t _) rfl rfl rfl rfl) ?_
        refine RJ.op rfl rfl (eff_assign (v := .t _) rfl rfl rfl) ?_
        refine RJ.nil ?_
        refine awj_rj rfl ?_
        refine RJ.op rfl rfl (eff_move (v := .t _) rfl rfl rfl) ?_
        refine RJ.op rfl rfl (eff_iop rfl rfl rfl rfl (iadd (by omega))) ?_
        refine RJ.op rfl rfl (eff_assign (v := .t _) rfl rfl rfl) ?_
        refine RJ.nil ?_
        refine ⟨_, ?_, _, weak_keep (n := 134) (fr' := [(0, .ptr 0 gg 0 0), (3, .ptr 3 0 0 0), (5, .t (encI (I : Nat))), (6, .ptr 6 0 0 0), (10, .t (.bool _)), (11, .t (encI ((k + 1) : Nat)))]) (st' := [(0, some ⟨4, 33, gg, encL _⟩), (3, some ⟨4, 44, 0, [.t (encF nd f1 f2 false)]⟩), (6, some ⟨8, 40, 0, [.t (encB b)]⟩)]) ⟨rfl, rfl, rfl, rfl, rfl, rfl, rfl, rfl, rfl, rfl, rfl, rfl, trivial⟩ ⟨rfl, okE_t, rfl, okE_one rfl, rfl, okE_one rfl, trivial⟩, k + 1, _, _, (by omega), (by show _ = (if _ then _ else _); rw [← hM]; first | rw [if_pos (by assumption)] | rw [if_neg (by assumption)]), (by show _ = ((accN I b k (L.set I s2)).2 || _); rw [← hac, ← hM]; first | (rw [(by assumption : ac = true)]; rfl) | (rw [(by assumption : ac = false)]; rfl)), rfl, rfl⟩
        omega
      · try simp only [decide_eq_true_eq, decide_eq_false_iff_not, beq_iff_eq, bne_iff_ne, bne_eq_false_iff_eq, beq_eq_false_iff_ne, Bool.not_eq_true, Bool.not_eq_false, Bool.not_eq_true', Bool.not_eq_false', ne_eq] at h4
        refine RJ.gop rfl rfl rfl rfl rfl rfl (eff_move (v := .t _) rfl rfl rfl) ?_
        refine RJ.op rfl rfl (eff_pick (v := .t _) rfl rfl rfl rfl) ?_
        refine RJ.op rfl rfl (eff_assign (v := .t _) rfl rfl rfl) ?_
        refine RJ.nil ?_
        refine awj_rj rfl ?_
        refine RJ.op rfl rfl (eff_move (v := .t _) rfl rfl rfl) ?_
        refine RJ.op rfl rfl (eff_iop rfl rfl rfl rfl (iadd (by omega))) ?_
        refine RJ.op rfl rfl (eff_assign (v := .t _) rfl rfl rfl) ?_
        refine RJ.nil ?_
        refine ⟨_, ?_, _, weak_keep (n := 134) (fr' := [(0, .ptr 0 gg 0 0), (3, .ptr 3 0 0 0), (5, .t (encI (I : Nat))), (6, .ptr 6 0 0 0), (10, .t (.bool _)), (11, .t (encI ((k + 1) : Nat)))]) (st' := [(0, some ⟨4, 33, gg, encL _⟩), (3, some ⟨4, 44, 0, [.t (encF nd f1 f2 false)]⟩), (6, some ⟨8, 40, 0, [.t (encB b)]⟩)]) ⟨rfl, rfl, rfl, rfl, rfl, rfl, rfl, rfl, rfl, rfl, rfl, rfl, trivial⟩ ⟨rfl, okE_t, rfl, okE_one rfl, rfl, okE_one rfl, trivial⟩, k + 1, _, _, (by omega), (by show _ = (if _ then _ else _); rw [← hM]; first | rw [if_pos (by assumption)] | rw [if_neg (by assumption)]), (by show _ = ((accN I b k (L.set I s2)).2 || _); rw [← hac, ← hM]; first | (rw [(by assumption : ac = true)]; rfl) | (rw [(by assumption : ac = false)]; rfl)), rfl, rfl⟩
        omega
  · try simp only [decide_eq_true_eq, decide_eq_false_iff_not, beq_iff_eq, bne_iff_ne, bne_eq_false_iff_eq, beq_eq_false_iff_ne, Bool.not_eq_true, Bool.not_eq_false, Bool.not_eq_true', Bool.not_eq_false', ne_eq] at h1
    refine awj_exit ?_
    refine awj_seq ?_
    refine awj_seq ?_
    refine awj_rj rfl ?_
    have hk2 : K = k := by omega
    subst hk2
    rw [hA] at hac
    subst hac
    subst hM
    refine RJ.op rfl rfl (eff_assign (v := .t _) rfl rfl rfl) ?_
    refine RJ.nil ?_
    refine awj_block ?_
    refine awj_loopW (fun m s g => ∃ (c : Nat) (N : List Store), (c ≤ C) ∧ (N = (cfN I b.id c (accN I b K (L.set I s2)).1)) ∧ m = C - c ∧ s = ⟨134, [(0, .ptr 0 gg 0 0), (3, .ptr 3 0 0 0), (5, .t (encI (I : Nat))), (6, .ptr 6 0 0 0), (10, .t (.bool true)), (15, .t (encI (c : Nat)))], [(0, some ⟨4, 33, gg, encL N⟩), (3, some ⟨4, 44, 0, [.t (encF nd f1 f2 false)]⟩), (6, some ⟨8, 40, 0, [.t (encB b)]⟩)]⟩) (_) (⟨_, weak_keep (n := 134) (fr' := [(0, .ptr 0 gg 0 0), (3, .ptr 3 0 0 0), (5, .t (encI (I : Nat))), (6, .ptr 6 0 0 0), (10, .t (.bool true)), (15, .t (encI (0 : Nat)))]) (st' := [(0, some ⟨4, 33, gg, encL _⟩), (3, some ⟨4, 44, 0, [.t (encF nd f1 f2 false)]⟩), (6, some ⟨8, 40, 0, [.t (encB b)]⟩)]) ⟨rfl, rfl, rfl, rfl, rfl, rfl, rfl, rfl, rfl, rfl, rfl, rfl, trivial⟩ ⟨rfl, okE_t, rfl, okE_one rfl, rfl, okE_one rfl, trivial⟩, 0, _, (by omega), (by rfl), rfl, rfl⟩) ?_
    rintro m s g ⟨c, N, hc, hN, rfl, rfl⟩
    obtain ⟨hNI, hfst⟩ := hcf c N hN
    refine awj_seq ?_
    refine awj_seq ?_
    refine awj_rj rfl ?_
    refine RJ.op rfl rfl (eff_move (v := .t _) rfl rfl rfl) ?_
    refine RJ.op rfl rfl (eff_fieldAddr rfl rfl tf44_2 (by decide) rfl rfl rfl (Nat.le_of_ble_eq_true rfl)) ?_
    refine RJ.op rfl rfl (eff_load (y := .t _) rfl rfl ti5 rfl (.one rfl rfl rfl rfl)) ?_
    refine RJ.op rfl rfl (eff_remE (r := (C : Int)) rfl rfl rfl rfl (by decide) (by rw [← hC]; exact tmod_pos hf2.1)) ?_
    refine RJ.op rfl rfl (eff_convIntE (m := (C : Int)) rfl rfl (by rw [tu5]; rfl) tu3 rfl (wrap64 (by omega) (by omega))) ?_
    refine RJ.op rfl rfl (eff_iop rfl rfl rfl rfl rfl) ?_
    refine RJ.op rfl rfl (eff_move (v := .t _) rfl rfl rfl) ?_
    refine RJ.split 101 rfl (fun h5 => ?_) (fun h5 => ?_)
    · try simp only [decide_eq_true_eq, decide_eq_false_iff_not, beq_iff_eq, bne_iff_ne, bne_eq_false_iff_eq, beq_eq_false_iff_ne, Bool.not_eq_true, Bool.not_eq_false, Bool.not_eq_true', Bool.not_eq_false', ne_eq] at h5
      refine RJ.gop rfl rfl rfl rfl rfl rfl (eff_move (v := .t _) rfl rfl rfl) ?_
      refine RJ.op rfl rfl (eff_pick (v := .t _) rfl rfl rfl rfl) ?_
      refine RJ.nil ?_
      refine awj_cond rfl (fun _ => ?_) (fun h => nomatch h)
      refine awj_skip ?_
      refine awj_seq ?_
      refine awj_block ?_
      refine awj_seq ?_
      refine awj_rd [(some 107, []), (some 108, []), (some 109, []), (some 110, []), (some 111, []), (some 112, []), (some 113, []), (some 114, []), (some 106, []), (some 115, []), (some 116, []), (some 16, [16]), (none, [16]), (some 17, [])] [[], [], [0], [0, 1, 2], [0, 1, 2, 3], [], [5], [0, 1, 2, 3, 4, 5, 6], [0, 1, 2, 3, 4, 5, 6, 7], [0, 1, 2, 3, 4, 5, 6, 7, 8], [0, 1, 2, 3, 4, 5, 6, 7, 8], [], [0, 1, 2, 3, 4, 5, 6, 7, 8, 9, 11], [0, 1, 2, 3, 4, 5, 6, 7, 8, 9, 10, 11, 12]] tm rfl rfl rfl rfl ?_
      refine RD.op rfl rfl rfl (eff_move (v := .ptr _ _ _ _) rfl rfl rfl) ?_
      refine RD.op rfl rfl rfl (eff_move (v := .t _) rfl rfl rfl) ?_
      refine RD.op rfl rfl rfl (eff_nilCheck (v := .ptr _ _ _ _) rfl rfl rfl rfl (fun _ _ _ _ e => by cases e; exact ⟨_, rfl, rfl⟩)) ?_
      refine RD.op rfl rfl rfl (eff_indexAddrP (i := I) rfl rfl tu33 ti32 rfl rfl (by first | rfl | omega) (by omega) rfl rfl rfl (alen hNI.len (by omega))) ?_
      refine RD.op rfl rfl rfl (eff_load (y := .t (encS (at' N (I)))) rfl rfl ti32 rfl (.whole rfl rfl (ael hNI.len (by omega)) rfl rfl rfl)) ?_
      refine RD.op rfl rfl rfl (eff_fieldAddr rfl rfl tf40_0 (by decide) rfl rfl rfl (Nat.le_of_ble_eq_true rfl)) ?_
      refine RD.op rfl rfl rfl (eff_load (y := .t _) rfl rfl ti3 rfl (.one rfl rfl rfl rfl)) ?_
      refine RD.op rfl rfl rfl (eff_callT (confirm24_ret (at' N I) b.id ((hNI.vi (I) (by omega)).sok (by omega)) (hNI.vi I (by omega)).ps) co17 rfl rfl rfl rfl) ?_
      refine RD.op rfl rfl rfl (eff_move (v := .t _) rfl rfl rfl) ?_
      refine RD.op rfl rfl rfl (eff_extract rfl rfl rfl rfl) ?_
      refine RD.op rfl rfl rfl (eff_extract rfl rfl rfl rfl) ?_
      refine RD.new rfl rfl rfl (eff_allocK (k := 4) (id := 16) rfl rfl tz32 rfl rfl) ?_
      refine RD.store rfl rfl rfl (eff_storeW (v := .t _) (els := [_]) (els' := [_]) rfl rfl ti32 rfl rfl rfl rfl rfl rfl rfl rfl rfl) ?_
      refine RD.op rfl rfl rfl (eff_assign (v := .t _) rfl rfl rfl) ?_
      refine RD.nil ?_
      refine awj_seq ?_
      refine awj_seq ?_
      refine awj_rj rfl ?_
      refine RJ.op rfl rfl (eff_move (v := .t _) rfl rfl rfl) ?_
      refine RJ.op rfl rfl (eff_iop rfl rfl rfl rfl rfl) ?_
      refine RJ.op rfl rfl (eff_move (v := .t _) rfl rfl rfl) ?_
      refine RJ.split 119 rfl (fun h6 => ?_) (fun h6 => ?_)
      · try simp only [decide_eq_true_eq, decide_eq_false_iff_not, beq_iff_eq, bne_iff_ne, bne_eq_false_iff_eq, beq_eq_false_iff_ne, Bool.not_eq_true, Bool.not_eq_false, Bool.not_eq_true', Bool.not_eq_false', ne_eq] at h6
        refine RJ.gop rfl rfl rfl rfl rfl rfl (eff_move (v := .t _) rfl rfl rfl) ?_
        refine RJ.gop rfl rfl rfl rfl rfl rfl (eff_iop rfl rfl rfl rfl rfl) ?_
        refine RJ.gop rfl rfl rfl rfl rfl rfl (eff_move (v := .t _) rfl rfl rfl) ?_
        refine RJ.split 122 rfl (fun h7 => ?_) (fun h7 => ?_)
        · try simp only [decide_eq_true_eq, decide_eq_false_iff_not, beq_iff_eq, bne_iff_ne, bne_eq_false_iff_eq, beq_eq_false_iff_ne, Bool.not_eq_true, Bool.not_eq_false, Bool.not_eq_true', Bool.not_eq_false', ne_eq] at h7
          refine RJ.gskip rfl rfl rfl rfl rfl (by decide) ?_
          refine RJ.gskip rfl rfl rfl rfl rfl (by decide) ?_
          refine RJ.gop rfl rfl rfl rfl rfl rfl (eff_pick (v := .t _) rfl rfl rfl rfl) ?_
          refine RJ.op rfl rfl (eff_pick (v := .t _) rfl rfl rfl rfl) ?_
          refine RJ.nil ?_
          refine awj_cond rfl (fun _ => ?_) (fun h => nomatch h)
          refine awj_seq ?_
          refine awj_rj rfl ?_
          refine RJ.op rfl rfl (eff_assign (v := .t _) rfl rfl rfl) ?_
          refine RJ.nil ?_
          refine awj_ret ?_
          first
            | (exfalso; omega)
            | (have hc2 : C = c := by omega
               subst hc2
               subst hN
               exact ⟨Or.inr rfl, [_], [.t (.bool true)], ⟨.tmp rfl, trivial⟩, rfl, weak_keep ⟨rfl, rfl, rfl, rfl, trivial⟩ ⟨rfl, okE_t, trivial⟩, rfl⟩)
        · try simp only [decide_eq_true_eq, decide_eq_false_iff_not, beq_iff_eq, bne_iff_ne, bne_eq_false_iff_eq, beq_eq_false_iff_ne, Bool.not_eq_true, Bool.not_eq_false, Bool.not_eq_true', Bool.not_eq_false', ne_eq] at h7
          refine RJ.gop rfl rfl rfl rfl rfl rfl (eff_move (v := .t _) rfl rfl rfl) ?_
          refine RJ.gop rfl rfl rfl rfl rfl rfl (eff_iop rfl rfl rfl rfl rfl) ?_
          refine RJ.gop rfl rfl rfl rfl rfl rfl (eff_pick (v := .t _) rfl rfl rfl rfl) ?_
          refine RJ.op rfl rfl (eff_pick (v := .t _) rfl rfl rfl rfl) ?_
          refine RJ.nil ?_
          refine awj_cond rfl (fun h8 => ?_) (fun h8 => ?_)
          · try simp only [decide_eq_true_eq, decide_eq_false_iff_not, beq_iff_eq, bne_iff_ne, bne_eq_false_iff_eq, beq_eq_false_iff_ne, Bool.not_eq_true, Bool.not_eq_false, Bool.not_eq_true', Bool.not_eq_false', ne_eq] at h8
            refine awj_seq ?_
            refine awj_rj rfl ?_
            refine RJ.op rfl rfl (eff_assign (v := .t _) rfl rfl rfl) ?_
            refine RJ.nil ?_
            refine awj_ret ?_
            first
              | (exfalso; omega)
              | (have hc2 : C = c := by omega
                 subst hc2
                 subst hN
                 exact ⟨Or.inr rfl, [_], [.t (.bool true)], ⟨.tmp rfl, trivial⟩, rfl, weak_keep ⟨rfl, rfl, rfl, rfl, trivial⟩ ⟨rfl, okE_t, trivial⟩, rfl⟩)
          · try simp only [decide_eq_true_eq, decide_eq_false_iff_not, beq_iff_eq, bne_iff_ne, bne_eq_false_iff_eq, beq_eq_false_iff_ne, Bool.not_eq_true, Bool.not_eq_false, Bool.not_eq_true', Bool.not_eq_false', ne_eq] at h8
            refine awj_skip ?_
            refine awj_seq ?_
            refine awj_rj rfl ?_
            refine RJ.op rfl rfl (eff_move (v := .t _) rfl rfl rfl) ?_
            refine RJ.op rfl rfl (eff_iop rfl rfl rfl rfl rfl) ?_
            refine RJ.nil ?_
            refine awj_cond rfl (fun h9 => ?_) (fun h9 => ?_)
            · try simp only [decide_eq_true_eq, decide_eq_false_iff_not, beq_iff_eq, bne_iff_ne, bne_eq_false_iff_eq, beq_eq_false_iff_ne, Bool.not_eq_true, Bool.not_eq_false, Bool.not_eq_true', Bool.not_eq_false', ne_eq] at h9
              refine awj_rd [(some 129, []), (some 130, []), (some 131, []), (some 132, []), (some 133, []), (none, [0])] [[], [], [], [0], [0, 1, 2, 3], [0, 1, 2, 3, 4]] tm rfl rfl rfl rfl ?_
              refine RD.op rfl rfl rfl (eff_move (v := .ptr _ _ _ _) rfl rfl rfl) ?_
              refine RD.op rfl rfl rfl (eff_move (v := .t _) rfl rfl rfl) ?_
              refine RD.op rfl rfl rfl (eff_load rfl rfl ti32 rfl (.whole rfl rfl rfl rfl rfl rfl)) ?_
              refine RD.op rfl rfl rfl (eff_nilCheck (v := .ptr _ _ _ _) rfl rfl rfl rfl (fun _ _ _ _ e => by cases e; exact ⟨_, rfl, rfl⟩)) ?_
              refine RD.op rfl rfl rfl (eff_indexAddrP (i := I) rfl rfl tu33 ti32 rfl rfl (by first | rfl | omega) (by omega) rfl rfl rfl (alen hNI.len (by omega))) ?_
              refine RD.store rfl rfl rfl (eff_storeW (v := .t (encS (confirm (at' N I) b.id).1)) (els := encL N) (els' := encL (N.set I (confirm (at' N I) b.id).1)) (el := .t (encS (at' N (I)))) rfl rfl ti32 rfl rfl rfl rfl rfl rfl (ael hNI.len (by omega)) rfl aset) ?_
              refine RD.nil ?_
              refine awj_rj rfl ?_
              refine RJ.op rfl rfl (eff_move (v := .t _) rfl rfl rfl) ?_
              refine RJ.op rfl rfl (eff_iop rfl rfl rfl rfl (iadd (by omega))) ?_
              refine RJ.op rfl rfl (eff_assign (v := .t _) rfl rfl rfl) ?_
              refine RJ.nil ?_
              refine ⟨_, ?_, _, weak_keep (n := 134) (fr' := [(0, .ptr 0 gg 0 0), (3, .ptr 3 0 0 0), (5, .t (encI (I : Nat))), (6, .ptr 6 0 0 0), (10, .t (.bool true)), (15, .t (encI ((c + 1) : Nat)))]) (st' := [(0, some ⟨4, 33, gg, encL _⟩), (3, some ⟨4, 44, 0, [.t (encF nd f1 f2 false)]⟩), (6, some ⟨8, 40, 0, [.t (encB b)]⟩)]) ⟨rfl, rfl, rfl, rfl, rfl, rfl, rfl, rfl, rfl, rfl, rfl, rfl, trivial⟩ ⟨rfl, okE_t, rfl, okE_one rfl, rfl, okE_one rfl, trivial⟩, c + 1, _, (by omega), (by first | contradiction | (show _ = (if _ then _ else _); rw [← hN]; first | rw [if_pos (by assumption)] | rw [if_neg (by assumption)])), rfl, rfl⟩
              omega
            · try simp only [decide_eq_true_eq, decide_eq_false_iff_not, beq_iff_eq, bne_iff_ne, bne_eq_false_iff_eq, beq_eq_false_iff_ne, Bool.not_eq_true, Bool.not_eq_false, Bool.not_eq_true', Bool.not_eq_false', ne_eq] at h9
              refine awj_skip ?_
              refine awj_rj rfl ?_
              refine RJ.op rfl rfl (eff_move (v := .t _) rfl rfl rfl) ?_
              refine RJ.op rfl rfl (eff_iop rfl rfl rfl rfl (iadd (by omega))) ?_
              refine RJ.op rfl rfl (eff_assign (v := .t _) rfl rfl rfl) ?_
              refine RJ.nil ?_
              refine ⟨_, ?_, _, weak_keep (n := 134) (fr' := [(0, .ptr 0 gg 0 0), (3, .ptr 3 0 0 0), (5, .t (encI (I : Nat))), (6, .ptr 6 0 0 0), (10, .t (.bool true)), (15, .t (encI ((c + 1) : Nat)))]) (st' := [(0, some ⟨4, 33, gg, encL _⟩), (3, some ⟨4, 44, 0, [.t (encF nd f1 f2 false)]⟩), (6, some ⟨8, 40, 0, [.t (encB b)]⟩)]) ⟨rfl, rfl, rfl, rfl, rfl, rfl, rfl, rfl, rfl, rfl, rfl, rfl, trivial⟩ ⟨rfl, okE_t, rfl, okE_one rfl, rfl, okE_one rfl, trivial⟩, c + 1, _, (by omega), (by first | contradiction | (show _ = (if _ then _ else _); rw [← hN]; first | rw [if_pos (by assumption)] | rw [if_neg (by assumption)])), rfl, rfl⟩
              omega
      · try simp only [decide_eq_true_eq, decide_eq_false_iff_not, beq_iff_eq, bne_iff_ne, bne_eq_false_iff_eq, beq_eq_false_iff_ne, Bool.not_eq_true, Bool.not_eq_false, Bool.not_eq_true', Bool.not_eq_false', ne_eq] at h6
        refine RJ.gskip rfl rfl rfl rfl rfl (by decide) ?_
        refine RJ.gskip rfl rfl rfl rfl rfl (by decide) ?_
        refine RJ.gskip rfl rfl rfl rfl rfl (by decide) ?_
        refine RJ.gundef rfl rfl rfl rfl rfl ?_
        refine RJ.gundef rfl rfl rfl rfl rfl ?_
        refine RJ.gskip rfl rfl rfl rfl rfl (by decide) ?_
        refine RJ.op rfl rfl (eff_pick (v := .t _) rfl rfl rfl rfl) ?_
        refine RJ.nil ?_
        refine awj_cond rfl (fun h => nomatch h) (fun _ => ?_)
        refine awj_skip ?_
        refine awj_seq ?_
        refine awj_rj rfl ?_
        refine RJ.op rfl rfl (eff_move (v := .t _) rfl rfl rfl) ?_
        refine RJ.op rfl rfl (eff_iop rfl rfl rfl rfl rfl) ?_
        refine RJ.nil ?_
        refine awj_cond rfl (fun h10 => ?_) (fun h10 => ?_)
        · try simp only [decide_eq_true_eq, decide_eq_false_iff_not, beq_iff_eq, bne_iff_ne, bne_eq_false_iff_eq, beq_eq_false_iff_ne, Bool.not_eq_true, Bool.not_eq_false, Bool.not_eq_true', Bool.not_eq_false', ne_eq] at h10
          refine awj_rd [(some 129, []), (some 130, []), (some 131, []), (some 132, []), (some 133, []), (none, [0])] [[], [], [], [0], [0, 1, 2, 3], [0, 1, 2, 3, 4]] tm rfl rfl rfl rfl ?_
          refine RD.op rfl rfl rfl (eff_move (v := .ptr _ _ _ _) rfl rfl rfl) ?_
          refine RD.op rfl rfl rfl (eff_move (v := .t _) rfl rfl rfl) ?_
          refine RD.op rfl rfl rfl (eff_load rfl rfl ti32 rfl (.whole rfl rfl rfl rfl rfl rfl)) ?_
          refine RD.op rfl rfl rfl (eff_nilCheck (v := .ptr _ _ _ _) rfl rfl rfl rfl (fun _ _ _ _ e => by cases e; exact ⟨_, rfl, rfl⟩)) ?_
          refine RD.op rfl rfl rfl (eff_indexAddrP (i := I) rfl rfl tu33 ti32 rfl rfl (by first | rfl | omega) (by omega) rfl rfl rfl (alen hNI.len (by omega))) ?_
          refine RD.store rfl rfl rfl (eff_storeW (v := .t (encS (confirm (at' N I) b.id).1)) (els := encL N) (els' := encL (N.set I (confirm (at' N I) b.id).1)) (el := .t (encS (at' N (I)))) rfl rfl ti32 rfl rfl rfl rfl rfl rfl (ael hNI.len (by omega)) rfl aset) ?_
          refine RD.nil ?_
          refine awj_rj rfl ?_
          refine RJ.op rfl rfl (eff_move (v := .t _) rfl rfl rfl) ?_
          refine RJ.op rfl rfl (eff_iop rfl rfl rfl rfl (iadd (by omega))) ?_
          refine RJ.op rfl rfl (eff_assign (v := .t _) rfl rfl rfl) ?_
          refine RJ.nil ?_
          refine ⟨_, ?_, _, weak_keep (n := 134) (fr' := [(0, .ptr 0 gg 0 0), (3, .ptr 3 0 0 0), (5, .t (encI (I : Nat))), (6, .ptr 6 0 0 0), (10, .t (.bool true)), (15, .t (encI ((c + 1) : Nat)))]) (st' := [(0, some ⟨4, 33, gg, encL _⟩), (3, some ⟨4, 44, 0, [.t (encF nd f1 f2 false)]⟩), (6, some ⟨8, 40, 0, [.t (encB b)]⟩)]) ⟨rfl, rfl, rfl, rfl, rfl, rfl, rfl, rfl, rfl, rfl, rfl, rfl, trivial⟩ ⟨rfl, okE_t, rfl, okE_one rfl, rfl, okE_one rfl, trivial⟩, c + 1, _, (by omega), (by first | contradiction | (show _ = (if _ then _ else _); rw [← hN]; first | rw [if_pos (by assumption)] | rw [if_neg (by assumption)])), rfl, rfl⟩
          omega
        · try simp only [decide_eq_true_eq, decide_eq_false_iff_not, beq_iff_eq, bne_iff_ne, bne_eq_false_iff_eq, beq_eq_false_iff_ne, Bool.not_eq_true, Bool.not_eq_false, Bool.not_eq_true', Bool.not_eq_false', ne_eq] at h10
          refine awj_skip ?_
          refine awj_rj rfl ?_
          refine RJ.op rfl rfl (eff_move (v := .t _) rfl rfl rfl) ?_
          refine RJ.op rfl rfl (eff_iop rfl rfl rfl rfl (iadd (by omega))) ?_
          refine RJ.op rfl rfl (eff_assign (v := .t _) rfl rfl rfl) ?_
          refine RJ.nil ?_
          refine ⟨_, ?_, _, weak_keep (n := 134) (fr' := [(0, .ptr 0 gg 0 0), (3, .ptr 3 0 0 0), (5, .t (encI (I : Nat))), (6, .ptr 6 0 0 0), (10, .t (.bool true)), (15, .t (encI ((c + 1) : Nat)))]) (st' := [(0, some ⟨4, 33, gg, encL _⟩), (3, some ⟨4, 44, 0, [.t (encF nd f1 f2 false)]⟩), (6, some ⟨8, 40, 0, [.t (encB b)]⟩)]) ⟨rfl, rfl, rfl, rfl, rfl, rfl, rfl, rfl, rfl, rfl, rfl, rfl, trivial⟩ ⟨rfl, okE_t, rfl, okE_one rfl, rfl, okE_one rfl, trivial⟩, c + 1, _, (by omega), (by first | contradiction | (show _ = (if _ then _ else _); rw [← hN]; first | rw [if_pos (by assumption)] | rw [if_neg (by assumption)])), rfl, rfl⟩
          omega
    · try simp only [decide_eq_true_eq, decide_eq_false_iff_not, beq_iff_eq, bne_iff_ne, bne_eq_false_iff_eq, beq_eq_false_iff_ne, Bool.not_eq_true, Bool.not_eq_false, Bool.not_eq_true', Bool.not_eq_false', ne_eq] at h5
      refine RJ.gskip rfl rfl rfl rfl rfl (by decide) ?_
      refine RJ.op rfl rfl (eff_pick (v := .t _) rfl rfl rfl rfl) ?_
      refine RJ.nil ?_
      refine awj_cond rfl (fun h => nomatch h) (fun _ => ?_)
      refine awj_exit ?_
      refine awj_seq ?_
      refine awj_rj rfl ?_
      refine RJ.op rfl rfl (eff_assign (v := .t _) rfl rfl rfl) ?_
      refine RJ.nil ?_
      refine awj_ret ?_
      first
        | (exfalso; omega)
        | (have hc2 : C = c := by omega
           subst hc2
           subst hN
           exact ⟨Or.inr rfl, [_], [.t (.bool true)], ⟨.tmp rfl, trivial⟩, rfl, weak_keep ⟨rfl, rfl, rfl, rfl, trivial⟩ ⟨rfl, okE_t, trivial⟩, rfl⟩)

theorem eventR0 (gg n : Nat) (hn : n ≤ 1000) (L : List Store) (hL : LInv n L) (nd f1 f2 : Int) (hnd : 0 ≤ nd ∧ nd < 256) (hf1 : 0 ≤ f1 ∧ f1 < 256) (hf2 : 0 ≤ f2 ∧ f2 < 256) (I K C : Nat) (hI : nd % 3 = (I : Int)) (hI3 : I < 3) (hK : f1 % 3 = (K : Int)) (hC : f2 % 3 = (C : Int)) (hLL : LInv n (L.set I (retry (at' L I)))) (bx : Bundle) (ho : offer (at' (L.set I (retry (at' L I))) I) 1000 = (bx, false)) : RetK Tryd.prog 7 [(0, some ⟨4, 33, gg, encL L⟩)] [.ptr 0 gg 0 0, .t (encF nd f1 f2 true)] [(0, some ⟨4, 33, gg, encL (L.set I (retry (at' L I)))⟩)] (.t (.bool true)) [(0, .ptr 0 gg 0 0)] := by
  refine retK_of_awj (kp := fun i => Nat.beq i 0) Tryd.func7 rfl (Nat.le_of_ble_eq_true rfl) (by simp) ?_
  intro F0 w0
  refine awj_seq ?_
  refine awj_rj rfl ?_
  refine RJ.new rfl rfl (eff_boxK (v := .t _) (k := 4) (id := 3) rfl rfl rfl rfl rfl rfl) ?_
  refine RJ.op rfl rfl (eff_assign (v := .t _) rfl rfl rfl) ?_
  refine RJ.nil ?_
  refine awj_seq ?_
  refine awj_rj rfl ?_
  refine RJ.op rfl rfl (eff_fieldAddr rfl rfl tf44_0 (by decide) rfl rfl rfl (Nat.le_of_ble_eq_true rfl)) ?_
  refine RJ.op rfl rfl (eff_load (y := .t _) rfl rfl ti5 rfl (.one rfl rfl rfl rfl)) ?_
  refine RJ.op rfl rfl (eff_convIntE (m := nd) rfl rfl (by rw [tu5]; rfl) tu3 rfl (wrap64 (by omega) (by omega))) ?_
  refine RJ.op rfl rfl (eff_remE (r := (I : Int)) rfl rfl rfl rfl (by decide) (by rw [← hI]; exact tmod_pos hnd.1)) ?_
  refine RJ.op rfl rfl (eff_assign (v := .t _) rfl rfl rfl) ?_
  refine RJ.nil ?_
  refine awj_seq ?_
  refine awj_seq ?_
  refine awj_rj rfl ?_
  refine RJ.op rfl rfl (eff_fieldAddr rfl rfl tf44_3 (by decide) rfl rfl rfl (Nat.le_of_ble_eq_true rfl)) ?_
  refine RJ.op rfl rfl (eff_load (y := .t _) rfl rfl ti4 rfl (.one rfl rfl rfl rfl)) ?_
  refine RJ.nil ?_
  refine awj_cond rfl (fun _ => ?_) (fun h => nomatch h)
  refine awj_rd [(some 24, []), (some 25, []), (some 26, []), (some 27, []), (some 28, []), (some 29, []), (some 30, []), (some 31, []), (some 32, []), (some 33, []), (none, [0])] [[], [], [], [], [2], [2, 3, 4], [2, 3, 4, 5], [2, 3, 4, 5, 6], [0], [0, 1, 2, 3, 4, 5, 6, 7, 8], [0, 1, 2, 3, 4, 5, 6, 7, 8, 9]] tm rfl rfl rfl rfl ?_
  refine RD.op rfl rfl rfl (eff_move (v := .ptr _ _ _ _) rfl rfl rfl) ?_
  refine RD.op rfl rfl rfl (eff_move (v := .t _) rfl rfl rfl) ?_
  refine RD.op rfl rfl rfl (eff_move (v := .ptr _ _ _ _) rfl rfl rfl) ?_
  refine RD.op rfl rfl rfl (eff_move (v := .t _) rfl rfl rfl) ?_
  refine RD.op rfl rfl rfl (eff_nilCheck (v := .ptr _ _ _ _) rfl rfl rfl rfl (fun _ _ _ _ e => by cases e; exact ⟨_, rfl, rfl⟩)) ?_
  refine RD.op rfl rfl rfl (eff_indexAddrP (i := I) rfl rfl tu33 ti32 rfl rfl (by first | rfl | omega) (by omega) rfl rfl rfl (alen hL.len (by omega))) ?_
  refine RD.op rfl rfl rfl (eff_load (y := .t (encS (at' L (I)))) rfl rfl ti32 rfl (.whole rfl rfl (ael hL.len (by omega)) rfl rfl rfl)) ?_
  refine RD.op rfl rfl rfl (eff_callT (retry27_ret (at' L I) ((hL.vi (I) (by omega)).sok (by omega))) co21 rfl rfl rfl rfl) ?_
  refine RD.op rfl rfl rfl (eff_nilCheck (v := .ptr _ _ _ _) rfl rfl rfl rfl (fun _ _ _ _ e => by cases e; exact ⟨_, rfl, rfl⟩)) ?_
  refine RD.op rfl rfl rfl (eff_indexAddrP (i := I) rfl rfl tu33 ti32 rfl rfl (by first | rfl | omega) (by omega) rfl rfl rfl (alen hL.len (by omega))) ?_
  refine RD.store rfl rfl rfl (eff_storeW (v := .t (encS (retry (at' L I)))) (els := encL L) (els' := encL (L.set I (retry (at' L I)))) (el := .t (encS (at' L (I)))) rfl rfl ti32 rfl rfl rfl rfl rfl rfl (ael hL.len (by omega)) rfl aset) ?_
  refine RD.nil ?_
  refine awj_seq ?_
  refine awj_rj rfl ?_
  refine RJ.op rfl rfl (eff_move (v := .ptr _ _ _ _) rfl rfl rfl) ?_
  refine RJ.op rfl rfl (eff_move (v := .t _) rfl rfl rfl) ?_
  refine RJ.op rfl rfl (eff_nilCheck (v := .ptr _ _ _ _) rfl rfl rfl rfl (fun _ _ _ _ e => by cases e; exact ⟨_, rfl, rfl⟩)) ?_
  refine RJ.op rfl rfl (eff_indexAddrP (i := I) rfl rfl tu33 ti32 rfl rfl (by first | rfl | omega) (by omega) rfl rfl rfl (alen hLL.len (by omega))) ?_
  refine RJ.op rfl rfl (eff_load (y := .t (encS (at' (L.set I (retry (at' L I))) (I)))) rfl rfl ti32 rfl (.whole rfl rfl (ael hLL.len (by omega)) rfl rfl rfl)) ?_
  refine RJ.op rfl rfl (eff_callT ((by have h := offer18_ret (at' (L.set I (retry (at' L I))) I) 1000 ((hLL.vi (I) (by omega)).sok (by omega)) (hLL.vi I (by omega)).ps; rw [ho] at h; exact h)) co15 rfl rfl rfl rfl) ?_
  refine RJ.op rfl rfl (eff_move (v := .t _) rfl rfl rfl) ?_
  refine RJ.op rfl rfl (eff_extract rfl rfl rfl rfl) ?_
  refine RJ.op rfl rfl (eff_extract rfl rfl rfl rfl) ?_
  refine RJ.new rfl rfl (eff_allocK (k := 8) (id := 6) rfl rfl tz40 rfl rfl) ?_
  refine RJ.store rfl rfl (eff_storeW (v := .t _) (els := [_]) (els' := [_]) rfl rfl ti40 rfl rfl rfl rfl rfl rfl rfl rfl rfl) ?_
  refine RJ.op rfl rfl (eff_assign (v := .t _) rfl rfl rfl) ?_
  refine RJ.nil ?_
  refine awj_seq ?_
  refine awj_seq ?_
  refine awj_rj rfl ?_
  refine RJ.op rfl rfl (eff_move (v := .t _) rfl rfl rfl) ?_
  refine RJ.op rfl rfl (eff_unop rfl rfl rfl rfl) ?_
  refine RJ.nil ?_
  refine awj_cond rfl (fun _ => ?_) (fun h => nomatch h)
  refine awj_seq ?_
  refine awj_rj rfl ?_
  refine RJ.op rfl rfl (eff_assign (v := .t _) rfl rfl rfl) ?_
  refine RJ.nil ?_
  refine awj_ret ?_
  exact ⟨Or.inr rfl, [_], [.t (.bool true)], ⟨.tmp rfl, trivial⟩, rfl, weak_keep ⟨rfl, rfl, rfl, rfl, trivial⟩ ⟨rfl, okE_t, trivial⟩, rfl⟩

theorem eventR1 (gg n : Nat) (hn : n ≤ 1000) (L : List Store) (hL : LInv n L) (nd f1 f2 : Int) (hnd : 0 ≤ nd ∧ nd < 256) (hf1 : 0 ≤ f1 ∧ f1 < 256) (hf2 : 0 ≤ f2 ∧ f2 < 256) (I K C : Nat) (hI : nd % 3 = (I : Int)) (hI3 : I < 3) (hK : f1 % 3 = (K : Int)) (hC : f2 % 3 = (C : Int)) (hLL : LInv n (L.set I (retry (at' L I)))) (b : Bundle) (hbb : Bytes b.data) (hbl : b.data.length ≤ 256) (ho : offer (at' (L.set I (retry (at' L I))) I) 1000 = (b, true)) (s2 : Store) (hp : pass (at' (L.set I (retry (at' L I))) I) b.id = (s2, 0)) (hL2 : LInv (n + 1) ((L.set I (retry (at' L I))).set I s2)) (hA : (accN I b K ((L.set I (retry (at' L I))).set I s2)).2 = false) : RetK Tryd.prog 7 [(0, some ⟨4, 33, gg, encL L⟩)] [.ptr 0 gg 0 0, .t (encF nd f1 f2 true)] [(0, some ⟨4, 33, gg, encL (accN I b K ((L.set I (retry (at' L I))).set I s2)).1⟩)] (.t (.bool true)) [(0, .ptr 0 gg 0 0)] := by
  refine retK_of_awj (kp := fun i => Nat.beq i 0) Tryd.func7 rfl (Nat.le_of_ble_eq_true rfl) (by simp) ?_
  intro F0 w0
  refine awj_seq ?_
  refine awj_rj rfl ?_
  refine RJ.new rfl rfl (eff_boxK (v := .t _) (k := 4) (id := 3) rfl rfl rfl rfl rfl rfl) ?_
  refine RJ.op rfl rfl (eff_assign (v := .t _) rfl rfl rfl) ?_
  refine RJ.nil ?_
  refine awj_seq ?_
  refine awj_rj rfl ?_
  refine RJ.op rfl rfl (eff_fieldAddr rfl rfl tf44_0 (by decide) rfl rfl rfl (Nat.le_of_ble_eq_true rfl)) ?_
  refine RJ.op rfl rfl (eff_load (y := .t _) rfl rfl ti5 rfl (.one rfl rfl rfl rfl)) ?_
  refine RJ.op rfl rfl (eff_convIntE (m := nd) rfl rfl (by rw [tu5]; rfl) tu3 rfl (wrap64 (by omega) (by omega))) ?_
  refine RJ.op rfl rfl (eff_remE (r := (I : Int)) rfl rfl rfl rfl (by decide) (by rw [← hI]; exact tmod_pos hnd.1)) ?_
  refine RJ.op rfl rfl (eff_assign (v := .t _) rfl rfl rfl) ?_
  refine RJ.nil ?_
  refine awj_seq ?_
  refine awj_seq ?_
  refine awj_rj rfl ?_
  refine RJ.op rfl rfl (eff_fieldAddr rfl rfl tf44_3 (by decide) rfl rfl rfl (Nat.le_of_ble_eq_true rfl)) ?_
  refine RJ.op rfl rfl (eff_load (y := .t _) rfl rfl ti4 rfl (.one rfl rfl rfl rfl)) ?_
  refine RJ.nil ?_
  refine awj_cond rfl (fun _ => ?_) (fun h => nomatch h)
  refine awj_rd [(some 24, []), (some 25, []), (some 26, []), (some 27, []), (some 28, []), (some 29, []), (some 30, []), (some 31, []), (some 32, []), (some 33, []), (none, [0])] [[], [], [], [], [2], [2, 3, 4], [2, 3, 4, 5], [2, 3, 4, 5, 6], [0], [0, 1, 2, 3, 4, 5, 6, 7, 8], [0, 1, 2, 3, 4, 5, 6, 7, 8, 9]] tm rfl rfl rfl rfl ?_
  refine RD.op rfl rfl rfl (eff_move (v := .ptr _ _ _ _) rfl rfl rfl) ?_
  refine RD.op rfl rfl rfl (eff_move (v := .t _) rfl rfl rfl) ?_
  refine RD.op rfl rfl rfl (eff_move (v := .ptr _ _ _ _) rfl rfl rfl) ?_
  refine RD.op rfl rfl rfl (eff_move (v := .t _) rfl rfl rfl) ?_
  refine RD.op rfl rfl rfl (eff_nilCheck (v := .ptr _ _ _ _) rfl rfl rfl rfl (fun _ _ _ _ e => by cases e; exact ⟨_, rfl, rfl⟩)) ?_
  refine RD.op rfl rfl rfl (eff_indexAddrP (i := I) rfl rfl tu33 ti32 rfl rfl (by first | rfl | omega) (by omega) rfl rfl rfl (alen hL.len (by omega))) ?_
  refine RD.op rfl rfl rfl (eff_load (y := .t (encS (at' L (I)))) rfl rfl ti32 rfl (.whole rfl rfl (ael hL.len (by omega)) rfl rfl rfl)) ?_
  refine RD.op rfl rfl rfl (eff_callT (retry27_ret (at' L I) ((hL.vi (I) (by omega)).sok (by omega))) co21 rfl rfl rfl rfl) ?_
  refine RD.op rfl rfl rfl (eff_nilCheck (v := .ptr _ _ _ _) rfl rfl rfl rfl (fun _ _ _ _ e => by cases e; exact ⟨_, rfl, rfl⟩)) ?_
  refine RD.op rfl rfl rfl (eff_indexAddrP (i := I) rfl rfl tu33 ti32 rfl rfl (by first | rfl | omega) (by omega) rfl rfl rfl (alen hL.len (by omega))) ?_
  refine RD.store rfl rfl rfl (eff_storeW (v := .t (encS (retry (at' L I)))) (els := encL L) (els' := encL (L.set I (retry (at' L I)))) (el := .t (encS (at' L (I)))) rfl rfl ti32 rfl rfl rfl rfl rfl rfl (ael hL.len (by omega)) rfl aset) ?_
  refine RD.nil ?_
  refine awj_seq ?_
  refine awj_rj rfl ?_
  refine RJ.op rfl rfl (eff_move (v := .ptr _ _ _ _) rfl rfl rfl) ?_
  refine RJ.op rfl rfl (eff_move (v := .t _) rfl rfl rfl) ?_
  refine RJ.op rfl rfl (eff_nilCheck (v := .ptr _ _ _ _) rfl rfl rfl rfl (fun _ _ _ _ e => by cases e; exact ⟨_, rfl, rfl⟩)) ?_
  refine RJ.op rfl rfl (eff_indexAddrP (i := I) rfl rfl tu33 ti32 rfl rfl (by first | rfl | omega) (by omega) rfl rfl rfl (alen hLL.len (by omega))) ?_
  refine RJ.op rfl rfl (eff_load (y := .t (encS (at' (L.set I (retry (at' L I))) (I)))) rfl rfl ti32 rfl (.whole rfl rfl (ael hLL.len (by omega)) rfl rfl rfl)) ?_
  refine RJ.op rfl rfl (eff_callT ((by have h := offer18_ret (at' (L.set I (retry (at' L I))) I) 1000 ((hLL.vi (I) (by omega)).sok (by omega)) (hLL.vi I (by omega)).ps; rw [ho] at h; exact h)) co15 rfl rfl rfl rfl) ?_
  refine RJ.op rfl rfl (eff_move (v := .t _) rfl rfl rfl) ?_
  refine RJ.op rfl rfl (eff_extract rfl rfl rfl rfl) ?_
  refine RJ.op rfl rfl (eff_extract rfl rfl rfl rfl) ?_
  refine RJ.new rfl rfl (eff_allocK (k := 8) (id := 6) rfl rfl tz40 rfl rfl) ?_
  refine RJ.store rfl rfl (eff_storeW (v := .t _) (els := [_]) (els' := [_]) rfl rfl ti40 rfl rfl rfl rfl rfl rfl rfl rfl rfl) ?_
  refine RJ.op rfl rfl (eff_assign (v := .t _) rfl rfl rfl) ?_
  refine RJ.nil ?_
  refine awj_seq ?_
  refine awj_seq ?_
  refine awj_rj rfl ?_
  refine RJ.op rfl rfl (eff_move (v := .t _) rfl rfl rfl) ?_
  refine RJ.op rfl rfl (eff_unop rfl rfl rfl rfl) ?_
  refine RJ.nil ?_
  refine awj_cond rfl (fun h => nomatch h) (fun _ => ?_)
  refine awj_skip ?_
  refine awj_seq ?_
  refine awj_rd [(some 46, []), (some 47, []), (some 48, []), (some 49, []), (some 50, []), (some 51, []), (some 52, []), (some 53, []), (some 45, []), (some 54, []), (some 55, []), (some 8, [8]), (none, [8]), (some 9, [])] [[], [], [0], [0, 1, 2], [0, 1, 2, 3], [], [5], [0, 1, 2, 3, 4, 5, 6], [0, 1, 2, 3, 4, 5, 6, 7], [0, 1, 2, 3, 4, 5, 6, 7, 8], [0, 1, 2, 3, 4, 5, 6, 7, 8], [], [0, 1, 2, 3, 4, 5, 6, 7, 8, 9, 11], [0, 1, 2, 3, 4, 5, 6, 7, 8, 9, 10, 11, 12]] tm rfl rfl rfl rfl ?_
  refine RD.op rfl rfl rfl (eff_move (v := .ptr _ _ _ _) rfl rfl rfl) ?_
  refine RD.op rfl rfl rfl (eff_move (v := .t _) rfl rfl rfl) ?_
  refine RD.op rfl rfl rfl (eff_nilCheck (v := .ptr _ _ _ _) rfl rfl rfl rfl (fun _ _ _ _ e => by cases e; exact ⟨_, rfl, rfl⟩)) ?_
  refine RD.op rfl rfl rfl (eff_indexAddrP (i := I) rfl rfl tu33 ti32 rfl rfl (by first | rfl | omega) (by omega) rfl rfl rfl (alen hLL.len (by omega))) ?_
  refine RD.op rfl rfl rfl (eff_load (y := .t (encS (at' (L.set I (retry (at' L I))) (I)))) rfl rfl ti32 rfl (.whole rfl rfl (ael hLL.len (by omega)) rfl rfl rfl)) ?_
  refine RD.op rfl rfl rfl (eff_fieldAddr rfl rfl tf40_0 (by decide) rfl rfl rfl (Nat.le_of_ble_eq_true rfl)) ?_
  refine RD.op rfl rfl rfl (eff_load (y := .t _) rfl rfl ti3 rfl (.one rfl rfl rfl rfl)) ?_
  refine RD.op rfl rfl rfl (eff_callT ((by have h := pass26_ret insC (at' (L.set I (retry (at' L I))) I) b.id ((hLL.vi (I) (by omega)).sok (by omega)) (hLL.vi I (by omega)).ps; rw [hp] at h; exact h)) co16 rfl rfl rfl rfl) ?_
  refine RD.op rfl rfl rfl (eff_move (v := .t _) rfl rfl rfl) ?_
  refine RD.op rfl rfl rfl (eff_extract rfl rfl rfl rfl) ?_
  refine RD.op rfl rfl rfl (eff_extract rfl rfl rfl rfl) ?_
  refine RD.new rfl rfl rfl (eff_allocK (k := 4) (id := 8) rfl rfl tz32 rfl rfl) ?_
  refine RD.store rfl rfl rfl (eff_storeW (v := .t _) (els := [_]) (els' := [_]) rfl rfl ti32 rfl rfl rfl rfl rfl rfl rfl rfl rfl) ?_
  refine RD.op rfl rfl rfl (eff_assign (v := .t _) rfl rfl rfl) ?_
  refine RD.nil ?_
  refine awj_seq ?_
  refine awj_seq ?_
  refine awj_rj rfl ?_
  refine RJ.op rfl rfl (eff_move (v := .t _) rfl rfl rfl) ?_
  refine RJ.op rfl rfl (eff_iop (r := .bool false) rfl rfl rfl rfl (by exact iop_neq_f (by rfl))) ?_
  refine RJ.nil ?_
  refine awj_cond rfl (fun h => nomatch h) (fun _ => ?_)
  refine awj_skip ?_
  refine awj_seq ?_
  refine awj_rd [(some 58, []), (some 59, []), (some 60, []), (some 61, []), (some 62, []), (none, [0])] [[], [], [], [0], [0, 1, 2, 3], [0, 1, 2, 3, 4]] tm rfl rfl rfl rfl ?_
  refine RD.op rfl rfl rfl (eff_move (v := .ptr _ _ _ _) rfl rfl rfl) ?_
  refine RD.op rfl rfl rfl (eff_move (v := .t _) rfl rfl rfl) ?_
  refine RD.op rfl rfl rfl (eff_load rfl rfl ti32 rfl (.whole rfl rfl rfl rfl rfl rfl)) ?_
  refine RD.op rfl rfl rfl (eff_nilCheck (v := .ptr _ _ _ _) rfl rfl rfl rfl (fun _ _ _ _ e => by cases e; exact ⟨_, rfl, rfl⟩)) ?_
  refine RD.op rfl rfl rfl (eff_indexAddrP (i := I) rfl rfl tu33 ti32 rfl rfl (by first | rfl | omega) (by omega) rfl rfl rfl (alen hLL.len (by omega))) ?_
  refine RD.store rfl rfl rfl (eff_storeW (v := .t (encS s2)) (els := encL (L.set I (retry (at' L I)))) (els' := encL ((L.set I (retry (at' L I))).set I s2)) (el := .t (encS (at' (L.set I (retry (at' L I))) (I)))) rfl rfl ti32 rfl rfl rfl rfl rfl rfl (ael hLL.len (by omega)) rfl aset) ?_
  refine RD.nil ?_
  refine awj_seq ?_
  refine awj_rj rfl ?_
  refine RJ.op rfl rfl (eff_assign (v := .t _) rfl rfl rfl) ?_
  refine RJ.nil ?_
  refine awj_seq ?_
  refine awj_seq ?_
  refine awj_rj rfl ?_
  refine RJ.op rfl rfl (eff_assign (v := .t _) rfl rfl rfl) ?_
  refine RJ.nil ?_
  refine awj_block ?_
  refine awj_loopW (fun m s g => ∃ (k : Nat) (M : List Store) (ac : Bool), (k ≤ K) ∧ (M = (accN I b k ((L.set I (retry (at' L I))).set I s2)).1) ∧ (ac = (accN I b k ((L.set I (retry (at' L I))).set I s2)).2) ∧ m = K - k ∧ s = ⟨134, [(0, .ptr 0 gg 0 0), (3, .ptr 3 0 0 0), (5, .t (encI (I : Nat))), (6, .ptr 6 0 0 0), (10, .t (.bool ac)), (11, .t (encI (k : Nat)))], [(0, some ⟨4, 33, gg, encL M⟩), (3, some ⟨4, 44, 0, [.t (encF nd f1 f2 true)]⟩), (6, some ⟨8, 40, 0, [.t (encB b)]⟩)]⟩) (_) (⟨_, weak_keep (n := 134) (fr' := [(0, .ptr 0 gg 0 0), (3, .ptr 3 0 0 0), (5, .t (encI (I : Nat))), (6, .ptr 6 0 0 0), (10, .t (.bool _)), (11, .t (encI (0 : Nat)))]) (st' := [(0, some ⟨4, 33, gg, encL _⟩), (3, some ⟨4, 44, 0, [.t (encF nd f1 f2 true)]⟩), (6, some ⟨8, 40, 0, [.t (encB b)]⟩)]) ⟨rfl, rfl, rfl, rfl, rfl, rfl, rfl, rfl, rfl, rfl, rfl, rfl, trivial⟩ ⟨rfl, okE_t, rfl, okE_one rfl, rfl, okE_one rfl, trivial⟩, 0, _, _, (by omega), (by rfl), (by rfl), rfl, rfl⟩) ?_
  rintro m s g ⟨k, M, ac, hk, hM, hac, rfl, rfl⟩
  have hMI : LInv (n + 1 + k) M := by rw [hM]; exact (accN_inv hI3 hbb hL2 k).1
  refine awj_seq ?_
  refine awj_seq ?_
  refine awj_rj rfl ?_
  refine RJ.op rfl rfl (eff_move (v := .t _) rfl rfl rfl) ?_
  refine RJ.op rfl rfl (eff_fieldAddr rfl rfl tf44_1 (by decide) rfl rfl rfl (Nat.le_of_ble_eq_true rfl)) ?_
  refine RJ.op rfl rfl (eff_load (y := .t _) rfl rfl ti5 rfl (.one rfl rfl rfl rfl)) ?_
  refine RJ.op rfl rfl (eff_remE (r := (K : Int)) rfl rfl rfl rfl (by decide) (by rw [← hK]; exact tmod_pos hf1.1)) ?_
  refine RJ.op rfl rfl (eff_convIntE (m := (K : Int)) rfl rfl (by rw [tu5]; rfl) tu3 rfl (wrap64 (by omega) (by omega))) ?_
  refine RJ.op rfl rfl (eff_iop rfl rfl rfl rfl rfl) ?_
  refine RJ.nil ?_
  refine awj_cond rfl (fun h1 => ?_) (fun h1 => ?_)
  · try simp only [decide_eq_true_eq, decide_eq_false_iff_not, beq_iff_eq, bne_iff_ne, bne_eq_false_iff_eq, beq_eq_false_iff_ne, Bool.not_eq_true, Bool.not_eq_false, Bool.not_eq_true', Bool.not_eq_false', ne_eq] at h1
    refine awj_skip ?_
    refine awj_seq ?_
    refine awj_block ?_
    refine awj_seq ?_
    refine awj_rd [(some 72, []), (some 73, []), (some 74, []), (some 75, []), (some 76, []), (some 77, []), (some 78, []), (some 79, []), (some 71, []), (some 80, []), (some 81, []), (some 82, []), (some 12, [12]), (none, [12]), (some 13, []), (some 14, [])] [[], [], [1], [0], [0, 1, 2, 3], [0, 1, 2, 3, 4], [], [0, 1, 2, 3, 4, 5, 6], [0, 1, 2, 3, 4, 5, 6, 7], [0, 1, 2, 3, 4, 5, 6, 7, 8], [0, 1, 2, 3, 4, 5, 6, 7, 8], [0, 1, 2, 3, 4, 5, 6, 7, 8], [], [0, 1, 2, 3, 4, 5, 6, 7, 8, 9, 12], [0, 1, 2, 3, 4, 5, 6, 7, 8, 9, 10, 12, 13], [0, 1, 2, 3, 4, 5, 6, 7, 8, 9, 10, 11, 12, 13, 14]] tm rfl rfl rfl rfl ?_
    refine RD.op rfl rfl rfl (eff_move (v := .ptr _ _ _ _) rfl rfl rfl) ?_
    refine RD.op rfl rfl rfl (eff_move (v := .t _) rfl rfl rfl) ?_
    refine RD.op rfl rfl rfl (eff_iop rfl rfl rfl rfl (iadd (by omega))) ?_
    refine RD.op rfl rfl rfl (eff_nilCheck (v := .ptr _ _ _ _) rfl rfl rfl rfl (fun _ _ _ _ e => by cases e; exact ⟨_, rfl, rfl⟩)) ?_
    refine RD.op rfl rfl rfl (eff_indexAddrP (i := I + 1) rfl rfl tu33 ti32 rfl rfl (by first | rfl | omega) (by omega) rfl rfl rfl (alen hMI.len (by omega))) ?_
    refine RD.op rfl rfl rfl (eff_load (y := .t (encS (at' M (I + 1)))) rfl rfl ti32 rfl (.whole rfl rfl (ael hMI.len (by omega)) rfl rfl rfl)) ?_
    refine RD.op rfl rfl rfl (eff_load rfl rfl ti40 rfl (.whole rfl rfl rfl rfl rfl rfl)) ?_
    refine RD.op rfl rfl rfl (eff_callT (accept23_ret insC (at' M (I + 1)) b ((hMI.vi (I + 1) (by omega)).sok (by omega)) (by unfold BOK; omega) (hMI.vi (I + 1) (by omega)).ss) co14 rfl rfl rfl rfl) ?_
    refine RD.op rfl rfl rfl (eff_move (v := .t _) rfl rfl rfl) ?_
    refine RD.op rfl rfl rfl (eff_extract rfl rfl rfl rfl) ?_
    refine RD.op rfl rfl rfl (eff_extract rfl rfl rfl rfl) ?_
    refine RD.op rfl rfl rfl (eff_extract rfl rfl rfl rfl) ?_
    refine RD.new rfl rfl rfl (eff_allocK (k := 4) (id := 12) rfl rfl tz32 rfl rfl) ?_
    refine RD.store rfl rfl rfl (eff_storeW (v := .t _) (els := [_]) (els' := [_]) rfl rfl ti32 rfl rfl rfl rfl rfl rfl rfl rfl rfl) ?_
    refine RD.op rfl rfl rfl (eff_assign (v := .t _) rfl rfl rfl) ?_
    refine RD.op rfl rfl rfl (eff_assign (v := .t _) rfl rfl rfl) ?_
    refine RD.nil ?_
    refine awj_seq ?_
    refine awj_seq ?_
    refine awj_rj rfl ?_
    refine RJ.op rfl rfl (eff_move (v := .t _) rfl rfl rfl) ?_
    refine RJ.op rfl rfl (eff_iop rfl rfl rfl rfl rfl) ?_
    refine RJ.nil ?_
    refine awj_cond rfl (fun h2 => ?_) (fun h2 => ?_)
    · try simp only [decide_eq_true_eq, decide_eq_false_iff_not, beq_iff_eq, bne_iff_ne, bne_eq_false_iff_eq, beq_eq_false_iff_ne, Bool.not_eq_true, Bool.not_eq_false, Bool.not_eq_true', Bool.not_eq_false', ne_eq] at h2
      refine awj_rd [(some 85, []), (some 86, []), (some 87, []), (some 88, []), (some 89, []), (some 90, []), (none, [0])] [[], [], [1], [], [0], [0, 1, 2, 3, 4], [0, 1, 2, 3, 4, 5]] tm rfl rfl rfl rfl ?_
      refine RD.op rfl rfl rfl (eff_move (v := .ptr _ _ _ _) rfl rfl rfl) ?_
      refine RD.op rfl rfl rfl (eff_move (v := .t _) rfl rfl rfl) ?_
      refine RD.op rfl rfl rfl (eff_iop rfl rfl rfl rfl (iadd (by omega))) ?_
      refine RD.op rfl rfl rfl (eff_load rfl rfl ti32 rfl (.whole rfl rfl rfl rfl rfl rfl)) ?_
      refine RD.op rfl rfl rfl (eff_nilCheck (v := .ptr _ _ _ _) rfl rfl rfl rfl (fun _ _ _ _ e => by cases e; exact ⟨_, rfl, rfl⟩)) ?_
      refine RD.op rfl rfl rfl (eff_indexAddrP (i := I + 1) rfl rfl tu33 ti32 rfl rfl (by first | rfl | omega) (by omega) rfl rfl rfl (alen hMI.len (by omega))) ?_
      refine RD.store rfl rfl rfl (eff_storeW (v := .t (encS (accept (at' M (I + 1)) b).1)) (els := encL M) (els' := encL (M.set (I + 1) (accept (at' M (I + 1)) b).1)) (el := .t (encS (at' M (I + 1)))) rfl rfl ti32 rfl rfl rfl rfl rfl rfl (ael hMI.len (by omega)) rfl aset) ?_
      refine RD.nil ?_
      refine awj_rj rfl ?_
      refine RJ.op rfl rfl (eff_move (v := .t _) rfl rfl rfl) ?_
      refine RJ.op rfl rfl (eff_move (v := .t _) rfl rfl rfl) ?_
      refine RJ.split 92 rfl (fun h3 => ?_) (fun h3 => ?_)
      · try simp only [decide_eq_true_eq, decide_eq_false_iff_not, beq_iff_eq, bne_iff_ne, bne_eq_false_iff_eq, beq_eq_false_iff_ne, Bool.not_eq_true, Bool.not_eq_false, Bool.not_eq_true', Bool.not_eq_false', ne_eq] at h3
        refine RJ.gskip rfl rfl rfl rfl rfl (by decide) ?_
        refine RJ.op rfl rfl (eff_pick (v := .t _) rfl rfl rfl rfl) ?_
        refine RJ.op rfl rfl (eff_assign (v := .t _) rfl rfl rfl) ?_
        refine RJ.nil ?_
        refine awj_rj rfl ?_
        refine RJ.op rfl rfl (eff_move (v := .t _) rfl rfl rfl) ?_
        refine RJ.op rfl rfl (eff_iop rfl rfl rfl rfl (iadd (by omega))) ?_
        refine RJ.op rfl rfl (eff_assign (v := .t _) rfl rfl rfl) ?_
        refine RJ.nil ?_
        refine ⟨_, ?_, _, weak_keep (n := 134) (fr' := [(0, .ptr 0 gg 0 0), (3, .ptr 3 0 0 0), (5, .t (encI (I : Nat))), (6, .ptr 6 0 0 0), (10, .t (.bool _)), (11, .t (encI ((k + 1) : Nat)))]) (st' := [(0, some ⟨4, 33, gg, encL _⟩), (3, some ⟨4, 44, 0, [.t (encF nd f1 f2 true)]⟩), (6, some ⟨8, 40, 0, [.t (encB b)]⟩)]) ⟨rfl, rfl, rfl, rfl, rfl, rfl, rfl, rfl, rfl, rfl, rfl, rfl, trivial⟩ ⟨rfl, okE_t, rfl, okE_one rfl, rfl, okE_one rfl, trivial⟩, k + 1, _, _, (by omega), (by show _ = (if _ then _ else _); rw [← hM]; first | rw [if_pos (by assumption)] | rw [if_neg (by assumption)]), (by show _ = ((accN I b k ((L.set I (retry (at' L I))).set I s2)).2 || _); rw [← hac, ← hM]; first | (rw [(by assumption : ac = true)]; rfl) | (rw [(by assumption : ac = false)]; rfl)), rfl, rfl⟩
        omega
      · try simp only [decide_eq_true_eq, decide_eq_false_iff_not, beq_iff_eq, bne_iff_ne, bne_eq_false_iff_eq, beq_eq_false_iff_ne, Bool.not_eq_true, Bool.not_eq_false, Bool.not_eq_true', Bool.not_eq_false', ne_eq] at h3
        refine RJ.gop rfl rfl rfl rfl rfl rfl (eff_move (v := .t _) rfl rfl rfl) ?_
        refine RJ.op rfl rfl (eff_pick (v := .t _) rfl rfl rfl rfl) ?_
        refine RJ.op rfl rfl (eff_assign (v := .t _) rfl rfl rfl) ?_
        refine RJ.nil ?_
        refine awj_rj rfl ?_
        refine RJ.op rfl rfl (eff_move (v := .t _) rfl rfl rfl) ?_
        refine RJ.op rfl rfl (eff_iop rfl rfl rfl rfl (iadd (by omega))) ?_
        refine RJ.op rfl rfl (eff_assign (v := .t _) rfl rfl rfl) ?_
        refine RJ.nil ?_
        refine ⟨_, ?_, _, weak_keep (n := 134) (fr' := [(0, .ptr 0 gg 0 0), (3, .ptr 3 0 0 0), (5, .t (encI (I : Nat))), (6, .ptr 6 0 0 0), (10, .t (.bool _)), (11, .t (encI ((k + 1) : Nat)))]) (st' := [(0, some ⟨4, 33, gg, encL _⟩), (3, some ⟨4, 44, 0, [.t (encF nd f1 f2 true)]⟩), (6, some ⟨8, 40, 0, [.t (encB b)]⟩)]) ⟨rfl, rfl, rfl, rfl, rfl, rfl, rfl, rfl, rfl, rfl, rfl, rfl, trivial⟩ ⟨rfl, okE_t, rfl, okE_one rfl, rfl, okE_one rfl, trivial⟩, k + 1, _, _, (by omega), (by show _ = (if _ then _ else _); rw [← hM]; first | rw [if_pos (by assumption)] | rw [if_neg (by assumption)]), (by show _ = ((accN I b k ((L.set I (retry (at' L I))).set I s2)).2 || _); rw [← hac, ← hM]; first | (rw [(by assumption : ac = true)]; rfl) | (rw [(by assumption : ac = false)]; rfl)), rfl, rfl⟩
        omega
    · try simp only [decide_eq_true_eq, decide_eq_false_iff_not, beq_iff_eq, bne_iff_ne, bne_eq_false_iff_eq, beq_eq_false_iff_ne, Bool.not_eq_true, Bool.not_eq_false, Bool.not_eq_true', Bool.not_eq_false', ne_eq] at h2
      refine awj_skip ?_
      refine awj_rj rfl ?_
      refine RJ.op rfl rfl (eff_move (v := .t _) rfl rfl rfl) ?_
      refine RJ.op rfl rfl (eff_move (v := .t _) rfl rfl rfl) ?_
      refine RJ.split 92 rfl (fun h4 => ?_) (fun h4 => ?_)
      · try simp only [decide_eq_true_eq, decide_eq_false_iff_not, beq_iff_eq, bne_iff_ne, bne_eq_false_iff_eq, beq_eq_false_iff_ne, Bool.not_eq_true, Bool.not_eq_false, Bool.not_eq_true', Bool.not_eq_false', ne_eq] at h4
        refine RJ.gskip rfl rfl rfl rfl rfl (by decide) ?_
        refine RJ.op rfl rfl (eff_pick (v := .t _) rfl rfl rfl rfl) ?_
        refine RJ.op rfl rfl (eff_assign (v := .t _) rfl rfl rfl) ?_
        refine RJ.nil ?_
        refine awj_rj rfl ?_
        refine RJ.op rfl rfl (eff_move (v := .t _) rfl rfl rfl) ?_
        refine RJ.op rfl rfl (eff_iop rfl rfl rfl rfl (iadd (by omega))) ?_
        refine RJ.op rfl rfl (eff_assign (v := .t _) rfl rfl rfl) ?_
        refine RJ.nil ?_
        refine ⟨_, ?_, _, weak_keep (n := 134) (fr' := [(0, .ptr 0 gg 0 0), (3, .ptr 3 0 0 0), (5, .t (encI (I : Nat))), (6, .ptr 6 0 0 0), (10, .t (.bool _)), (11, .t (encI ((k + 1) : Nat)))]) (st' := [(0, some ⟨4, 33, gg, encL _⟩), (3, some ⟨4, 44, 0, [.t (encF nd f1 f2 true)]⟩), (6, some ⟨8, 40, 0, [.t (encB b)]⟩)]) ⟨rfl, rfl, rfl, rfl, rfl, rfl, rfl, rfl, rfl, rfl, rfl, rfl, trivial⟩ ⟨rfl, okE_t, rfl, okE_one rfl, rfl, okE_one rfl, trivial⟩, k + 1, _, _, (by omega), (by show _ = (if _ then _ else _); rw [← hM]; first | rw [if_pos (by assumption)] | rw [if_neg (by assumption)]), (by show _ = ((accN I b k ((L.set I (retry (at' L I))).set I s2)).2 || _); rw [← hac, ← hM]; first | (rw [(by assumption : ac = true)]; rfl) | (rw [(by assumption : ac = false)]; rfl)), rfl, rfl⟩
        omega
      · try simp only [decide_eq_true_eq, decide_eq_false_iff_not, beq_iff_eq, bne_iff_ne, bne_eq_false_iff_eq, beq_eq_false_iff_ne, Bool.not_eq_true, Bool.not_eq_false, Bool.not_eq_true', Bool.not_eq_false', ne_eq] at h4
        refine RJ.gop rfl rfl rfl rfl rfl rfl (eff_move (v := .t _) rfl rfl rfl) ?_
        refine RJ.op rfl rfl (eff_pick (v := .t _) rfl rfl rfl rfl) ?_
        refine RJ.op rfl rfl (eff_assign (v := .t _) rfl rfl rfl) ?_
        refine RJ.nil ?_
        refine awj_rj rfl ?_
        refine RJ.op rfl rfl (eff_move (v := .t _) rfl rfl rfl) ?_
        refine RJ.op rfl rfl (eff_iop rfl rfl rfl rfl (iadd (by omega))) ?_
        refine RJ.op rfl rfl (eff_assign (v := .t _) rfl rfl rfl) ?_
        refine RJ.nil ?_
        refine ⟨_, ?_, _, weak_keep (n := 134) (fr' := [(0, .ptr 0 gg 0 0), (3, .ptr 3 0 0 0), (5, .t (encI (I : Nat))), (6, .ptr 6 0 0 0), (10, .t (.bool _)), (11, .t (encI ((k + 1) : Nat)))]) (st' := [(0, some ⟨4, 33, gg, encL _⟩), (3, some ⟨4, 44, 0, [.t (encF nd f1 f2 true)]⟩), (6, some ⟨8, 40, 0, [.t (encB b)]⟩)]) ⟨rfl, rfl, rfl, rfl, rfl, rfl, rfl, rfl, rfl, rfl, rfl, rfl, trivial⟩ ⟨rfl, okE_t, rfl, okE_one rfl, rfl, okE_one rfl, trivial⟩, k + 1, _, _, (by omega), (by show _ = (if _ then _ else _); rw [← hM]; first | rw [if_pos (by assumption)] | rw [if_neg (by assumption)]), (by show _ = ((accN I b k ((L.set I (retry (at' L I))).set I s2)).2 || _); rw [← hac, ← hM]; first | (rw [(by assumption : ac = true)]; rfl) | (rw [(by assumption : ac = false)]; rfl)), rfl, rfl⟩
        omega
  · try simp only [decide_eq_true_eq, decide_eq_false_iff_not, beq_iff_eq, bne_iff_ne, bne_eq_false_iff_eq, beq_eq_false_iff_ne, Bool.not_eq_true, Bool.not_eq_false, Bool.not_eq_true', Bool.not_eq_false', ne_eq] at h1
    refine awj_exit ?_
    refine awj_seq ?_
    refine awj_seq ?_
    refine awj_rj rfl ?_
    have hk2 : K = k := by omega
    subst hk2
    rw [hA] at hac
    subst hac
    subst hM
    refine RJ.op rfl rfl (eff_assign (v := .t _) rfl rfl rfl) ?_
    refine RJ.nil ?_
    refine awj_block ?_
    refine awj_loopW (fun m s g => ∃ (c : Nat), (c = 0) ∧ m = C - c ∧ s = ⟨134, [(0, .ptr 0 gg 0 0), (3, .ptr 3 0 0 0), (5, .t (encI (I : Nat))), (6, .ptr 6 0 0 0), (10, .t (.bool false)), (15, .t (encI (c : Nat)))], [(0, some ⟨4, 33, gg, encL (accN I b K ((L.set I (retry (at' L I))).set I s2)).1⟩), (3, some ⟨4, 44, 0, [.t (encF nd f1 f2 true)]⟩), (6, some ⟨8, 40, 0, [.t (encB b)]⟩)]⟩) (_) (⟨_, weak_keep (n := 134) (fr' := [(0, .ptr 0 gg 0 0), (3, .ptr 3 0 0 0), (5, .t (encI (I : Nat))), (6, .ptr 6 0 0 0), (10, .t (.bool false)), (15, .t (encI (0 : Nat)))]) (st' := [(0, some ⟨4, 33, gg, encL (accN I b K ((L.set I (retry (at' L I))).set I s2)).1⟩), (3, some ⟨4, 44, 0, [.t (encF nd f1 f2 true)]⟩), (6, some ⟨8, 40, 0, [.t (encB b)]⟩)]) ⟨rfl, rfl, rfl, rfl, rfl, rfl, rfl, rfl, rfl, rfl, rfl, rfl, trivial⟩ ⟨rfl, okE_t, rfl, okE_one rfl, rfl, okE_one rfl, trivial⟩, 0, (by rfl), rfl, rfl⟩) ?_
    rintro m s g ⟨c, hc, rfl, rfl⟩
    refine awj_seq ?_
    refine awj_seq ?_
    refine awj_rj rfl ?_
    refine RJ.op rfl rfl (eff_move (v := .t _) rfl rfl rfl) ?_
    refine RJ.op rfl rfl (eff_fieldAddr rfl rfl tf44_2 (by decide) rfl rfl rfl (Nat.le_of_ble_eq_true rfl)) ?_
    refine RJ.op rfl rfl (eff_load (y := .t _) rfl rfl ti5 rfl (.one rfl rfl rfl rfl)) ?_
    refine RJ.op rfl rfl (eff_remE (r := (C : Int)) rfl rfl rfl rfl (by decide) (by rw [← hC]; exact tmod_pos hf2.1)) ?_
    refine RJ.op rfl rfl (eff_convIntE (m := (C : Int)) rfl rfl (by rw [tu5]; rfl) tu3 rfl (wrap64 (by omega) (by omega))) ?_
    refine RJ.op rfl rfl (eff_iop rfl rfl rfl rfl rfl) ?_
    refine RJ.op rfl rfl (eff_move (v := .t _) rfl rfl rfl) ?_
    refine RJ.split 101 rfl (fun h5 => ?_) (fun h5 => ?_)
    · try simp only [decide_eq_true_eq, decide_eq_false_iff_not, beq_iff_eq, bne_iff_ne, bne_eq_false_iff_eq, beq_eq_false_iff_ne, Bool.not_eq_true, Bool.not_eq_false, Bool.not_eq_true', Bool.not_eq_false', ne_eq] at h5
      refine RJ.gop rfl rfl rfl rfl rfl rfl (eff_move (v := .t _) rfl rfl rfl) ?_
      refine RJ.op rfl rfl (eff_pick (v := .t _) rfl rfl rfl rfl) ?_
      refine RJ.nil ?_
      refine awj_cond rfl (fun h => nomatch h) (fun _ => ?_)
      refine awj_exit ?_
      refine awj_seq ?_
      refine awj_rj rfl ?_
      refine RJ.op rfl rfl (eff_assign (v := .t _) rfl rfl rfl) ?_
      refine RJ.nil ?_
      refine awj_ret ?_
      exact ⟨Or.inr rfl, [_], [.t (.bool true)], ⟨.tmp rfl, trivial⟩, rfl, weak_keep ⟨rfl, rfl, rfl, rfl, trivial⟩ ⟨rfl, okE_t, trivial⟩, rfl⟩
    · try simp only [decide_eq_true_eq, decide_eq_false_iff_not, beq_iff_eq, bne_iff_ne, bne_eq_false_iff_eq, beq_eq_false_iff_ne, Bool.not_eq_true, Bool.not_eq_false, Bool.not_eq_true', Bool.not_eq_false', ne_eq] at h5
      refine RJ.gskip rfl rfl rfl rfl rfl (by decide) ?_
      refine RJ.op rfl rfl (eff_pick (v := .t _) rfl rfl rfl rfl) ?_
      refine RJ.nil ?_
      refine awj_cond rfl (fun h => nomatch h) (fun _ => ?_)
      refine awj_exit ?_
      refine awj_seq ?_
      refine awj_rj rfl ?_
      refine RJ.op rfl rfl (eff_assign (v := .t _) rfl rfl rfl) ?_
      refine RJ.nil ?_
      refine awj_ret ?_
      exact ⟨Or.inr rfl, [_], [.t (.bool true)], ⟨.tmp rfl, trivial⟩, rfl, weak_keep ⟨rfl, rfl, rfl, rfl, trivial⟩ ⟨rfl, okE_t, trivial⟩, rfl⟩

theorem eventR2 (gg n : Nat) (hn : n ≤ 1000) (L : List Store) (hL : LInv n L) (nd f1 f2 : Int) (hnd : 0 ≤ nd ∧ nd < 256) (hf1 : 0 ≤ f1 ∧ f1 < 256) (hf2 : 0 ≤ f2 ∧ f2 < 256) (I K C : Nat) (hI : nd % 3 = (I : Int)) (hI3 : I < 3) (hK : f1 % 3 = (K : Int)) (hC : f2 % 3 = (C : Int)) (hLL : LInv n (L.set I (retry (at' L I)))) (b : Bundle) (hbb : Bytes b.data) (hbl : b.data.length ≤ 256) (ho : offer (at' (L.set I (retry (at' L I))) I) 1000 = (b, true)) (s2 : Store) (hp : pass (at' (L.set I (retry (at' L I))) I) b.id = (s2, 0)) (hL2 : LInv (n + 1) ((L.set I (retry (at' L I))).set I s2)) (hA : (accN I b K ((L.set I (retry (at' L I))).set I s2)).2 = true) (hcf : ∀ c N, N = (cfN I b.id c (accN I b K ((L.set I (retry (at' L I))).set I s2)).1) → LInv (n + 1 + K) N ∧ ((confirm (at' N I) b.id).2 = 0 ∨ ((confirm (at' N I) b.id).2 = 3 ∧ c ≠ 0))) : RetK Tryd.prog 7 [(0, some ⟨4, 33, gg, encL L⟩)] [.ptr 0 gg 0 0, .t (encF nd f1 f2 true)] [(0, some ⟨4, 33, gg, encL (cfN I b.id C (accN I b K ((L.set I (retry (at' L I))).set I s2)).1)⟩)] (.t (.bool true)) [(0, .ptr 0 gg 0 0)] := by
  refine retK_of_awj (kp := fun i => Nat.beq i 0) Tryd.func7 rfl (Nat.le_of_ble_eq_true rfl) (by simp) ?_
  intro F0 w0
  refine awj_seq ?_
  refine awj_rj rfl ?_
  refine RJ.new rfl rfl (eff_boxK (v := .t _) (k := 4) (id := 3) rfl rfl rfl rfl rfl rfl) ?_
  refine RJ.op rfl rfl (eff_assign (v := .t _) rfl rfl rfl) ?_
  refine RJ.nil ?_
  refine awj_seq ?_
  refine awj_rj rfl ?_
  refine RJ.op rfl rfl (eff_fieldAddr rfl rfl tf44_0 (by decide) rfl rfl rfl (Nat.le_of_ble_eq_true rfl)) ?_
  refine RJ.op rfl rfl (eff_load (y := .t _) rfl rfl ti5 rfl (.one rfl rfl rfl rfl)) ?_
  refine RJ.op rfl rfl (eff_convIntE (m := nd) rfl rfl (by rw [tu5]; rfl) tu3 rfl (wrap64 (by omega) (by omega))) ?_
  refine RJ.op rfl rfl (eff_remE (r := (I : Int)) rfl rfl rfl rfl (by decide) (by rw [← hI]; exact tmod_pos hnd.1)) ?_
  refine RJ.op rfl rfl (eff_assign (v := .t _) rfl rfl rfl) ?_
  refine RJ.nil ?_
  refine awj_seq ?_
  refine awj_seq ?_
  refine awj_rj rfl ?_
  refine RJ.op rfl rfl (eff_fieldAddr rfl rfl tf44_3 (by decide) rfl rfl rfl (Nat.le_of_ble_eq_true rfl)) ?_
  refine RJ.op rfl rfl (eff_load (y := .t _) rfl rfl ti4 rfl (.one rfl rfl rfl rfl)) ?_
  refine RJ.nil ?_
  refine awj_cond rfl (fun _ => ?_) (fun h => nomatch h)
  refine awj_rd [(some 24, []), (some 25, []), (some 26, []), (some 27, []), (some 28, []), (some 29, []), (some 30, []), (some 31, []), (some 32, []), (some 33, []), (none, [0])] [[], [], [], [], [2], [2, 3, 4], [2, 3, 4, 5], [2, 3, 4, 5, 6], [0], [0, 1, 2, 3, 4, 5, 6, 7, 8], [0, 1, 2, 3, 4, 5, 6, 7, 8, 9]] tm rfl rfl rfl rfl ?_
  refine RD.op rfl rfl rfl (eff_move (v := .ptr _ _ _ _) rfl rfl rfl) ?_
  refine RD.op rfl rfl rfl (eff_move (v := .t _) rfl rfl rfl) ?_
  refine RD.op rfl rfl rfl (eff_move (v := .ptr _ _ _ _) rfl rfl rfl) ?_
  refine RD.op rfl rfl rfl (eff_move (v := .t _) rfl rfl rfl) ?_
  refine RD.op rfl rfl rfl (eff_nilCheck (v := .ptr _ _ _ _) rfl rfl rfl rfl (fun _ _ _ _ e => by cases e; exact ⟨_, rfl, rfl⟩)) ?_
  refine RD.op rfl rfl rfl (eff_indexAddrP (i := I) rfl rfl tu33 ti32 rfl rfl (by first | rfl | omega) (by omega) rfl rfl rfl (alen hL.len (by omega))) ?_
  refine RD.op rfl rfl rfl (eff_load (y := .t (encS (at' L (I)))) rfl rfl ti32 rfl (.whole rfl rfl (ael hL.len (by omega)) rfl rfl rfl)) ?_
  refine RD.op rfl rfl rfl (eff_callT (retry27_ret (at' L I) ((hL.vi (I) (by omega)).sok (by omega))) co21 rfl rfl rfl rfl) ?_
  refine RD.op rfl rfl rfl (eff_nilCheck (v := .ptr _ _ _ _) rfl rfl rfl rfl (fun _ _ _ _ e => by cases e; exact ⟨_, rfl, rfl⟩)) ?_
  refine RD.op rfl rfl rfl (eff_indexAddrP (i := I) rfl rfl tu33 ti32 rfl rfl (by first | rfl | omega) (by omega) rfl rfl rfl (alen hL.len (by omega))) ?_
  refine RD.store rfl rfl rfl (eff_storeW (v := .t (encS (retry (at' L I)))) (els := encL L) (els' := encL (L.set I (retry (at' L I)))) (el := .t (encS (at' L (I)))) rfl rfl ti32 rfl rfl rfl rfl rfl rfl (ael hL.len (by omega)) rfl aset) ?_
  refine RD.nil ?_
  refine awj_seq ?_
  refine awj_rj rfl ?_
  refine RJ.op rfl rfl (eff_move (v := .ptr _ _ _ _) rfl rfl rfl) ?_
  refine RJ.op rfl rfl (eff_move (v := .t _) rfl rfl rfl) ?_
  refine RJ.op rfl rfl (eff_nilCheck (v := .ptr _ _ _ _) rfl rfl rfl rfl (fun _ _ _ _ e => by cases e; exact ⟨_, rfl, rfl⟩)) ?_
  refine RJ.op rfl rfl (eff_indexAddrP (i := I) rfl rfl tu33 ti32 rfl rfl (by first | rfl | omega) (by omega) rfl rfl rfl (alen hLL.len (by omega))) ?_
  refine RJ.op rfl rfl (eff_load (y := .t (encS (at' (L.set I (retry (at' L I))) (I)))) rfl rfl ti32 rfl (.whole rfl rfl (ael hLL.len (by omega)) rfl rfl rfl)) ?_
  refine RJ.op rfl rfl (eff_callT ((by have h := offer18_ret (at' (L.set I (retry (at' L I))) I) 1000 ((hLL.vi (I) (by omega)).sok (by omega)) (hLL.vi I (by omega)).ps; rw [ho] at h; exact h)) co15 rfl rfl rfl rfl) ?_
  refine RJ.op rfl rfl (eff_move (v := .t _) rfl rfl rfl) ?_
  refine RJ.op rfl rfl (eff_extract rfl rfl rfl rfl) ?_
  refine RJ.op rfl rfl (eff_extract rfl rfl rfl rfl) ?_
  refine RJ.new rfl rfl (eff_allocK (k := 8) (id := 6) rfl rfl tz40 rfl rfl) ?_
  refine RJ.store rfl rfl (eff_storeW (v := .t _) (els := [_]) (els' := [_]) rfl rfl ti40 rfl rfl rfl rfl rfl rfl rfl rfl rfl) ?_
  refine RJ.op rfl rfl (eff_assign (v := .t _) rfl rfl rfl) ?_
  refine RJ.nil ?_
  refine awj_seq ?_
  refine awj_seq ?_
  refine awj_rj rfl ?_
  refine RJ.op rfl rfl (eff_move (v := .t _) rfl rfl rfl) ?_
  refine RJ.op rfl rfl (eff_unop rfl rfl rfl rfl) ?_
  refine RJ.nil ?_
  refine awj_cond rfl (fun h => nomatch h) (fun _ => ?_)
  refine awj_skip ?_
  refine awj_seq ?_
  refine awj_rd [(some 46, []), (some 47, []), (some 48, []), (some 49, []), (some 50, []), (some 51, []), (some 52, []), (some 53, []), (some 45, []), (some 54, []), (some 55, []), (some 8, [8]), (none, [8]), (some 9, [])] [[], [], [0], [0, 1, 2], [0, 1, 2, 3], [], [5], [0, 1, 2, 3, 4, 5, 6], [0, 1, 2, 3, 4, 5, 6, 7], [0, 1, 2, 3, 4, 5, 6, 7, 8], [0, 1, 2, 3, 4, 5, 6, 7, 8], [], [0, 1, 2, 3, 4, 5, 6, 7, 8, 9, 11], [0, 1, 2, 3, 4, 5, 6, 7, 8, 9, 10, 11, 12]] tm rfl rfl rfl rfl ?_
  refine RD.op rfl rfl rfl (eff_move (v := .ptr _ _ _ _) rfl rfl rfl) ?_
  refine RD.op rfl rfl rfl (eff_move (v := .t _) rfl rfl rfl) ?_
  refine RD.op rfl rfl rfl (eff_nilCheck (v := .ptr _ _ _ _) rfl rfl rfl rfl (fun _ _ _ _ e => by cases e; exact ⟨_, rfl, rfl⟩)) ?_
  refine RD.op rfl rfl rfl (eff_indexAddrP (i := I) rfl rfl tu33 ti32 rfl rfl (by first | rfl | omega) (by omega) rfl rfl rfl (alen hLL.len (by omega))) ?_
  refine RD.op rfl rfl rfl (eff_load (y := .t (encS (at' (L.set I (retry (at' L I))) (I)))) rfl rfl ti32 rfl (.whole rfl rfl (ael hLL.len (by omega)) rfl rfl rfl)) ?_
  refine RD.op rfl rfl rfl (eff_fieldAddr rfl rfl tf40_0 (by decide) rfl rfl rfl (Nat.le_of_ble_eq_true rfl)) ?_
  refine RD.op rfl rfl rfl (eff_load (y := .t _) rfl rfl ti3 rfl (.one rfl rfl rfl rfl)) ?_
  refine RD.op rfl rfl rfl (eff_callT ((by have h := pass26_ret insC (at' (L.set I (retry (at' L I))) I) b.id ((hLL.vi (I) (by omega)).sok (by omega)) (hLL.vi I (by omega)).ps; rw [hp] at h; exact h)) co16 rfl rfl rfl rfl) ?_
  refine RD.op rfl rfl rfl (eff_move (v := .t _) rfl rfl rfl) ?_
  refine RD.op rfl rfl rfl (eff_extract rfl rfl rfl rfl) ?_
  refine RD.op rfl rfl rfl (eff_extract rfl rfl rfl rfl) ?_
  refine RD.new rfl rfl rfl (eff_allocK (k := 4) (id := 8) rfl rfl tz32 rfl rfl) ?_
  refine RD.store rfl rfl rfl (eff_storeW (v := .t _) (els := [_]) (els' := [_]) rfl rfl ti32 rfl rfl rfl rfl rfl rfl rfl rfl rfl) ?_
  refine RD.op rfl rfl rfl (eff_assign (v := .t _) rfl rfl rfl) ?_
  refine RD.nil ?_
  refine awj_seq ?_
  refine awj_seq ?_
  refine awj_rj rfl ?_
  refine RJ.op rfl rfl (eff_move (v := .t _) rfl rfl rfl) ?_
  refine RJ.op rfl rfl (eff_iop (r := .bool false) rfl rfl rfl rfl (by exact iop_neq_f (by rfl))) ?_
  refine RJ.nil ?_
  refine awj_cond rfl (fun h => nomatch h) (fun _ => ?_)
  refine awj_skip ?_
  refine awj_seq ?_
  refine awj_rd [(some 58, []), (some 59, []), (some 60, []), (some 61, []), (some 62, []), (none, [0])] [[], [], [], [0], [0, 1, 2, 3], [0, 1, 2, 3, 4]] tm rfl rfl rfl rfl ?_
  refine RD.op rfl rfl rfl (eff_move (v := .ptr _ _ _ _) rfl rfl rfl) ?_
  refine RD.op rfl rfl rfl (eff_move (v := .t _) rfl rfl rfl) ?_
  refine RD.op rfl rfl rfl (eff_load rfl rfl ti32 rfl (.whole rfl rfl rfl rfl rfl rfl)) ?_
  refine RD.op rfl rfl rfl (eff_nilCheck (v := .ptr _ _ _ _) rfl rfl rfl rfl (fun _ _ _ _ e => by cases e; exact ⟨_, rfl, rfl⟩)) ?_
  refine RD.op rfl rfl rfl (eff_indexAddrP (i := I) rfl rfl tu33 ti32 rfl rfl (by first | rfl | omega) (by omega) rfl rfl rfl (alen hLL.len (by omega))) ?_
  refine RD.store rfl rfl rfl (eff_storeW (v := .t (encS s2)) (els := encL (L.set I (retry (at' L I)))) (els' := encL ((L.set I (retry (at' L I))).set I s2)) (el := .t (encS (at' (L.set I (retry (at' L I))) (I)))) rfl rfl ti32 rfl rfl rfl rfl rfl rfl (ael hLL.len (by omega)) rfl aset) ?_
  refine RD.nil ?_
  refine awj_seq ?_
  refine awj_rj rfl ?_
  refine RJ.op rfl rfl (eff_assign (v := .t _) rfl rfl rfl) ?_
  refine RJ.nil ?_
  refine awj_seq ?_
  refine awj_seq ?_
  refine awj_rj rfl ?_
  refine RJ.op rfl rfl (eff_assign (v := .t _) rfl rfl rfl) ?_
  refine RJ.nil ?_
  refine awj_block ?_
  refine awj_loopW (fun m s g => ∃ (k : Nat) (M : List Store) (ac : Bool), (k ≤ K) ∧ (M = (accN I b k ((L.set I (retry (at' L I))).set I s2)).1) ∧ (ac = (accN I b k ((L.set I (retry (at' L I))).set I s2)).2) ∧ m = K - k ∧ s = ⟨134, [(0, .ptr 0 gg 0 0), (3, .ptr 3 0 0 0), (5, .t (encI (I : Nat))), (6, .ptr 6 0 0 0), (10, .t (.bool ac)), (11, .t (encI (k : Nat)))], [(0, some ⟨4, 33, gg, encL M⟩), (3, some ⟨4, 44, 0, [.t (encF nd f1 f2 true)]⟩), (6, some ⟨8, 40, 0, [.t (encB b)]⟩)]⟩) (_) (⟨_, weak_keep (n := 134) (fr' := [(0, .ptr 0 gg 0 0), (3, .ptr 3 0 0 0), (5, .t (encI (I : Nat))), (6, .ptr 6 0 0 0), (10, .t (.bool _)), (11, .t (encI (0 : Nat)))]) (st' := [(0, some ⟨4, 33, gg, encL _⟩), (3, some ⟨4, 44, 0, [.t (encF nd f1 f2 true)]⟩), (6, some ⟨8, 40, 0, [.t (encB b)]⟩)]) ⟨rfl, rfl, rfl, rfl, rfl, rfl, rfl, rfl, rfl, rfl, rfl, rfl, trivial⟩ ⟨rfl, okE_t, rfl, okE_one rfl, rfl, okE_one rfl, trivial⟩, 0, _, _, (by omega), (by rfl), (by rfl), rfl, rfl⟩) ?_
  rintro m s g ⟨k, M, ac, hk, hM, hac, rfl, rfl⟩
  have hMI : LInv (n + 1 + k) M := by rw [hM]; exact (accN_inv hI3 hbb hL2 k).1
  refine awj_seq ?_
  refine awj_seq ?_
  refine awj_rj rfl ?_
  refine RJ.op rfl rfl (eff_move (v := .t _) rfl rfl rfl) ?_
  refine RJ.op rfl rfl (eff_fieldAddr rfl rfl tf44_1 (by decide) rfl rfl rfl (Nat.le_of_ble_eq_true rfl)) ?_
  refine RJ.op rfl rfl (eff_load (y := .t _) rfl rfl ti5 rfl (.one rfl rfl rfl rfl)) ?_
  refine RJ.op rfl rfl (eff_remE (r := (K : Int)) rfl rfl rfl rfl (by decide) (by rw [← hK]; exact tmod_pos hf1.1)) ?_
  refine RJ.op rfl rfl (eff_convIntE (m := (K : Int)) rfl rfl (by rw [tu5]; rfl) tu3 rfl (wrap64 (by omega) (by omega))) ?_
  refine RJ.op rfl rfl (eff_iop rfl rfl rfl rfl rfl) ?_
  refine RJ.nil ?_
  refine awj_cond rfl (fun h1 => ?_) (fun h1 => ?_)
  · try simp only [decide_eq_true_eq, decide_eq_false_iff_not, beq_iff_eq, bne_iff_ne, bne_eq_false_iff_eq, beq_eq_false_iff_ne, Bool.not_eq_true, Bool.not_eq_false, Bool.not_eq_true', Bool.not_eq_false', ne_eq] at h1
    refine awj_skip ?_
    refine awj_seq ?_
    refine awj_block ?_
    refine awj_seq ?_
    refine awj_rd [(some 72, []), (some 73, []), (some 74, []), (some 75, []), (some 76, []), (some 77, []), (some 78, []), (some 79, []), (some 71, []), (some 80, []), (some 81, []), (some 82, []), (some 12, [12]), (none, [12]), (some 13, []), (some 14, [])] [[], [], [1], [0], [0, 1, 2, 3], [0, 1, 2, 3, 4], [], [0, 1, 2, 3, 4, 5, 6], [0, 1, 2, 3, 4, 5, 6, 7], [0, 1, 2, 3, 4, 5, 6, 7, 8], [0, 1, 2, 3, 4, 5, 6, 7, 8], [0, 1, 2, 3, 4, 5, 6, 7, 8], [], [0, 1, 2, 3, 4, 5, 6, 7, 8, 9, 12], [0, 1, 2, 3, 4, 5, 6, 7, 8, 9, 10, 12, 13], [0, 1, 2, 3, 4, 5, 6, 7, 8, 9, 10, 11, 12, 13, 14]] tm rfl rfl rfl rfl ?_
    refine RD.op rfl rfl rfl (eff_move (v := .ptr _ _ _ _) rfl rfl rfl) ?_
    refine RD.op rfl rfl rfl (eff_move (v := .t _) rfl rfl rfl) ?_
    refine RD.op rfl rfl rfl (eff_iop rfl rfl rfl rfl (iadd (by omega))) ?_
    refine RD.op rfl rfl rfl (eff_nilCheck (v := .ptr _ _ _ _) rfl rfl rfl rfl (fun _ _ _ _ e => by cases e; exact ⟨_, rfl, rfl⟩)) ?_
    refine RD.op rfl rfl rfl (eff_indexAddrP (i := I + 1) rfl rfl tu33 ti32 rfl rfl (by first | rfl | omega) (by omega) rfl rfl rfl (alen hMI.len (by omega))) ?_
    refine RD.op rfl rfl rfl (eff_load (y := .t (encS (at' M (I + 1)))) rfl rfl ti32 rfl (.whole rfl rfl (ael hMI.len (by omega)) rfl rfl rfl)) ?_
    refine RD.op rfl rfl rfl (eff_load rfl rfl ti40 rfl (.whole rfl rfl rfl rfl rfl rfl)) ?_
    refine RD.op rfl rfl rfl (eff_callT (accept23_ret insC (at' M (I + 1)) b ((hMI.vi (I + 1) (by omega)).sok (by omega)) (by unfold BOK; omega) (hMI.vi (I + 1) (by omega)).ss) co14 rfl rfl rfl rfl) ?_
    refine RD.op rfl rfl rfl (eff_move (v := .t _) rfl rfl rfl) ?_
    refine RD.op rfl rfl rfl (eff_extract rfl rfl rfl rfl) ?_
    refine RD.op rfl rfl rfl (eff_extract rfl rfl rfl rfl) ?_
    refine RD.op rfl rfl rfl (eff_extract rfl rfl rfl rfl) ?_
    refine RD.new rfl rfl rfl (eff_allocK (k := 4) (id := 12) rfl rfl tz32 rfl rfl) ?_
    refine RD.store rfl rfl rfl (eff_storeW (v := .t _) (els := [_]) (els' := [_]) rfl rfl ti32 rfl rfl rfl rfl rfl rfl rfl rfl rfl) ?_
    refine RD.op rfl rfl rfl (eff_assign (v := .t _) rfl rfl rfl) ?_
    refine RD.op rfl rfl rfl (eff_assign (v := .t _) rfl rfl rfl) ?_
    refine RD.nil ?_
    refine awj_seq ?_
    refine awj_seq ?_
    refine awj_rj rfl ?_
    refine RJ.op rfl rfl (eff_move (v := .t _) rfl rfl rfl) ?_
    refine RJ.op rfl rfl (eff_iop rfl rfl rfl rfl rfl) ?_
    refine RJ.nil ?_
    refine awj_cond rfl (fun h2 => ?_) (fun h2 => ?_)
    · try simp only [decide_eq_true_eq, decide_eq_false_iff_not, beq_iff_eq, bne_iff_ne, bne_eq_false_iff_eq, beq_eq_false_iff_ne, Bool.not_eq_true, Bool.not_eq_false, Bool.not_eq_true', Bool.not_eq_false', ne_eq] at h2
      refine awj_rd [(some 85, []), (some 86, []), (some 87, []), (some 88, []), (some 89, []), (some 90, []), (none, [0])] [[], [], [1], [], [0], [0, 1, 2, 3, 4], [0, 1, 2, 3, 4, 5]] tm rfl rfl rfl rfl ?_
      refine RD.op rfl rfl rfl (eff_move (v := .ptr _ _ _ _) rfl rfl rfl) ?_
      refine RD.op rfl rfl rfl (eff_move (v := .t _) rfl rfl rfl) ?_
      refine RD.op rfl rfl rfl (eff_iop rfl rfl rfl rfl (iadd (by omega))) ?_
      refine RD.op rfl rfl rfl (eff_load rfl rfl ti32 rfl (.whole rfl rfl rfl rfl rfl rfl)) ?_
      refine RD.op rfl rfl rfl (eff_nilCheck (v := .ptr _ _ _ _) rfl rfl rfl rfl (fun _ _ _ _ e => by cases e; exact ⟨_, rfl, rfl⟩)) ?_
      refine RD.op rfl rfl rfl (eff_indexAddrP (i := I + 1) rfl rfl tu33 ti32 rfl rfl (by first | rfl | omega) (by omega) rfl rfl rfl (alen hMI.len (by omega))) ?_
      refine RD.store rfl rfl rfl (eff_storeW (v := .t (encS (accept (at' M (I + 1)) b).1)) (els := encL M) (els' := encL (M.set (I + 1) (accept (at' M (I + 1)) b).1)) (el := .t (encS (at' M (I + 1)))) rfl rfl ti32 rfl rfl rfl rfl rfl rfl (ael hMI.len (by omega)) rfl aset) ?_
      refine RD.nil ?_
      refine awj_rj rfl ?_
      refine RJ.op rfl rfl (eff_move (v := .t _) rfl rfl rfl) ?_
      refine RJ.op rfl rfl (eff_move (v := .t _) rfl rfl rfl) ?_
      refine RJ.split 92 rfl (fun h3 => ?_) (fun h3 => ?_)
      · try simp only [decide_eq_true_eq, decide_eq_false_iff_not, beq_iff_eq, bne_iff_ne, bne_eq_false_iff_eq, beq_eq_false_iff_ne, Bool.not_eq_true, Bool.not_eq_false, Bool.not_eq_true', Bool.not_eq_false', ne_eq] at h3
        refine RJ.gskip rfl rfl rfl rfl rfl (by decide) ?_
        refine RJ.op rfl rfl (eff_pick (v := .t _) rfl rfl rfl rfl) ?_
        refine RJ.op rfl rfl (eff_assign (v := .t _) rfl rfl rfl) ?_
        refine RJ.nil ?_
        refine awj_rj rfl ?_
        refine RJ.op rfl rfl (eff_move (v := .t _) rfl rfl rfl) ?_
        refine RJ.op rfl rfl (eff_iop rfl rfl rfl rfl (iadd (by omega))) ?_
        refine RJ.op rfl rfl (eff_assign (v := .t _) rfl rfl rfl) ?_
        refine RJ.nil ?_
        refine ⟨_, ?_, _, weak_keep (n := 134) (fr' := [(0, .ptr 0 gg 0 0), (3, .ptr 3 0 0 0), (5, .t (encI (I : Nat))), (6, .ptr 6 0 0 0), (10, .t (.bool _)), (11, .t (encI ((k + 1) : Nat)))]) (st' := [(0, some ⟨4, 33, gg, encL _⟩), (3, some ⟨4, 44, 0, [.t (encF nd f1 f2 true)]⟩), (6, some ⟨8, 40, 0, [.t (encB b)]⟩)]) ⟨rfl, rfl, rfl, rfl, rfl, rfl, rfl, rfl, rfl, rfl, rfl, rfl, trivial⟩ ⟨rfl, okE_t, rfl, okE_one rfl, rfl, okE_one rfl, trivial⟩, k + 1, _, _, (by omega), (by show _ = (if _ then _ else _); rw [← hM]; first | rw [if_pos (by assumption)] | rw [if_neg (by assumption)]), (by show _ = ((accN I b k ((L.set I (retry (at' L I))).set I s2)).2 || _); rw [← hac, ← hM]; first | (rw [(by assumption : ac = true)]; rfl) | (rw [(by assumption : ac = false)]; rfl)), rfl, rfl⟩
        omega
      · try simp only [decide_eq_true_eq, decide_eq_false_iff_not, beq_iff_eq, bne_iff_ne, bne_eq_false_iff_eq, beq_eq_false_iff_ne, Bool.not_eq_true, Bool.not_eq_false, Bool.not_eq_true', Bool.not_eq_false', ne_eq] at h3
        refine RJ.gop rfl rfl rfl rfl rfl rfl (eff_move (v := .t _) rfl rfl rfl) ?_
        refine RJ.op rfl rfl (eff_pick (v := .t _) rfl rfl rfl rfl) ?_
        refine RJ.op rfl rfl (eff_assign (v := .t _) rfl rfl rfl) ?_
        refine RJ.nil ?_
        refine awj_rj rfl ?_
        refine RJ.op rfl rfl (eff_move (v := .t _) rfl rfl rfl) ?_
        refine RJ.op rfl rfl (eff_iop rfl rfl rfl rfl (iadd (by omega))) ?_
        refine RJ.op rfl rfl (eff_assign (v := .t _) rfl rfl rfl) ?_
        refine RJ.nil ?_
        refine ⟨_, ?_, _, weak_keep (n := 134) (fr' := [(0, .ptr 0 gg 0 0), (3, .ptr 3 0 0 0), (5, .t (encI (I : Nat))), (6, .ptr 6 0 0 0), (10, .t (.bool _)), (11, .t (encI ((k + 1) : Nat)))]) (st' := [(0, some ⟨4, 33, gg, encL _⟩), (3, some ⟨4, 44, 0, [.t (encF nd f1 f2 true)]⟩), (6, some ⟨8, 40, 0, [.t (encB b)]⟩)]) ⟨rfl, rfl, rfl, rfl, rfl, rfl, rfl, rfl, rfl, rfl, rfl, rfl, trivial⟩ ⟨rfl, okE_t, rfl, okE_one rfl, rfl, okE_one rfl, trivial⟩, k + 1, _, _, (by omega), (by show _ = (if _ then _ else _); rw [← hM]; first | rw [if_pos (by assumption)] | rw [if_neg (by assumption)]), (by show _ = ((accN I b k ((L.set I (retry (at' L I))).set I s2)).2 || _); rw [← hac, ← hM]; first | (rw [(by assumption : ac = true)]; rfl) | (rw [(by assumption : ac = false)]; rfl)), rfl, rfl⟩
        omega
    · try simp only [decide_eq_true_eq, decide_eq_false_iff_not, beq_iff_eq, bne_iff_ne, bne_eq_false_iff_eq, beq_eq_false_iff_ne, Bool.not_eq_true, Bool.not_eq_false, Bool.not_eq_true', Bool.not_eq_false', ne_eq] at h2
      refine awj_skip ?_
      refine awj_rj rfl ?_
      refine RJ.op rfl rfl (eff_move (v := .t _) rfl rfl rfl) ?_
      refine RJ.op rfl rfl (eff_move (v := .t _) rfl rfl rfl) ?_
      refine RJ.split 92 rfl (fun h4 => ?_) (fun h4 => ?_)
      · try simp only [decide_eq_true_eq, decide_eq_false_iff_not, beq_iff_eq, bne_iff_ne, bne_eq_false_iff_eq, beq_eq_false_iff_ne, Bool.not_eq_true, Bool.not_eq_false, Bool.not_eq_true', Bool.not_eq_false', ne_eq] at h4
        refine RJ.gskip rfl rfl rfl rfl rfl (by decide) ?_
        refine RJ.op rfl rfl (eff_pick (v := .t _) rfl rfl rfl rfl) ?_
        refine RJ.op rfl rfl (eff_assign (v := .t _) rfl rfl rfl) ?_
        refine RJ.nil ?_
        refine awj_rj rfl ?_
        refine RJ.op rfl rfl (eff_move (v := .t _) rfl rfl rfl) ?_
        refine RJ.op rfl rfl (eff_iop rfl rfl rfl rfl (iadd (by omega))) ?_
        refine RJ.op rfl rfl (eff_assign (v := .t _) rfl rfl rfl) ?_
        refine RJ.nil ?_
        refine ⟨_, ?_, _, weak_keep (n := 134) (fr' := [(0, .ptr 0 gg 0 0), (3, .ptr 3 0 0 0), (5, .t (encI (I : Nat))), (6, .ptr 6 0 0 0), (10, .t (.bool _)), (11, .t (encI ((k + 1) : Nat)))]) (st' := [(0, some ⟨4, 33, gg, encL _⟩), (3, some ⟨4, 44, 0, [.t (encF nd f1 f2 true)]⟩), (6, some ⟨8, 40, 0, [.t (encB b)]⟩)]) ⟨rfl, rfl, rfl, rfl, rfl, rfl, rfl, rfl, rfl, rfl, rfl, rfl, trivial⟩ ⟨rfl, okE_t, rfl, okE_one rfl, rfl, okE_one rfl, trivial⟩, k + 1, _, _, (by omega), (by show _ = (if _ then _ else _); rw [← hM]; first | rw [if_pos (by assumption)] | rw [if_neg (by assumption)]), (by show _ = ((accN I b k ((L.set I (retry (at' L I))).set I s2)).2 || _); rw [← hac, ← hM]; first | (rw [(by assumption : ac = true)]; rfl) | (rw [(by assumption : ac = false)]; rfl)), rfl, rfl⟩
        omega
      · try simp only [decide_eq_true_eq, decide_eq_false_iff_not, beq_iff_eq, bne_iff_ne, bne_eq_false_iff_eq, beq_eq_false_iff_ne, Bool.not_eq_true, Bool.not_eq_false, Bool.not_eq_true', Bool.not_eq_false', ne_eq] at h4
        refine RJ.gop rfl rfl rfl rfl rfl rfl (eff_move (v := .t _) rfl rfl rfl) ?_
        refine RJ.op rfl rfl (eff_pick (v := .t _) rfl rfl rfl rfl) ?_
        refine RJ.op rfl rfl (eff_assign (v := .t _) rfl rfl rfl) ?_
        refine RJ.nil ?_
        refine awj_rj rfl ?_
        refine RJ.op rfl rfl (eff_move (v := .t _) rfl rfl rfl) ?_
        refine RJ.op rfl rfl (eff_iop rfl rfl rfl rfl (iadd (by omega))) ?_
        refine RJ.op rfl rfl (eff_assign (v := .t _) rfl rfl rfl) ?_
        refine RJ.nil ?_
        refine ⟨_, ?_, _, weak_keep (n := 134) (fr' := [(0, .ptr 0 gg 0 0), (3, .ptr 3 0 0 0), (5, .t (encI (I : Nat))), (6, .ptr 6 0 0 0), (10, .t (.bool _)), (11, .t (encI ((k + 1) : Nat)))]) (st' := [(0, some ⟨4, 33, gg, encL _⟩), (3, some ⟨4, 44, 0, [.t (encF nd f1 f2 true)]⟩), (6, some ⟨8, 40, 0, [.t (encB b)]⟩)]) ⟨rfl, rfl, rfl, rfl, rfl, rfl, rfl, rfl, rfl, rfl, rfl, rfl, trivial⟩ ⟨rfl, okE_t, rfl, okE_one rfl, rfl, okE_one rfl, trivial⟩, k + 1, _, _, (by omega), (by show _ = (if _ then _ else _); rw [← hM]; first | rw [if_pos (by assumption)] | rw [if_neg (by assumption)]), (by show _ = ((accN I b k ((L.set I (retry (at' L I))).set I s2)).2 || _); rw [← hac, ← hM]; first | (rw [(by assumption : ac = true)]; rfl) | (rw [(by assumption : ac = false)]; rfl)), rfl, rfl⟩
        omega
  · try simp only [decide_eq_true_eq, decide_eq_false_iff_not, beq_iff_eq, bne_iff_ne, bne_eq_false_iff_eq, beq_eq_false_iff_ne, Bool.not_eq_true, Bool.not_eq_false, Bool.not_eq_true', Bool.not_eq_false', ne_eq] at h1
    refine awj_exit ?_
    refine awj_seq ?_
    refine awj_seq ?_
    refine awj_rj rfl ?_
    have hk2 : K = k := by omega
    subst hk2
    rw [hA] at hac
    subst hac
    subst hM
    refine RJ.op rfl rfl (eff_assign (v := .t _) rfl rfl rfl) ?_
    refine RJ.nil ?_
    refine awj_block ?_
    refine awj_loopW (fun m s g => ∃ (c : Nat) (N : List Store), (c ≤ C) ∧ (N = (cfN I b.id c (accN I b K ((L.set I (retry (at' L I))).set I s2)).1)) ∧ m = C - c ∧ s = ⟨134, [(0, .ptr 0 gg 0 0), (3, .ptr 3 0 0 0), (5, .t (encI (I : Nat))), (6, .ptr 6 0 0 0), (10, .t (.bool true)), (15, .t (encI (c : Nat)))], [(0, some ⟨4, 33, gg, encL N⟩), (3, some ⟨4, 44, 0, [.t (encF nd f1 f2 true)]⟩), (6, some ⟨8, 40, 0, [.t (encB b)]⟩)]⟩) (_) (⟨_, weak_keep (n := 134) (fr' := [(0, .ptr 0 gg 0 0), (3, .ptr 3 0 0 0), (5, .t (encI (I : Nat))), (6, .ptr 6 0 0 0), (10, .t (.bool true)), (15, .t (encI (0 : Nat)))]) (st' := [(0, some ⟨4, 33, gg, encL _⟩), (3, some ⟨4, 44, 0, [.t (encF nd f1 f2 true)]⟩), (6, some ⟨8, 40, 0, [.t (encB b)]⟩)]) ⟨rfl, rfl, rfl, rfl, rfl, rfl, rfl, rfl, rfl, rfl, rfl, rfl, trivial⟩ ⟨rfl, okE_t, rfl, okE_one rfl, rfl, okE_one rfl, trivial⟩, 0, _, (by omega), (by rfl), rfl, rfl⟩) ?_
    rintro m s g ⟨c, N, hc, hN, rfl, rfl⟩
    obtain ⟨hNI, hfst⟩ := hcf c N hN
    refine awj_seq ?_
    refine awj_seq ?_
    refine awj_rj rfl ?_
    refine RJ.op rfl rfl (eff_move (v := .t _) rfl rfl rfl) ?_
    refine RJ.op rfl rfl (eff_fieldAddr rfl rfl tf44_2 (by decide) rfl rfl rfl (Nat.le_of_ble_eq_true rfl)) ?_
    refine RJ.op rfl rfl (eff_load (y := .t _) rfl rfl ti5 rfl (.one rfl rfl rfl rfl)) ?_
    refine RJ.op rfl rfl (eff_remE (r := (C : Int)) rfl rfl rfl rfl (by decide) (by rw [← hC]; exact tmod_pos hf2.1)) ?_
    refine RJ.op rfl rfl (eff_convIntE (m := (C : Int)) rfl rfl (by rw [tu5]; rfl) tu3 rfl (wrap64 (by omega) (by omega))) ?_
    refine RJ.op rfl rfl (eff_iop rfl rfl rfl rfl rfl) ?_
    refine RJ.op rfl rfl (eff_move (v := .t _) rfl rfl rfl) ?_
    refine RJ.split 101 rfl (fun h5 => ?_) (fun h5 => ?_)
    · try simp only [decide_eq_true_eq, decide_eq_false_iff_not, beq_iff_eq, bne_iff_ne, bne_eq_false_iff_eq, beq_eq_false_iff_ne, Bool.not_eq_true, Bool.not_eq_false, Bool.not_eq_true', Bool.not_eq_false', ne_eq] at h5
      refine RJ.gop rfl rfl rfl rfl rfl rfl (eff_move (v := .t _) rfl rfl rfl) ?_
      refine RJ.op rfl rfl (eff_pick (v := .t _) rfl rfl rfl rfl) ?_
      refine RJ.nil ?_
      refine awj_cond rfl (fun _ => ?_) (fun h => nomatch h)
      refine awj_skip ?_
      refine awj_seq ?_
      refine awj_block ?_
      refine awj_seq ?_
      refine awj_rd [(some 107, []), (some 108, []), (some 109, []), (some 110, []), (some 111, []), (some 112, []), (some 113, []), (some 114, []), (some 106, []), (some 115, []), (some 116, []), (some 16, [16]), (none, [16]), (some 17, [])] [[], [], [0], [0, 1, 2], [0, 1, 2, 3], [], [5], [0, 1, 2, 3, 4, 5, 6], [0, 1, 2, 3, 4, 5, 6, 7], [0, 1, 2, 3, 4, 5, 6, 7, 8], [0, 1, 2, 3, 4, 5, 6, 7, 8], [], [0, 1, 2, 3, 4, 5, 6, 7, 8, 9, 11], [0, 1, 2, 3, 4, 5, 6, 7, 8, 9, 10, 11, 12]] tm rfl rfl rfl rfl ?_
      refine RD.op rfl rfl rfl (eff_move (v := .ptr _ _ _ _) rfl rfl rfl) ?_
      refine RD.op rfl rfl rfl (eff_move (v := .t _) rfl rfl rfl) ?_
      refine RD.op rfl rfl rfl (eff_nilCheck (v := .ptr _ _ _ _) rfl rfl rfl rfl (fun _ _ _ _ e => by cases e; exact ⟨_, rfl, rfl⟩)) ?_
      refine RD.op rfl rfl rfl (eff_indexAddrP (i := I) rfl rfl tu33 ti32 rfl rfl (by first | rfl | omega) (by omega) rfl rfl rfl (alen hNI.len (by omega))) ?_
      refine RD.op rfl rfl rfl (eff_load (y := .t (encS (at' N (I)))) rfl rfl ti32 rfl (.whole rfl rfl (ael hNI.len (by omega)) rfl rfl rfl)) ?_
      refine RD.op rfl rfl rfl (eff_fieldAddr rfl rfl tf40_0 (by decide) rfl rfl rfl (Nat.le_of_ble_eq_true rfl)) ?_
      refine RD.op rfl rfl rfl (eff_load (y := .t _) rfl rfl ti3 rfl (.one rfl rfl rfl rfl)) ?_
      refine RD.op rfl rfl rfl (eff_callT (confirm24_ret (at' N I) b.id ((hNI.vi (I) (by omega)).sok (by omega)) (hNI.vi I (by omega)).ps) co17 rfl rfl rfl rfl) ?_
      refine RD.op rfl rfl rfl (eff_move (v := .t _) rfl rfl rfl) ?_
      refine RD.op rfl rfl rfl (eff_extract rfl rfl rfl rfl) ?_
      refine RD.op rfl rfl rfl (eff_extract rfl rfl rfl rfl) ?_
      refine RD.new rfl rfl rfl (eff_allocK (k := 4) (id := 16) rfl rfl tz32 rfl rfl) ?_
      refine RD.store rfl rfl rfl (eff_storeW (v := .t _) (els := [_]) (els' := [_]) rfl rfl ti32 rfl rfl rfl rfl rfl rfl rfl rfl rfl) ?_
      refine RD.op rfl rfl rfl (eff_assign (v := .t _) rfl rfl rfl) ?_
      refine RD.nil ?_
      refine awj_seq ?_
      refine awj_seq ?_
      refine awj_rj rfl ?_
      refine RJ.op rfl rfl (eff_move (v := .t _) rfl rfl rfl) ?_
      refine RJ.op rfl rfl (eff_iop rfl rfl rfl rfl rfl) ?_
      refine RJ.op rfl rfl (eff_move (v := .t _) rfl rfl rfl) ?_
      refine RJ.split 119 rfl (fun h6 => ?_) (fun h6 => ?_)
      · try simp only [decide_eq_true_eq, decide_eq_false_iff_not, beq_iff_eq, bne_iff_ne, bne_eq_false_iff_eq, beq_eq_false_iff_ne, Bool.not_eq_true, Bool.not_eq_false, Bool.not_eq_true', Bool.not_eq_false', ne_eq] at h6
        refine RJ.gop rfl rfl rfl rfl rfl rfl (eff_move (v := .t _) rfl rfl rfl) ?_
        refine RJ.gop rfl rfl rfl rfl rfl rfl (eff_iop rfl rfl rfl rfl rfl) ?_
        refine RJ.gop rfl rfl rfl rfl rfl rfl (eff_move (v := .t _) rfl rfl rfl) ?_
        refine RJ.split 122 rfl (fun h7 => ?_) (fun h7 => ?_)
        · try simp only [decide_eq_true_eq, decide_eq_false_iff_not, beq_iff_eq, bne_iff_ne, bne_eq_false_iff_eq, beq_eq_false_iff_ne, Bool.not_eq_true, Bool.not_eq_false, Bool.not_eq_true', Bool.not_eq_false', ne_eq] at h7
          refine RJ.gskip rfl rfl rfl rfl rfl (by decide) ?_
          refine RJ.gskip rfl rfl rfl rfl rfl (by decide) ?_
          refine RJ.gop rfl rfl rfl rfl rfl rfl (eff_pick (v := .t _) rfl rfl rfl rfl) ?_
          refine RJ.op rfl rfl (eff_pick (v := .t _) rfl rfl rfl rfl) ?_
          refine RJ.nil ?_
          refine awj_cond rfl (fun _ => ?_) (fun h => nomatch h)
          refine awj_seq ?_
          refine awj_rj rfl ?_
          refine RJ.op rfl rfl (eff_assign (v := .t _) rfl rfl rfl) ?_
          refine RJ.nil ?_
          refine awj_ret ?_
          first
            | (exfalso; omega)
            | (have hc2 : C = c := by omega
               subst hc2
               subst hN
               exact ⟨Or.inr rfl, [_], [.t (.bool true)], ⟨.tmp rfl, trivial⟩, rfl, weak_keep ⟨rfl, rfl, rfl, rfl, trivial⟩ ⟨rfl, okE_t, trivial⟩, rfl⟩)
        · try simp only [decide_eq_true_eq, decide_eq_false_iff_not, beq_iff_eq, bne_iff_ne, bne_eq_false_iff_eq, beq_eq_false_iff_ne, Bool.not_eq_true, Bool.not_eq_false, Bool.not_eq_true', Bool.not_eq_false', ne_eq] at h7
          refine RJ.gop rfl rfl rfl rfl rfl rfl (eff_move (v := .t _) rfl rfl rfl) ?_
          refine RJ.gop rfl rfl rfl rfl rfl rfl (eff_iop rfl rfl rfl rfl rfl) ?_
          refine RJ.gop rfl rfl rfl rfl rfl rfl (eff_pick (v := .t _) rfl rfl rfl rfl) ?_
          refine RJ.op rfl rfl (eff_pick (v := .t _) rfl rfl rfl rfl) ?_
          refine RJ.nil ?_
          refine awj_cond rfl (fun h8 => ?_) (fun h8 => ?_)
          · try simp only [decide_eq_true_eq, decide_eq_false_iff_not, beq_iff_eq, bne_iff_ne, bne_eq_false_iff_eq, beq_eq_false_iff_ne, Bool.not_eq_true, Bool.not_eq_false, Bool.not_eq_true', Bool.not_eq_false', ne_eq] at h8
            refine awj_seq ?_
            refine awj_rj rfl ?_
            refine RJ.op rfl rfl (eff_assign (v := .t _) rfl rfl rfl) ?_
            refine RJ.nil ?_
            refine awj_ret ?_
            first
              | (exfalso; omega)
              | (have hc2 : C = c := by omega
                 subst hc2
                 subst hN
                 exact ⟨Or.inr rfl, [_], [.t (.bool true)], ⟨.tmp rfl, trivial⟩, rfl, weak_keep ⟨rfl, rfl, rfl, rfl, trivial⟩ ⟨rfl, okE_t, trivial⟩, rfl⟩)
          · try simp only [decide_eq_true_eq, decide_eq_false_iff_not, beq_iff_eq, bne_iff_ne, bne_eq_false_iff_eq, beq_eq_false_iff_ne, Bool.not_eq_true, Bool.not_eq_false, Bool.not_eq_true', Bool.not_eq_false', ne_eq] at h8
            refine awj_skip ?_
            refine awj_seq ?_
            refine awj_rj rfl ?_
            refine RJ.op rfl rfl (eff_move (v := .t _) rfl rfl rfl) ?_
            refine RJ.op rfl rfl (eff_iop rfl rfl rfl rfl rfl) ?_
            refine RJ.nil ?_
            refine awj_cond rfl (fun h9 => ?_) (fun h9 => ?_)
            · try simp only [decide_eq_true_eq, decide_eq_false_iff_not, beq_iff_eq, bne_iff_ne, bne_eq_false_iff_eq, beq_eq_false_iff_ne, Bool.not_eq_true, Bool.not_eq_false, Bool.not_eq_true', Bool.not_eq_false', ne_eq] at h9
              refine awj_rd [(some 129, []), (some 130, []), (some 131, []), (some 132, []), (some 133, []), (none, [0])] [[], [], [], [0], [0, 1, 2, 3], [0, 1, 2, 3, 4]] tm rfl rfl rfl rfl ?_
              refine RD.op rfl rfl rfl (eff_move (v := .ptr _ _ _ _) rfl rfl rfl) ?_
              refine RD.op rfl rfl rfl (eff_move (v := .t _) rfl rfl rfl) ?_
              refine RD.op rfl rfl rfl (eff_load rfl rfl ti32 rfl (.whole rfl rfl rfl rfl rfl rfl)) ?_
              refine RD.op rfl rfl rfl (eff_nilCheck (v := .ptr _ _ _ _) rfl rfl rfl rfl (fun _ _ _ _ e => by cases e; exact ⟨_, rfl, rfl⟩)) ?_
              refine RD.op rfl rfl rfl (eff_indexAddrP (i := I) rfl rfl tu33 ti32 rfl rfl (by first | rfl | omega) (by omega) rfl rfl rfl (alen hNI.len (by omega))) ?_
              refine RD.store rfl rfl rfl (eff_storeW (v := .t (encS (confirm (at' N I) b.id).1)) (els := encL N) (els' := encL (N.set I (confirm (at' N I) b.id).1)) (el := .t (encS (at' N (I)))) rfl rfl ti32 rfl rfl rfl rfl rfl rfl (ael hNI.len (by omega)) rfl aset) ?_
              refine RD.nil ?_
              refine awj_rj rfl ?_
              refine RJ.op rfl rfl (eff_move (v := .t _) rfl rfl rfl) ?_
              refine RJ.op rfl rfl (eff_iop rfl rfl rfl rfl (iadd (by omega))) ?_
              refine RJ.op rfl rfl (eff_assign (v := .t _) rfl rfl rfl) ?_
              refine RJ.nil ?_
              refine ⟨_, ?_, _, weak_keep (n := 134) (fr' := [(0, .ptr 0 gg 0 0), (3, .ptr 3 0 0 0), (5, .t (encI (I : Nat))), (6, .ptr 6 0 0 0), (10, .t (.bool true)), (15, .t (encI ((c + 1) : Nat)))]) (st' := [(0, some ⟨4, 33, gg, encL _⟩), (3, some ⟨4, 44, 0, [.t (encF nd f1 f2 true)]⟩), (6, some ⟨8, 40, 0, [.t (encB b)]⟩)]) ⟨rfl, rfl, rfl, rfl, rfl, rfl, rfl, rfl, rfl, rfl, rfl, rfl, trivial⟩ ⟨rfl, okE_t, rfl, okE_one rfl, rfl, okE_one rfl, trivial⟩, c + 1, _, (by omega), (by first | contradiction | (show _ = (if _ then _ else _); rw [← hN]; first | rw [if_pos (by assumption)] | rw [if_neg (by assumption)])), rfl, rfl⟩
              omega
            · try simp only [decide_eq_true_eq, decide_eq_false_iff_not, beq_iff_eq, bne_iff_ne, bne_eq_false_iff_eq, beq_eq_false_iff_ne, Bool.not_eq_true, Bool.not_eq_false, Bool.not_eq_true', Bool.not_eq_false', ne_eq] at h9
              refine awj_skip ?_
              refine awj_rj rfl ?_
              refine RJ.op rfl rfl (eff_move (v := .t _) rfl rfl rfl) ?_
              refine RJ.op rfl rfl (eff_iop rfl rfl rfl rfl (iadd (by omega))) ?_
              refine RJ.op rfl rfl (eff_assign (v := .t _) rfl rfl rfl) ?_
              refine RJ.nil ?_
              refine ⟨_, ?_, _, weak_keep (n := 134) (fr' := [(0, .ptr 0 gg 0 0), (3, .ptr 3 0 0 0), (5, .t (encI (I : Nat))), (6, .ptr 6 0 0 0), (10, .t (.bool true)), (15, .t (encI ((c + 1) : Nat)))]) (st' := [(0, some ⟨4, 33, gg, encL _⟩), (3, some ⟨4, 44, 0, [.t (encF nd f1 f2 true)]⟩), (6, some ⟨8, 40, 0, [.t (encB b)]⟩)]) ⟨rfl, rfl, rfl, rfl, rfl, rfl, rfl, rfl, rfl, rfl, rfl, rfl, trivial⟩ ⟨rfl, okE_t, rfl, okE_one rfl, rfl, okE_one rfl, trivial⟩, c + 1, _, (by omega), (by first | contradiction | (show _ = (if _ then _ else _); rw [← hN]; first | rw [if_pos (by assumption)] | rw [if_neg (by assumption)])), rfl, rfl⟩
              omega
      · try simp only [decide_eq_true_eq, decide_eq_false_iff_not, beq_iff_eq, bne_iff_ne, bne_eq_false_iff_eq, beq_eq_false_iff_ne, Bool.not_eq_true, Bool.not_eq_false, Bool.not_eq_true', Bool.not_eq_false', ne_eq] at h6
        refine RJ.gskip rfl rfl rfl rfl rfl (by decide) ?_
        refine RJ.gskip rfl rfl rfl rfl rfl (by decide) ?_
        refine RJ.gskip rfl rfl rfl rfl rfl (by decide) ?_
        refine RJ.gundef rfl rfl rfl rfl rfl ?_
        refine RJ.gundef rfl rfl rfl rfl rfl ?_
        refine RJ.gskip rfl rfl rfl rfl rfl (by decide) ?_
        refine RJ.op rfl rfl (eff_pick (v := .t _) rfl rfl rfl rfl) ?_
        refine RJ.nil ?_
        refine awj_cond rfl (fun h => nomatch h) (fun _ => ?_)
        refine awj_skip ?_
        refine awj_seq ?_
        refine awj_rj rfl ?_
        refine RJ.op rfl rfl (eff_move (v := .t _) rfl rfl rfl) ?_
        refine RJ.op rfl rfl (eff_iop rfl rfl rfl rfl rfl) ?_
        refine RJ.nil ?_
        refine awj_cond rfl (fun h10 => ?_) (fun h10 => ?_)
        · try simp only [decide_eq_true_eq, decide_eq_false_iff_not, beq_iff_eq, bne_iff_ne, bne_eq_false_iff_eq, beq_eq_false_iff_ne, Bool.not_eq_true, Bool.not_eq_false, Bool.not_eq_true', Bool.not_eq_false', ne_eq] at h10
          refine awj_rd [(some 129, []), (some 130, []), (some 131, []), (some 132, []), (some 133, []), (none, [0])] [[], [], [], [0], [0, 1, 2, 3], [0, 1, 2, 3, 4]] tm rfl rfl rfl rfl ?_
          refine RD.op rfl rfl rfl (eff_move (v := .ptr _ _ _ _) rfl rfl rfl) ?_
          refine RD.op rfl rfl rfl (eff_move (v := .t _) rfl rfl rfl) ?_
          refine RD.op rfl rfl rfl (eff_load rfl rfl ti32 rfl (.whole rfl rfl rfl rfl rfl rfl)) ?_
          refine RD.op rfl rfl rfl (eff_nilCheck (v := .ptr _ _ _ _) rfl rfl rfl rfl (fun _ _ _ _ e => by cases e; exact ⟨_, rfl, rfl⟩)) ?_
          refine RD.op rfl rfl rfl (eff_indexAddrP (i := I) rfl rfl tu33 ti32 rfl rfl (by first | rfl | omega) (by omega) rfl rfl rfl (alen hNI.len (by omega))) ?_
          refine RD.store rfl rfl rfl (eff_storeW (v := .t (encS (confirm (at' N I) b.id).1)) (els := encL N) (els' := encL (N.set I (confirm (at' N I) b.id).1)) (el := .t (encS (at' N (I)))) rfl rfl ti32 rfl rfl rfl rfl rfl rfl (ael hNI.len (by omega)) rfl aset) ?_
          refine RD.nil ?_
          refine awj_rj rfl ?_
          refine RJ.op rfl rfl (eff_move (v := .t _) rfl rfl rfl) ?_
          refine RJ.op rfl rfl (eff_iop rfl rfl rfl rfl (iadd (by omega))) ?_
          refine RJ.op rfl rfl (eff_assign (v := .t _) rfl rfl rfl) ?_
          refine RJ.nil ?_
          refine ⟨_, ?_, _, weak_keep (n := 134) (fr' := [(0, .ptr 0 gg 0 0), (3, .ptr 3 0 0 0), (5, .t (encI (I : Nat))), (6, .ptr 6 0 0 0), (10, .t (.bool true)), (15, .t (encI ((c + 1) : Nat)))]) (st' := [(0, some ⟨4, 33, gg, encL _⟩), (3, some ⟨4, 44, 0, [.t (encF nd f1 f2 true)]⟩), (6, some ⟨8, 40, 0, [.t (encB b)]⟩)]) ⟨rfl, rfl, rfl, rfl, rfl, rfl, rfl, rfl, rfl, rfl, rfl, rfl, trivial⟩ ⟨rfl, okE_t, rfl, okE_one rfl, rfl, okE_one rfl, trivial⟩, c + 1, _, (by omega), (by first | contradiction | (show _ = (if _ then _ else _); rw [← hN]; first | rw [if_pos (by assumption)] | rw [if_neg (by assumption)])), rfl, rfl⟩
          omega
        · try simp only [decide_eq_true_eq, decide_eq_false_iff_not, beq_iff_eq, bne_iff_ne, bne_eq_false_iff_eq, beq_eq_false_iff_ne, Bool.not_eq_true, Bool.not_eq_false, Bool.not_eq_true', Bool.not_eq_false', ne_eq] at h10
          refine awj_skip ?_
          refine awj_rj rfl ?_
          refine RJ.op rfl rfl (eff_move (v := .t _) rfl rfl rfl) ?_
          refine RJ.op rfl rfl (eff_iop rfl rfl rfl rfl (iadd (by omega))) ?_
          refine RJ.op rfl rfl (eff_assign (v := .t _) rfl rfl rfl) ?_
          refine RJ.nil ?_
          refine ⟨_, ?_, _, weak_keep (n := 134) (fr' := [(0, .ptr 0 gg 0 0), (3, .ptr 3 0 0 0), (5, .t (encI (I : Nat))), (6, .ptr 6 0 0 0), (10, .t (.bool true)), (15, .t (encI ((c + 1) : Nat)))]) (st' := [(0, some ⟨4, 33, gg, encL _⟩), (3, some ⟨4, 44, 0, [.t (encF nd f1 f2 true)]⟩), (6, some ⟨8, 40, 0, [.t (encB b)]⟩)]) ⟨rfl, rfl, rfl, rfl, rfl, rfl, rfl, rfl, rfl, rfl, rfl, rfl, trivial⟩ ⟨rfl, okE_t, rfl, okE_one rfl, rfl, okE_one rfl, trivial⟩, c + 1, _, (by omega), (by first | contradiction | (show _ = (if _ then _ else _); rw [← hN]; first | rw [if_pos (by assumption)] | rw [if_neg (by assumption)])), rfl, rfl⟩
          omega
    · try simp only [decide_eq_true_eq, decide_eq_false_iff_not, beq_iff_eq, bne_iff_ne, bne_eq_false_iff_eq, beq_eq_false_iff_ne, Bool.not_eq_true, Bool.not_eq_false, Bool.not_eq_true', Bool.not_eq_false', ne_eq] at h5
      refine RJ.gskip rfl rfl rfl rfl rfl (by decide) ?_
      refine RJ.op rfl rfl (eff_pick (v := .t _) rfl rfl rfl rfl) ?_
      refine RJ.nil ?_
      refine awj_cond rfl (fun h => nomatch h) (fun _ => ?_)
      refine awj_exit ?_
      refine awj_seq ?_
      refine awj_rj rfl ?_
      refine RJ.op rfl rfl (eff_assign (v := .t _) rfl rfl rfl) ?_
      refine RJ.nil ?_
      refine awj_ret ?_
      first
        | (exfalso; omega)
        | (have hc2 : C = c := by omega
           subst hc2
           subst hN
           exact ⟨Or.inr rfl, [_], [.t (.bool true)], ⟨.tmp rfl, trivial⟩, rfl, weak_keep ⟨rfl, rfl, rfl, rfl, trivial⟩ ⟨rfl, okE_t, trivial⟩, rfl⟩)

end Go.Tv.D27

end
section
open Go Go.Tv Go.Proofs
namespace Go.Tv.D27

theorem event_ret (gg n : Nat) (hn : n ≤ 1000) (L : List Store) (hL : LInv n L) (nd f1 f2 : Int) (hnd : 0 ≤ nd ∧ nd < 256) (hf1 : 0 ≤ f1 ∧ f1 < 256) (hf2 : 0 ≤ f2 ∧ f2 < 256) (r : Bool)
    (I K C : Nat) (hI : nd % 3 = (I : Int)) (hI3 : I < 3) (hK : f1 % 3 = (K : Int)) (hC : f2 % 3 = (C : Int)) :
    RetK Tryd.prog 7 [(0, some ⟨4, 33, gg, encL L⟩)] [.ptr 0 gg 0 0, .t (encF nd f1 f2 r)] [(0, some ⟨4, 33, gg, encL (evt L I r K C)⟩)] (.t (.bool true)) [(0, .ptr 0 gg 0 0)] := by
  have hLL := evR_inv hL hI3 r
  have main : ∀ LL, LL = evR L I r → LInv n LL →
      (∀ bx, offer (at' LL I) 1000 = (bx, false) → RetK Tryd.prog 7 [(0, some ⟨4, 33, gg, encL L⟩)] [.ptr 0 gg 0 0, .t (encF nd f1 f2 r)] [(0, some ⟨4, 33, gg, encL LL⟩)] (.t (.bool true)) [(0, .ptr 0 gg 0 0)]) →
      (∀ (b : Bundle) (hbb : Bytes b.data) (hbl : b.data.length ≤ 256) (ho : offer (at' LL I) 1000 = (b, true)) (s2 : Store) (hp : pass (at' LL I) b.id = (s2, 0)) (hL2 : LInv (n + 1) (LL.set I s2))
        (hA : (accN I b K (LL.set I s2)).2 = false),
        RetK Tryd.prog 7 [(0, some ⟨4, 33, gg, encL L⟩)] [.ptr 0 gg 0 0, .t (encF nd f1 f2 r)] [(0, some ⟨4, 33, gg, encL (accN I b K (LL.set I s2)).1⟩)] (.t (.bool true)) [(0, .ptr 0 gg 0 0)]) →
      (∀ (b : Bundle) (hbb : Bytes b.data) (hbl : b.data.length ≤ 256) (ho : offer (at' LL I) 1000 = (b, true)) (s2 : Store) (hp : pass (at' LL I) b.id = (s2, 0)) (hL2 : LInv (n + 1) (LL.set I s2))
        (hA : (accN I b K (LL.set I s2)).2 = true)
        (hcf : ∀ c N, N = cfN I b.id c (accN I b K (LL.set I s2)).1 → LInv (n + 1 + K) N ∧ ((confirm (at' N I) b.id).2 = 0 ∨ ((confirm (at' N I) b.id).2 = 3 ∧ c ≠ 0))),
        RetK Tryd.prog 7 [(0, some ⟨4, 33, gg, encL L⟩)] [.ptr 0 gg 0 0, .t (encF nd f1 f2 r)] [(0, some ⟨4, 33, gg, encL (cfN I b.id C (accN I b K (LL.set I s2)).1)⟩)] (.t (.bool true)) [(0, .ptr 0 gg 0 0)]) →
      RetK Tryd.prog 7 [(0, some ⟨4, 33, gg, encL L⟩)] [.ptr 0 gg 0 0, .t (encF nd f1 f2 r)] [(0, some ⟨4, 33, gg, encL (evt L I r K C)⟩)] (.t (.bool true)) [(0, .ptr 0 gg 0 0)] := by
    intro LL hLe hLL h0 h1 h2
    unfold evt
    rw [← hLe]
    cases ho : (offer (at' LL I) 1000).2 with
    | false =>
      rw [if_neg (by simp)]
      exact h0 _ (by rw [← ho])
    | true =>
      rw [if_pos rfl]
      have hV := hLL.vi I (by omega)
      obtain ⟨hb, hpn⟩ := offer_in ho
      obtain ⟨g1, g2, g3⟩ := hV.bs _ hb
      have hid : (offer (at' LL I) 1000).1.id ∈ ids (at' LL I) := List.mem_map.2 ⟨_, hb, rfl⟩
      obtain ⟨t, ht, hte, hVt⟩ := pass_ok hV hid hpn
      have ho2 : offer (at' LL I) 1000 = ((offer (at' LL I) 1000).1, true) := by rw [← ho]
      generalize (offer (at' LL I) 1000).1 = b at *
      have hL2 : LInv (n + 1) (LL.set I t) := hLL.same (by omega) hVt (by omega) (by rw [hte]) (by rw [hte])
      obtain ⟨a1, a2, a3⟩ := accN_inv hI3 g2 hL2 K
      unfold evB
      rw [ht]
      cases hA : (accN I b K (LL.set I t)).2 with
      | false =>
        rw [if_neg (by simp [hA])]
        exact h1 b g2 g1 ho2 t ht hL2 hA
      | true =>
        rw [if_pos rfl]
        refine h2 b g2 g1 ho2 t ht hL2 hA ?_
        obtain ⟨j, j1, j2, j3⟩ := a1.fl (I + 1) b.id (by omega) (a2 hA)
        rintro c N rfl
        have hN := (cfN_inv hI3 a1 ⟨j, by omega, j2, j3⟩ c).1
        refine ⟨hN, ?_⟩
        rcases confirm_ends (hN.vi I (by omega)) b.id with ⟨hni, hc⟩ | ⟨V, hc, _⟩
        · refine .inr ⟨by rw [hc], ?_⟩
          rintro rfl
          apply hni
          show b.id ∈ ids (at' (accN I b K (LL.set I t)).1 I)
          rw [a3, at_set hLL.len (by omega), if_pos rfl, hte]
          exact hid
        · exact .inl (by rw [hc])
  cases r with
  | false =>
    exact main L rfl hL (fun bx ho => eventN0 gg n hn L hL nd f1 f2 hnd hf1 hf2 I K C hI hI3 hK hC hL bx ho)
      (fun b hbb hbl ho s2 hp hL2 hA => eventN1 gg n hn L hL nd f1 f2 hnd hf1 hf2 I K C hI hI3 hK hC hL b hbb hbl ho s2 hp hL2 hA)
      (fun b hbb hbl ho s2 hp hL2 hA hcf => eventN2 gg n hn L hL nd f1 f2 hnd hf1 hf2 I K C hI hI3 hK hC hL b hbb hbl ho s2 hp hL2 hA hcf)
  | true =>
    exact main (L.set I (retry (at' L I))) rfl hLL (fun bx ho => eventR0 gg n hn L hL nd f1 f2 hnd hf1 hf2 I K C hI hI3 hK hC hLL bx ho)
      (fun b hbb hbl ho s2 hp hL2 hA => eventR1 gg n hn L hL nd f1 f2 hnd hf1 hf2 I K C hI hI3 hK hC hLL b hbb hbl ho s2 hp hL2 hA)
      (fun b hbb hbl ho s2 hp hL2 hA hcf => eventR2 gg n hn L hL nd f1 f2 hnd hf1 hf2 I K C hI hI3 hK hC hLL b hbb hbl ho s2 hp hL2 hA hcf)

end Go.Tv.D27

end
section
open Go Go.Tv Go.Proofs
namespace Go.Tv.D27

def Sees (L M : List Store) : Prop := ∀ j c, j < 4 → c ∈ (at' L j).seen → c ∈ (at' M j).seen

theorem Sees.refl (L : List Store) : Sees L L := fun _ _ _ h => h
theorem Sees.trans {L M N : List Store} (h : Sees L M) (k : Sees M N) : Sees L N := fun j c hj hc => k j c hj (h j c hj hc)

theorem sees_set {L : List Store} {i : Nat} {t : Store} (hL : L.length = 4) (hi : i < 4) (h : ∀ c, c ∈ (at' L i).seen → c ∈ t.seen) : Sees L (L.set i t) := by
  intro j c hj hc
  rw [at_set hL hi]
  split
  · rename_i e; subst e; exact h c hc
  · exact hc

theorem accept_seen {n : Nat} {s : Store} {b : Bundle} (h : VInv n s) (hb : Bytes b.data) (he : (accept s b).2.2 = 0) (c : Int) (hc : c ∈ s.seen) : c ∈ (accept s b).1.seen := by
  rw [accept_eq] at he ⊢
  split
  · exact hc
  · rename_i h1
    rw [if_neg h1] at he
    simp only
    rw [(inv_create h hb he).2.1]
    exact ins_mem.2 (.inr hc)

theorem accN_sees {I : Nat} {b : Bundle} (hI : I < 3) (hb : Bytes b.data) {n : Nat} {L : List Store} (h : LInv n L) : ∀ k, Sees L (accN I b k L).1
  | 0 => Sees.refl _
  | k + 1 => by
    obtain ⟨h1, _, _⟩ := accN_inv hI hb h k
    refine (accN_sees hI hb h k).trans ?_
    rw [show (accN I b (k + 1) L).1 = if (accept (at' (accN I b k L).1 (I + 1)) b).2.2 = 0 then (accN I b k L).1.set (I + 1) (accept (at' (accN I b k L).1 (I + 1)) b).1 else (accN I b k L).1 from rfl]
    split
    · rename_i he
      exact sees_set h1.len (by omega) (fun c hc => accept_seen (h1.vi (I + 1) (by omega)) hb he c hc)
    · exact Sees.refl _

theorem cfN_sees {I : Nat} {c : Int} (hI : I < 3) {n : Nat} {L : List Store} (h : LInv n L) (hfw : ∃ j, I < j ∧ j < 4 ∧ c ∈ ids (at' L j)) : ∀ k, Sees L (cfN I c k L)
  | 0 => Sees.refl _
  | k + 1 => by
    obtain ⟨h1, _⟩ := cfN_inv hI h hfw k
    refine (cfN_sees hI h hfw k).trans ?_
    rw [show cfN I c (k + 1) L = if (confirm (at' (cfN I c k L) I) c).2 = 0 then (cfN I c k L).set I (confirm (at' (cfN I c k L) I) c).1 else cfN I c k L from rfl]
    split
    · rename_i he
      refine sees_set h1.len (by omega) (fun d hd => ?_)
      rw [(inv_confirm (h1.vi I (by omega)) he).2.1]; exact hd
    · exact Sees.refl _

theorem evt_sees {n I : Nat} {L : List Store} (h : LInv n L) (hI : I < 3) (r : Bool) (k m : Nat) : Sees L (evt L I r k m) := by
  have h1 := evR_inv h hI r
  have hr : Sees L (evR L I r) := by
    unfold evR
    split
    · exact sees_set h.len (by omega) (fun c hc => hc)
    · exact Sees.refl _
  refine hr.trans ?_
  unfold evt
  split
  · rename_i ho
    obtain ⟨hb, hp⟩ := offer_in ho
    have hV := h1.vi I (by omega)
    obtain ⟨t, ht, hte, hVt⟩ := pass_ok hV (List.mem_map.2 ⟨_, hb, rfl⟩) hp
    have h2 : LInv (n + 1) ((evR L I r).set I (pass (at' (evR L I r) I) (offer (at' (evR L I r) I) 1000).1.id).1) := by
      rw [ht]; exact h1.same (by omega) hVt (by omega) (by rw [hte]) (by rw [hte])
    have s1 : Sees (evR L I r) ((evR L I r).set I (pass (at' (evR L I r) I) (offer (at' (evR L I r) I) 1000).1.id).1) :=
      sees_set h1.len (by omega) (fun c hc => by rw [ht, hte]; exact hc)
    have hby := (hV.bs _ hb).2.1
    obtain ⟨a1, a2, a3⟩ := accN_inv hI hby h2 k
    have s2 := s1.trans (accN_sees hI hby h2 k)
    unfold evB
    split
    · rename_i hacc
      obtain ⟨j, j1, j2, j3⟩ := a1.fl (I + 1) _ (by omega) (a2 hacc)
      exact s2.trans (cfN_sees hI a1 ⟨j, by omega, j2, j3⟩ m)
    · exact s2
  · exact Sees.refl _

abbrev encFt (f : Fate) : Tr := encF f.node f.offers f.confirms f.retr
def FateOK (f : Fate) : Prop := (0 ≤ f.node ∧ f.node < 256) ∧ (0 ≤ f.offers ∧ f.offers < 256) ∧ (0 ≤ f.confirms ∧ f.confirms < 256)
def evF (L : List Store) (f : Fate) : List Store := evt L (f.node % 3).toNat f.retr (f.offers % 3).toNat (f.confirms % 3).toNat

theorem evF_inv {n : Nat} {L : List Store} (h : LInv n L) (f : Fate) : LInv (n + 3) (evF L f) ∧ Sees L (evF L f) := by
  have hI : (f.node % 3).toNat < 3 := by omega
  exact ⟨(evt_inv h hI f.retr _ _).mono (by omega), evt_sees h hI _ _ _⟩

theorem event_fate (n : Nat) (hn : n ≤ 1000) (L : List Store) (hL : LInv n L) (f : Fate) (hf : FateOK f) :
    RetK Tryd.prog 7 [(0, some ⟨4, 33, 0, encL L⟩)] [.ptr 0 0 0 0, .t (encFt f)] [(0, some ⟨4, 33, 0, encL (evF L f)⟩)] (.t (.bool true)) [(0, .ptr 0 0 0 0)] :=
  event_ret 0 n hn L hL f.node f.offers f.confirms hf.1 hf.2.1 hf.2.2 f.retr _ _ _ (by omega) (by omega) (by omega) (by omega)

/-- The line at the start. -/
def Lz (q : Int) : List Store := [⟨q, [], [], []⟩, ⟨q, [], [], []⟩, ⟨q, [], [], []⟩, ⟨q, [], [], []⟩]
/-- .. while its quotas are being set. -/
def LQ (q : Int) (i : Nat) : List Store := List.replicate i ⟨q, [], [], []⟩ ++ List.replicate (4 - i) ⟨0, [], [], []⟩

theorem LQ_step {q : Int} {i : Nat} (hi : i < 4) : (LQ q i).set i ⟨q, [], [], []⟩ = LQ q (i + 1) := by
  rcases (by omega : i = 0 ∨ i = 1 ∨ i = 2 ∨ i = 3) with rfl | rfl | rfl | rfl <;> rfl
theorem LQ_at {q : Int} {i : Nat} (hi : i < 4) : at' (LQ q i) i = ⟨0, [], [], []⟩ := by
  rcases (by omega : i = 0 ∨ i = 1 ∨ i = 2 ∨ i = 3) with rfl | rfl | rfl | rfl <;> rfl
theorem LQ_len {q : Int} {i : Nat} (hi : i ≤ 4) : (LQ q i).length = 4 := by unfold LQ; simp; omega

theorem Lz_inv {q : Int} (h0 : 0 ≤ q) (h1 : q ≤ 2147483647) : LInv 0 (Lz q) := by
  have hat : ∀ j, j < 4 → at' (Lz q) j = ⟨q, [], [], []⟩ := by
    intro j hj
    rcases (by omega : j = 0 ∨ j = 1 ∨ j = 2 ∨ j = 3) with rfl | rfl | rfl | rfl <;> rfl
  refine ⟨rfl, fun j hj => ?_, fun j c hj hc => ?_⟩
  · rw [hat j hj]; exact VInv.empty q h0 h1
  · rw [hat j hj] at hc; simp at hc

/-- A bundle is created at the first node. -/
theorem LInv.crea {n : Nat} {L : List Store} {b : Bundle} (h : LInv n L) (hb : Bytes b.data) (he : (create (at' L 0) b).2 = 0) :
    LInv (n + 1) (L.set 0 (create (at' L 0) b).1) ∧ Sees L (L.set 0 (create (at' L 0) b).1) ∧ b.id ∈ (at' (L.set 0 (create (at' L 0) b).1) 0).seen := by
  obtain ⟨g1, g2, g3⟩ := inv_create (h.vi 0 (by omega)) hb he
  refine ⟨h.upd (by omega) g1 (by omega) (fun c hc => ?_) (fun c hc hn => ?_), ?_, ?_⟩
  · rw [g2] at hc ⊢
    rcases ins_mem.1 hc with rfl | hc
    · exact .inl (by unfold ids; simp)
    · refine (h.seen_at (by omega) hc).imp (fun hh => ?_) (fun hh => hh)
      unfold ids at hh ⊢
      rw [List.map_append]; exact List.mem_append_left _ hh
  · refine absurd ?_ hn
    rw [g2]
    unfold ids at hc ⊢
    rw [List.map_append]; exact List.mem_append_left _ hc
  · exact sees_set h.len (by omega) (fun c hc => by rw [g2]; exact ins_mem.2 (.inr hc))
  · rw [at_set h.len (by omega), if_pos rfl, g2]; exact ins_mem.2 (.inl rfl)

end Go.Tv.D27

end
section
open Go Go.Tv Go.Proofs
namespace Go.Tv.D27

theorem used_le : ∀ {l U : List Bundle}, (l.map (·.id)).Nodup → (∀ x, x ∈ l → x ∈ U) → used l ≤ used U ∧ l.length ≤ U.length
  | [], U, _, _ => by
    have : ∀ U : List Bundle, 0 ≤ used U := by
      intro U
      induction U with
      | nil => simp [used]
      | cons b U ih => simp only [used, size]; omega
    exact ⟨by simpa [used] using this U, by simp⟩
  | x :: l, U, hn, hs => by
    obtain ⟨s, t, rfl⟩ := List.append_of_mem (hs x List.mem_cons_self)
    obtain ⟨h1, h2⟩ := List.nodup_cons.1 (show (x.id :: l.map (·.id)).Nodup from hn)
    obtain ⟨g1, g2⟩ := used_le (l := l) (U := s ++ t) h2 (fun y hy => by
      have := hs y (List.mem_cons_of_mem _ hy)
      rw [List.mem_append, List.mem_cons] at this
      rcases this with h | h | h
      · exact List.mem_append_left _ h
      · subst h; exact absurd (List.mem_map.2 ⟨_, hy, rfl⟩) h1
      · exact List.mem_append_right _ h)
    rw [used_append] at g1 ⊢
    simp only [used, List.length_append, List.length_cons] at g1 g2 ⊢
    omega

/-- The bundles that there are. -/
structure Univ (U : List Bundle) : Prop where
  nd : (U.map (·.id)).Nodup
  len : U.length ≤ 64
  usd : used U ≤ 10000
  ok : ∀ b, b ∈ U → b.data.length ≤ 256 ∧ Bytes b.data

structure QInv (U : List Bundle) (n : Nat) (L : List Store) : Prop where
  l : LInv n L
  qu : ∀ j, j < 4 → (at' L j).quota = 10000
  bu : ∀ j b, j < 4 → b ∈ (at' L j).bundles → b ∈ U

theorem create_ok {U : List Bundle} (hU : Univ U) {n : Nat} {s : Store} {b : Bundle} (hV : VInv n s) (hq : s.quota = 10000) (hs : ∀ x, x ∈ s.bundles → x ∈ U) (hb : b ∈ U) (hn : b.id ∉ s.seen) : (create s b).2 = 0 := by
  have hni : b.id ∉ s.bundles.map (·.id) := by
    intro h
    obtain ⟨x, hx, he⟩ := List.mem_map.1 h
    exact hn (he ▸ (hV.bs x hx).2.2)
  have h := used_le (l := b :: s.bundles) (U := U) (by
    rw [List.map_cons]
    exact List.nodup_cons.2 ⟨hni, hV.nd⟩) (fun x hx => (List.mem_cons.1 hx).elim (fun e => e ▸ hb) (hs x))
  simp only [used, List.length_cons] at h
  have h1 := (hU.ok b hb).1
  have h2 := hU.len
  have h3 := hU.usd
  unfold create
  rw [if_neg (by omega), if_neg hn, if_neg (by omega), if_neg (by omega)]

theorem acc_ok {U : List Bundle} (hU : Univ U) {n : Nat} {s : Store} {b : Bundle} (hV : VInv n s) (hq : s.quota = 10000) (hs : ∀ x, x ∈ s.bundles → x ∈ U) (hb : b ∈ U) :
    (accept s b).2.1 = true ∧ (accept s b).2.2 = 0 := by
  rw [accept_eq]
  split
  · exact ⟨rfl, rfl⟩
  · rename_i h
    have h1 := (hU.ok b hb).1
    have hc := create_ok hU hV hq hs hb (fun hh => h ⟨h1, hh⟩)
    exact ⟨by simp [hc], hc⟩

theorem accept_bundles {n : Nat} {s : Store} {b : Bundle} (hV : VInv n s) (hb : Bytes b.data) (he : (accept s b).2.2 = 0) :
    (accept s b).1.quota = s.quota ∧ (∀ x, x ∈ (accept s b).1.bundles → x ∈ s.bundles ∨ x = b) := by
  rw [accept_eq] at he ⊢
  split
  · exact ⟨rfl, fun x hx => .inl hx⟩
  · rename_i h1
    rw [if_neg h1] at he
    simp only
    rw [(inv_create hV hb he).2.1]
    exact ⟨rfl, fun x hx => (List.mem_append.1 hx).imp (fun h => h) (fun h => List.mem_singleton.1 h)⟩

theorem QInv.set {U : List Bundle} {n m i : Nat} {L : List Store} {t : Store} (h : QInv U n L) (hi : i < 4) (hl : LInv m (L.set i t)) (hq : t.quota = (at' L i).quota) (hb : ∀ x, x ∈ t.bundles → x ∈ U) :
    QInv U m (L.set i t) := by
  refine ⟨hl, fun j hj => ?_, fun j b hj hbm => ?_⟩
  · rw [at_set h.l.len hi]; split
    · rw [hq]; exact h.qu i hi
    · exact h.qu j hj
  · rw [at_set h.l.len hi] at hbm
    split at hbm
    · exact hb b hbm
    · exact h.bu j b hj hbm

/-- One event without losses, at a node that passed nothing on yet. -/
theorem stp_spec {U : List Bundle} (hU : Univ U) {n i : Nat} {L : List Store} (h : QInv U n L) (hi : i < 3) {b : Bundle} {bs : List Bundle} (hb : (at' L i).bundles = b :: bs) (hp : (at' L i).passed = []) :
    ∃ L', evt L i false 1 1 = L' ∧ QInv U (n + 2) L' ∧ (at' L' i).bundles = bs ∧ (at' L' i).passed = [] ∧ ∀ j, j ≠ i → j ≠ i + 1 → at' L' j = at' L j := by
  have hV := h.l.vi i (by omega)
  have hbm : b ∈ (at' L i).bundles := by rw [hb]; exact List.mem_cons_self
  have hbU := h.bu i b (by omega) hbm
  obtain ⟨d1, d2⟩ := hU.ok b hbU
  have ho : offer (at' L i) 1000 = (b, true) := by
    unfold offer fits
    rw [hb, hp, List.find?_cons_of_pos (by simp [size]; omega)]
  have hid : b.id ∈ ids (at' L i) := List.mem_map.2 ⟨b, hbm, rfl⟩
  obtain ⟨t, ht, hte, hVt⟩ := pass_ok hV hid (by rw [hp]; simp)
  have hat2 : ∀ j, at' (L.set i t) j = if j = i then t else at' L j := fun j => at_set h.l.len (by omega)
  have h2 : QInv U (n + 1) (L.set i t) := h.set (by omega) (h.l.same (by omega) hVt (by omega) (by rw [hte]) (by rw [hte])) (by rw [hte]) (fun x hx => by rw [hte] at hx; exact h.bu i x (by omega) hx)
  obtain ⟨e1, e2⟩ := acc_ok hU (h2.l.vi (i + 1) (by omega)) (h2.qu (i + 1) (by omega)) (fun x hx => h2.bu (i + 1) x (by omega) hx) hbU
  have hA : accN i b 1 (L.set i t) = ((L.set i t).set (i + 1) (accept (at' (L.set i t) (i + 1)) b).1, true) := by
    show ((if (accept (at' (L.set i t) (i + 1)) b).2.2 = 0 then _ else _), (false || (accept (at' (L.set i t) (i + 1)) b).2.1)) = _
    rw [if_pos e2, e1]; rfl
  obtain ⟨f1, f2⟩ := h2.l.acc (i := i + 1) (by omega) d2 e2
  obtain ⟨q1, q2⟩ := accept_bundles (h2.l.vi (i + 1) (by omega)) d2 e2
  have h3 : QInv U (n + 1 + 1) ((L.set i t).set (i + 1) (accept (at' (L.set i t) (i + 1)) b).1) := h2.set (by omega) f1 q1 (fun x hx => (q2 x hx).elim (fun hx => h2.bu (i + 1) x (by omega) hx) (fun e => e ▸ hbU))
  generalize hG : (L.set i t).set (i + 1) (accept (at' (L.set i t) (i + 1)) b).1 = A at *
  have hatA : ∀ j, j ≠ i + 1 → at' A j = at' (L.set i t) j := fun j hj => by rw [← hG, at_set h2.l.len (by omega), if_neg hj]
  have hAi : at' A i = t := by rw [hatA i (by omega), hat2, if_pos rfl]
  have hbs : ∀ x, x ∈ bs → x.id ≠ b.id := by
    have hnd := hV.nd
    unfold ids at hnd
    rw [hb, List.map_cons] at hnd
    intro x hx e
    exact (List.nodup_cons.1 hnd).1 (e ▸ List.mem_map.2 ⟨x, hx, rfl⟩)
  have hfw : ∃ j, i < j ∧ j < 4 ∧ b.id ∈ ids (at' A j) := by
    obtain ⟨j, j1, j2, j3⟩ := h3.l.fl (i + 1) b.id (by omega) (by rw [← hG, at_set h2.l.len (by omega), if_pos rfl]; exact f2)
    exact ⟨j, by omega, j2, j3⟩
  rcases confirm_ends (h3.l.vi i (by omega)) b.id with ⟨hni, _⟩ | ⟨V, hc, hVV, hVe⟩
  · refine absurd ?_ hni
    rw [hAi]; unfold ids; rw [hte]; exact hid
  · have he : (confirm (at' A i) b.id).2 = 0 := by rw [hc]
    have h4l := h3.l.conf (by omega) hfw he
    rw [hc] at h4l
    rw [hAi, hte] at hVe
    simp only at hVe
    rw [hb, hp] at hVe
    have hVb : V.bundles = bs := by
      rw [hVe]
      dsimp only
      rw [List.filter_cons, if_neg (by simp)]
      exact List.filter_eq_self.2 (fun x hx => by simpa using hbs x hx)
    have hVp : V.passed = [] := by
      rw [hVe]
      dsimp only
      simp [ins]
    refine ⟨A.set i V, ?_, ?_, ?_, ?_, ?_⟩
    · unfold evt
      rw [show evR L i false = L from rfl, ho, if_pos rfl]
      unfold evB
      simp only
      rw [ht]
      simp only
      rw [hA, if_pos rfl]
      show (if (confirm (at' A i) b.id).2 = 0 then A.set i (confirm (at' A i) b.id).1 else A) = _
      rw [if_pos he, hc]
    · refine h3.set (by omega) h4l (by rw [hAi, hte, hVe]) (fun x hx => ?_)
      rw [hVb] at hx
      exact h.bu i x (by omega) (by rw [hb]; exact List.mem_cons_of_mem _ hx)
    · rw [at_set h3.l.len (by omega), if_pos rfl]; exact hVb
    · rw [at_set h3.l.len (by omega), if_pos rfl]; exact hVp
    · intro j j1 j2
      rw [at_set h3.l.len (by omega), if_neg j1, hatA j j2, hat2, if_neg j1]

/-- k events without losses at node i. -/
def stp (i : Nat) : Nat → List Store → List Store
  | 0, L => L
  | k + 1, L => evt (stp i k L) i false 1 1

theorem stp_run {U : List Bundle} (hU : Univ U) {n i : Nat} {L : List Store} (h : QInv U n L) (hi : i < 3) (hp : (at' L i).passed = []) : ∀ k, k ≤ (at' L i).bundles.length →
    QInv U (n + 2 * k) (stp i k L) ∧ (at' (stp i k L) i).bundles = (at' L i).bundles.drop k ∧ (at' (stp i k L) i).passed = [] ∧ ∀ j, j < i → at' (stp i k L) j = at' L j
  | 0, _ => ⟨h, rfl, hp, fun _ _ => rfl⟩
  | k + 1, hk => by
    obtain ⟨h1, h2, h3, h4⟩ := stp_run hU h hi hp k (by omega)
    have hd : (at' (stp i k L) i).bundles = (at' L i).bundles[k]'(by omega) :: (at' L i).bundles.drop (k + 1) := by
      rw [h2, List.drop_eq_getElem_cons (by omega)]
    obtain ⟨L', e, g1, g2, g3, g4⟩ := stp_spec hU h1 hi hd h3
    show QInv U _ (evt (stp i k L) i false 1 1) ∧ _
    rw [show stp i (k + 1) L = evt (stp i k L) i false 1 1 from rfl, e]
    exact ⟨⟨g1.l.mono (by omega), g1.qu, g1.bu⟩, g2, g3, fun j hj => (g4 j (by omega) (by omega)).trans (h4 j hj)⟩

theorem evR_q {U : List Bundle} {n i : Nat} {L : List Store} (h : QInv U n L) (hi : i < 3) : QInv U n (evR L i true) ∧ (at' (evR L i true) i).passed = [] ∧ (at' (evR L i true) i).bundles = (at' L i).bundles ∧ ∀ j, j ≠ i → at' (evR L i true) j = at' L j := by
  have hl := evR_inv h.l hi true
  have e : evR L i true = L.set i (retry (at' L i)) := rfl
  rw [e] at hl ⊢
  refine ⟨h.set (by omega) hl rfl (fun x hx => h.bu i x (by omega) hx), ?_, ?_, fun j hj => ?_⟩
  · rw [at_set h.l.len (by omega), if_pos rfl]; rfl
  · rw [at_set h.l.len (by omega), if_pos rfl]; rfl
  · rw [at_set h.l.len (by omega), if_neg hj]

/-- Node i is emptied. -/
def emp (i : Nat) (L : List Store) : List Store := stp i (at' L i).bundles.length (evR L i true)
/-- The nodes before i are emptied. -/
def setl : Nat → List Store → List Store
  | 0, L => L
  | i + 1, L => emp i (setl i L)

theorem emp_spec {U : List Bundle} (hU : Univ U) {n i : Nat} {L : List Store} (h : QInv U n L) (hi : i < 3) :
    QInv U (n + 128) (emp i L) ∧ (at' (emp i L) i).bundles = [] ∧ (at' (emp i L) i).passed = [] ∧ ∀ j, j < i → at' (emp i L) j = at' L j := by
  obtain ⟨h1, h2, h3, h4⟩ := evR_q h hi
  obtain ⟨g1, g2, g3, g4⟩ := stp_run hU h1 hi h2 (at' L i).bundles.length (by rw [h3]; exact Nat.le_refl _)
  have hlen := (h.l.vi i (by omega)).len
  refine ⟨⟨g1.l.mono (by omega), g1.qu, g1.bu⟩, ?_, g3, fun j hj => (g4 j hj).trans (h4 j (by omega))⟩
  unfold emp
  rw [g2, h3, List.drop_length]

theorem setl_spec {U : List Bundle} (hU : Univ U) {n : Nat} {L : List Store} (h : QInv U n L) : ∀ i, i ≤ 3 →
    QInv U (n + 128 * i) (setl i L) ∧ ∀ j, j < i → (at' (setl i L) j).bundles = [] ∧ (at' (setl i L) j).passed = []
  | 0, _ => ⟨h, fun j hj => by omega⟩
  | i + 1, hi => by
    obtain ⟨h1, h2⟩ := setl_spec hU h i (by omega)
    obtain ⟨g1, g2, g3, g4⟩ := emp_spec hU h1 (i := i) (by omega)
    refine ⟨⟨g1.l.mono (by omega), g1.qu, g1.bu⟩, fun j hj => ?_⟩
    show (at' (emp i (setl i L)) j).bundles = [] ∧ (at' (emp i (setl i L)) j).passed = []
    by_cases e : j = i
    · subst e; exact ⟨g2, g3⟩
    · rw [g4 j (by omega)]; exact h2 j (by omega)

end Go.Tv.D27

end
section
open Go Go.Tv Go.Proofs
namespace Go.Tv.D27
set_option maxRecDepth 20000
set_option maxHeartbeats 2000000
set_option linter.unusedSimpArgs false
set_option linter.unusedVariables false
theorem alen2 {L M : List Store} (hL : L.length = 4) (hM : M.length = 4) : (encL L).length = (encL M).length := by unfold encL; simp [hL, hM]
end Go.Tv.D27

end
section
open Go Go.Tv Go.Proofs
namespace Go.Tv.D27
set_option maxRecDepth 20000
set_option maxHeartbeats 2000000
set_option linter.unusedSimpArgs false
set_option linter.unusedVariables false
theorem evF_i {N : List Store} {i : Nat} (hi : i < 3) : evF N ⟨(i : Int), 1, 1, false⟩ = evt N i false 1 1 := by
  unfold evF
  rw [show (((⟨(i : Int), 1, 1, false⟩ : Fate).node) % 3).toNat = i by show ((i : Int) % 3).toNat = i; omega]
  rfl

theorem settle_ret (U : List Bundle) (hU : Univ U) (n : Nat) (hn : n ≤ 600) (L : List Store) (hQ0 : QInv U n L) : RetK Tryd.prog 8 [(0, some ⟨4, 33, 0, encL L⟩)] [.ptr 0 0 0 0] [(0, some ⟨4, 33, 0, encL (setl 3 L)⟩)] (.t (.bool true)) [(0, .ptr 0 0 0 0)] := by
  refine retK_of_awj (kp := fun i => Nat.beq i 0) Tryd.func8 rfl (Nat.le_of_ble_eq_true rfl) (by simp) ?_
  intro F0 w0
  refine awj_seq ?_
  refine awj_rj rfl ?_
  refine RJ.op rfl rfl (eff_assign (v := .t _) rfl rfl rfl) ?_
  refine RJ.nil ?_
  refine awj_seq ?_
  refine awj_seq ?_
  refine awj_rj rfl ?_
  refine RJ.op rfl rfl (eff_assign (v := .t _) rfl rfl rfl) ?_
  refine RJ.nil ?_
  refine awj_block ?_
  refine awj_loopW (fun m s g => ∃ (i : Nat) (N : List Store), (i ≤ 3) ∧ (N = setl i L) ∧ m = 3 - i ∧ s = ⟨39, [(0, .ptr 0 0 0 0), (3, .t (encI (i : Nat)))], [(0, some ⟨4, 33, 0, encL N⟩)]⟩) (_) (⟨_, weak_keep (n := 39) (fr' := [(0, .ptr 0 0 0 0), (3, .t (encI (0 : Nat)))]) (st' := [(0, some ⟨4, 33, 0, encL _⟩)]) ⟨rfl, rfl, rfl, rfl, trivial⟩ ⟨rfl, okE_t, trivial⟩, 0, _, (by omega), (by rfl), rfl, rfl⟩) ?_
  rintro m s g ⟨i, N, hi, hN, rfl, rfl⟩
  have hQ : QInv U (n + 128 * i) N := by rw [hN]; exact (setl_spec hU hQ0 i hi).1
  refine awj_seq ?_
  refine awj_seq ?_
  refine awj_rj rfl ?_
  refine RJ.op rfl rfl (eff_move (v := .t _) rfl rfl rfl) ?_
  refine RJ.op rfl rfl (eff_iop rfl rfl rfl rfl rfl) ?_
  refine RJ.nil ?_
  refine awj_cond rfl (fun h1 => ?_) (fun h1 => ?_)
  · try simp only [decide_eq_true_eq, decide_eq_false_iff_not, beq_iff_eq, bne_iff_ne, bne_eq_false_iff_eq, beq_eq_false_iff_ne, Bool.not_eq_true, Bool.not_eq_false, Bool.not_eq_true', Bool.not_eq_false', ne_eq] at h1
    refine awj_skip ?_
    refine awj_seq ?_
    refine awj_block ?_
    refine awj_seq ?_
    refine awj_rd [(some 9, []), (some 10, []), (some 11, []), (some 12, []), (some 13, []), (some 14, []), (some 15, []), (some 16, []), (some 17, []), (some 18, []), (none, [0])] [[], [], [], [], [2], [2, 3, 4], [2, 3, 4, 5], [2, 3, 4, 5, 6], [0], [0, 1, 2, 3, 4, 5, 6, 7, 8], [0, 1, 2, 3, 4, 5, 6, 7, 8, 9]] tm rfl rfl rfl rfl ?_
    refine RD.op rfl rfl rfl (eff_move (v := .ptr _ _ _ _) rfl rfl rfl) ?_
    refine RD.op rfl rfl rfl (eff_move (v := .t _) rfl rfl rfl) ?_
    refine RD.op rfl rfl rfl (eff_move (v := .ptr _ _ _ _) rfl rfl rfl) ?_
    refine RD.op rfl rfl rfl (eff_move (v := .t _) rfl rfl rfl) ?_
    refine RD.op rfl rfl rfl (eff_nilCheck (v := .ptr _ _ _ _) rfl rfl rfl rfl (fun _ _ _ _ e => by cases e; exact ⟨_, rfl, rfl⟩)) ?_
    refine RD.op rfl rfl rfl (eff_indexAddrP (i := i) rfl rfl tu33 ti32 rfl rfl (by first | rfl | omega) (by omega) rfl rfl rfl (alen hQ.l.len (by omega))) ?_
    refine RD.op rfl rfl rfl (eff_load (y := .t (encS (at' N (i)))) rfl rfl ti32 rfl (.whole rfl rfl (ael hQ.l.len (by omega)) rfl rfl rfl)) ?_
    refine RD.op rfl rfl rfl (eff_callT (retry27_ret (at' N i) ((hQ.l.vi (i) (by omega)).sok (by omega))) co21 rfl rfl rfl rfl) ?_
    refine RD.op rfl rfl rfl (eff_nilCheck (v := .ptr _ _ _ _) rfl rfl rfl rfl (fun _ _ _ _ e => by cases e; exact ⟨_, rfl, rfl⟩)) ?_
    refine RD.op rfl rfl rfl (eff_indexAddrP (i := i) rfl rfl tu33 ti32 rfl rfl (by first | rfl | omega) (by omega) rfl rfl rfl (alen hQ.l.len (by omega))) ?_
    refine RD.store rfl rfl rfl (eff_storeW (v := .t (encS (retry (at' N i)))) (els := encL N) (els' := encL (N.set i (retry (at' N i)))) (el := .t (encS (at' N (i)))) rfl rfl ti32 rfl rfl rfl rfl rfl rfl (ael hQ.l.len (by omega)) rfl aset) ?_
    refine RD.nil ?_
    refine awj_seq ?_
    refine awj_rj rfl ?_
    refine RJ.op rfl rfl (eff_assign (v := .t _) rfl rfl rfl) ?_
    refine RJ.nil ?_
    refine awj_block ?_
    refine awj_loopW (fun m s g => ∃ (k : Nat) (N2 : List Store), (k ≤ (at' N i).bundles.length) ∧ (N2 = stp i k (evR N i true)) ∧ m = (at' N i).bundles.length - k ∧ s = ⟨39, [(0, .ptr 0 0 0 0), (3, .t (encI (i : Nat))), (4, .t (encI (k : Nat)))], [(0, some ⟨4, 33, 0, encL N2⟩)]⟩) (_) (⟨_, weak_keep (n := 39) (fr' := [(0, .ptr 0 0 0 0), (3, .t (encI (i : Nat))), (4, .t (encI (0 : Nat)))]) (st' := [(0, some ⟨4, 33, 0, encL _⟩)]) ⟨rfl, rfl, rfl, rfl, rfl, rfl, trivial⟩ ⟨rfl, okE_t, trivial⟩, 0, _, (by omega), (by rfl), rfl, rfl⟩) ?_
    rintro m s g ⟨k, N2, hk, hN2, rfl, rfl⟩
    have h64 := (hQ.l.vi i (by omega)).len
    obtain ⟨e1, e2, e3, e4⟩ := evR_q hQ (i := i) (by omega)
    obtain ⟨q1, q2, q3, q4⟩ := stp_run hU e1 (i := i) (by omega) e2 k (by rw [e3]; exact hk)
    rw [← hN2] at q1 q2
    have hbl : (at' N2 i).bundles.length = (at' N i).bundles.length - k := by rw [q2, e3, List.length_drop]
    refine awj_seq ?_
    refine awj_seq ?_
    refine awj_rj rfl ?_
    refine RJ.op rfl rfl (eff_move (v := .t _) rfl rfl rfl) ?_
    refine RJ.op rfl rfl (eff_iop rfl rfl rfl rfl rfl) ?_
    refine RJ.op rfl rfl (eff_move (v := .t _) rfl rfl rfl) ?_
    refine RJ.split 21 rfl (fun h2 => ?_) (fun h2 => ?_)
    · try simp only [decide_eq_true_eq, decide_eq_false_iff_not, beq_iff_eq, bne_iff_ne, bne_eq_false_iff_eq, beq_eq_false_iff_ne, Bool.not_eq_true, Bool.not_eq_false, Bool.not_eq_true', Bool.not_eq_false', ne_eq] at h2
      refine RJ.gop rfl rfl rfl rfl rfl rfl (eff_move (v := .ptr _ _ _ _) rfl rfl rfl) ?_
      refine RJ.gop rfl rfl rfl rfl rfl rfl (eff_move (v := .t _) rfl rfl rfl) ?_
      refine RJ.gop rfl rfl rfl rfl rfl rfl (eff_nilCheck (v := .ptr _ _ _ _) rfl rfl rfl rfl (fun _ _ _ _ e => by cases e; exact ⟨_, rfl, rfl⟩)) ?_
      refine RJ.gop rfl rfl rfl rfl rfl rfl (eff_indexAddrP (i := i) rfl rfl tu33 ti32 rfl rfl (by first | rfl | omega) (by omega) rfl rfl rfl (alen q1.l.len (by omega))) ?_
      refine RJ.gop rfl rfl rfl rfl rfl rfl (eff_fieldAddr rfl rfl tf32_1 (by decide) rfl rfl rfl (Nat.le_of_ble_eq_true rfl)) ?_
      refine RJ.gop rfl rfl rfl rfl rfl rfl (eff_load (y := .t (.sl ((at' N2 i).bundles.map encB) false)) rfl rfl ti29 rfl (.one rfl rfl (ael q1.l.len (by omega)) rfl)) ?_
      refine RJ.gop rfl rfl rfl rfl rfl rfl (eff_lenM rfl rfl te29 rfl) ?_
      refine RJ.gop rfl rfl rfl rfl rfl rfl (eff_iop rfl rfl rfl rfl rfl) ?_
      refine RJ.op rfl rfl (eff_pick (v := .t _) rfl rfl rfl rfl) ?_
      refine RJ.nil ?_
      refine awj_cond rfl (fun h3 => ?_) (fun h3 => ?_)
      · try simp only [decide_eq_true_eq, decide_eq_false_iff_not, beq_iff_eq, bne_iff_ne, bne_eq_false_iff_eq, beq_eq_false_iff_ne, Bool.not_eq_true, Bool.not_eq_false, Bool.not_eq_true', Bool.not_eq_false', ne_eq] at h3
        refine awj_skip ?_
        refine awj_seq ?_
        refine awj_block ?_
        refine awj_seq ?_
        refine awj_rj rfl ?_
        refine RJ.op rfl rfl (eff_move (v := .ptr _ _ _ _) rfl rfl rfl) ?_
        refine RJ.op rfl rfl (eff_move (v := .t _) rfl rfl rfl) ?_
        refine RJ.op rfl rfl (eff_convIntE (m := (i : Int)) rfl rfl (by rw [tu3]; rfl) tu5 rfl (by rcases (by omega : i = 0 ∨ i = 1 ∨ i = 2) with h | h | h <;> subst h <;> rfl)) ?_
        refine RJ.op rfl rfl (eff_buildT (ys := [_, _, _, _]) rfl rfl tz44 tg44 rfl) ?_
        refine RJ.new rfl rfl (eff_callK (event_fate (n + 128 * i + 2 * k) (by omega) N2 q1.l ⟨(i : Int), 1, 1, false⟩ ⟨⟨by show (0 : Int) ≤ (i : Int); omega, by show (i : Int) < 256; omega⟩, ⟨by show (0 : Int) ≤ 1; omega, by show (1 : Int) < 256; omega⟩, ⟨by show (0 : Int) ≤ 1; omega, by show (1 : Int) < 256; omega⟩⟩) co7 (fun id => id) rfl rfl rfl ⟨.ptr _ _ _ _ rfl rfl, .t _, trivial⟩ (.t _) rfl ⟨⟨rfl, treeEls_t, ⟨_, rfl, .inr ⟨rfl, rfl, rfl, alen2 (evF_inv q1.l _).1.len q1.l.len, 0, rfl, List.mem_singleton.2 rfl⟩⟩⟩, trivial⟩ ⟨⟨treeEls_t, .inl rfl⟩, trivial⟩) ?_
        refine RJ.op rfl rfl (eff_unop rfl rfl rfl rfl) ?_
        refine RJ.nil ?_
        refine awj_cond rfl (fun h => nomatch h) (fun _ => ?_)
        refine awj_skip ?_
        refine awj_rj rfl ?_
        refine RJ.op rfl rfl (eff_move (v := .t _) rfl rfl rfl) ?_
        refine RJ.op rfl rfl (eff_iop rfl rfl rfl rfl (iadd (by omega))) ?_
        refine RJ.op rfl rfl (eff_assign (v := .t _) rfl rfl rfl) ?_
        refine RJ.nil ?_
        refine ⟨_, ?_, _, weak_keep (n := 39) (fr' := [(0, .ptr 0 0 0 0), (3, .t (encI (i : Nat))), (4, .t (encI ((k + 1) : Nat)))]) (st' := [(0, some ⟨4, 33, 0, encL _⟩)]) ⟨rfl, rfl, rfl, rfl, rfl, rfl, trivial⟩ ⟨rfl, okE_t, trivial⟩, k + 1, _, (by omega), (by rw [evF_i (by omega), hN2]; rfl), rfl, rfl⟩
        omega
      · try simp only [decide_eq_true_eq, decide_eq_false_iff_not, beq_iff_eq, bne_iff_ne, bne_eq_false_iff_eq, beq_eq_false_iff_ne, Bool.not_eq_true, Bool.not_eq_false, Bool.not_eq_true', Bool.not_eq_false', ne_eq] at h3
        refine awj_exit ?_
        refine awj_rj rfl ?_
        have hk2 : k = (at' N i).bundles.length := by omega
        refine RJ.op rfl rfl (eff_move (v := .t _) rfl rfl rfl) ?_
        refine RJ.op rfl rfl (eff_iop rfl rfl rfl rfl (iadd (by omega))) ?_
        refine RJ.op rfl rfl (eff_assign (v := .t _) rfl rfl rfl) ?_
        refine RJ.nil ?_
        refine ⟨_, ?_, _, weak_keep (n := 39) (fr' := [(0, .ptr 0 0 0 0), (3, .t (encI ((i + 1) : Nat)))]) (st' := [(0, some ⟨4, 33, 0, encL _⟩)]) ⟨rfl, rfl, rfl, rfl, trivial⟩ ⟨rfl, okE_t, trivial⟩, i + 1, _, (by omega), (by show _ = emp i (setl i L); rw [← hN, hN2, hk2]; rfl), rfl, rfl⟩
        omega
    · try simp only [decide_eq_true_eq, decide_eq_false_iff_not, beq_iff_eq, bne_iff_ne, bne_eq_false_iff_eq, beq_eq_false_iff_ne, Bool.not_eq_true, Bool.not_eq_false, Bool.not_eq_true', Bool.not_eq_false', ne_eq] at h2
      refine RJ.gskip rfl rfl rfl rfl rfl (by decide) ?_
      refine RJ.gskip rfl rfl rfl rfl rfl (by decide) ?_
      refine RJ.gskip rfl rfl rfl rfl rfl (by decide) ?_
      refine RJ.gskip rfl rfl rfl rfl rfl (by decide) ?_
      refine RJ.gskip rfl rfl rfl rfl rfl (by decide) ?_
      refine RJ.gskip rfl rfl rfl rfl rfl (by decide) ?_
      refine RJ.gskip rfl rfl rfl rfl rfl (by decide) ?_
      refine RJ.gskip rfl rfl rfl rfl rfl (by decide) ?_
      refine RJ.op rfl rfl (eff_pick (v := .t _) rfl rfl rfl rfl) ?_
      refine RJ.nil ?_
      refine awj_cond rfl (fun h => nomatch h) (fun _ => ?_)
      refine awj_exit ?_
      refine awj_rj rfl ?_
      have hk2 : k = (at' N i).bundles.length := by omega
      refine RJ.op rfl rfl (eff_move (v := .t _) rfl rfl rfl) ?_
      refine RJ.op rfl rfl (eff_iop rfl rfl rfl rfl (iadd (by omega))) ?_
      refine RJ.op rfl rfl (eff_assign (v := .t _) rfl rfl rfl) ?_
      refine RJ.nil ?_
      refine ⟨_, ?_, _, weak_keep (n := 39) (fr' := [(0, .ptr 0 0 0 0), (3, .t (encI ((i + 1) : Nat)))]) (st' := [(0, some ⟨4, 33, 0, encL _⟩)]) ⟨rfl, rfl, rfl, rfl, trivial⟩ ⟨rfl, okE_t, trivial⟩, i + 1, _, (by omega), (by show _ = emp i (setl i L); rw [← hN, hN2, hk2]; rfl), rfl, rfl⟩
      omega
  · try simp only [decide_eq_true_eq, decide_eq_false_iff_not, beq_iff_eq, bne_iff_ne, bne_eq_false_iff_eq, beq_eq_false_iff_ne, Bool.not_eq_true, Bool.not_eq_false, Bool.not_eq_true', Bool.not_eq_false', ne_eq] at h1
    refine awj_exit ?_
    refine awj_seq ?_
    refine awj_rj rfl ?_
    refine RJ.op rfl rfl (eff_assign (v := .t _) rfl rfl rfl) ?_
    refine RJ.nil ?_
    refine awj_ret ?_
    have hi3 : i = 3 := by omega
    subst hi3
    subst hN
    exact ⟨Or.inr rfl, [_], [.t (.bool true)], ⟨.tmp rfl, trivial⟩, rfl, weak_keep ⟨rfl, rfl, rfl, rfl, trivial⟩ ⟨rfl, okE_t, trivial⟩, rfl⟩

end Go.Tv.D27

end
section
open Go Go.Tv Go.Proofs
namespace Go.Tv.D27

theorem accN_q {U : List Bundle} {I : Nat} {b : Bundle} (hI : I < 3) (hbU : b ∈ U) (hb : Bytes b.data) {n : Nat} {L : List Store} (h : QInv U n L) : ∀ k, QInv U (n + k) (accN I b k L).1
  | 0 => h
  | k + 1 => by
    have h1 := accN_q hI hbU hb h k
    rw [show (accN I b (k + 1) L).1 = if (accept (at' (accN I b k L).1 (I + 1)) b).2.2 = 0 then (accN I b k L).1.set (I + 1) (accept (at' (accN I b k L).1 (I + 1)) b).1 else (accN I b k L).1 from rfl]
    split
    · rename_i he
      obtain ⟨f1, _⟩ := h1.l.acc (i := I + 1) (by omega) hb he
      obtain ⟨q1, q2⟩ := accept_bundles (h1.l.vi (I + 1) (by omega)) hb he
      exact h1.set (by omega) f1 q1 (fun x hx => (q2 x hx).elim (fun hx => h1.bu (I + 1) x (by omega) hx) (fun e => e ▸ hbU))
    · exact ⟨h1.l.mono (by omega), h1.qu, h1.bu⟩

theorem cfN_q {U : List Bundle} {I : Nat} {c : Int} (hI : I < 3) {n : Nat} {L : List Store} (h : QInv U n L) (hfw : ∃ j, I < j ∧ j < 4 ∧ c ∈ ids (at' L j)) : ∀ k, QInv U n (cfN I c k L)
  | 0 => h
  | k + 1 => by
    have h1 := cfN_q hI h hfw k
    obtain ⟨_, hf⟩ := cfN_inv hI h.l hfw k
    rw [show cfN I c (k + 1) L = if (confirm (at' (cfN I c k L) I) c).2 = 0 then (cfN I c k L).set I (confirm (at' (cfN I c k L) I) c).1 else cfN I c k L from rfl]
    split
    · rename_i he
      have hV := (inv_confirm (h1.l.vi I (by omega)) he).2.1
      exact h1.set (by omega) (h1.l.conf (by omega) hf he) (by rw [hV]) (fun x hx => by
        rw [hV] at hx
        exact h1.bu I x (by omega) (List.mem_filter.1 hx).1)
    · exact h1

theorem evt_q {U : List Bundle} {n I : Nat} {L : List Store} (h : QInv U n L) (hI : I < 3) (r : Bool) (k m : Nat) : QInv U (n + 1 + k) (evt L I r k m) := by
  have h1 : QInv U n (evR L I r) := by
    cases r with
    | false => exact h
    | true => exact (evR_q h hI).1
  unfold evt
  split
  · rename_i ho
    obtain ⟨hb, hp⟩ := offer_in ho
    have hV := h1.l.vi I (by omega)
    obtain ⟨t, ht, hte, hVt⟩ := pass_ok hV (List.mem_map.2 ⟨_, hb, rfl⟩) hp
    have hbU := h1.bu I _ (by omega) hb
    have hby := (hV.bs _ hb).2.1
    have h2 : QInv U (n + 1) ((evR L I r).set I (pass (at' (evR L I r) I) (offer (at' (evR L I r) I) 1000).1.id).1) := by
      rw [ht]
      exact h1.set (by omega) (h1.l.same (by omega) hVt (by omega) (by rw [hte]) (by rw [hte])) (by rw [hte]) (fun x hx => by rw [hte] at hx; exact h1.bu I x (by omega) hx)
    have h3 := accN_q hI hbU hby h2 k
    obtain ⟨a1, a2, a3⟩ := accN_inv hI hby h2.l k
    unfold evB
    split
    · rename_i hacc
      obtain ⟨j, j1, j2, j3⟩ := a1.fl (I + 1) _ (by omega) (a2 hacc)
      exact cfN_q hI h3 ⟨j, by omega, j2, j3⟩ m
    · exact h3
  · exact ⟨h1.l.mono (by omega), h1.qu, h1.bu⟩

theorem evF_q {U : List Bundle} {n : Nat} {L : List Store} (h : QInv U n L) (f : Fate) : QInv U (n + 3) (evF L f) := by
  have h1 := evt_q h (I := (f.node % 3).toNat) (by omega) f.retr (f.offers % 3).toNat (f.confirms % 3).toNat
  exact ⟨h1.l.mono (by omega), h1.qu, h1.bu⟩

theorem Lz_q {U : List Bundle} : QInv U 0 (Lz 10000) := by
  have hat : ∀ j, j < 4 → at' (Lz 10000) j = ⟨10000, [], [], []⟩ := by
    intro j hj
    rcases (by omega : j = 0 ∨ j = 1 ∨ j = 2 ∨ j = 3) with rfl | rfl | rfl | rfl <;> rfl
  exact ⟨Lz_inv (by decide) (by decide), fun j hj => by rw [hat j hj], fun j b hj hb => by rw [hat j hj] at hb; simp at hb⟩

end Go.Tv.D27

end
section
open Go Go.Tv Go.Proofs
namespace Go.Tv.D27

theorem crea_q {U : List Bundle} (hU : Univ U) {n : Nat} {L : List Store} {b : Bundle} (h : QInv U n L) (hb : b ∈ U) (hn : b.id ∉ (at' L 0).seen) :
    (create (at' L 0) b).2 = 0 ∧ QInv U (n + 1) (L.set 0 (create (at' L 0) b).1) ∧ ∀ c, c ∈ (at' (L.set 0 (create (at' L 0) b).1) 0).seen ↔ c = b.id ∨ c ∈ (at' L 0).seen := by
  have hV := h.l.vi 0 (by omega)
  have he := create_ok hU hV (h.qu 0 (by omega)) (fun x hx => h.bu 0 x (by omega) hx) hb hn
  have hby := (hU.ok b hb).2
  obtain ⟨g1, g2, g3⟩ := inv_create hV hby he
  refine ⟨he, h.set (by omega) (h.l.crea hby he).1 (by rw [g2]) (fun x hx => ?_), fun c => ?_⟩
  · rw [g2] at hx
    rcases List.mem_append.1 hx with hx | hx
    · exact h.bu 0 x (by omega) hx
    · rw [List.mem_singleton.1 hx]; exact hb
  · rw [at_set h.l.len (by omega), if_pos rfl, g2]
    exact ins_mem

end Go.Tv.D27

end
section
open Go Go.Tv Go.Proofs
namespace Go.Tv.D27
set_option maxRecDepth 20000
set_option maxHeartbeats 2000000
set_option linter.unusedSimpArgs false
set_option linter.unusedVariables false
theorem stp_sees {i : Nat} (hi : i < 3) {n : Nat} {L : List Store} (h : LInv n L) : ∀ k, LInv (n + 2 * k) (stp i k L) ∧ Sees L (stp i k L)
  | 0 => ⟨h, Sees.refl _⟩
  | k + 1 => by
    obtain ⟨h1, h2⟩ := stp_sees hi h k
    exact ⟨(evt_inv h1 hi false 1 1).mono (by omega), h2.trans (evt_sees h1 hi false 1 1)⟩
theorem settle_sees {U : List Bundle} (hU : Univ U) {n : Nat} {L : List Store} (h : QInv U n L) : ∀ i, i ≤ 3 → Sees L (setl i L)
  | 0, _ => Sees.refl _
  | i + 1, hi => by
    have h1 := (setl_spec hU h i (by omega)).1
    have h2 := (evR_q h1 (i := i) (by omega)).1
    have h3 : Sees (setl i L) (evR (setl i L) i true) := sees_set h1.l.len (by omega) (fun c hc => hc)
    exact (settle_sees hU h i (by omega)).trans (h3.trans (stp_sees (by omega) h2.l _).2)

end Go.Tv.D27

end
section
open Go Go.Tv Go.Proofs
namespace Go.Tv.D27

theorem tu105 : Tryd.prog.underlying 105 = some (.array 16 36) := by kernel_rfl

/-- The table of the checksum. -/
def crcTab : List Int := [0, 498536548, 997073096, 651767980, 1994146192, 1802195444, 1303535960, 1342533948, 3988292384, 4027552580, 3604390888, 3412177804, 2607071920, 2262029012, 2685067896, 3183342108]
def crcT : Tr := .ptr (crcTab.map (Tr.int .u32))
def x32 (a b : Int) : Int := IntKind.u32.wrap ((BitVec.ofInt IntKind.u32.bits a) ^^^ (BitVec.ofInt IntKind.u32.bits b)).toNat
def nib (a : Int) : Nat := ((BitVec.ofInt IntKind.u32.bits a) &&& (BitVec.ofInt IntKind.u32.bits 15)).toNat
def tabv (a : Int) : Int := crcTab.getD (nib a) 0
def half (r : Int) : Int := x32 (r.fdiv (2 ^ (min (Int.toNat 4) IntKind.u32.bits))) (tabv r)
def feedF (r c : Int) : Int := half (half (x32 r (IntKind.u32.wrap c)))
def not32 (n : Int) : Int := IntKind.u32.wrap ((BitVec.ofInt IntKind.u32.bits (if IntKind.u32.signed then -1 else IntKind.u32.max)) ^^^ (BitVec.ofInt IntKind.u32.bits n)).toNat
def updF (s : Int) (l : List Int) : Int := not32 (l.foldl feedF (not32 s))
def crcF (l : List Int) : Int := updF 0 l

theorem nib_lt (a : Int) : nib a < 16 := by
  unfold nib
  rw [BitVec.toNat_and]
  exact Nat.lt_of_le_of_lt Nat.and_le_right (by decide)

theorem nib_wrap (a : Int) : IntKind.u32.wrap (nib a : Nat) = (nib a : Nat) := by
  have h := nib_lt a
  generalize nib a = n at h
  have hI : ((n : Nat) : Int) < 16 := by omega
  have h0 : (0 : Int) ≤ ((n : Nat) : Int) := by omega
  generalize ((n : Nat) : Int) = m at hI h0
  show (if (false && decide (m % 2 ^ 32 ≥ 2 ^ (32 - 1))) = true then m % 2 ^ 32 - 2 ^ 32 else m % 2 ^ 32) = m
  rw [Bool.false_and, if_neg (by decide)]
  omega

theorem crc_get (a : Int) : (crcTab.map (Tr.int .u32))[nib a * 1]? = some (.int .u32 (tabv a)) := by
  have h := nib_lt a
  have h2 : nib a < crcTab.length := h
  unfold tabv
  rw [Nat.mul_one, List.getElem?_map, List.getElem?_eq_getElem h2, List.getD_eq_getElem?_getD, List.getElem?_eq_getElem h2]
  rfl

/-- A gap. -/
structure Gap where
  frm : Int
  til : Int
def encG (g : Gap) : Tr := .agg [encI g.frm, encI g.til]
/-- A segment: the last five cells of a bundle. -/
structure Seg where
  file : Int
  offset : Int
  total : Int
  sum : Int
  data : List Int
def encSg (s : Seg) : Tr := .agg [encI s.file, encI s.offset, encI s.total, .int .u32 s.sum, .sl (s.data.map encBy) false]

/-- The piece number i of b in pieces of z bytes. -/
def pieceAt (id : Int) (b : List Int) (z i : Nat) : Seg := ⟨id, (i * z : Nat), b.length, crcF b, (b.drop (i * z)).take z⟩
def segN (b : List Int) (z : Nat) : Nat := (b.length + z - 1) / z
def segsF (id : Int) (b : List Int) (z : Nat) : List Seg := (List.range (segN b z)).map (pieceAt id b z)

theorem segN_eq {b : List Int} {z i p : Nat} (hz : 0 < z) (hp : p = i * z) (h1 : b.length ≤ p) (h2 : i = 0 ∨ p < b.length + z) : i = segN b z := by
  unfold segN
  subst hp
  rcases h2 with rfl | h2
  · have : b.length = 0 := by omega
    rw [this]; exact (Nat.div_eq_of_lt (by omega)).symm
  · refine (Nat.div_eq_of_lt_le ?_ ?_).symm
    · omega
    · rw [Nat.succ_mul]; omega

theorem range_map_succ {α : Type} (f : Nat → α) (i : Nat) : (List.range (i + 1)).map f = (List.range i).map f ++ [f i] := by
  rw [List.range_succ, List.map_append]; rfl

theorem piece_cut {b : List Int} {z p : Nat} (m : Nat) (hm : m = min (p + z) b.length) : (b.take m).drop p = (b.drop p).take z := by
  subst hm
  rw [List.drop_take]
  rcases Nat.le_total (p + z) b.length with h | h
  · rw [Nat.min_eq_left h, Nat.add_sub_cancel_left]
  · rw [Nat.min_eq_right h, List.take_of_length_le (by simp), List.take_of_length_le (by simp; omega)]
end Go.Tv.D27

end
section
open Go Go.Tv Go.Proofs
namespace Go.Tv.D27
set_option maxRecDepth 20000
set_option linter.unusedSimpArgs false
set_option linter.unusedVariables false
theorem feed_ret (r c : Int) : RetT Tryd.prog 54 [(0, crcT)] [.int .u32 r, encBy c] (.int .u32 (feedF r c)) := by
  refine retT_of_awp Tryd.func54 rfl (Nat.le_of_ble_eq_true rfl) ?_
  refine awp_seq ?_
  refine awp_rw rfl ?_
  refine RW.op rfl rfl (eff_assign (v := .t _) rfl rfl rfl) ?_
  refine RW.nil ?_
  refine awp_seq ?_
  refine awp_rw rfl ?_
  refine RW.op rfl rfl (eff_move (v := .t _) rfl rfl rfl) ?_
  refine RW.op rfl rfl (eff_move (v := .t _) rfl rfl rfl) ?_
  refine RW.op rfl rfl (eff_convInt rfl rfl (by rw [tu5]; rfl) tu36 rfl) ?_
  refine RW.op rfl rfl (eff_iop rfl rfl rfl rfl rfl) ?_
  refine RW.op rfl rfl (eff_assign (v := .t _) rfl rfl rfl) ?_
  refine RW.nil ?_
  refine awp_seq ?_
  refine awp_rw rfl ?_
  refine RW.op rfl rfl (eff_move (v := .t _) rfl rfl rfl) ?_
  refine RW.op rfl rfl (eff_shr rfl rfl rfl rfl (by first | decide | omega)) ?_
  refine RW.op rfl rfl (eff_move (v := .t _) rfl rfl rfl) ?_
  refine RW.op rfl rfl (eff_iop rfl rfl rfl rfl rfl) ?_
  refine RW.op rfl rfl (eff_indexAddrR rfl rfl tu105 ti36 rfl rfl (nib_wrap _) (nib_lt _)) ?_
  refine RW.op rfl rfl (eff_loadR rfl rfl ti36 rfl (crc_get _)) ?_
  refine RW.op rfl rfl (eff_iop rfl rfl rfl rfl rfl) ?_
  refine RW.op rfl rfl (eff_assign (v := .t _) rfl rfl rfl) ?_
  refine RW.nil ?_
  refine awp_seq ?_
  refine awp_rw rfl ?_
  refine RW.op rfl rfl (eff_move (v := .t _) rfl rfl rfl) ?_
  refine RW.op rfl rfl (eff_shr rfl rfl rfl rfl (by first | decide | omega)) ?_
  refine RW.op rfl rfl (eff_move (v := .t _) rfl rfl rfl) ?_
  refine RW.op rfl rfl (eff_iop rfl rfl rfl rfl rfl) ?_
  refine RW.op rfl rfl (eff_indexAddrR rfl rfl tu105 ti36 rfl rfl (nib_wrap _) (nib_lt _)) ?_
  refine RW.op rfl rfl (eff_loadR rfl rfl ti36 rfl (crc_get _)) ?_
  refine RW.op rfl rfl (eff_iop rfl rfl rfl rfl rfl) ?_
  refine RW.op rfl rfl (eff_assign (v := .t _) rfl rfl rfl) ?_
  refine RW.nil ?_
  refine awp_ret ?_
  first
    | exact ⟨Or.inr rfl, [_], ⟨.tmp (.t _), trivial⟩, .refl _⟩
    | exact ⟨Or.inr rfl, [_], ⟨.tmp (.t _), trivial⟩, (by repeat' first | exact trivial | exact Wk.refl _ | exact Wk.sl _ | refine And.intro ?_ ?_ | refine Wk.tupP ?_ | refine Wk.aggP ?_)⟩
    | exact ⟨Or.inr rfl, [_], ⟨.tmp (Res.ownT rfl rfl rfl rfl), trivial⟩, .refl _⟩
    | exact ⟨Or.inr rfl, [_], ⟨.tmp (Res.ownT rfl rfl rfl rfl), trivial⟩, (by repeat' first | exact trivial | exact Wk.refl _ | exact Wk.sl _ | refine And.intro ?_ ?_ | refine Wk.tupP ?_ | refine Wk.aggP ?_)⟩

theorem update_ret (s0 : Int) (l : List Int) (hl : l.length ≤ 1000000) : RetT Tryd.prog 44 [(0, crcT)] [.int .u32 s0, .sl (l.map encBy) false] (.int .u32 (updF s0 l)) := by
  refine retT_of_awp Tryd.func44 rfl (Nat.le_of_ble_eq_true rfl) ?_
  refine awp_seq ?_
  refine awp_rw rfl ?_
  refine RW.op rfl rfl (eff_assign (v := .t _) rfl rfl rfl) ?_
  refine RW.nil ?_
  refine awp_seq ?_
  refine awp_rw rfl ?_
  refine RW.op rfl rfl (eff_move (v := .t _) rfl rfl rfl) ?_
  refine RW.op rfl rfl (eff_unop rfl rfl rfl rfl) ?_
  refine RW.op rfl rfl (eff_assign (v := .t _) rfl rfl rfl) ?_
  refine RW.nil ?_
  refine awp_seq ?_
  refine awp_seq ?_
  refine awp_rw rfl ?_
  refine RW.op rfl rfl (eff_move (v := .t _) rfl rfl rfl) ?_
  refine RW.op rfl rfl (eff_lenM rfl rfl te22 rfl) ?_
  refine RW.op rfl rfl (eff_move (v := .t _) rfl rfl rfl) ?_
  refine RW.nil ?_
  refine awp_block ?_
  refine awp_loopW (fun m s => ∃ (i : Nat) (acc : Int), (i ≤ l.length) ∧ (acc = (l.take i).foldl feedF (not32 s0)) ∧ m = l.length - i ∧ s = ⟨22, [(5, .t (.int .u32 acc)), (10, .t (.sl (l.map encBy) false)), (11, .t (encI l.length)), (12, .t (encI (i : Nat))), (22, .t crcT)], []⟩) (_) (⟨_, weak_keep (n := 22) (fr' := [(5, .t (.int .u32 _)), (10, .t (.sl (l.map encBy) false)), (11, .t (encI l.length)), (12, .t (encI (0 : Nat))), (22, .t crcT)]) (st' := []) ⟨rfl, rfl, rfl, rfl, rfl, rfl, rfl, rfl, rfl, rfl, trivial⟩ trivial, 0, _, (by omega), (by rfl), rfl, rfl⟩) ?_
  rintro m s ⟨i, acc, hi, ha, rfl, rfl⟩
  refine awp_seq ?_
  refine awp_rw rfl ?_
  refine RW.op rfl rfl (eff_iop rfl rfl rfl rfl rfl) ?_
  refine RW.nil ?_
  refine awp_seq ?_
  refine awp_cond rfl (fun h1 => ?_) (fun h1 => ?_)
  · try simp only [decide_eq_true_eq, decide_eq_false_iff_not, beq_iff_eq, bne_iff_ne, bne_eq_false_iff_eq, beq_eq_false_iff_ne, Bool.not_eq_true, Bool.not_eq_false, Bool.not_eq_true', Bool.not_eq_false', ne_eq] at h1
    refine awp_skip ?_
    refine awp_seq ?_
    refine awp_block ?_
    refine awp_seq ?_
    refine awp_rw rfl ?_
    refine RW.op rfl rfl (eff_indexM rfl rfl te22 rfl rfl rfl (by first | assumption | exact List.getElem?_eq_getElem (by omega)) rfl (by decide)) ?_
    refine RW.op rfl rfl (eff_loadW1 rfl rfl ti5 rfl rfl) ?_
    refine RW.op rfl rfl (eff_assign (v := .t _) rfl rfl rfl) ?_
    refine RW.nil ?_
    refine awp_rw rfl ?_
    refine RW.op rfl rfl (eff_move (v := .t _) rfl rfl rfl) ?_
    refine RW.op rfl rfl (eff_move (v := .t _) rfl rfl rfl) ?_
    refine RW.op rfl rfl (eff_callXT (feed_ret _ _) co54 rfl rfl rfl ⟨rfl, trivial⟩ rfl) ?_
    refine RW.op rfl rfl (eff_assign (v := .t _) rfl rfl rfl) ?_
    refine RW.nil ?_
    refine awp_rw rfl ?_
    refine RW.op rfl rfl (eff_iop rfl rfl rfl rfl (iadd (by omega))) ?_
    refine RW.op rfl rfl (eff_move (v := .t _) rfl rfl rfl) ?_
    refine RW.nil ?_
    refine ⟨_, ?_, _, weak_keep (n := 22) (fr' := [(5, .t (.int .u32 _)), (10, .t (.sl (l.map encBy) false)), (11, .t (encI l.length)), (12, .t (encI ((i + 1) : Nat))), (22, .t crcT)]) (st' := []) ⟨rfl, rfl, rfl, rfl, rfl, rfl, rfl, rfl, rfl, rfl, trivial⟩ trivial, i + 1, _, (by omega), (by rw [take_succ_get (by omega), List.foldl_append, ← ha]; rfl), rfl, rfl⟩
    omega
  · try simp only [decide_eq_true_eq, decide_eq_false_iff_not, beq_iff_eq, bne_iff_ne, bne_eq_false_iff_eq, beq_eq_false_iff_ne, Bool.not_eq_true, Bool.not_eq_false, Bool.not_eq_true', Bool.not_eq_false', ne_eq] at h1
    refine awp_exit ?_
    refine awp_seq ?_
    refine awp_rw rfl ?_
    refine RW.op rfl rfl (eff_move (v := .t _) rfl rfl rfl) ?_
    refine RW.op rfl rfl (eff_unop rfl rfl rfl rfl) ?_
    refine RW.op rfl rfl (eff_assign (v := .t _) rfl rfl rfl) ?_
    refine RW.nil ?_
    refine awp_ret ?_
    have hi2 : i = l.length := by omega
    subst hi2
    rw [List.take_length] at ha
    subst ha
    exact ⟨Or.inr rfl, [_], ⟨.tmp (.t _), trivial⟩, .refl _⟩

theorem sum_ret (l : List Int) (hl : l.length ≤ 1000000) : RetT Tryd.prog 30 [(0, crcT)] [.sl (l.map encBy) false] (.int .u32 (crcF l)) := by
  refine retT_of_awp Tryd.func30 rfl (Nat.le_of_ble_eq_true rfl) ?_
  refine awp_seq ?_
  refine awp_rw rfl ?_
  refine RW.op rfl rfl (eff_assign (v := .t _) rfl rfl rfl) ?_
  refine RW.nil ?_
  refine awp_seq ?_
  refine awp_rw rfl ?_
  refine RW.op rfl rfl (eff_move (v := .t _) rfl rfl rfl) ?_
  refine RW.op rfl rfl (eff_callXT (update_ret 0 l hl) co44 rfl rfl rfl ⟨rfl, trivial⟩ rfl) ?_
  refine RW.op rfl rfl (eff_assign (v := .t _) rfl rfl rfl) ?_
  refine RW.nil ?_
  refine awp_ret ?_
  first
    | exact ⟨Or.inr rfl, [_], ⟨.tmp (.t _), trivial⟩, .refl _⟩
    | exact ⟨Or.inr rfl, [_], ⟨.tmp (.t _), trivial⟩, (by repeat' first | exact trivial | exact Wk.refl _ | exact Wk.sl _ | refine And.intro ?_ ?_ | refine Wk.tupP ?_ | refine Wk.aggP ?_)⟩
    | exact ⟨Or.inr rfl, [_], ⟨.tmp (Res.ownT rfl rfl rfl rfl), trivial⟩, .refl _⟩
    | exact ⟨Or.inr rfl, [_], ⟨.tmp (Res.ownT rfl rfl rfl rfl), trivial⟩, (by repeat' first | exact trivial | exact Wk.refl _ | exact Wk.sl _ | refine And.intro ?_ ?_ | refine Wk.tupP ?_ | refine Wk.aggP ?_)⟩

end Go.Tv.D27

end
section
open Go Go.Tv Go.Proofs
namespace Go.Tv.D27
set_option maxRecDepth 20000
set_option linter.unusedSimpArgs false
set_option linter.unusedVariables false
theorem fits_ret (b : List Int) (z : Nat) (hl : b.length ≤ 65536) (hz : 0 < z) (hz2 : z ≤ 256) : Ret Tryd.prog 22 [.sl (b.map encBy) false, encI z] (encI 0) := by
  refine ret_of_awp Tryd.func22 rfl (Nat.le_of_ble_eq_true rfl) ?_
  refine awp_seq ?_
  refine awp_rw rfl ?_
  refine RW.op rfl rfl (eff_assign (v := .t _) rfl rfl rfl) ?_
  refine RW.nil ?_
  refine awp_seq ?_
  refine awp_block ?_
  refine awp_seq ?_
  refine awp_seq ?_
  refine awp_rw rfl ?_
  refine RW.op rfl rfl (eff_move (v := .t _) rfl rfl rfl) ?_
  refine RW.op rfl rfl (eff_iop (r := .bool false) rfl rfl rfl rfl (by show some (Tr.bool (decide _)) = _; rw [decide_eq_false (by omega)])) ?_
  refine RW.op rfl rfl (eff_assign (v := .t _) rfl rfl rfl) ?_
  refine RW.nil ?_
  refine awp_cond rfl (fun h => nomatch h) (fun _ => ?_)
  refine awp_rw rfl ?_
  refine RW.op rfl rfl (eff_move (v := .t _) rfl rfl rfl) ?_
  refine RW.op rfl rfl (eff_iop (r := .bool false) rfl rfl rfl rfl (by show some (Tr.bool (decide _)) = _; rw [decide_eq_false (by omega)])) ?_
  refine RW.op rfl rfl (eff_assign (v := .t _) rfl rfl rfl) ?_
  refine RW.nil ?_
  refine awp_cond rfl (fun h => nomatch h) (fun _ => ?_)
  refine awp_seq ?_
  refine awp_rw rfl ?_
  refine RW.op rfl rfl (eff_move (v := .t _) rfl rfl rfl) ?_
  refine RW.op rfl rfl (eff_lenM rfl rfl te22 rfl) ?_
  refine RW.op rfl rfl (eff_iop (r := .bool false) rfl rfl rfl rfl (by show some (Tr.bool (decide _)) = _; rw [decide_eq_false (by omega)])) ?_
  refine RW.op rfl rfl (eff_assign (v := .t _) rfl rfl rfl) ?_
  refine RW.nil ?_
  refine awp_cond rfl (fun h => nomatch h) (fun _ => ?_)
  refine awp_skip ?_
  refine awp_seq ?_
  refine awp_rw rfl ?_
  refine RW.op rfl rfl (eff_assign (v := .t _) rfl rfl rfl) ?_
  refine RW.nil ?_
  refine awp_ret ?_
  first
    | exact ⟨Or.inr rfl, [_], ⟨.tmp (.t _), trivial⟩, .refl _⟩
    | exact ⟨Or.inr rfl, [_], ⟨.tmp (.t _), trivial⟩, (by repeat' first | exact trivial | exact Wk.refl _ | exact Wk.sl _ | refine And.intro ?_ ?_ | refine Wk.tupP ?_ | refine Wk.aggP ?_)⟩
    | exact ⟨Or.inr rfl, [_], ⟨.tmp (Res.ownT rfl rfl rfl rfl), trivial⟩, .refl _⟩
    | exact ⟨Or.inr rfl, [_], ⟨.tmp (Res.ownT rfl rfl rfl rfl), trivial⟩, (by repeat' first | exact trivial | exact Wk.refl _ | exact Wk.sl _ | refine And.intro ?_ ?_ | refine Wk.tupP ?_ | refine Wk.aggP ?_)⟩

theorem cloneB_ret (l : List Int) (hl : l.length ≤ 1000000) : Ret Tryd.prog 31 [.sl (l.map encBy) false] (.sl (l.map encBy) false) :=
  ret_of_retG (clone54_retG l hl) (Res.ownM rfl (by simp)) (.refl _)

theorem pieces_ret (id : Int) (b : List Int) (z : Nat) (hl : b.length ≤ 1000) (hz : 0 < z) (hz2 : z ≤ 256) : RetT Tryd.prog 38 [(0, crcT)] [encI id, .sl (b.map encBy) false, encI 0, encI b.length, encI z] (.sl ((segsF id b z).map encSg) false) := by
  refine retT_of_awp Tryd.func38 rfl (Nat.le_of_ble_eq_true rfl) ?_
  refine awp_seq ?_
  refine awp_rw rfl ?_
  refine RW.op rfl rfl (eff_assign (v := .t _) rfl rfl rfl) ?_
  refine RW.nil ?_
  refine awp_seq ?_
  refine awp_rw rfl ?_
  refine RW.op rfl rfl (eff_assign (v := .t _) rfl rfl rfl) ?_
  refine RW.nil ?_
  show AWP _ _ _ _
  refine awp_weak (weak_adopt (d := 11) (id := 11) (k := 5) (ty := 38) rfl rfl) ?_
  refine awp_seq ?_
  refine awp_rw rfl ?_
  refine RW.op rfl rfl (eff_move (v := .t _) rfl rfl rfl) ?_
  refine RW.op rfl rfl (eff_callXT (sum_ret b (by omega)) co30 rfl rfl rfl ⟨rfl, trivial⟩ rfl) ?_
  refine RW.op rfl rfl (eff_assign (v := .t _) rfl rfl rfl) ?_
  refine RW.nil ?_
  refine awp_seq ?_
  refine awp_seq ?_
  refine awp_rw rfl ?_
  refine RW.op rfl rfl (eff_move (v := .t _) rfl rfl rfl) ?_
  refine RW.op rfl rfl (eff_assign (v := .t _) rfl rfl rfl) ?_
  refine RW.nil ?_
  refine awp_block ?_
  refine awp_loopW (fun m s => ∃ (i : Nat) (p : Nat) (g : Nat) (els : List AV), (p = i * z) ∧ (i = 0 ∨ p < b.length + z) ∧ (i ≤ p) ∧ (els = (((List.range i).map (pieceAt id b z)).map encSg).map .t) ∧ m = b.length - p ∧ s = ⟨42, [(0, .t (encI id)), (1, .t (.sl (b.map encBy) false)), (3, .t (encI b.length)), (4, .t (encI z)), (11, .own 11 g 0 i), (12, .t (.int .u32 (crcF b))), (13, .t (encI (p : Nat))), (42, .t crcT)], [(11, some ⟨5, 38, g, els⟩)]⟩) (_) (⟨_, weak_keep (n := 42) (fr' := [(0, .t (encI id)), (1, .t (.sl (b.map encBy) false)), (3, .t (encI b.length)), (4, .t (encI z)), (11, .own 11 0 0 0), (12, .t (.int .u32 (crcF b))), (13, .t (encI (0 : Nat))), (42, .t crcT)]) (st' := [(11, some ⟨5, 38, 0, ([])⟩)]) ⟨rfl, rfl, rfl, rfl, rfl, rfl, rfl, rfl, rfl, rfl, rfl, rfl, rfl, rfl, rfl, rfl, trivial⟩ ⟨rfl, (by first | exact okE_nil | (rw [he]; exact okE_t) | (rw [he]; intro x hx; simp only [List.mem_append, List.mem_map, List.mem_singleton] at hx; rcases hx with ⟨y, _, rfl⟩ | rfl <;> rfl)), trivial⟩, 0, 0, 0, [], (by simp), (by omega), (by omega), (by rfl), rfl, rfl⟩) ?_
  rintro m s ⟨i, p, g, els, hp, h0, hip, he, rfl, rfl⟩
  refine awp_seq ?_
  refine awp_seq ?_
  refine awp_rw rfl ?_
  refine RW.op rfl rfl (eff_move (v := .t _) rfl rfl rfl) ?_
  refine RW.op rfl rfl (eff_move (v := .t _) rfl rfl rfl) ?_
  refine RW.op rfl rfl (eff_iop rfl rfl rfl rfl rfl) ?_
  refine RW.nil ?_
  refine awp_cond rfl (fun h1 => ?_) (fun h1 => ?_)
  · try simp only [decide_eq_true_eq, decide_eq_false_iff_not, beq_iff_eq, bne_iff_ne, bne_eq_false_iff_eq, beq_eq_false_iff_ne, Bool.not_eq_true, Bool.not_eq_false, Bool.not_eq_true', Bool.not_eq_false', ne_eq] at h1
    refine awp_skip ?_
    refine awp_seq ?_
    refine awp_block ?_
    refine awp_rw rfl ?_
    have hmn : imin ((p : Int) + z) b.length = ((min (p + z) b.length : Nat) : Int) := by unfold imin; split <;> omega
    have hle : p < b.length := by omega
    have hd1 : (encSg (pieceAt id b z i)) = .agg [encI id, encI p, encI b.length, .int .u32 (crcF b), .sl (((b.drop p).take z).map encBy) false] := by unfold encSg pieceAt; rw [← hp]
    refine RW.op rfl rfl (eff_move (v := .own _ _ _ _) rfl rfl rfl) ?_
    refine RW.op rfl rfl (eff_move (v := .t _) rfl rfl rfl) ?_
    refine RW.op rfl rfl (eff_move (v := .t _) rfl rfl rfl) ?_
    refine RW.op rfl rfl (eff_move (v := .t _) rfl rfl rfl) ?_
    refine RW.op rfl rfl (eff_lenM rfl rfl te22 rfl) ?_
    refine RW.op rfl rfl (eff_move (v := .t _) rfl rfl rfl) ?_
    refine RW.op rfl rfl (eff_move (v := .t _) rfl rfl rfl) ?_
    refine RW.op rfl rfl (eff_move (v := .t _) rfl rfl rfl) ?_
    refine RW.op rfl rfl (eff_move (v := .t _) rfl rfl rfl) ?_
    refine RW.op rfl rfl (eff_move (v := .t _) rfl rfl rfl) ?_
    refine RW.op rfl rfl (eff_iop rfl rfl rfl rfl (iadd (by omega))) ?_
    refine RW.op rfl rfl (eff_move (v := .t _) rfl rfl rfl) ?_
    refine RW.op rfl rfl (eff_min rfl rfl rfl rfl) ?_
    refine RW.op rfl rfl (eff_sliceM (g := encBy) (l := some p) (h := some (min (p + z) b.length)) rfl rfl te22 rfl (fun _ => rfl) (.yes rfl rfl) (.yes rfl hmn) (by show p ≤ min (p + z) b.length; omega) (by show min (p + z) b.length ≤ b.length; omega) (piece_cut _ rfl)) ?_
    refine RW.op rfl rfl (eff_callT (cloneB_ret ((b.drop p).take z) (by simp; omega)) co31 rfl rfl rfl rfl) ?_
    refine RW.op rfl rfl (eff_buildT (ys := [_, _, _, _, _]) rfl rfl tz38 tg38 rfl) ?_
    refine RW.new rfl rfl (eff_buildSliceL (id := 39) (els := [.t (.agg [_, _, _, _, _])]) rfl rfl te25 tz38 rfl (by decide) (by decide) rfl rfl rfl rfl) ?_
    refine RW.new rfl rfl (eff_append (id := 11) (ys := [_]) rfl rfl ta25 rfl rfl rfl (by rw [he]; simp) rfl rfl (srcOwn rfl rfl rfl rfl rfl rfl) (by simp) (by simp; omega) (by simp; omega)) ?_
    refine RW.op rfl rfl (eff_assign (v := .own _ _ _ _) rfl rfl rfl) ?_
    refine RW.nil ?_
    refine awp_rw rfl ?_
    refine RW.op rfl rfl (eff_move (v := .t _) rfl rfl rfl) ?_
    refine RW.op rfl rfl (eff_move (v := .t _) rfl rfl rfl) ?_
    refine RW.op rfl rfl (eff_iop rfl rfl rfl rfl (iadd (by omega))) ?_
    refine RW.op rfl rfl (eff_assign (v := .t _) rfl rfl rfl) ?_
    refine RW.nil ?_
    refine ⟨_, ?_, _, weak_keep (n := 42) (fr' := [(0, .t (encI id)), (1, .t (.sl (b.map encBy) false)), (3, .t (encI b.length)), (4, .t (encI z)), (11, .own 11 _ 0 (i + 1)), (12, .t (.int .u32 (crcF b))), (13, .t (encI ((p + z) : Nat))), (42, .t crcT)]) (st' := [(11, some ⟨5, 38, _, _⟩)]) ⟨rfl, rfl, rfl, rfl, rfl, rfl, rfl, rfl, rfl, rfl, rfl, rfl, rfl, rfl, rfl, rfl, trivial⟩ ⟨rfl, (by first | exact okE_nil | (rw [he]; exact okE_t) | (rw [he]; intro x hx; simp only [List.mem_append, List.mem_map, List.mem_singleton] at hx; rcases hx with ⟨y, _, rfl⟩ | rfl <;> rfl)), trivial⟩, i + 1, p + z, _, _, (by rw [Nat.succ_mul, hp]), (by omega), (by omega), (by rw [range_map_succ, he]; simp [hd1]; rfl), rfl, rfl⟩
    omega
  · try simp only [decide_eq_true_eq, decide_eq_false_iff_not, beq_iff_eq, bne_iff_ne, bne_eq_false_iff_eq, beq_eq_false_iff_ne, Bool.not_eq_true, Bool.not_eq_false, Bool.not_eq_true', Bool.not_eq_false', ne_eq] at h1
    refine awp_exit ?_
    refine awp_seq ?_
    refine awp_rw rfl ?_
    refine RW.op rfl rfl (eff_move (v := .own _ _ _ _) rfl rfl rfl) ?_
    refine RW.op rfl rfl (eff_assign (v := .own _ _ _ _) rfl rfl rfl) ?_
    refine RW.nil ?_
    refine awp_ret ?_
    have hi2 : i = segN b z := segN_eq hz hp (by omega) h0
    subst he
    unfold segsF
    rw [← hi2]
    exact ⟨Or.inr rfl, [_], ⟨.tmp (Res.ownM rfl (by simp)), trivial⟩, .refl _⟩

end Go.Tv.D27

end
section
open Go Go.Tv Go.Proofs
namespace Go.Tv.D27
set_option maxRecDepth 20000
set_option linter.unusedSimpArgs false
set_option linter.unusedVariables false
theorem eff_minR {P : Program} {o : Oper} {D : St} {t t2 : TypeId} {x y : Operand} {k : IntKind} {n m r : Int} (hd : dstOK D.n o.dst = true)
    (ho : o.op = .call { callee := .builtin .min, args := #[x, y], argTypes := #[t, t2] }) (hx : D.ev x = .t (.int k n)) (hy : D.ev y = .t (.int k m)) (hr : imin n m = r) : Eff P o D ⟨.t (.int k r), []⟩ := hr ▸ eff_min hd ho hx hy

theorem segsF_len (id : Int) (b : List Int) (z : Nat) (hl : b.length ≤ 1000) (hz2 : z ≤ 256) : (segsF id b z).length ≤ 1255 := by
  unfold segsF segN
  have := Nat.div_le_self (b.length + z - 1) z
  simp; omega

theorem answer_ret (id : Int) (b : List Int) (z : Nat) (hl : b.length ≤ 1000) (hl1 : 1 ≤ b.length) (hz : 0 < z) (hz2 : z ≤ 256) : RetT Tryd.prog 23 [(0, crcT)] [encI id, .sl (b.map encBy) false, .sl ([Gap.mk 0 b.length].map encG) false, encI z] (.sl ((segsF id b z).map encSg) false) := by
  refine retT_of_awp Tryd.func23 rfl (Nat.le_of_ble_eq_true rfl) ?_
  refine awp_seq ?_
  refine awp_rw rfl ?_
  refine RW.op rfl rfl (eff_assign (v := .t _) rfl rfl rfl) ?_
  refine RW.nil ?_
  refine awp_seq ?_
  refine awp_seq ?_
  refine awp_rw rfl ?_
  refine RW.op rfl rfl (eff_move (v := .t _) rfl rfl rfl) ?_
  refine RW.op rfl rfl (eff_move (v := .t _) rfl rfl rfl) ?_
  refine RW.op rfl rfl (eff_callT (fits_ret b z (by omega) hz hz2) co22 rfl rfl rfl rfl) ?_
  refine RW.op rfl rfl (eff_iop (r := .bool false) rfl rfl rfl rfl (by rfl)) ?_
  refine RW.op rfl rfl (eff_move (v := .t _) rfl rfl rfl) ?_
  refine RW.gop rfl rfl rfl rfl rfl rfl (eff_move (v := .t _) rfl rfl rfl) ?_
  refine RW.gop rfl rfl rfl rfl rfl rfl (eff_lenM rfl rfl te67 rfl) ?_
  refine RW.gop rfl rfl rfl rfl rfl rfl (eff_iop (r := .bool false) rfl rfl rfl rfl (by rfl)) ?_
  refine RW.op rfl rfl (eff_pick (v := .t _) rfl rfl rfl rfl) ?_
  refine RW.nil ?_
  refine awp_cond rfl (fun h => nomatch h) (fun _ => ?_)
  refine awp_skip ?_
  refine awp_seq ?_
  refine awp_seq ?_
  refine awp_rw rfl ?_
  refine RW.op rfl rfl (eff_move (v := .t _) rfl rfl rfl) ?_
  refine RW.op rfl rfl (eff_lenM rfl rfl te22 rfl) ?_
  refine RW.op rfl rfl (eff_iop (r := .bool false) rfl rfl rfl rfl (by show some (Tr.bool ((_ : Int) == _)) = _; rw [beq_eq_false_iff_ne.2 (by omega)])) ?_
  refine RW.nil ?_
  refine awp_cond rfl (fun h => nomatch h) (fun _ => ?_)
  refine awp_skip ?_
  refine awp_seq ?_
  refine awp_rw rfl ?_
  refine RW.op rfl rfl (eff_assign (v := .t _) rfl rfl rfl) ?_
  refine RW.nil ?_
  show AWP _ _ _ _
  refine awp_weak (weak_adopt (d := 9) (id := 9) (k := 5) (ty := 38) rfl rfl) ?_
  refine awp_seq ?_
  refine awp_seq ?_
  refine awp_rw rfl ?_
  refine RW.op rfl rfl (eff_move (v := .t _) rfl rfl rfl) ?_
  refine RW.op rfl rfl (eff_lenM rfl rfl te67 rfl) ?_
  refine RW.op rfl rfl (eff_move (v := .t _) rfl rfl rfl) ?_
  refine RW.nil ?_
  refine awp_block ?_
  refine awp_loopW (fun m s => ∃ (i : Nat) (k : Nat) (g : Nat) (els : List AV), (i ≤ 1) ∧ (els = ((if i = 0 then [] else segsF id b z).map encSg).map .t) ∧ (k = els.length) ∧ m = 1 - i ∧ s = ⟨50, [(0, .t (encI id)), (1, .t (.sl (b.map encBy) false)), (3, .t (encI z)), (9, .own 9 g 0 k), (28, .t (.sl ([Gap.mk 0 b.length].map encG) false)), (29, .t (encI 1)), (30, .t (encI (i : Nat))), (50, .t crcT)], [(9, some ⟨5, 38, g, els⟩)]⟩) (_) (⟨_, weak_keep (n := 50) (fr' := [(0, .t (encI id)), (1, .t (.sl (b.map encBy) false)), (3, .t (encI z)), (9, .own 9 0 0 0), (28, .t (.sl ([Gap.mk 0 b.length].map encG) false)), (29, .t (encI 1)), (30, .t (encI (0 : Nat))), (50, .t crcT)]) (st' := [(9, some ⟨5, 38, 0, ([])⟩)]) ⟨rfl, rfl, rfl, rfl, rfl, rfl, rfl, rfl, rfl, rfl, rfl, rfl, rfl, rfl, rfl, rfl, trivial⟩ ⟨rfl, (by first | exact okE_nil | (rw [he]; exact okE_t) | (intro x hx; simp only [List.mem_append, List.mem_map, List.not_mem_nil, false_or] at hx; obtain ⟨y, _, rfl⟩ := hx; rfl)), trivial⟩, 0, 0, 0, [], (by omega), (by rfl), (by rfl), rfl, rfl⟩) ?_
  rintro m s ⟨i, k, g, els, hi, he, hk, rfl, rfl⟩
  refine awp_seq ?_
  refine awp_rw rfl ?_
  refine RW.op rfl rfl (eff_iop rfl rfl rfl rfl rfl) ?_
  refine RW.nil ?_
  refine awp_seq ?_
  refine awp_cond rfl (fun h1 => ?_) (fun h1 => ?_)
  · try simp only [decide_eq_true_eq, decide_eq_false_iff_not, beq_iff_eq, bne_iff_ne, bne_eq_false_iff_eq, beq_eq_false_iff_ne, Bool.not_eq_true, Bool.not_eq_false, Bool.not_eq_true', Bool.not_eq_false', ne_eq] at h1
    refine awp_skip ?_
    refine awp_seq ?_
    refine awp_block ?_
    refine awp_seq ?_
    refine awp_rw rfl ?_
    obtain rfl : i = 0 := by omega
    have hsl := segsF_len id b z hl hz2
    obtain rfl : els = [] := by simpa using he
    obtain rfl : k = 0 := hk
    refine RW.op rfl rfl (eff_indexM (i := 0) rfl rfl te67 rfl rfl (by first | rfl | omega) (by rfl) rfl (by decide)) ?_
    refine RW.op rfl rfl (eff_loadW rfl rfl ti66 rfl rfl rfl) ?_
    refine RW.new rfl rfl (eff_allocK (k := 2) (id := 11) rfl rfl tz66 rfl rfl) ?_
    refine RW.store rfl rfl (eff_storeW (v := .t _) (els := [_]) (els' := [_]) rfl rfl ti66 rfl rfl rfl rfl rfl rfl rfl rfl rfl) ?_
    refine RW.nil ?_
    refine awp_rw rfl ?_
    refine RW.op rfl rfl (eff_move (v := .own _ _ _ _) rfl rfl rfl) ?_
    refine RW.op rfl rfl (eff_move (v := .t _) rfl rfl rfl) ?_
    refine RW.op rfl rfl (eff_move (v := .t _) rfl rfl rfl) ?_
    refine RW.op rfl rfl (eff_fieldAddr rfl rfl tf66_0 (by decide) rfl rfl rfl (Nat.le_of_ble_eq_true rfl)) ?_
    refine RW.op rfl rfl (eff_load (y := .t _) rfl rfl ti3 rfl (.one rfl rfl rfl rfl)) ?_
    refine RW.op rfl rfl (eff_max rfl rfl rfl rfl) ?_
    refine RW.op rfl rfl (eff_fieldAddr rfl rfl tf66_1 (by decide) rfl rfl rfl (Nat.le_of_ble_eq_true rfl)) ?_
    refine RW.op rfl rfl (eff_load (y := .t _) rfl rfl ti3 rfl (.one rfl rfl rfl rfl)) ?_
    refine RW.op rfl rfl (eff_move (v := .t _) rfl rfl rfl) ?_
    refine RW.op rfl rfl (eff_lenM rfl rfl te22 rfl) ?_
    refine RW.op rfl rfl (eff_minR (r := b.length) rfl rfl rfl rfl (by unfold imin; simp)) ?_
    refine RW.op rfl rfl (eff_move (v := .t _) rfl rfl rfl) ?_
    refine RW.op rfl rfl (eff_callXT (pieces_ret id b z hl hz hz2) co38 rfl rfl rfl ⟨rfl, trivial⟩ rfl) ?_
    refine RW.new rfl rfl (eff_appendAny (id := 9) rfl rfl ta25 rfl rfl rfl rfl rfl rfl (srcM rfl (fun _ => rfl)) (by simp only [List.length_map]; omega) (by simp only [List.length_map]; omega)) ?_
    refine RW.op rfl rfl (eff_assign (v := .own _ _ _ _) rfl rfl rfl) ?_
    refine RW.nil ?_
    refine awp_rw rfl ?_
    refine RW.op rfl rfl (eff_iop rfl rfl rfl rfl (iadd (by omega))) ?_
    refine RW.op rfl rfl (eff_move (v := .t _) rfl rfl rfl) ?_
    refine RW.nil ?_
    refine ⟨_, ?_, _, weak_keep (n := 50) (fr' := [(0, .t (encI id)), (1, .t (.sl (b.map encBy) false)), (3, .t (encI z)), (9, .own 9 _ 0 _), (28, .t (.sl ([Gap.mk 0 b.length].map encG) false)), (29, .t (encI 1)), (30, .t (encI (1 : Nat))), (50, .t crcT)]) (st' := [(9, some ⟨5, 38, _, _⟩)]) ⟨rfl, rfl, rfl, rfl, rfl, rfl, rfl, rfl, rfl, rfl, rfl, rfl, rfl, rfl, rfl, rfl, trivial⟩ ⟨rfl, (by first | exact okE_nil | (rw [he]; exact okE_t) | (intro x hx; simp only [List.mem_append, List.mem_map, List.not_mem_nil, false_or] at hx; obtain ⟨y, _, rfl⟩ := hx; rfl)), trivial⟩, 1, _, _, _, (by omega), (by simp), (by simp), rfl, rfl⟩
    omega
  · try simp only [decide_eq_true_eq, decide_eq_false_iff_not, beq_iff_eq, bne_iff_ne, bne_eq_false_iff_eq, beq_eq_false_iff_ne, Bool.not_eq_true, Bool.not_eq_false, Bool.not_eq_true', Bool.not_eq_false', ne_eq] at h1
    refine awp_exit ?_
    refine awp_seq ?_
    refine awp_rw rfl ?_
    refine RW.op rfl rfl (eff_move (v := .own _ _ _ _) rfl rfl rfl) ?_
    refine RW.op rfl rfl (eff_assign (v := .own _ _ _ _) rfl rfl rfl) ?_
    refine RW.nil ?_
    refine awp_ret ?_
    obtain rfl : i = 1 := by omega
    subst he
    exact ⟨Or.inr rfl, [_], ⟨.tmp (Res.ownM (xs := (segsF id b z).map encSg) rfl (by simpa using hk)), trivial⟩, .refl _⟩

theorem cut_ret (id : Int) (b : List Int) (z : Nat) (hl : b.length ≤ 1000) (hl1 : 1 ≤ b.length) (hz : 0 < z) (hz2 : z ≤ 256) : RetT Tryd.prog 5 [(0, crcT)] [encI id, .sl (b.map encBy) false, encI z] (.tup [.sl ((segsF id b z).map encSg) false, encI 0]) := by
  refine retT_of_awp Tryd.func5 rfl (Nat.le_of_ble_eq_true rfl) ?_
  refine awp_seq ?_
  refine awp_rw rfl ?_
  refine RW.op rfl rfl (eff_assign (v := .t _) rfl rfl rfl) ?_
  refine RW.op rfl rfl (eff_assign (v := .t _) rfl rfl rfl) ?_
  refine RW.nil ?_
  refine awp_seq ?_
  refine awp_seq ?_
  refine awp_rw rfl ?_
  refine RW.op rfl rfl (eff_move (v := .t _) rfl rfl rfl) ?_
  refine RW.op rfl rfl (eff_move (v := .t _) rfl rfl rfl) ?_
  refine RW.op rfl rfl (eff_callT (fits_ret b z (by omega) hz hz2) co22 rfl rfl rfl rfl) ?_
  refine RW.op rfl rfl (eff_assign (v := .t _) rfl rfl rfl) ?_
  refine RW.nil ?_
  refine awp_seq ?_
  refine awp_rw rfl ?_
  refine RW.op rfl rfl (eff_move (v := .t _) rfl rfl rfl) ?_
  refine RW.op rfl rfl (eff_iop (r := .bool false) rfl rfl rfl rfl (by rfl)) ?_
  refine RW.nil ?_
  refine awp_cond rfl (fun h => nomatch h) (fun _ => ?_)
  refine awp_skip ?_
  refine awp_seq ?_
  refine awp_rw rfl ?_
  refine RW.op rfl rfl (eff_move (v := .t _) rfl rfl rfl) ?_
  refine RW.op rfl rfl (eff_move (v := .t _) rfl rfl rfl) ?_
  refine RW.op rfl rfl (eff_move (v := .t _) rfl rfl rfl) ?_
  refine RW.op rfl rfl (eff_lenM rfl rfl te22 rfl) ?_
  refine RW.op rfl rfl (eff_buildT (ys := [_, _]) rfl rfl tz66 tg66 rfl) ?_
  refine RW.new rfl rfl (eff_buildSliceL (id := 20) (els := [.t (.agg [_, _])]) rfl rfl te67 tz66 rfl (by decide) (by decide) rfl rfl rfl rfl) ?_
  refine RW.op rfl rfl (eff_move (v := .t _) rfl rfl rfl) ?_
  refine RW.weak (s' := ⟨23, [(15, .t (encI id)), (16, .t (.sl (b.map encBy) false)), (20, .t (.sl ([Gap.mk 0 b.length].map encG) false)), (21, .t (encI z)), (23, .t crcT)], []⟩) (weak_frz [(20, some ⟨2, 66, 0, [.t (encG ⟨0, b.length⟩)]⟩)] ⟨rfl, trivial⟩ trivial ⟨wa_eq rfl rfl, wa_eq rfl rfl, .res (Res.ownT (xs := [encG ⟨0, b.length⟩]) rfl rfl rfl rfl) (.refl _), wa_eq rfl rfl, wa_eq rfl rfl, trivial⟩ trivial) rfl ?_
  refine RW.op rfl rfl (eff_callXT (answer_ret id b z hl hl1 hz hz2) co23 rfl rfl rfl ⟨rfl, trivial⟩ rfl) ?_
  refine RW.op rfl rfl (eff_assign (v := .t _) rfl rfl rfl) ?_
  refine RW.op rfl rfl (eff_assign (v := .t _) rfl rfl rfl) ?_
  refine RW.nil ?_
  refine awp_ret ?_
  first
    | exact ⟨Or.inr rfl, [_, _], ⟨.tmp (.t _), .tmp (.t _), trivial⟩, .refl _⟩
    | exact ⟨Or.inr rfl, [_, _], ⟨.tmp (.t _), .tmp (.t _), trivial⟩, (by repeat' first | exact trivial | exact Wk.refl _ | exact Wk.sl _ | refine And.intro ?_ ?_ | refine Wk.tupP ?_ | refine Wk.aggP ?_)⟩
    | exact ⟨Or.inr rfl, [_, _], ⟨.tmp (.t _), .tmp (Res.ownT rfl rfl rfl rfl), trivial⟩, .refl _⟩
    | exact ⟨Or.inr rfl, [_, _], ⟨.tmp (.t _), .tmp (Res.ownT rfl rfl rfl rfl), trivial⟩, (by repeat' first | exact trivial | exact Wk.refl _ | exact Wk.sl _ | refine And.intro ?_ ?_ | refine Wk.tupP ?_ | refine Wk.aggP ?_)⟩
    | exact ⟨Or.inr rfl, [_, _], ⟨.tmp (Res.ownT rfl rfl rfl rfl), .tmp (.t _), trivial⟩, .refl _⟩
    | exact ⟨Or.inr rfl, [_, _], ⟨.tmp (Res.ownT rfl rfl rfl rfl), .tmp (.t _), trivial⟩, (by repeat' first | exact trivial | exact Wk.refl _ | exact Wk.sl _ | refine And.intro ?_ ?_ | refine Wk.tupP ?_ | refine Wk.aggP ?_)⟩
    | exact ⟨Or.inr rfl, [_, _], ⟨.tmp (Res.ownT rfl rfl rfl rfl), .tmp (Res.ownT rfl rfl rfl rfl), trivial⟩, .refl _⟩
    | exact ⟨Or.inr rfl, [_, _], ⟨.tmp (Res.ownT rfl rfl rfl rfl), .tmp (Res.ownT rfl rfl rfl rfl), trivial⟩, (by repeat' first | exact trivial | exact Wk.refl _ | exact Wk.sl _ | refine And.intro ?_ ?_ | refine Wk.tupP ?_ | refine Wk.aggP ?_)⟩

theorem newPart_retG (id : Int) : RetG Tryd.prog 9 [] [.t (encI id)] [(5, some ⟨5, 74, 0, [.t (.agg [encI id, .bool false, .int .u32 0, .sl [] true, .sl [] true])]⟩)] (.ptr 5 0 0 0) := by
  refine retG_of_awp Tryd.func9 rfl (Nat.le_of_ble_eq_true rfl) ?_
  refine awp_seq ?_
  refine awp_rw rfl ?_
  refine RW.op rfl rfl (eff_assign (v := .t _) rfl rfl rfl) ?_
  refine RW.nil ?_
  refine awp_seq ?_
  refine awp_rw rfl ?_
  refine RW.op rfl rfl (eff_move (v := .t _) rfl rfl rfl) ?_
  refine RW.op rfl rfl (eff_buildT (ys := [_, _, _, _, _]) rfl rfl tz74 tg74 rfl) ?_
  refine RW.new rfl rfl (eff_boxK (v := .t _) (k := 5) (id := 5) rfl rfl rfl rfl rfl rfl) ?_
  refine RW.op rfl rfl (eff_assign (v := .ptr _ _ _ _) rfl rfl rfl) ?_
  refine RW.nil ?_
  refine awp_ret ?_
  exact ⟨Or.inr rfl, [_], [.ptr 5 0 0 0], ⟨.tmp rfl, trivial⟩, rfl, weak_keep ⟨rfl, rfl, trivial⟩ ⟨rfl, okE_one rfl, trivial⟩, rfl⟩

end Go.Tv.D27

end
section
open Go Go.Tv Go.Proofs
namespace Go.Tv.D27
set_option maxRecDepth 20000
set_option linter.unusedSimpArgs false
set_option linter.unusedVariables false
theorem valid_ret (s : Seg) (h1 : 0 ≤ s.total) (h2 : s.total ≤ 65536) (h3 : s.data.length ≤ 256) (h4 : 0 ≤ s.offset) (h5 : s.offset + s.data.length ≤ s.total) : Ret Tryd.prog 28 [encSg s] (.bool true) := by
  refine ret_of_awp Tryd.func28 rfl (Nat.le_of_ble_eq_true rfl) ?_
  refine awp_seq ?_
  refine awp_rw rfl ?_
  refine RW.new rfl rfl (eff_boxK (v := .t _) (k := 5) (id := 1) rfl rfl rfl rfl rfl rfl) ?_
  refine RW.op rfl rfl (eff_assign (v := .t _) rfl rfl rfl) ?_
  refine RW.nil ?_
  refine awp_seq ?_
  refine awp_rw rfl ?_
  refine RW.op rfl rfl (eff_fieldAddr rfl rfl tf38_2 (by decide) rfl rfl rfl (Nat.le_of_ble_eq_true rfl)) ?_
  refine RW.op rfl rfl (eff_load (y := .t _) rfl rfl ti3 rfl (.one rfl rfl rfl rfl)) ?_
  refine RW.op rfl rfl (eff_iop (r := .bool true) rfl rfl rfl rfl (by show some (Tr.bool (decide _)) = _; rw [decide_eq_true (by omega)])) ?_
  refine RW.op rfl rfl (eff_move (v := .t _) rfl rfl rfl) ?_
  refine RW.gop rfl rfl rfl rfl rfl rfl (eff_fieldAddr rfl rfl tf38_2 (by decide) rfl rfl rfl (Nat.le_of_ble_eq_true rfl)) ?_
  refine RW.gop rfl rfl rfl rfl rfl rfl (eff_load (y := .t _) rfl rfl ti3 rfl (.one rfl rfl rfl rfl)) ?_
  refine RW.gop rfl rfl rfl rfl rfl rfl (eff_iop (r := .bool true) rfl rfl rfl rfl (by show some (Tr.bool (decide _)) = _; rw [decide_eq_true (by omega)])) ?_
  refine RW.op rfl rfl (eff_pick (v := .t _) rfl rfl rfl rfl) ?_
  refine RW.op rfl rfl (eff_move (v := .t _) rfl rfl rfl) ?_
  refine RW.gop rfl rfl rfl rfl rfl rfl (eff_fieldAddr rfl rfl tf38_4 (by decide) rfl rfl rfl (Nat.le_of_ble_eq_true rfl)) ?_
  refine RW.gop rfl rfl rfl rfl rfl rfl (eff_load (y := .t _) rfl rfl ti22 rfl (.one rfl rfl rfl rfl)) ?_
  refine RW.gop rfl rfl rfl rfl rfl rfl (eff_lenM rfl rfl te22 rfl) ?_
  refine RW.gop rfl rfl rfl rfl rfl rfl (eff_iop (r := .bool true) rfl rfl rfl rfl (by show some (Tr.bool (decide _)) = _; rw [decide_eq_true (by omega)])) ?_
  refine RW.op rfl rfl (eff_pick (v := .t _) rfl rfl rfl rfl) ?_
  refine RW.op rfl rfl (eff_move (v := .t _) rfl rfl rfl) ?_
  refine RW.gop rfl rfl rfl rfl rfl rfl (eff_fieldAddr rfl rfl tf38_1 (by decide) rfl rfl rfl (Nat.le_of_ble_eq_true rfl)) ?_
  refine RW.gop rfl rfl rfl rfl rfl rfl (eff_load (y := .t _) rfl rfl ti3 rfl (.one rfl rfl rfl rfl)) ?_
  refine RW.gop rfl rfl rfl rfl rfl rfl (eff_iop (r := .bool true) rfl rfl rfl rfl (by show some (Tr.bool (decide _)) = _; rw [decide_eq_true (by omega)])) ?_
  refine RW.op rfl rfl (eff_pick (v := .t _) rfl rfl rfl rfl) ?_
  refine RW.op rfl rfl (eff_move (v := .t _) rfl rfl rfl) ?_
  refine RW.gop rfl rfl rfl rfl rfl rfl (eff_fieldAddr rfl rfl tf38_1 (by decide) rfl rfl rfl (Nat.le_of_ble_eq_true rfl)) ?_
  refine RW.gop rfl rfl rfl rfl rfl rfl (eff_load (y := .t _) rfl rfl ti3 rfl (.one rfl rfl rfl rfl)) ?_
  refine RW.gop rfl rfl rfl rfl rfl rfl (eff_fieldAddr rfl rfl tf38_2 (by decide) rfl rfl rfl (Nat.le_of_ble_eq_true rfl)) ?_
  refine RW.gop rfl rfl rfl rfl rfl rfl (eff_load (y := .t _) rfl rfl ti3 rfl (.one rfl rfl rfl rfl)) ?_
  refine RW.gop rfl rfl rfl rfl rfl rfl (eff_fieldAddr rfl rfl tf38_4 (by decide) rfl rfl rfl (Nat.le_of_ble_eq_true rfl)) ?_
  refine RW.gop rfl rfl rfl rfl rfl rfl (eff_load (y := .t _) rfl rfl ti22 rfl (.one rfl rfl rfl rfl)) ?_
  refine RW.gop rfl rfl rfl rfl rfl rfl (eff_lenM rfl rfl te22 rfl) ?_
  refine RW.gop rfl rfl rfl rfl rfl rfl (eff_iop rfl rfl rfl rfl (isub (by omega))) ?_
  refine RW.gop rfl rfl rfl rfl rfl rfl (eff_iop (r := .bool true) rfl rfl rfl rfl (by show some (Tr.bool (decide _)) = _; rw [decide_eq_true (by omega)])) ?_
  refine RW.op rfl rfl (eff_pick (v := .t _) rfl rfl rfl rfl) ?_
  refine RW.op rfl rfl (eff_assign (v := .t _) rfl rfl rfl) ?_
  refine RW.nil ?_
  refine awp_ret ?_
  first
    | exact ⟨Or.inr rfl, [_], ⟨.tmp (.t _), trivial⟩, .refl _⟩
    | exact ⟨Or.inr rfl, [_], ⟨.tmp (.t _), trivial⟩, (by repeat' first | exact trivial | exact Wk.refl _ | exact Wk.sl _ | refine And.intro ?_ ?_ | refine Wk.tupP ?_ | refine Wk.aggP ?_)⟩
    | exact ⟨Or.inr rfl, [_], ⟨.tmp (Res.ownT rfl rfl rfl rfl), trivial⟩, .refl _⟩
    | exact ⟨Or.inr rfl, [_], ⟨.tmp (Res.ownT rfl rfl rfl rfl), trivial⟩, (by repeat' first | exact trivial | exact Wk.refl _ | exact Wk.sl _ | refine And.intro ?_ ?_ | refine Wk.tupP ?_ | refine Wk.aggP ?_)⟩

theorem clone43_retG (l : List Bool) (hl : l.length ≤ 1000000) : RetG Tryd.prog 43 [] [.t (.sl (l.map Tr.bool) false)] [(5, some ⟨1, 4, 1, (l.map Tr.bool).map .t⟩)] (.own 5 1 0 l.length) := by
  refine retG_of_awp Tryd.func43 rfl (Nat.le_of_ble_eq_true rfl) ?_
  refine awp_seq ?_
  refine awp_rw rfl ?_
  refine RW.op rfl rfl (eff_assign (v := .t _) rfl rfl rfl) ?_
  refine RW.nil ?_
  refine awp_seq ?_
  refine awp_seq ?_
  refine awp_rw rfl ?_
  refine RW.op rfl rfl (eff_move (v := .t _) rfl rfl rfl) ?_
  refine RW.nilEq rfl rfl rfl rfl te72 rfl (fun b1 hb1 => ?_)
  refine RW.nil ?_
  refine awp_cond rfl (fun h2 => ?_) (fun h2 => ?_)
  · try simp only [decide_eq_true_eq, decide_eq_false_iff_not, beq_iff_eq, bne_iff_ne, bne_eq_false_iff_eq, beq_eq_false_iff_ne, Bool.not_eq_true, Bool.not_eq_false, Bool.not_eq_true', Bool.not_eq_false', ne_eq] at h2
    refine awp_seq ?_
    refine awp_rw rfl ?_
    refine RW.op rfl rfl (eff_assign (v := .t _) rfl rfl rfl) ?_
    refine RW.nil ?_
    show AWP _ _ _ _
    refine awp_weak (weak_adopt (d := 2) (id := 5) (k := 1) (ty := 4) rfl rfl) ?_
    refine awp_weak (weak_bumpS (d := 2) (id := 5) (off := 0) (len := 0) 1 rfl rfl (by decide)) ?_
    refine awp_ret ?_
    have hl0 : l = [] := by simpa using hb1 h2
    subst hl0
    exact ⟨Or.inr rfl, [_], [.own 5 1 0 0], ⟨.tmp rfl, trivial⟩, rfl, weak_keep ⟨rfl, rfl, trivial⟩ ⟨rfl, okE_nil, trivial⟩, rfl⟩
  · try simp only [decide_eq_true_eq, decide_eq_false_iff_not, beq_iff_eq, bne_iff_ne, bne_eq_false_iff_eq, beq_eq_false_iff_ne, Bool.not_eq_true, Bool.not_eq_false, Bool.not_eq_true', Bool.not_eq_false', ne_eq] at h2
    refine awp_skip ?_
    refine awp_seq ?_
    refine awp_rw rfl ?_
    refine RW.new rfl rfl (eff_buildSlice1 (id := 5) (els := []) rfl rfl te72 tz4 rfl (by decide) rfl rfl rfl rfl) ?_
    refine RW.op rfl rfl (eff_move (v := .t _) rfl rfl rfl) ?_
    refine RW.new rfl rfl (eff_appendAny (id := 5) rfl rfl ta72 rfl rfl rfl rfl rfl rfl (srcM rfl (fun _ => rfl)) (by simp; omega) (by simp; omega)) ?_
    refine RW.op rfl rfl (eff_assign (v := .own _ _ _ _) rfl rfl rfl) ?_
    refine RW.nil ?_
    refine awp_ret ?_
    exact ⟨Or.inr rfl, [_], [.own 5 1 0 l.length], ⟨.tmp rfl, trivial⟩, rfl, weak_keep ⟨(by show AV.own 5 _ 0 _ = AV.own 5 1 0 l.length; congr 1; simp), rfl, trivial⟩ ⟨rfl, okE_t, trivial⟩, rfl⟩

/-- The cells of a part whose bytes are all there. -/
def partC (id s : Int) (n : Nat) (d : List Int) : List Tr := [encI id, .bool true, .int .u32 s, .sl ((List.replicate n true).map Tr.bool) false, .sl (d.map encBy) false]
def haveEls (n : Nat) : List AV := (((List.replicate n true).map Tr.bool).map .t) ++ [.t (.bool true)]
theorem haveEls_get {n i : Nat} (h : i < n + 1) : (haveEls n)[i]? = some (.t (.bool true)) := by
  unfold haveEls
  rcases Nat.lt_or_ge i n with h1 | h1
  · rw [List.getElem?_append_left (by simpa using h1)]; simp [h1]
  · obtain rfl : i = n := by omega
    rw [List.getElem?_append_right (by simp)]; simp
theorem haveEls_ok {n : Nat} {σ : Sto} : okE σ (haveEls n) := okE_app okE_t (okE_one rfl)

theorem missing_iter (id s : Int) (n : Nat) (d : List Int) (hn : n ≤ 1000) : Iter Tryd.prog 42 [.ptr [.ptr (partC id s n d)]] ([]) := by
  refine iter_of_awj Tryd.func42 rfl (Nat.le_of_ble_eq_true rfl) rfl ?_
  intro γ X hds At Stop yl hy g0 hAt
  refine awj_seq ?_
  refine awj_rj rfl ?_
  refine RJ.op rfl rfl (eff_assign (v := .t _) rfl rfl rfl) ?_
  refine RJ.nil ?_
  refine awj_seq ?_
  refine awj_rj rfl ?_
  refine RJ.op rfl rfl (eff_loadT1 rfl rfl ti46 rfl rfl) ?_
  refine RJ.op rfl rfl (eff_nilCheck (v := .t _) rfl rfl rfl rfl (fun _ _ _ _ e => nomatch e)) ?_
  refine RJ.op rfl rfl (eff_fieldAddrT rfl rfl tf74_3 (by decide) rfl) ?_
  refine RJ.op rfl rfl (eff_loadT1 rfl rfl ti72 rfl rfl) ?_
  refine RJ.new rfl rfl (eff_callG (clone43_retG (List.replicate n true) (by simp; omega)) co43 (fun id => id + 1000) rfl rfl rfl ⟨.t _, trivial⟩ (.own _ _ _ _ rfl rfl) rfl trivial ⟨⟨treeEls_t, .inr rfl⟩, trivial⟩) ?_
  refine RJ.new rfl rfl (eff_buildSlice1 (id := 11) (els := [_]) rfl rfl te72 tz4 rfl (by decide) rfl rfl rfl rfl) ?_
  refine RJ.new rfl rfl (eff_append (id := 1005) (ys := [_]) rfl rfl ta72 rfl rfl rfl (by simp) rfl rfl (srcOwn rfl rfl rfl rfl rfl rfl) (by simp) (by simp; omega) (by simp; omega)) ?_
  refine RJ.op rfl rfl (eff_len rfl rfl te72 rfl rfl rfl) ?_
  refine RJ.op rfl rfl (eff_move (v := .t _) rfl rfl rfl) ?_
  refine RJ.nil ?_
  refine awj_block ?_
  refine awj_loopW (fun m s g => ∃ (i : Nat), (i ≤ n + 1) ∧ (At 0 g) ∧ m = n + 1 - i ∧ s = ⟨40, [(0, .t (.yld yl)), (3, .t (encI (-1))), (12, .own 1005 2 0 ((List.replicate n true).length + 1)), (13, .t (encI ((List.replicate n true).length + 1 : Nat))), (14, .t (encI (i : Nat)))], [(1005, some ⟨1, 4, 2, haveEls n⟩)]⟩) (_) (⟨_, weak_keep (n := 40) (fr' := [(0, .t (.yld yl)), (3, .t (encI (-1))), (12, .own 1005 2 0 ((List.replicate n true).length + 1)), (13, .t (encI ((List.replicate n true).length + 1 : Nat))), (14, .t (encI (0 : Nat)))]) (st' := [(1005, some ⟨1, 4, 2, haveEls n⟩)]) ⟨rfl, rfl, rfl, rfl, rfl, rfl, rfl, rfl, rfl, rfl, trivial⟩ ⟨rfl, haveEls_ok, trivial⟩, 0, (by omega), (by exact hAt), rfl, rfl⟩) ?_
  rintro m s g ⟨i, hi, hA, rfl, rfl⟩
  have hrl : (List.replicate n true).length = n := List.length_replicate
  refine awj_seq ?_
  refine awj_rj rfl ?_
  refine RJ.op rfl rfl (eff_iop rfl rfl rfl rfl rfl) ?_
  refine RJ.nil ?_
  refine awj_seq ?_
  refine awj_cond rfl (fun h1 => ?_) (fun h1 => ?_)
  · try simp only [decide_eq_true_eq, decide_eq_false_iff_not, beq_iff_eq, bne_iff_ne, bne_eq_false_iff_eq, beq_eq_false_iff_ne, Bool.not_eq_true, Bool.not_eq_false, Bool.not_eq_true', Bool.not_eq_false', ne_eq] at h1
    refine awj_skip ?_
    refine awj_seq ?_
    refine awj_block ?_
    refine awj_seq ?_
    refine awj_rj rfl ?_
    refine RJ.op rfl rfl (eff_move (v := .t _) rfl rfl rfl) ?_
    refine RJ.op rfl rfl (eff_indexAddr (i := i) rfl rfl te72 rfl rfl rfl rfl rfl rfl (by omega)) ?_
    refine RJ.op rfl rfl (eff_load (y := .t (.bool true)) rfl rfl ti4 rfl (.one rfl rfl (haveEls_get (n := n) (by omega)) rfl)) ?_
    refine RJ.op rfl rfl (eff_assign (v := .t _) rfl rfl rfl) ?_
    refine RJ.op rfl rfl (eff_assign (v := .t _) rfl rfl rfl) ?_
    refine RJ.nil ?_
    refine awj_block ?_
    refine awj_seq ?_
    refine awj_rj rfl ?_
    refine RJ.op rfl rfl (eff_move (v := .t _) rfl rfl rfl) ?_
    refine RJ.op rfl rfl (eff_unop rfl rfl rfl rfl) ?_
    refine RJ.op rfl rfl (eff_move (v := .t _) rfl rfl rfl) ?_
    refine RJ.gskip rfl rfl rfl rfl rfl (by decide) ?_
    refine RJ.gskip rfl rfl rfl rfl rfl (by decide) ?_
    refine RJ.op rfl rfl (eff_pick (v := .t _) rfl rfl rfl rfl) ?_
    refine RJ.op rfl rfl (eff_assign (v := .t _) rfl rfl rfl) ?_
    refine RJ.nil ?_
    refine awj_cond rfl (fun h => nomatch h) (fun _ => ?_)
    refine awj_seq ?_
    refine awj_rj rfl ?_
    refine RJ.op rfl rfl (eff_move (v := .t _) rfl rfl rfl) ?_
    refine RJ.op rfl rfl (eff_move (v := .t _) rfl rfl rfl) ?_
    refine RJ.gop rfl rfl rfl rfl rfl rfl (eff_move (v := .t _) rfl rfl rfl) ?_
    refine RJ.gop rfl rfl rfl rfl rfl rfl (eff_iop (r := .bool false) rfl rfl rfl rfl (by rfl)) ?_
    refine RJ.op rfl rfl (eff_pick (v := .t _) rfl rfl rfl rfl) ?_
    refine RJ.op rfl rfl (eff_assign (v := .t _) rfl rfl rfl) ?_
    refine RJ.nil ?_
    refine awj_cond rfl (fun h => nomatch h) (fun _ => ?_)
    refine awj_skip ?_
    refine awj_rj rfl ?_
    refine RJ.op rfl rfl (eff_iop rfl rfl rfl rfl (iadd (by omega))) ?_
    refine RJ.op rfl rfl (eff_move (v := .t _) rfl rfl rfl) ?_
    refine RJ.nil ?_
    refine ⟨_, ?_, _, weak_keep (n := 40) (fr' := [(0, .t (.yld yl)), (3, .t (encI (-1))), (12, .own 1005 2 0 ((List.replicate n true).length + 1)), (13, .t (encI ((List.replicate n true).length + 1 : Nat))), (14, .t (encI ((i + 1) : Nat)))]) (st' := [(1005, some ⟨1, 4, 2, haveEls n⟩)]) ⟨rfl, rfl, rfl, rfl, rfl, rfl, rfl, rfl, rfl, rfl, trivial⟩ ⟨rfl, haveEls_ok, trivial⟩, i + 1, (by omega), (by exact hA), rfl, rfl⟩
    omega
  · try simp only [decide_eq_true_eq, decide_eq_false_iff_not, beq_iff_eq, bne_iff_ne, bne_eq_false_iff_eq, beq_eq_false_iff_ne, Bool.not_eq_true, Bool.not_eq_false, Bool.not_eq_true', Bool.not_eq_false', ne_eq] at h1
    refine awj_exit ?_
    exact ⟨Or.inl rfl, Or.inl hA⟩

theorem missing_ret (id s : Int) (n : Nat) (d : List Int) (hn : n ≤ 1000) : Ret Tryd.prog 29 [.ptr (partC id s n d)] (.fn 42 [.ptr [.ptr (partC id s n d)]]) := by
  refine ret_of_awp Tryd.func29 rfl (Nat.le_of_ble_eq_true rfl) ?_
  refine awp_seq ?_
  refine awp_rw rfl ?_
  refine RW.new rfl rfl (eff_boxK (v := .t _) (k := 1) (id := 1) rfl rfl rfl rfl rfl rfl) ?_
  refine RW.op rfl rfl (eff_assign (v := .t _) rfl rfl rfl) ?_
  refine RW.nil ?_
  refine awp_seq ?_
  refine awp_rw rfl ?_
  refine RW.op rfl rfl (eff_makeFunc rfl rfl rfl rfl) ?_
  refine RW.op rfl rfl (eff_assign (v := .fn _ _) rfl rfl rfl) ?_
  refine RW.nil ?_
  refine awp_ret ?_
  first
    | exact ⟨Or.inr rfl, [_], ⟨.tmp (Res.fn _ _ _ rfl (fun i x y hx hy => by match i with | 0 => (simp at hx hy; subst hx hy; exact Res.ptr _ _ _ _ _ _ _ rfl rfl rfl (Nat.le_of_ble_eq_true rfl) (fun m e x he hx => by cases m with | zero => (cases hx; cases he; exact Res.t _) | succ m => cases hx)) | i + 1 => simp at hx)), trivial⟩, .refl _⟩
    | exact ⟨Or.inr rfl, [_], ⟨.tmp (Res.fn _ _ _ rfl (fun i x y hx hy => by match i with | 0 => (simp at hx hy; subst hx hy; exact Res.ptr _ _ _ _ _ _ _ rfl rfl rfl (Nat.le_of_ble_eq_true rfl) (fun m e x he hx => by cases m with | zero => (cases hx; cases he; exact Res.t _) | succ m => cases hx)) | i + 1 => simp at hx)), trivial⟩, (by repeat' first | exact trivial | exact Wk.refl _ | exact Wk.sl _ | refine And.intro ?_ ?_ | refine Wk.tupP ?_ | refine Wk.aggP ?_)⟩

end Go.Tv.D27

end
section
open Go Go.Tv Go.Proofs
namespace Go.Tv.D27
set_option maxRecDepth 20000
set_option linter.unusedSimpArgs false
set_option linter.unusedVariables false
theorem bytes_ret (id : Int) (n : Nat) (d : List Int) (hn : n ≤ 1000) (hdl : d.length = n) : RetT Tryd.prog 11 [(0, crcT)] [.ptr (partC id (crcF d) n d)] (.tup [.sl (d.map encBy) false, encI 0]) := by
  refine retT_of_awj Tryd.func11 rfl (Nat.le_of_ble_eq_true rfl) ?_
  intro F0 w0
  refine awj_seq ?_
  refine awj_rj rfl ?_
  refine RJ.new rfl rfl (eff_allocK (k := 1) (id := 2) rfl rfl tz22 rfl rfl) ?_
  refine RJ.new rfl rfl (eff_allocK (k := 1) (id := 3) rfl rfl tz26 rfl rfl) ?_
  refine RJ.nil ?_
  refine awj_seq ?_
  refine awj_seq ?_
  refine awj_rj rfl ?_
  refine RJ.op rfl rfl (eff_move (v := .t _) rfl rfl rfl) ?_
  refine RJ.op rfl rfl (eff_nilCheck (v := .t _) rfl rfl rfl rfl (fun _ _ _ _ e => nomatch e)) ?_
  refine RJ.op rfl rfl (eff_fieldAddrT rfl rfl tf74_1 (by decide) rfl) ?_
  refine RJ.op rfl rfl (eff_loadT1 rfl rfl ti4 rfl rfl) ?_
  refine RJ.op rfl rfl (eff_unop rfl rfl rfl rfl) ?_
  refine RJ.nil ?_
  refine awj_cond rfl (fun h => nomatch h) (fun _ => ?_)
  refine awj_skip ?_
  refine awj_seq ?_
  refine awj_seq ?_
  refine awj_rj rfl ?_
  refine RJ.op rfl rfl (eff_move (v := .t _) rfl rfl rfl) ?_
  refine RJ.op rfl rfl (eff_callT (missing_ret id (crcF d) n d hn) co29 rfl rfl rfl rfl) ?_
  refine RJ.nil ?_
  refine awj_block ?_
  refine awj_rangeFunc (kp' := fun j => [0, 2, 3, 27].elem j) (f := 42) rfl co42 (missing_iter id (crcF d) n d hn) rfl rfl rfl (fun i s => s = ⟨27, [(0, .t (.ptr (partC id (crcF d) n d))), (2, .ptr 2 0 0 0), (3, .ptr 3 0 0 0), (27, .t crcT)], [(2, some ⟨1, 22, 0, [.t (.sl [] true)]⟩), (3, some ⟨1, 26, 0, [.t (encI 0)]⟩)]⟩) (fun c s => False) (⟨_, weak_keep (n := 27) (fr' := [(0, .t (.ptr (partC id (crcF d) n d))), (2, .ptr 2 0 0 0), (3, .ptr 3 0 0 0), (27, .t crcT)]) (st' := [(2, some ⟨1, 22, 0, [.t (.sl [] true)]⟩), (3, some ⟨1, 26, 0, [.t (encI 0)]⟩)]) ⟨rfl, rfl, rfl, rfl, rfl, rfl, rfl, rfl, trivial⟩ ⟨rfl, okE_one rfl, rfl, okE_one rfl, trivial⟩, rfl⟩) (fun i s1 hI => by subst hI; exact ⟨rfl, kept_of rfl⟩) (fun c s1 hI => hI.elim) ?_ ?_ ?_
  · intro l i x s1 hI hx F1 w1
    have hfalse : False := by simp at hx
    subst hI
    show AWJ _ _ _ _ _ ⟨27, _, _⟩ _ _
    refine awj_skip ?_
    refine ⟨rfl, rfl, fun F2 w2 => ?_⟩
    refine awj_block ?_
    refine awj_seq ?_
    refine awj_rj rfl ?_
    refine RJ.store rfl rfl (eff_storeW (v := .t _) (els := [_]) (els' := [_]) rfl rfl ti22 rfl rfl rfl rfl rfl rfl rfl rfl rfl) ?_
    refine RJ.store rfl rfl (eff_storeW (v := .t _) (els := [_]) (els' := [_]) rfl rfl ti26 rfl rfl rfl rfl rfl rfl rfl rfl rfl) ?_
    refine RJ.nil ?_
    refine awj_ret ?_
    exact hfalse.elim
  · intro D s1 hI
    subst hI
    refine awj_seq ?_
    refine awj_seq ?_
    refine awj_rd [(some 12, []), (some 13, []), (some 14, []), (some 15, []), (some 16, []), (some 17, []), (some 18, []), (some 19, []), (some 20, []), (some 21, [])] [[], [0], [0, 1], [0, 1, 2], [0, 1, 2, 3], [], [5], [5, 6], [5, 6, 7], [0, 1, 2, 3, 4, 5, 6, 7, 8]] tm rfl rfl rfl rfl ?_
    refine RD.op rfl rfl rfl (eff_move (v := .t _) rfl rfl rfl) ?_
    refine RD.op rfl rfl rfl (eff_nilCheck (v := .t _) rfl rfl rfl rfl (fun _ _ _ _ e => nomatch e)) ?_
    refine RD.op rfl rfl rfl (eff_fieldAddrT rfl rfl tf74_4 (by decide) rfl) ?_
    refine RD.op rfl rfl rfl (eff_loadT1 rfl rfl ti22 rfl rfl) ?_
    refine RD.op rfl rfl rfl (eff_callXT (sum_ret d (by omega)) co30 rfl rfl rfl ⟨rfl, trivial⟩ rfl) ?_
    refine RD.op rfl rfl rfl (eff_move (v := .t _) rfl rfl rfl) ?_
    refine RD.op rfl rfl rfl (eff_nilCheck (v := .t _) rfl rfl rfl rfl (fun _ _ _ _ e => nomatch e)) ?_
    refine RD.op rfl rfl rfl (eff_fieldAddrT rfl rfl tf74_2 (by decide) rfl) ?_
    refine RD.op rfl rfl rfl (eff_loadT1 rfl rfl ti36 rfl rfl) ?_
    refine RD.op rfl rfl rfl (eff_iop (r := .bool false) rfl rfl rfl rfl (by show some (Tr.bool ((_ : Int) != _)) = _; simp)) ?_
    refine RD.nil ?_
    refine awj_cond rfl (fun h => nomatch h) (fun _ => ?_)
    refine awj_skip ?_
    refine awj_seq ?_
    refine awj_rj rfl ?_
    refine RJ.op rfl rfl (eff_move (v := .t _) rfl rfl rfl) ?_
    refine RJ.op rfl rfl (eff_nilCheck (v := .t _) rfl rfl rfl rfl (fun _ _ _ _ e => nomatch e)) ?_
    refine RJ.op rfl rfl (eff_fieldAddrT rfl rfl tf74_4 (by decide) rfl) ?_
    refine RJ.op rfl rfl (eff_loadT1 rfl rfl ti22 rfl rfl) ?_
    refine RJ.op rfl rfl (eff_callT (cloneB_ret d (by omega)) co31 rfl rfl rfl rfl) ?_
    refine RJ.store rfl rfl (eff_storeW (v := .t _) (els := [_]) (els' := [_]) rfl rfl ti22 rfl rfl rfl rfl rfl rfl rfl rfl rfl) ?_
    refine RJ.store rfl rfl (eff_storeW (v := .t _) (els := [_]) (els' := [_]) rfl rfl ti26 rfl rfl rfl rfl rfl rfl rfl rfl rfl) ?_
    refine RJ.nil ?_
    refine awj_ret ?_
    exact ⟨Or.inr rfl, [_, _], ⟨.cell (y := .t _) rfl ti22 (.one rfl rfl rfl rfl) (.t _), .cell (y := .t _) rfl ti26 (.one rfl rfl rfl rfl) (.t _), trivial⟩, (by repeat' first | exact trivial | exact Wk.refl _ | exact Wk.sl _ | refine And.intro ?_ ?_ | refine Wk.tupP ?_ | refine Wk.aggP ?_)⟩
  · intro D c s1 hI
    exact hI.elim

theorem sameBytes_ret (d : List Int) : Ret Tryd.prog 12 [.sl (d.map encBy) false, .sl (d.map encBy) false] (.bool true) := by
  refine ret_of_awp Tryd.func12 rfl (Nat.le_of_ble_eq_true rfl) ?_
  refine awp_seq ?_
  refine awp_rw rfl ?_
  refine RW.op rfl rfl (eff_assign (v := .t _) rfl rfl rfl) ?_
  refine RW.nil ?_
  refine awp_seq ?_
  refine awp_rw rfl ?_
  refine RW.op rfl rfl (eff_move (v := .t _) rfl rfl rfl) ?_
  refine RW.op rfl rfl (eff_convBytes rfl rfl te22 tu5 ts9 rfl) ?_
  refine RW.op rfl rfl (eff_move (v := .t _) rfl rfl rfl) ?_
  refine RW.op rfl rfl (eff_convBytes rfl rfl te22 tu5 ts9 rfl) ?_
  refine RW.op rfl rfl (eff_strEq rfl rfl (.inl rfl) rfl rfl rfl) ?_
  refine RW.op rfl rfl (eff_assign (v := .t _) rfl rfl rfl) ?_
  refine RW.nil ?_
  refine awp_ret ?_
  exact ⟨Or.inr rfl, [_], ⟨.tmp (.t _), trivial⟩, (by simp; exact .refl _)⟩

end Go.Tv.D27

end
