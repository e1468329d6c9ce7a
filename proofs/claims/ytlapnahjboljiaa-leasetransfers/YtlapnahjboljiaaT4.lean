/- Part of the proof that the laws of this seat return true for every input. No condition. -/
import Derived.Test.YtlapnahjboljiaaT3
import Derived.Test.YtlapnahjboljiaaT2
section
open Go Go.Tv Go.Proofs
namespace Go.Tv.C24
set_option maxRecDepth 20000
set_option maxHeartbeats 2000000
set_option linter.unusedSimpArgs false
set_option linter.unusedVariables false
theorem copyR (b : Bank) (hB : BOK b) : RetG Try.prog 73 [] [.t (encB b)] [(3, some ⟨4, 57, 1, (b.accs.map encA).map .t⟩), (7, some ⟨8, 44, 1, (b.ls.map encL).map .t⟩)]
    (.agg [.own 3 1 0 b.accs.length, .own 7 1 0 b.ls.length, .t (encI b.sp.e), .t (encI b.sp.b), .t (encI b.sp.d)]) := by
  have h := copy_retG b hB
  rwa [show 0 + (List.map AV.t (List.map encA b.accs)).length = b.accs.length from by simp, show 0 + (List.map AV.t (List.map encL b.ls)).length = b.ls.length from by simp] at h
theorem isubE {a b c : Int} (h : a - b = c) (h2 : -9223372036854775808 ≤ c ∧ c ≤ 9223372036854775807) : iop .sub .i64 a b = some (.int .i64 c) := by subst h; exact isub h2
/-- The new lease on its way to its place. -/
def bub (l : List Lea) (x : Lea) (k : Nat) : List Lea := l.take k ++ [x] ++ l.drop k
theorem bub_length (l : List Lea) (x : Lea) {k : Nat} (h : k ≤ l.length) : (bub l x k).length = l.length + 1 := by unfold bub; simp; omega
theorem bub_at (l : List Lea) (x : Lea) {k : Nat} (h : k ≤ l.length) : (bub l x k)[k]? = some x := by
  unfold bub
  rw [List.append_assoc, List.getElem?_append_right (by simp; omega)]
  simp [Nat.min_eq_left h]
theorem bub_pre (l : List Lea) (x : Lea) {k : Nat} (h0 : 0 < k) (h : k ≤ l.length) : (bub l x k)[k - 1]? = some (l[k - 1]'(by omega)) := by
  unfold bub
  rw [List.append_assoc, List.getElem?_append_left (by simp; omega), List.getElem?_take, if_pos (by omega), List.getElem?_eq_getElem (by omega)]
theorem elK {l : List Lea} {i : Nat} {x : Lea} (h : l[i]? = some x) : ((l.map encL).map AV.t)[i]? = some (.t (encL x)) := by simp [h]
theorem setK (l : List Lea) (i : Nat) (x : Lea) : ((l.map encL).map AV.t).set i (.t (encL x)) = ((l.set i x).map encL).map AV.t := by rw [List.map_set, List.map_set]
theorem bub_swap (l : List Lea) (x : Lea) {k : Nat} (h0 : 0 < k) (h : k ≤ l.length) : ((bub l x k).set k (l[k - 1]'(by omega))).set (k - 1) x = bub l x (k - 1) := by
  have hk : k - 1 < l.length := by omega
  apply List.ext_getElem?
  intro j
  rw [List.getElem?_set, List.getElem?_set]
  have hl1 := bub_length l x h
  have hl2 := bub_length l x (show k - 1 ≤ l.length by omega)
  have hb1 : ∀ j, (bub l x k)[j]? = if j < k then l[j]? else if j = k then some x else l[j - 1]? := fun j => by
    unfold bub
    rw [List.append_assoc]
    by_cases h1 : j < k
    · rw [if_pos h1, List.getElem?_append_left (by simp; omega), List.getElem?_take, if_pos h1]
    · rw [if_neg h1, List.getElem?_append_right (by simp; omega), List.length_take, Nat.min_eq_left h]
      by_cases h2 : j = k
      · rw [if_pos h2, show j - k = 0 by omega]; rfl
      · rw [if_neg h2, show j - k = (j - k - 1) + 1 by omega]
        simp only [List.singleton_append, List.getElem?_cons_succ, List.getElem?_drop]
        congr 1; omega
  have hb2 : ∀ j, (bub l x (k - 1))[j]? = if j < k - 1 then l[j]? else if j = k - 1 then some x else l[j - 1]? := fun j => by
    unfold bub
    rw [List.append_assoc]
    by_cases h1 : j < k - 1
    · rw [if_pos h1, List.getElem?_append_left (by simp; omega), List.getElem?_take, if_pos h1]
    · rw [if_neg h1, List.getElem?_append_right (by simp; omega), List.length_take, Nat.min_eq_left (by omega)]
      by_cases h2 : j = k - 1
      · rw [if_pos h2, show j - (k - 1) = 0 by omega]; rfl
      · rw [if_neg h2, show j - (k - 1) = (j - (k - 1) - 1) + 1 by omega]
        simp only [List.singleton_append, List.getElem?_cons_succ, List.getElem?_drop]
        congr 1; omega
  rw [hb1, hb2]
  by_cases h1 : k - 1 = j
  · subst h1
    rw [if_pos rfl, if_pos (by rw [List.length_set, hl1]; omega), if_neg (by omega), if_pos rfl]
  · rw [if_neg h1]
    by_cases h2 : k = j
    · subst h2
      rw [if_pos rfl, if_pos (by rw [hl1]; omega), if_neg (by omega), if_neg (by omega), List.getElem?_eq_getElem hk]
    · rw [if_neg h2]
      by_cases h3 : j < k
      · rw [if_pos h3, if_pos (by omega)]
      · rw [if_neg h3, if_neg (by omega), if_neg (by omega), if_neg (by omega)]
theorem bub_end {l : List Lea} {x : Lea} (hil : incrL l) (hn : leaIx l x.id < 0) {k : Nat} (hk : k ≤ l.length) (ha : ∀ y, y ∈ l.drop k → x.id < y.id) (he : k = 0 ∨ ∃ h : k - 1 < l.length, ¬ x.id < (l[k - 1]).id) : bub l x k = insL x l := by
  rw [insL_pos]
  have hne : ∀ y, y ∈ l → y.id ≠ x.id := leaF_none.1 (lea_neg hn)
  rw [posK_eq (fun z : Lea => z.id) x.id l k hk (fun y hy => ?_) (fun h => ?_)]
  · rfl
  · rcases he with rfl | ⟨h, h2⟩
    · simp at hy
    · obtain ⟨j, hj, rfl⟩ := List.mem_iff_getElem.1 hy
      simp only [List.length_take] at hj
      rw [List.getElem_take]
      have h3 : (l[j]).id ≤ (l[k - 1]).id := sortedK_le (f := fun z : Lea => z.id) hil (show j ≤ k - 1 by omega) h
      have h4 := hne _ (List.getElem_mem h)
      show (l[j]).id < x.id
      omega
  · have := ha l[k] (by rw [List.mem_drop_iff_getElem]; exact ⟨0, by simpa using h, by simp⟩)
    show ¬ (l[k]).id < x.id
    omega
theorem drop_pred {l : List Lea} {k : Nat} (h0 : 0 < k) (h : k ≤ l.length) {x : Lea} (hx : x ∈ l.drop (k - 1)) : x = l[k - 1]'(by omega) ∨ x ∈ l.drop k := by
  rw [List.drop_eq_getElem_cons (by omega), show k - 1 + 1 = k by omega] at hx
  exact List.mem_cons.1 hx

theorem charge47_ret (b : Bank) (n t : Int) (c : Purse) (hB : BOK b) (hN : NB b) (hc : near 1000000000000000 c) : Ret Try.prog 47 [encB b, encI n, encI t, encP c] (.tup [encB (charge b n t c).1, encI (charge b n t c).2]) := by
  refine ret_of_awp Try.func47 rfl (Nat.le_of_ble_eq_true rfl) ?_
  refine awp_seq ?_
  refine awp_rw rfl ?_
  refine RW.new rfl rfl (eff_boxK (v := .t _) (k := 5) (id := 4) rfl rfl rfl rfl rfl rfl) ?_
  refine RW.new rfl rfl (eff_boxK (v := .t _) (k := 3) (id := 7) rfl rfl rfl rfl rfl rfl) ?_
  refine RW.new rfl rfl (eff_allocK (k := 5) (id := 8) rfl rfl tz27 rfl rfl) ?_
  refine RW.op rfl rfl (eff_assign (v := .t _) rfl rfl rfl) ?_
  refine RW.nil ?_
  refine awp_seq ?_
  refine awp_rw rfl ?_
  refine RW.op rfl rfl (eff_load rfl rfl ti27 rfl (.whole rfl rfl rfl rfl rfl rfl)) ?_
  refine RW.op rfl rfl (eff_move (v := .t _) rfl rfl rfl) ?_
  refine RW.op rfl rfl (eff_callT (find72_ret b n hB) co72 rfl rfl rfl rfl) ?_
  refine RW.op rfl rfl (eff_assign (v := .t _) rfl rfl rfl) ?_
  refine RW.nil ?_
  refine awp_seq ?_
  refine awp_seq ?_
  refine awp_rw rfl ?_
  refine RW.op rfl rfl (eff_move (v := .t _) rfl rfl rfl) ?_
  refine RW.op rfl rfl (eff_iop rfl rfl rfl rfl rfl) ?_
  refine RW.nil ?_
  refine awp_cond rfl (fun h1 => ?_) (fun h1 => ?_)
  · try simp only [decide_eq_true_eq, decide_eq_false_iff_not, beq_iff_eq, bne_iff_ne, bne_eq_false_iff_eq, beq_eq_false_iff_ne, Bool.not_eq_true, Bool.not_eq_false, Bool.not_eq_true', Bool.not_eq_false', ne_eq] at h1
    refine awp_seq ?_
    refine awp_rw rfl ?_
    refine RW.op rfl rfl (eff_buildT (ys := [_, _, _, _, _]) rfl rfl tz27 tg27 rfl) ?_
    refine RW.store rfl rfl (eff_storeW (v := .t _) (els := [_]) (els' := [_]) rfl rfl ti27 rfl rfl rfl rfl rfl rfl rfl rfl rfl) ?_
    refine RW.op rfl rfl (eff_assign (v := .t _) rfl rfl rfl) ?_
    refine RW.nil ?_
    refine awp_ret ?_
    rw [charge_3 h1]
    exact ⟨Or.inr rfl, [_, _], ⟨.cell rfl ti27 (.whole rfl rfl rfl rfl rfl rfl) (.t _), .tmp (.t _), trivial⟩, (by repeat' first | exact trivial | exact Wk.refl _ | exact Wk.sl _ | refine And.intro ?_ ?_ | refine Wk.tupP ?_ | refine Wk.aggP ?_)⟩
  · try simp only [decide_eq_true_eq, decide_eq_false_iff_not, beq_iff_eq, bne_iff_ne, bne_eq_false_iff_eq, beq_eq_false_iff_ne, Bool.not_eq_true, Bool.not_eq_false, Bool.not_eq_true', Bool.not_eq_false', ne_eq] at h1
    refine awp_skip ?_
    refine awp_seq ?_
    refine awp_seq ?_
    refine awp_rw rfl ?_
    obtain ⟨il, hil, hfx, hfF⟩ := lea_nat h1
    rw [hfx]
    have hL := hB.1
    have hL2 := hB.2
    refine RW.op rfl rfl (eff_move (v := .t _) rfl rfl rfl) ?_
    refine RW.op rfl rfl (eff_fieldAddr rfl rfl tf27_1 (by decide) rfl rfl rfl (Nat.le_of_ble_eq_true rfl)) ?_
    refine RW.op rfl rfl (eff_load (y := .t _) rfl rfl ti23 rfl (.one rfl rfl rfl rfl)) ?_
    refine RW.op rfl rfl (eff_move (v := .t _) rfl rfl rfl) ?_
    refine RW.op rfl rfl (eff_indexM (i := il) rfl rfl te23 rfl rfl (by first | rfl | omega) (by exact List.getElem?_eq_getElem (by omega)) rfl (by decide)) ?_
    refine RW.op rfl rfl (eff_fieldAddrT rfl rfl tf44_3 (by decide) rfl) ?_
    refine RW.op rfl rfl (eff_loadT1 rfl rfl ti3 rfl rfl) ?_
    refine RW.op rfl rfl (eff_iop rfl rfl rfl rfl rfl) ?_
    refine RW.op rfl rfl (eff_move (v := .t _) rfl rfl rfl) ?_
    refine RW.split 28 rfl (fun h2 => ?_) (fun h2 => ?_)
    · try simp only [decide_eq_true_eq, decide_eq_false_iff_not, beq_iff_eq, bne_iff_ne, bne_eq_false_iff_eq, beq_eq_false_iff_ne, Bool.not_eq_true, Bool.not_eq_false, Bool.not_eq_true', Bool.not_eq_false', ne_eq] at h2
      refine RW.gskip rfl rfl rfl rfl rfl (by decide) ?_
      refine RW.gskip rfl rfl rfl rfl rfl (by decide) ?_
      refine RW.gskip rfl rfl rfl rfl rfl (by decide) ?_
      refine RW.gskip rfl rfl rfl rfl rfl (by decide) ?_
      refine RW.gskip rfl rfl rfl rfl rfl (by decide) ?_
      refine RW.gskip rfl rfl rfl rfl rfl (by decide) ?_
      refine RW.gskip rfl rfl rfl rfl rfl (by decide) ?_
      refine RW.gskip rfl rfl rfl rfl rfl (by decide) ?_
      refine RW.op rfl rfl (eff_pick (v := .t _) rfl rfl rfl rfl) ?_
      refine RW.nil ?_
      refine awp_cond rfl (fun _ => ?_) (fun h => nomatch h)
      refine awp_seq ?_
      refine awp_rw rfl ?_
      refine RW.op rfl rfl (eff_buildT (ys := [_, _, _, _, _]) rfl rfl tz27 tg27 rfl) ?_
      refine RW.store rfl rfl (eff_storeW (v := .t _) (els := [_]) (els' := [_]) rfl rfl ti27 rfl rfl rfl rfl rfl rfl rfl rfl rfl) ?_
      refine RW.op rfl rfl (eff_assign (v := .t _) rfl rfl rfl) ?_
      refine RW.nil ?_
      refine awp_ret ?_
      rw [charge_32 hil hfF (by omega)]
      exact ⟨Or.inr rfl, [_, _], ⟨.cell rfl ti27 (.whole rfl rfl rfl rfl rfl rfl) (.t _), .tmp (.t _), trivial⟩, (by repeat' first | exact trivial | exact Wk.refl _ | exact Wk.sl _ | refine And.intro ?_ ?_ | refine Wk.tupP ?_ | refine Wk.aggP ?_)⟩
    · try simp only [decide_eq_true_eq, decide_eq_false_iff_not, beq_iff_eq, bne_iff_ne, bne_eq_false_iff_eq, beq_eq_false_iff_ne, Bool.not_eq_true, Bool.not_eq_false, Bool.not_eq_true', Bool.not_eq_false', ne_eq] at h2
      refine RW.gop rfl rfl rfl rfl rfl rfl (eff_move (v := .t _) rfl rfl rfl) ?_
      refine RW.gop rfl rfl rfl rfl rfl rfl (eff_fieldAddr rfl rfl tf27_1 (by decide) rfl rfl rfl (Nat.le_of_ble_eq_true rfl)) ?_
      refine RW.gop rfl rfl rfl rfl rfl rfl (eff_load (y := .t _) rfl rfl ti23 rfl (.one rfl rfl rfl rfl)) ?_
      refine RW.gop rfl rfl rfl rfl rfl rfl (eff_move (v := .t _) rfl rfl rfl) ?_
      refine RW.gop rfl rfl rfl rfl rfl rfl (eff_indexM (i := il) rfl rfl te23 rfl rfl (by first | rfl | omega) (by exact List.getElem?_eq_getElem (by omega)) rfl (by decide)) ?_
      refine RW.gop rfl rfl rfl rfl rfl rfl (eff_fieldAddrT rfl rfl tf44_4 (by decide) rfl) ?_
      refine RW.gop rfl rfl rfl rfl rfl rfl (eff_loadT1 rfl rfl ti3 rfl rfl) ?_
      refine RW.gop rfl rfl rfl rfl rfl rfl (eff_iop rfl rfl rfl rfl rfl) ?_
      refine RW.op rfl rfl (eff_pick (v := .t _) rfl rfl rfl rfl) ?_
      refine RW.nil ?_
      refine awp_cond rfl (fun h3 => ?_) (fun h3 => ?_)
      · try simp only [decide_eq_true_eq, decide_eq_false_iff_not, beq_iff_eq, bne_iff_ne, bne_eq_false_iff_eq, beq_eq_false_iff_ne, Bool.not_eq_true, Bool.not_eq_false, Bool.not_eq_true', Bool.not_eq_false', ne_eq] at h3
        refine awp_seq ?_
        refine awp_rw rfl ?_
        refine RW.op rfl rfl (eff_buildT (ys := [_, _, _, _, _]) rfl rfl tz27 tg27 rfl) ?_
        refine RW.store rfl rfl (eff_storeW (v := .t _) (els := [_]) (els' := [_]) rfl rfl ti27 rfl rfl rfl rfl rfl rfl rfl rfl rfl) ?_
        refine RW.op rfl rfl (eff_assign (v := .t _) rfl rfl rfl) ?_
        refine RW.nil ?_
        refine awp_ret ?_
        rw [charge_32 hil hfF (by omega)]
        exact ⟨Or.inr rfl, [_, _], ⟨.cell rfl ti27 (.whole rfl rfl rfl rfl rfl rfl) (.t _), .tmp (.t _), trivial⟩, (by repeat' first | exact trivial | exact Wk.refl _ | exact Wk.sl _ | refine And.intro ?_ ?_ | refine Wk.tupP ?_ | refine Wk.aggP ?_)⟩
      · try simp only [decide_eq_true_eq, decide_eq_false_iff_not, beq_iff_eq, bne_iff_ne, bne_eq_false_iff_eq, beq_eq_false_iff_ne, Bool.not_eq_true, Bool.not_eq_false, Bool.not_eq_true', Bool.not_eq_false', ne_eq] at h3
        refine awp_skip ?_
        refine awp_seq ?_
        refine awp_rd [(some 40, []), (some 41, []), (some 42, []), (some 43, []), (some 44, []), (some 45, []), (some 46, []), (some 47, []), (some 39, []), (some 48, []), (some 49, []), (some 11, [11]), (none, [11]), (some 12, [])] [[], [0], [], [0, 1, 2], [0, 1, 2, 3], [0, 1, 2, 3, 4], [], [0, 1, 2, 3, 4, 5, 6], [0, 1, 2, 3, 4, 5, 6, 7], [0, 1, 2, 3, 4, 5, 6, 7, 8], [0, 1, 2, 3, 4, 5, 6, 7, 8], [], [0, 1, 2, 3, 4, 5, 6, 7, 8, 9, 11], [0, 1, 2, 3, 4, 5, 6, 7, 8, 9, 10, 11, 12]] tm rfl rfl rfl rfl ?_
        refine RD.op rfl rfl rfl (eff_fieldAddr rfl rfl tf27_1 (by decide) rfl rfl rfl (Nat.le_of_ble_eq_true rfl)) ?_
        refine RD.op rfl rfl rfl (eff_load (y := .t _) rfl rfl ti23 rfl (.one rfl rfl rfl rfl)) ?_
        refine RD.op rfl rfl rfl (eff_move (v := .t _) rfl rfl rfl) ?_
        refine RD.op rfl rfl rfl (eff_indexM (i := il) rfl rfl te23 rfl rfl (by first | rfl | omega) (by exact List.getElem?_eq_getElem (by omega)) rfl (by decide)) ?_
        refine RD.op rfl rfl rfl (eff_fieldAddrT rfl rfl tf44_5 (by decide) rfl) ?_
        refine RD.op rfl rfl rfl (eff_loadT (ys := [_, _, _]) rfl rfl ti25 rfl rfl rfl) ?_
        refine RD.op rfl rfl rfl (eff_load rfl rfl ti25 rfl (.whole rfl rfl rfl rfl rfl rfl)) ?_
        refine RD.op rfl rfl rfl (eff_callT (minusD18_ret (b.ls[il]'hil).h c (hN.lea hil) hc) co18 rfl rfl rfl rfl) ?_
        refine RD.op rfl rfl rfl (eff_move (v := .t _) rfl rfl rfl) ?_
        refine RD.op rfl rfl rfl (eff_extract rfl rfl rfl rfl) ?_
        refine RD.op rfl rfl rfl (eff_extract rfl rfl rfl rfl) ?_
        refine RD.new rfl rfl rfl (eff_allocK (k := 3) (id := 11) rfl rfl tz25 rfl rfl) ?_
        refine RD.store rfl rfl rfl (eff_storeW (v := .t _) (els := [_]) (els' := [_]) rfl rfl ti25 rfl rfl rfl rfl rfl rfl rfl rfl rfl) ?_
        refine RD.op rfl rfl rfl (eff_assign (v := .t _) rfl rfl rfl) ?_
        refine RD.nil ?_
        refine awp_seq ?_
        refine awp_seq ?_
        refine awp_rw rfl ?_
        refine RW.op rfl rfl (eff_move (v := .t _) rfl rfl rfl) ?_
        refine RW.op rfl rfl (eff_unop rfl rfl rfl rfl) ?_
        refine RW.nil ?_
        refine awp_cond rfl (fun h4 => ?_) (fun h4 => ?_)
        · try simp only [decide_eq_true_eq, decide_eq_false_iff_not, beq_iff_eq, bne_iff_ne, bne_eq_false_iff_eq, beq_eq_false_iff_ne, Bool.not_eq_true, Bool.not_eq_false, Bool.not_eq_true', Bool.not_eq_false', ne_eq] at h4
          refine awp_seq ?_
          refine awp_rw rfl ?_
          refine RW.op rfl rfl (eff_buildT (ys := [_, _, _, _, _]) rfl rfl tz27 tg27 rfl) ?_
          refine RW.store rfl rfl (eff_storeW (v := .t _) (els := [_]) (els' := [_]) rfl rfl ti27 rfl rfl rfl rfl rfl rfl rfl rfl rfl) ?_
          refine RW.op rfl rfl (eff_assign (v := .t _) rfl rfl rfl) ?_
          refine RW.nil ?_
          refine awp_ret ?_
          rw [charge_40 hil hfF (by omega) h4]
          exact ⟨Or.inr rfl, [_, _], ⟨.cell rfl ti27 (.whole rfl rfl rfl rfl rfl rfl) (.t _), .tmp (.t _), trivial⟩, (by repeat' first | exact trivial | exact Wk.refl _ | exact Wk.sl _ | refine And.intro ?_ ?_ | refine Wk.tupP ?_ | refine Wk.aggP ?_)⟩
        · try simp only [decide_eq_true_eq, decide_eq_false_iff_not, beq_iff_eq, bne_iff_ne, bne_eq_false_iff_eq, beq_eq_false_iff_ne, Bool.not_eq_true, Bool.not_eq_false, Bool.not_eq_true', Bool.not_eq_false', ne_eq] at h4
          refine awp_skip ?_
          refine awp_seq ?_
          refine awp_rw rfl ?_
          rw [minus_t h4]
          refine RW.op rfl rfl (eff_load rfl rfl ti27 rfl (.whole rfl rfl rfl rfl rfl rfl)) ?_
          refine RW.new2 rfl rfl (eff_callG (copyR b hB) co73 (fun id => id + 10000) rfl rfl rfl ⟨.t _, trivial⟩ (RenA.aggL (ds := [_, _, _, _, _]) ⟨.own _ _ _ _ rfl rfl, .own _ _ _ _ rfl rfl, .t _, .t _, .t _, trivial⟩) rfl trivial ⟨⟨treeEls_t, .inr rfl⟩, ⟨treeEls_t, .inr rfl⟩, trivial⟩) ?_
          refine RW.new rfl rfl (eff_allocK (k := 5) (id := 13) rfl rfl tz27 rfl rfl) ?_
          refine RW.store rfl rfl (eff_storeW (v := .agg _) (els := [_]) (els' := [_]) rfl rfl ti27 rfl rfl rfl rfl rfl rfl rfl rfl rfl) ?_
          refine RW.nil ?_
          refine awp_seq ?_
          refine awp_rw rfl ?_
          refine RW.op rfl rfl (eff_fieldAddr rfl rfl tf27_1 (by decide) rfl rfl rfl (Nat.le_of_ble_eq_true rfl)) ?_
          refine RW.op rfl rfl (eff_load (y := .own _ _ _ _) rfl rfl ti23 rfl (.one rfl rfl rfl rfl)) ?_
          refine RW.op rfl rfl (eff_move (v := .t _) rfl rfl rfl) ?_
          refine RW.op rfl rfl (eff_load rfl rfl ti25 rfl (.whole rfl rfl rfl rfl rfl rfl)) ?_
          refine RW.op rfl rfl (eff_indexAddr (i := il) rfl rfl te23 rfl rfl (by first | rfl | omega) rfl rfl rfl (by omega)) ?_
          refine RW.op rfl rfl (eff_fieldAddr rfl rfl tf44_5 (by decide) rfl rfl rfl (Nat.le_of_ble_eq_true rfl)) ?_
          refine RW.store rfl rfl (eff_storeS (v := .t _) (el := .t (encL (b.ls[il]'hil))) (ys := [encI (b.ls[il]'hil).id, encI (b.ls[il]'hil).cu, encI (b.ls[il]'hil).dev, encI (b.ls[il]'hil).fr, encI (b.ls[il]'hil).un, encI (sub (b.ls[il]'hil).h c).e, encI (sub (b.ls[il]'hil).h c).b, encI (sub (b.ls[il]'hil).h c).d]) (els := (b.ls.map encL).map .t) (els' := ((setH b.ls il (sub (b.ls[il]'hil).h c)).map encL).map .t) rfl rfl ti25 rfl rfl rfl rfl rfl rfl (by rw [Nat.zero_add]; exact elL hil) (Nat.le_of_ble_eq_true rfl) rfl (by rw [Nat.zero_add]; exact setH_els hil (sub (b.ls[il]'hil).h c))) ?_
          refine RW.nil ?_
          refine awp_seq ?_
          refine awp_rw rfl ?_
          refine RW.op rfl rfl (eff_fieldAddr rfl rfl tf27_2 (by decide) rfl rfl rfl (Nat.le_of_ble_eq_true rfl)) ?_
          refine RW.op rfl rfl (eff_loadS (ys := [_, _, _]) rfl rfl ti25 rfl rfl rfl rfl rfl rfl) ?_
          refine RW.op rfl rfl (eff_load rfl rfl ti25 rfl (.whole rfl rfl rfl rfl rfl rfl)) ?_
          refine RW.op rfl rfl (eff_callT (plus20_ret b.sp c (near_mono hN.1 (by omega)) hc) co20 rfl rfl rfl rfl) ?_
          refine RW.op rfl rfl (eff_fieldAddr rfl rfl tf27_2 (by decide) rfl rfl rfl (Nat.le_of_ble_eq_true rfl)) ?_
          refine RW.store rfl rfl (eff_storeA (v := .t _) (ys := [.own 10003 _ 0 _, .own 10007 _ 0 _, .t _, .t _, .t _]) (els := [_]) (els' := [_]) rfl rfl ti25 rfl rfl rfl rfl rfl rfl rfl (Nat.le_of_ble_eq_true rfl) rfl rfl rfl) ?_
          refine RW.nil ?_
          refine awp_seq ?_
          refine awp_rw rfl ?_
          refine RW.op rfl rfl (eff_load rfl rfl ti27 rfl (.whole rfl rfl rfl rfl rfl rfl)) ?_
          refine RW.store rfl rfl (eff_storeW (v := .agg _) (els := [_]) (els' := [_]) rfl rfl ti27 rfl rfl rfl rfl rfl rfl rfl rfl rfl) ?_
          refine RW.op rfl rfl (eff_assign (v := .t _) rfl rfl rfl) ?_
          refine RW.nil ?_
          refine awp_ret ?_
          rw [charge_0 hil hfF (by omega) h4]
          exact ⟨Or.inr rfl, [_, _], ⟨.cell rfl ti27 (.whole rfl rfl rfl rfl rfl rfl) (Res.aggP (xs := [_, _, _, _, _]) ⟨Res.ownT (xs := b.accs.map encA) rfl rfl rfl (by simp [setP_length]), Res.ownT (xs := (setH b.ls il (sub (b.ls[il]'hil).h c)).map encL) rfl rfl rfl (by simp [setH_length]), .t _, .t _, .t _, trivial⟩), .tmp (.t _), trivial⟩, (by repeat' first | exact trivial | exact Wk.refl _ | exact Wk.sl _ | refine And.intro ?_ ?_ | refine Wk.tupP ?_ | refine Wk.aggP ?_)⟩

theorem close48_ret (b : Bank) (n : Int) (hB : BOK b) (hN : NB b) (hO : owned b) : Ret Try.prog 48 [encB b, encI n] (.tup [encB (close b n).1, encI (close b n).2]) := by
  refine ret_of_awp Try.func48 rfl (Nat.le_of_ble_eq_true rfl) ?_
  refine awp_seq ?_
  refine awp_rw rfl ?_
  refine RW.new rfl rfl (eff_boxK (v := .t _) (k := 5) (id := 2) rfl rfl rfl rfl rfl rfl) ?_
  refine RW.new rfl rfl (eff_allocK (k := 5) (id := 4) rfl rfl tz27 rfl rfl) ?_
  refine RW.op rfl rfl (eff_assign (v := .t _) rfl rfl rfl) ?_
  refine RW.nil ?_
  refine awp_seq ?_
  refine awp_rw rfl ?_
  refine RW.op rfl rfl (eff_load rfl rfl ti27 rfl (.whole rfl rfl rfl rfl rfl rfl)) ?_
  refine RW.op rfl rfl (eff_move (v := .t _) rfl rfl rfl) ?_
  refine RW.op rfl rfl (eff_callT (find72_ret b n hB) co72 rfl rfl rfl rfl) ?_
  refine RW.op rfl rfl (eff_assign (v := .t _) rfl rfl rfl) ?_
  refine RW.nil ?_
  refine awp_seq ?_
  refine awp_seq ?_
  refine awp_rw rfl ?_
  refine RW.op rfl rfl (eff_move (v := .t _) rfl rfl rfl) ?_
  refine RW.op rfl rfl (eff_iop rfl rfl rfl rfl rfl) ?_
  refine RW.nil ?_
  refine awp_cond rfl (fun h1 => ?_) (fun h1 => ?_)
  · try simp only [decide_eq_true_eq, decide_eq_false_iff_not, beq_iff_eq, bne_iff_ne, bne_eq_false_iff_eq, beq_eq_false_iff_ne, Bool.not_eq_true, Bool.not_eq_false, Bool.not_eq_true', Bool.not_eq_false', ne_eq] at h1
    refine awp_seq ?_
    refine awp_rw rfl ?_
    refine RW.op rfl rfl (eff_buildT (ys := [_, _, _, _, _]) rfl rfl tz27 tg27 rfl) ?_
    refine RW.store rfl rfl (eff_storeW (v := .t _) (els := [_]) (els' := [_]) rfl rfl ti27 rfl rfl rfl rfl rfl rfl rfl rfl rfl) ?_
    refine RW.op rfl rfl (eff_assign (v := .t _) rfl rfl rfl) ?_
    refine RW.nil ?_
    refine awp_ret ?_
    rw [close_3 h1]
    exact ⟨Or.inr rfl, [_, _], ⟨.cell rfl ti27 (.whole rfl rfl rfl rfl rfl rfl) (.t _), .tmp (.t _), trivial⟩, (by repeat' first | exact trivial | exact Wk.refl _ | exact Wk.sl _ | refine And.intro ?_ ?_ | refine Wk.tupP ?_ | refine Wk.aggP ?_)⟩
  · try simp only [decide_eq_true_eq, decide_eq_false_iff_not, beq_iff_eq, bne_iff_ne, bne_eq_false_iff_eq, beq_eq_false_iff_ne, Bool.not_eq_true, Bool.not_eq_false, Bool.not_eq_true', Bool.not_eq_false', ne_eq] at h1
    refine awp_skip ?_
    refine awp_seq ?_
    refine awp_rw rfl ?_
    obtain ⟨il, hil, hfx, hfF⟩ := lea_nat h1
    rw [hfx]
    have hL := hB.1
    have hL2 := hB.2
    obtain ⟨ia, hia, hax, haF⟩ := acc_nat (owned_nat hO (List.getElem_mem hil))
    refine RW.op rfl rfl (eff_load rfl rfl ti27 rfl (.whole rfl rfl rfl rfl rfl rfl)) ?_
    refine RW.new2 rfl rfl (eff_callG (copyR b hB) co73 (fun id => id + 10000) rfl rfl rfl ⟨.t _, trivial⟩ (RenA.aggL (ds := [_, _, _, _, _]) ⟨.own _ _ _ _ rfl rfl, .own _ _ _ _ rfl rfl, .t _, .t _, .t _, trivial⟩) rfl trivial ⟨⟨treeEls_t, .inr rfl⟩, ⟨treeEls_t, .inr rfl⟩, trivial⟩) ?_
    refine RW.new rfl rfl (eff_allocK (k := 5) (id := 7) rfl rfl tz27 rfl rfl) ?_
    refine RW.store rfl rfl (eff_storeW (v := .agg _) (els := [_]) (els' := [_]) rfl rfl ti27 rfl rfl rfl rfl rfl rfl rfl rfl rfl) ?_
    refine RW.nil ?_
    refine awp_seq ?_
    refine awp_rd [(some 17, []), (some 18, []), (some 19, []), (some 20, []), (some 21, []), (some 22, []), (some 23, []), (some 24, []), (some 8, [])] [[], [], [1], [], [1, 2, 3], [1, 2, 3, 4], [1, 2, 3, 4, 5], [0, 1, 2, 3, 4, 5, 6], [0, 1, 2, 3, 4, 5, 6, 7]] tm rfl rfl rfl rfl ?_
    refine RD.op rfl rfl rfl (eff_load rfl rfl ti27 rfl (.whole rfl rfl rfl rfl rfl rfl)) ?_
    refine RD.op rfl rfl rfl (eff_fieldAddr rfl rfl tf27_1 (by decide) rfl rfl rfl (Nat.le_of_ble_eq_true rfl)) ?_
    refine RD.op rfl rfl rfl (eff_load (y := .t _) rfl rfl ti23 rfl (.one rfl rfl rfl rfl)) ?_
    refine RD.op rfl rfl rfl (eff_move (v := .t _) rfl rfl rfl) ?_
    refine RD.op rfl rfl rfl (eff_indexM (i := il) rfl rfl te23 rfl rfl (by first | rfl | omega) (by exact List.getElem?_eq_getElem (by omega)) rfl (by decide)) ?_
    refine RD.op rfl rfl rfl (eff_fieldAddrT rfl rfl tf44_1 (by decide) rfl) ?_
    refine RD.op rfl rfl rfl (eff_loadT1 rfl rfl ti3 rfl rfl) ?_
    refine RD.op rfl rfl rfl (eff_callT (account_ret b (b.ls[il]'hil).cu hB) co33 rfl rfl rfl rfl) ?_
    refine RD.op rfl rfl rfl (eff_assign (v := .t _) rfl rfl rfl) ?_
    refine RD.nil ?_
    rw [hax]
    refine awp_seq ?_
    refine awp_rd [(some 25, []), (some 26, []), (some 27, []), (some 28, []), (some 29, []), (some 30, []), (some 31, []), (some 32, []), (some 33, []), (some 34, []), (some 35, []), (some 36, []), (some 37, []), (some 38, []), (some 39, []), (some 40, []), (some 41, []), (some 42, []), (none, [10003])] [[], [0], [], [], [3], [], [3, 4, 5], [3, 4, 5, 6], [3, 4, 5, 6, 7], [], [9], [], [9, 10, 11], [9, 10, 11, 12], [9, 10, 11, 12, 13], [3, 4, 5, 6, 7, 8, 9, 10, 11, 12, 13, 14], [0, 1, 2, 3, 4, 5, 6, 7, 8, 9, 10, 11, 12, 13, 14, 15], [0, 1, 2, 3, 4, 5, 6, 7, 8, 9, 10, 11, 12, 13, 14, 15, 16], [0, 1, 2, 3, 4, 5, 6, 7, 8, 9, 10, 11, 12, 13, 14, 15, 16, 17]] tm rfl rfl rfl rfl ?_
    refine RD.op rfl rfl rfl (eff_fieldAddr rfl rfl tf27_0 (by decide) rfl rfl rfl (Nat.le_of_ble_eq_true rfl)) ?_
    refine RD.op rfl rfl rfl (eff_load (y := .own _ _ _ _) rfl rfl ti22 rfl (.one rfl rfl rfl rfl)) ?_
    refine RD.op rfl rfl rfl (eff_move (v := .t _) rfl rfl rfl) ?_
    refine RD.op rfl rfl rfl (eff_fieldAddr rfl rfl tf27_0 (by decide) rfl rfl rfl (Nat.le_of_ble_eq_true rfl)) ?_
    refine RD.op rfl rfl rfl (eff_load (y := .own _ _ _ _) rfl rfl ti22 rfl (.one rfl rfl rfl rfl)) ?_
    refine RD.op rfl rfl rfl (eff_move (v := .t _) rfl rfl rfl) ?_
    refine RD.op rfl rfl rfl (eff_indexAddr (i := ia) rfl rfl te22 rfl rfl (by first | rfl | omega) rfl rfl rfl (by omega)) ?_
    refine RD.op rfl rfl rfl (eff_fieldAddr rfl rfl tf57_1 (by decide) rfl rfl rfl (Nat.le_of_ble_eq_true rfl)) ?_
    refine RD.op rfl rfl rfl (eff_loadS (el := .t (encA (b.accs[ia]'hia))) (ys := [encI (b.accs[ia]'hia).p.e, encI (b.accs[ia]'hia).p.b, encI (b.accs[ia]'hia).p.d]) rfl rfl ti25 rfl rfl rfl (by rw [Nat.zero_add]; exact elA hia) rfl rfl) ?_
    refine RD.op rfl rfl rfl (eff_fieldAddr rfl rfl tf27_1 (by decide) rfl rfl rfl (Nat.le_of_ble_eq_true rfl)) ?_
    refine RD.op rfl rfl rfl (eff_load (y := .t _) rfl rfl ti23 rfl (.one rfl rfl rfl rfl)) ?_
    refine RD.op rfl rfl rfl (eff_move (v := .t _) rfl rfl rfl) ?_
    refine RD.op rfl rfl rfl (eff_indexM (i := il) rfl rfl te23 rfl rfl (by first | rfl | omega) (by exact List.getElem?_eq_getElem (by omega)) rfl (by decide)) ?_
    refine RD.op rfl rfl rfl (eff_fieldAddrT rfl rfl tf44_5 (by decide) rfl) ?_
    refine RD.op rfl rfl rfl (eff_loadT (ys := [_, _, _]) rfl rfl ti25 rfl rfl rfl) ?_
    refine RD.op rfl rfl rfl (eff_callT (plus20_ret (b.accs[ia]'hia).p (b.ls[il]'hil).h (hN.acc hia) (hN.lea hil)) co20 rfl rfl rfl rfl) ?_
    refine RD.op rfl rfl rfl (eff_indexAddr (i := ia) rfl rfl te22 rfl rfl (by first | rfl | omega) rfl rfl rfl (by omega)) ?_
    refine RD.op rfl rfl rfl (eff_fieldAddr rfl rfl tf57_1 (by decide) rfl rfl rfl (Nat.le_of_ble_eq_true rfl)) ?_
    refine RD.store rfl rfl rfl (eff_storeS (v := .t _) (el := .t (encA (b.accs[ia]'hia))) (ys := [encI (b.accs[ia]'hia).c, encI (plus (b.accs[ia]'hia).p (b.ls[il]'hil).h).e, encI (plus (b.accs[ia]'hia).p (b.ls[il]'hil).h).b, encI (plus (b.accs[ia]'hia).p (b.ls[il]'hil).h).d]) (els := (b.accs.map encA).map .t) (els' := ((setP b.accs ia (plus (b.accs[ia]'hia).p (b.ls[il]'hil).h)).map encA).map .t) rfl rfl ti25 rfl rfl rfl rfl rfl rfl (by rw [Nat.zero_add]; exact elA hia) (Nat.le_of_ble_eq_true rfl) rfl (by rw [Nat.zero_add]; exact setP_els hia (plus (b.accs[ia]'hia).p (b.ls[il]'hil).h))) ?_
    refine RD.nil ?_
    refine awp_seq ?_
    refine awp_rd [(some 43, [43]), (some 44, []), (some 45, []), (some 46, []), (some 47, []), (some 48, [43]), (some 49, []), (some 50, []), (some 51, []), (some 52, []), (some 53, []), (some 54, [43]), (some 55, []), (none, [7])] [[], [], [1], [], [1, 2, 3], [0, 1, 2, 3, 4], [], [6], [], [8], [6, 7, 8, 9], [0, 1, 2, 3, 4, 5, 6, 7, 8, 9, 10], [0, 1, 2, 3, 4, 5, 6, 7, 8, 9, 10, 11], [0, 1, 2, 3, 4, 5, 6, 7, 8, 9, 10, 11, 12]] tm rfl rfl rfl rfl ?_
    refine RD.new rfl rfl rfl (eff_buildSliceL (id := 43) (els := []) rfl rfl te23 tz44 rfl (by decide) (by decide) rfl rfl rfl rfl) ?_
    refine RD.op rfl rfl rfl (eff_fieldAddr rfl rfl tf27_1 (by decide) rfl rfl rfl (Nat.le_of_ble_eq_true rfl)) ?_
    refine RD.op rfl rfl rfl (eff_load (y := .t _) rfl rfl ti23 rfl (.one rfl rfl rfl rfl)) ?_
    refine RD.op rfl rfl rfl (eff_move (v := .t _) rfl rfl rfl) ?_
    refine RD.op rfl rfl rfl (eff_sliceM (l := none) (h := some il) rfl rfl te23 rfl (fun _ => rfl) .no (.yes rfl rfl) (Nat.zero_le _) (by show il ≤ b.ls.length; omega) rfl) ?_
    refine RD.new rfl rfl rfl (eff_appendAny (id := 43) rfl rfl ta23 rfl rfl rfl rfl rfl rfl (srcM rfl (fun _ => rfl)) (by simp; omega) (by simp; omega)) ?_
    refine RD.op rfl rfl rfl (eff_fieldAddr rfl rfl tf27_1 (by decide) rfl rfl rfl (Nat.le_of_ble_eq_true rfl)) ?_
    refine RD.op rfl rfl rfl (eff_load (y := .t _) rfl rfl ti23 rfl (.one rfl rfl rfl rfl)) ?_
    refine RD.op rfl rfl rfl (eff_move (v := .t _) rfl rfl rfl) ?_
    refine RD.op rfl rfl rfl (eff_iop rfl rfl rfl rfl (iadd (by omega))) ?_
    refine RD.op rfl rfl rfl (eff_sliceM (l := some (il + 1)) (h := none) rfl rfl te23 rfl (fun _ => rfl) (.yes rfl rfl) .no (by show il + 1 ≤ b.ls.length; omega) (Nat.le_refl _) rfl) ?_
    refine RD.new rfl rfl rfl (eff_appendAny (id := 43) rfl rfl ta23 rfl rfl rfl (by simp) rfl rfl (srcM rfl (fun _ => rfl)) (by simp; omega) (by simp; omega)) ?_
    refine RD.op rfl rfl rfl (eff_fieldAddr rfl rfl tf27_1 (by decide) rfl rfl rfl (Nat.le_of_ble_eq_true rfl)) ?_
    refine RD.store rfl rfl rfl (eff_storeA (v := .own _ _ _ _) (ys := [.own 10003 _ 0 _, .own 43 _ 0 _, .t _, .t _, .t _]) (els := [_]) (els' := [_]) rfl rfl ti23 rfl rfl rfl rfl rfl rfl rfl (Nat.le_of_ble_eq_true rfl) rfl rfl rfl) ?_
    refine RD.nil ?_
    refine awp_seq ?_
    refine awp_rw rfl ?_
    refine RW.op rfl rfl (eff_load rfl rfl ti27 rfl (.whole rfl rfl rfl rfl rfl rfl)) ?_
    refine RW.store rfl rfl (eff_storeW (v := .agg _) (els := [_]) (els' := [_]) rfl rfl ti27 rfl rfl rfl rfl rfl rfl rfl rfl rfl) ?_
    refine RW.op rfl rfl (eff_assign (v := .t _) rfl rfl rfl) ?_
    refine RW.nil ?_
    refine awp_ret ?_
    rw [close_0 hil hia hfF haF]
    exact ⟨Or.inr rfl, [_, _], ⟨.cell rfl ti27 (.whole rfl rfl rfl rfl rfl rfl) (Res.aggP (xs := [_, _, _, _, _]) ⟨Res.ownT (xs := (setP b.accs ia (plus (b.accs[ia]'hia).p (b.ls[il]'hil).h)).map encA) rfl rfl rfl (by simp [setP_length]), Res.ownT (xs := (b.ls.take il ++ b.ls.drop (il + 1)).map encL) rfl rfl (by simp) (by simp), .t _, .t _, .t _, trivial⟩), .tmp (.t _), trivial⟩, (by repeat' first | exact trivial | exact Wk.refl _ | exact Wk.sl _ | refine And.intro ?_ ?_ | refine Wk.tupP ?_ | refine Wk.aggP ?_)⟩

theorem expire49_ret (b : Bank) (t : Int) (hV : VB b) : Ret Try.prog 49 [encB b, encI t] (encB (expire b t)) := by
  have hB := hV.bok
  refine ret_of_awp Try.func49 rfl (Nat.le_of_ble_eq_true rfl) ?_
  refine awp_seq ?_
  refine awp_rw rfl ?_
  refine RW.new rfl rfl (eff_boxK (v := .t _) (k := 5) (id := 2) rfl rfl rfl rfl rfl rfl) ?_
  refine RW.new rfl rfl (eff_allocK (k := 5) (id := 4) rfl rfl tz27 rfl rfl) ?_
  refine RW.nil ?_
  refine awp_seq ?_
  refine awp_rw rfl ?_
  refine RW.op rfl rfl (eff_load rfl rfl ti27 rfl (.whole rfl rfl rfl rfl rfl rfl)) ?_
  refine RW.op rfl rfl (eff_callT (copy73_ret b hB) co73 rfl rfl rfl rfl) ?_
  refine RW.new rfl rfl (eff_allocK (k := 5) (id := 5) rfl rfl tz27 rfl rfl) ?_
  refine RW.store rfl rfl (eff_storeW (v := .t _) (els := [_]) (els' := [_]) rfl rfl ti27 rfl rfl rfl rfl rfl rfl rfl rfl rfl) ?_
  refine RW.nil ?_
  refine awp_seq ?_
  refine awp_seq ?_
  refine awp_rw rfl ?_
  refine RW.op rfl rfl (eff_assign (v := .t _) rfl rfl rfl) ?_
  refine RW.nil ?_
  refine awp_block ?_
  refine awp_loopW (fun m s => ∃ (i : Nat), (i ≤ b.ls.length) ∧ m = b.ls.length - i ∧ s = ⟨36, [(1, .t (encI t)), (2, .ptr 2 0 0 0), (4, .ptr 4 0 0 0), (5, .ptr 5 0 0 0), (6, .t (encI (i : Nat)))], [(2, some ⟨5, 27, 0, [.t (encB b)]⟩), (4, some ⟨5, 27, 0, [.t z27]⟩), (5, some ⟨5, 27, 0, [.t (encB (expT b t i))]⟩)]⟩) (_) (⟨_, weak_keep (n := 36) (fr' := [(1, .t (encI t)), (2, .ptr 2 0 0 0), (4, .ptr 4 0 0 0), (5, .ptr 5 0 0 0), (6, .t (encI (0 : Nat)))]) (st' := [(2, some ⟨5, 27, 0, [.t (encB b)]⟩), (4, some ⟨5, 27, 0, [.t z27]⟩), (5, some ⟨5, 27, 0, [.t (encB (expT b t 0))]⟩)]) ⟨rfl, rfl, rfl, rfl, rfl, rfl, rfl, rfl, rfl, rfl, trivial⟩ ⟨rfl, okE_one rfl, rfl, okE_one rfl, (by first | rfl | (rw [expT_step (by omega)]; first | (rw [stepE_t h2]; rfl) | (rw [stepE_f h2]; rfl))), okE_one rfl, trivial⟩, 0, (by omega), rfl, rfl⟩) ?_
  rintro m s ⟨i, hi, rfl, rfl⟩
  have hL := hB.1
  have hL2 := hB.2
  have hT := expT_vb hV t i
  refine awp_seq ?_
  refine awp_seq ?_
  refine awp_rw rfl ?_
  refine RW.op rfl rfl (eff_move (v := .t _) rfl rfl rfl) ?_
  refine RW.op rfl rfl (eff_fieldAddr rfl rfl tf27_1 (by decide) rfl rfl rfl (Nat.le_of_ble_eq_true rfl)) ?_
  refine RW.op rfl rfl (eff_load (y := .t _) rfl rfl ti23 rfl (.one rfl rfl rfl rfl)) ?_
  refine RW.op rfl rfl (eff_lenM rfl rfl te23 rfl) ?_
  refine RW.op rfl rfl (eff_iop rfl rfl rfl rfl rfl) ?_
  refine RW.nil ?_
  refine awp_cond rfl (fun h1 => ?_) (fun h1 => ?_)
  · try simp only [decide_eq_true_eq, decide_eq_false_iff_not, beq_iff_eq, bne_iff_ne, bne_eq_false_iff_eq, beq_eq_false_iff_ne, Bool.not_eq_true, Bool.not_eq_false, Bool.not_eq_true', Bool.not_eq_false', ne_eq] at h1
    refine awp_skip ?_
    refine awp_seq ?_
    refine awp_block ?_
    refine awp_seq ?_
    refine awp_rw rfl ?_
    refine RW.op rfl rfl (eff_fieldAddr rfl rfl tf27_1 (by decide) rfl rfl rfl (Nat.le_of_ble_eq_true rfl)) ?_
    refine RW.op rfl rfl (eff_load (y := .t _) rfl rfl ti23 rfl (.one rfl rfl rfl rfl)) ?_
    refine RW.op rfl rfl (eff_move (v := .t _) rfl rfl rfl) ?_
    refine RW.op rfl rfl (eff_indexM rfl rfl te23 rfl rfl rfl (by first | assumption | exact List.getElem?_eq_getElem (by omega)) rfl (by decide)) ?_
    refine RW.op rfl rfl (eff_fieldAddrT rfl rfl tf44_4 (by decide) rfl) ?_
    refine RW.op rfl rfl (eff_loadT1 rfl rfl ti3 rfl rfl) ?_
    refine RW.op rfl rfl (eff_move (v := .t _) rfl rfl rfl) ?_
    refine RW.op rfl rfl (eff_iop rfl rfl rfl rfl rfl) ?_
    refine RW.nil ?_
    refine awp_cond rfl (fun h2 => ?_) (fun h2 => ?_)
    · try simp only [decide_eq_true_eq, decide_eq_false_iff_not, beq_iff_eq, bne_iff_ne, bne_eq_false_iff_eq, beq_eq_false_iff_ne, Bool.not_eq_true, Bool.not_eq_false, Bool.not_eq_true', Bool.not_eq_false', ne_eq] at h2
      refine awp_rd [(some 25, []), (some 26, []), (some 27, []), (some 28, []), (some 29, []), (some 30, []), (some 31, []), (some 32, []), (some 24, []), (some 33, []), (some 34, []), (none, [5])] [[], [], [1], [], [1, 2, 3], [1, 2, 3, 4], [1, 2, 3, 4, 5], [0, 1, 2, 3, 4, 5, 6], [0, 1, 2, 3, 4, 5, 6, 7], [0, 1, 2, 3, 4, 5, 6, 7, 8], [0, 1, 2, 3, 4, 5, 6, 7, 8], [0, 1, 2, 3, 4, 5, 6, 7, 8, 9]] tm rfl rfl rfl rfl ?_
      refine RD.op rfl rfl rfl (eff_load rfl rfl ti27 rfl (.whole rfl rfl rfl rfl rfl rfl)) ?_
      refine RD.op rfl rfl rfl (eff_fieldAddr rfl rfl tf27_1 (by decide) rfl rfl rfl (Nat.le_of_ble_eq_true rfl)) ?_
      refine RD.op rfl rfl rfl (eff_load (y := .t _) rfl rfl ti23 rfl (.one rfl rfl rfl rfl)) ?_
      refine RD.op rfl rfl rfl (eff_move (v := .t _) rfl rfl rfl) ?_
      refine RD.op rfl rfl rfl (eff_indexM rfl rfl te23 rfl rfl rfl (by first | assumption | exact List.getElem?_eq_getElem (by omega)) rfl (by decide)) ?_
      refine RD.op rfl rfl rfl (eff_fieldAddrT rfl rfl tf44_0 (by decide) rfl) ?_
      refine RD.op rfl rfl rfl (eff_loadT1 rfl rfl ti3 rfl rfl) ?_
      refine RD.op rfl rfl rfl (eff_callT (close48_ret (expT b t i) (b.ls[i]'(by omega)).id hT.bok hT.nb hT.ow) co48 rfl rfl rfl rfl) ?_
      refine RD.op rfl rfl rfl (eff_move (v := .t _) rfl rfl rfl) ?_
      refine RD.op rfl rfl rfl (eff_extract rfl rfl rfl rfl) ?_
      refine RD.op rfl rfl rfl (eff_extract rfl rfl rfl rfl) ?_
      refine RD.store rfl rfl rfl (eff_storeW (v := .t _) (els := [_]) (els' := [_]) rfl rfl ti27 rfl rfl rfl rfl rfl rfl rfl rfl rfl) ?_
      refine RD.nil ?_
      refine awp_rw rfl ?_
      refine RW.op rfl rfl (eff_move (v := .t _) rfl rfl rfl) ?_
      refine RW.op rfl rfl (eff_iop rfl rfl rfl rfl (iadd (by omega))) ?_
      refine RW.op rfl rfl (eff_assign (v := .t _) rfl rfl rfl) ?_
      refine RW.nil ?_
      refine ⟨_, ?_, _, weak_keep (n := 36) (fr' := [(1, .t (encI t)), (2, .ptr 2 0 0 0), (4, .ptr 4 0 0 0), (5, .ptr 5 0 0 0), (6, .t (encI ((i + 1) : Nat)))]) (st' := [(2, some ⟨5, 27, 0, [.t (encB b)]⟩), (4, some ⟨5, 27, 0, [.t z27]⟩), (5, some ⟨5, 27, 0, [.t (encB (expT b t (i + 1)))]⟩)]) ⟨rfl, rfl, rfl, rfl, rfl, rfl, rfl, rfl, rfl, rfl, trivial⟩ ⟨rfl, okE_one rfl, rfl, okE_one rfl, (by first | rfl | (rw [expT_step (by omega)]; first | (rw [stepE_t h2]; rfl) | (rw [stepE_f h2]; rfl))), okE_one rfl, trivial⟩, i + 1, (by omega), rfl, rfl⟩
      omega
    · try simp only [decide_eq_true_eq, decide_eq_false_iff_not, beq_iff_eq, bne_iff_ne, bne_eq_false_iff_eq, beq_eq_false_iff_ne, Bool.not_eq_true, Bool.not_eq_false, Bool.not_eq_true', Bool.not_eq_false', ne_eq] at h2
      refine awp_skip ?_
      refine awp_rw rfl ?_
      refine RW.op rfl rfl (eff_move (v := .t _) rfl rfl rfl) ?_
      refine RW.op rfl rfl (eff_iop rfl rfl rfl rfl (iadd (by omega))) ?_
      refine RW.op rfl rfl (eff_assign (v := .t _) rfl rfl rfl) ?_
      refine RW.nil ?_
      refine ⟨_, ?_, _, weak_keep (n := 36) (fr' := [(1, .t (encI t)), (2, .ptr 2 0 0 0), (4, .ptr 4 0 0 0), (5, .ptr 5 0 0 0), (6, .t (encI ((i + 1) : Nat)))]) (st' := [(2, some ⟨5, 27, 0, [.t (encB b)]⟩), (4, some ⟨5, 27, 0, [.t z27]⟩), (5, some ⟨5, 27, 0, [.t (encB (expT b t (i + 1)))]⟩)]) ⟨rfl, rfl, rfl, rfl, rfl, rfl, rfl, rfl, rfl, rfl, trivial⟩ ⟨rfl, okE_one rfl, rfl, okE_one rfl, (by first | rfl | (rw [expT_step (by omega)]; first | (rw [stepE_t h2]; rfl) | (rw [stepE_f h2]; rfl))), okE_one rfl, trivial⟩, i + 1, (by omega), rfl, rfl⟩
      omega
  · try simp only [decide_eq_true_eq, decide_eq_false_iff_not, beq_iff_eq, bne_iff_ne, bne_eq_false_iff_eq, beq_eq_false_iff_ne, Bool.not_eq_true, Bool.not_eq_false, Bool.not_eq_true', Bool.not_eq_false', ne_eq] at h1
    refine awp_exit ?_
    refine awp_seq ?_
    refine awp_rw rfl ?_
    refine RW.op rfl rfl (eff_load rfl rfl ti27 rfl (.whole rfl rfl rfl rfl rfl rfl)) ?_
    refine RW.store rfl rfl (eff_storeW (v := .t _) (els := [_]) (els' := [_]) rfl rfl ti27 rfl rfl rfl rfl rfl rfl rfl rfl rfl) ?_
    refine RW.nil ?_
    refine awp_ret ?_
    obtain rfl : i = b.ls.length := by omega
    rw [expire_T]
    exact ⟨Or.inr rfl, [_], ⟨.cell rfl ti27 (.whole rfl rfl rfl rfl rfl rfl) (.t _), trivial⟩, .refl _⟩

theorem transfer50_ret (b : Bank) (f t : Int) (p : Purse) (hB : BOK b) (hN : NB b) (hp : near 2147483647 p) : Ret Try.prog 50 [encB b, encI f, encI t, encP p] (.tup [encB (transfer b f t p).1, encI (transfer b f t p).2]) := by
  refine ret_of_awp Try.func50 rfl (Nat.le_of_ble_eq_true rfl) ?_
  refine awp_seq ?_
  refine awp_rw rfl ?_
  refine RW.new rfl rfl (eff_boxK (v := .t _) (k := 5) (id := 4) rfl rfl rfl rfl rfl rfl) ?_
  refine RW.new rfl rfl (eff_boxK (v := .t _) (k := 3) (id := 7) rfl rfl rfl rfl rfl rfl) ?_
  refine RW.new rfl rfl (eff_allocK (k := 5) (id := 8) rfl rfl tz27 rfl rfl) ?_
  refine RW.op rfl rfl (eff_assign (v := .t _) rfl rfl rfl) ?_
  refine RW.nil ?_
  refine awp_seq ?_
  refine awp_rd [(some 15, []), (some 16, []), (some 17, []), (some 18, []), (some 19, []), (some 20, []), (some 10, []), (some 11, [])] [[], [], [0, 1], [], [], [0, 1, 2, 3, 4], [0, 1, 2, 3, 4, 5], [0, 1, 2, 3, 4, 5, 6]] tm rfl rfl rfl rfl ?_
  refine RD.op rfl rfl rfl (eff_load rfl rfl ti27 rfl (.whole rfl rfl rfl rfl rfl rfl)) ?_
  refine RD.op rfl rfl rfl (eff_move (v := .t _) rfl rfl rfl) ?_
  refine RD.op rfl rfl rfl (eff_callT (account_ret b f hB) co33 rfl rfl rfl rfl) ?_
  refine RD.op rfl rfl rfl (eff_load rfl rfl ti27 rfl (.whole rfl rfl rfl rfl rfl rfl)) ?_
  refine RD.op rfl rfl rfl (eff_move (v := .t _) rfl rfl rfl) ?_
  refine RD.op rfl rfl rfl (eff_callT (account_ret b t hB) co33 rfl rfl rfl rfl) ?_
  refine RD.op rfl rfl rfl (eff_assign (v := .t _) rfl rfl rfl) ?_
  refine RD.op rfl rfl rfl (eff_assign (v := .t _) rfl rfl rfl) ?_
  refine RD.nil ?_
  refine awp_seq ?_
  refine awp_seq ?_
  refine awp_rw rfl ?_
  refine RW.op rfl rfl (eff_move (v := .t _) rfl rfl rfl) ?_
  refine RW.op rfl rfl (eff_iop rfl rfl rfl rfl rfl) ?_
  refine RW.op rfl rfl (eff_move (v := .t _) rfl rfl rfl) ?_
  refine RW.split 23 rfl (fun h1 => ?_) (fun h1 => ?_)
  · try simp only [decide_eq_true_eq, decide_eq_false_iff_not, beq_iff_eq, bne_iff_ne, bne_eq_false_iff_eq, beq_eq_false_iff_ne, Bool.not_eq_true, Bool.not_eq_false, Bool.not_eq_true', Bool.not_eq_false', ne_eq] at h1
    refine RW.gskip rfl rfl rfl rfl rfl (by decide) ?_
    refine RW.gskip rfl rfl rfl rfl rfl (by decide) ?_
    refine RW.op rfl rfl (eff_pick (v := .t _) rfl rfl rfl rfl) ?_
    refine RW.nil ?_
    refine awp_cond rfl (fun _ => ?_) (fun h => nomatch h)
    refine awp_seq ?_
    refine awp_rw rfl ?_
    refine RW.op rfl rfl (eff_buildT (ys := [_, _, _, _, _]) rfl rfl tz27 tg27 rfl) ?_
    refine RW.store rfl rfl (eff_storeW (v := .t _) (els := [_]) (els' := [_]) rfl rfl ti27 rfl rfl rfl rfl rfl rfl rfl rfl rfl) ?_
    refine RW.op rfl rfl (eff_assign (v := .t _) rfl rfl rfl) ?_
    refine RW.nil ?_
    refine awp_ret ?_
    rw [transfer_3 (by omega)]
    exact ⟨Or.inr rfl, [_, _], ⟨.cell rfl ti27 (.whole rfl rfl rfl rfl rfl rfl) (.t _), .tmp (.t _), trivial⟩, (by repeat' first | exact trivial | exact Wk.refl _ | exact Wk.sl _ | refine And.intro ?_ ?_ | refine Wk.tupP ?_ | refine Wk.aggP ?_)⟩
  · try simp only [decide_eq_true_eq, decide_eq_false_iff_not, beq_iff_eq, bne_iff_ne, bne_eq_false_iff_eq, beq_eq_false_iff_ne, Bool.not_eq_true, Bool.not_eq_false, Bool.not_eq_true', Bool.not_eq_false', ne_eq] at h1
    refine RW.gop rfl rfl rfl rfl rfl rfl (eff_move (v := .t _) rfl rfl rfl) ?_
    refine RW.gop rfl rfl rfl rfl rfl rfl (eff_iop rfl rfl rfl rfl rfl) ?_
    refine RW.op rfl rfl (eff_pick (v := .t _) rfl rfl rfl rfl) ?_
    refine RW.nil ?_
    refine awp_cond rfl (fun h2 => ?_) (fun h2 => ?_)
    · try simp only [decide_eq_true_eq, decide_eq_false_iff_not, beq_iff_eq, bne_iff_ne, bne_eq_false_iff_eq, beq_eq_false_iff_ne, Bool.not_eq_true, Bool.not_eq_false, Bool.not_eq_true', Bool.not_eq_false', ne_eq] at h2
      refine awp_seq ?_
      refine awp_rw rfl ?_
      refine RW.op rfl rfl (eff_buildT (ys := [_, _, _, _, _]) rfl rfl tz27 tg27 rfl) ?_
      refine RW.store rfl rfl (eff_storeW (v := .t _) (els := [_]) (els' := [_]) rfl rfl ti27 rfl rfl rfl rfl rfl rfl rfl rfl rfl) ?_
      refine RW.op rfl rfl (eff_assign (v := .t _) rfl rfl rfl) ?_
      refine RW.nil ?_
      refine awp_ret ?_
      rw [transfer_3 (by omega)]
      exact ⟨Or.inr rfl, [_, _], ⟨.cell rfl ti27 (.whole rfl rfl rfl rfl rfl rfl) (.t _), .tmp (.t _), trivial⟩, (by repeat' first | exact trivial | exact Wk.refl _ | exact Wk.sl _ | refine And.intro ?_ ?_ | refine Wk.tupP ?_ | refine Wk.aggP ?_)⟩
    · try simp only [decide_eq_true_eq, decide_eq_false_iff_not, beq_iff_eq, bne_iff_ne, bne_eq_false_iff_eq, beq_eq_false_iff_ne, Bool.not_eq_true, Bool.not_eq_false, Bool.not_eq_true', Bool.not_eq_false', ne_eq] at h2
      refine awp_skip ?_
      refine awp_seq ?_
      obtain ⟨ia, hia, hfx, hfF⟩ := acc_nat h1
      obtain ⟨ka, hka0, hkx, hkF⟩ := acc_nat h2
      rw [hfx, hkx]
      have hL := hB.1
      have hL2 := hB.2
      have hp2 : near 1000000000000000 p := near_mono hp (by omega)
      refine awp_rd [(some 29, []), (some 30, []), (some 31, []), (some 32, []), (some 33, []), (some 34, []), (some 35, []), (some 36, []), (some 28, []), (some 37, []), (some 38, []), (some 12, [12]), (none, [12]), (some 13, [])] [[], [0], [], [0, 1, 2], [0, 1, 2, 3], [0, 1, 2, 3, 4], [], [0, 1, 2, 3, 4, 5, 6], [0, 1, 2, 3, 4, 5, 6, 7], [0, 1, 2, 3, 4, 5, 6, 7, 8], [0, 1, 2, 3, 4, 5, 6, 7, 8], [], [0, 1, 2, 3, 4, 5, 6, 7, 8, 9, 11], [0, 1, 2, 3, 4, 5, 6, 7, 8, 9, 10, 11, 12]] tm rfl rfl rfl rfl ?_
      refine RD.op rfl rfl rfl (eff_fieldAddr rfl rfl tf27_0 (by decide) rfl rfl rfl (Nat.le_of_ble_eq_true rfl)) ?_
      refine RD.op rfl rfl rfl (eff_load (y := .t _) rfl rfl ti22 rfl (.one rfl rfl rfl rfl)) ?_
      refine RD.op rfl rfl rfl (eff_move (v := .t _) rfl rfl rfl) ?_
      refine RD.op rfl rfl rfl (eff_indexM (i := ia) rfl rfl te22 rfl rfl (by first | rfl | omega) (by exact List.getElem?_eq_getElem (by omega)) rfl (by decide)) ?_
      refine RD.op rfl rfl rfl (eff_fieldAddrT rfl rfl tf57_1 (by decide) rfl) ?_
      refine RD.op rfl rfl rfl (eff_loadT (ys := [_, _, _]) rfl rfl ti25 rfl rfl rfl) ?_
      refine RD.op rfl rfl rfl (eff_load rfl rfl ti25 rfl (.whole rfl rfl rfl rfl rfl rfl)) ?_
      refine RD.op rfl rfl rfl (eff_callT (minusD18_ret (b.accs[ia]'hia).p p (hN.acc hia) hp2) co18 rfl rfl rfl rfl) ?_
      refine RD.op rfl rfl rfl (eff_move (v := .t _) rfl rfl rfl) ?_
      refine RD.op rfl rfl rfl (eff_extract rfl rfl rfl rfl) ?_
      refine RD.op rfl rfl rfl (eff_extract rfl rfl rfl rfl) ?_
      refine RD.new rfl rfl rfl (eff_allocK (k := 3) (id := 12) rfl rfl tz25 rfl rfl) ?_
      refine RD.store rfl rfl rfl (eff_storeW (v := .t _) (els := [_]) (els' := [_]) rfl rfl ti25 rfl rfl rfl rfl rfl rfl rfl rfl rfl) ?_
      refine RD.op rfl rfl rfl (eff_assign (v := .t _) rfl rfl rfl) ?_
      refine RD.nil ?_
      refine awp_seq ?_
      refine awp_seq ?_
      refine awp_rw rfl ?_
      refine RW.op rfl rfl (eff_move (v := .t _) rfl rfl rfl) ?_
      refine RW.op rfl rfl (eff_unop rfl rfl rfl rfl) ?_
      refine RW.nil ?_
      refine awp_cond rfl (fun h3 => ?_) (fun h3 => ?_)
      · try simp only [decide_eq_true_eq, decide_eq_false_iff_not, beq_iff_eq, bne_iff_ne, bne_eq_false_iff_eq, beq_eq_false_iff_ne, Bool.not_eq_true, Bool.not_eq_false, Bool.not_eq_true', Bool.not_eq_false', ne_eq] at h3
        refine awp_seq ?_
        refine awp_rw rfl ?_
        refine RW.op rfl rfl (eff_buildT (ys := [_, _, _, _, _]) rfl rfl tz27 tg27 rfl) ?_
        refine RW.store rfl rfl (eff_storeW (v := .t _) (els := [_]) (els' := [_]) rfl rfl ti27 rfl rfl rfl rfl rfl rfl rfl rfl rfl) ?_
        refine RW.op rfl rfl (eff_assign (v := .t _) rfl rfl rfl) ?_
        refine RW.nil ?_
        refine awp_ret ?_
        rw [transfer_40 hia hfF hkF h3]
        exact ⟨Or.inr rfl, [_, _], ⟨.cell rfl ti27 (.whole rfl rfl rfl rfl rfl rfl) (.t _), .tmp (.t _), trivial⟩, (by repeat' first | exact trivial | exact Wk.refl _ | exact Wk.sl _ | refine And.intro ?_ ?_ | refine Wk.tupP ?_ | refine Wk.aggP ?_)⟩
      · try simp only [decide_eq_true_eq, decide_eq_false_iff_not, beq_iff_eq, bne_iff_ne, bne_eq_false_iff_eq, beq_eq_false_iff_ne, Bool.not_eq_true, Bool.not_eq_false, Bool.not_eq_true', Bool.not_eq_false', ne_eq] at h3
        refine awp_skip ?_
        refine awp_seq ?_
        refine awp_rw rfl ?_
        rw [minus_t h3]
        have hka : ka < (setP b.accs ia (sub (b.accs[ia]'hia).p p)).length := by rw [setP_length]; exact hka0
        have hsl : (setP b.accs ia (sub (b.accs[ia]'hia).p p)).length = b.accs.length := setP_length _ _ _
        refine RW.op rfl rfl (eff_load rfl rfl ti27 rfl (.whole rfl rfl rfl rfl rfl rfl)) ?_
        refine RW.new2 rfl rfl (eff_callG (copyR b hB) co73 (fun id => id + 10000) rfl rfl rfl ⟨.t _, trivial⟩ (RenA.aggL (ds := [_, _, _, _, _]) ⟨.own _ _ _ _ rfl rfl, .own _ _ _ _ rfl rfl, .t _, .t _, .t _, trivial⟩) rfl trivial ⟨⟨treeEls_t, .inr rfl⟩, ⟨treeEls_t, .inr rfl⟩, trivial⟩) ?_
        refine RW.new rfl rfl (eff_allocK (k := 5) (id := 14) rfl rfl tz27 rfl rfl) ?_
        refine RW.store rfl rfl (eff_storeW (v := .agg _) (els := [_]) (els' := [_]) rfl rfl ti27 rfl rfl rfl rfl rfl rfl rfl rfl rfl) ?_
        refine RW.nil ?_
        refine awp_seq ?_
        refine awp_rw rfl ?_
        refine RW.op rfl rfl (eff_fieldAddr rfl rfl tf27_0 (by decide) rfl rfl rfl (Nat.le_of_ble_eq_true rfl)) ?_
        refine RW.op rfl rfl (eff_load (y := .own _ _ _ _) rfl rfl ti22 rfl (.one rfl rfl rfl rfl)) ?_
        refine RW.op rfl rfl (eff_move (v := .t _) rfl rfl rfl) ?_
        refine RW.op rfl rfl (eff_load rfl rfl ti25 rfl (.whole rfl rfl rfl rfl rfl rfl)) ?_
        refine RW.op rfl rfl (eff_indexAddr (i := ia) rfl rfl te22 rfl rfl (by first | rfl | omega) rfl rfl rfl (by omega)) ?_
        refine RW.op rfl rfl (eff_fieldAddr rfl rfl tf57_1 (by decide) rfl rfl rfl (Nat.le_of_ble_eq_true rfl)) ?_
        refine RW.store rfl rfl (eff_storeS (v := .t _) (el := .t (encA (b.accs[ia]'hia))) (ys := [encI (b.accs[ia]'hia).c, encI (sub (b.accs[ia]'hia).p p).e, encI (sub (b.accs[ia]'hia).p p).b, encI (sub (b.accs[ia]'hia).p p).d]) (els := (b.accs.map encA).map .t) (els' := ((setP b.accs ia (sub (b.accs[ia]'hia).p p)).map encA).map .t) rfl rfl ti25 rfl rfl rfl rfl rfl rfl (by rw [Nat.zero_add]; exact elA hia) (Nat.le_of_ble_eq_true rfl) rfl (by rw [Nat.zero_add]; exact setP_els hia (sub (b.accs[ia]'hia).p p))) ?_
        refine RW.nil ?_
        refine awp_seq ?_
        refine awp_rd [(some 50, []), (some 51, []), (some 52, []), (some 53, []), (some 54, []), (some 55, []), (some 56, []), (some 57, []), (some 58, []), (some 59, []), (some 60, []), (some 61, []), (some 62, []), (none, [10003])] [[], [0], [], [], [3], [], [3, 4, 5], [3, 4, 5, 6], [3, 4, 5, 6, 7], [], [3, 4, 5, 6, 7, 8, 9], [0, 1, 2, 3, 4, 5, 6, 7, 8, 9, 10], [0, 1, 2, 3, 4, 5, 6, 7, 8, 9, 10, 11], [0, 1, 2, 3, 4, 5, 6, 7, 8, 9, 10, 11, 12]] tm rfl rfl rfl rfl ?_
        refine RD.op rfl rfl rfl (eff_fieldAddr rfl rfl tf27_0 (by decide) rfl rfl rfl (Nat.le_of_ble_eq_true rfl)) ?_
        refine RD.op rfl rfl rfl (eff_load (y := .own _ _ _ _) rfl rfl ti22 rfl (.one rfl rfl rfl rfl)) ?_
        refine RD.op rfl rfl rfl (eff_move (v := .t _) rfl rfl rfl) ?_
        refine RD.op rfl rfl rfl (eff_fieldAddr rfl rfl tf27_0 (by decide) rfl rfl rfl (Nat.le_of_ble_eq_true rfl)) ?_
        refine RD.op rfl rfl rfl (eff_load (y := .own _ _ _ _) rfl rfl ti22 rfl (.one rfl rfl rfl rfl)) ?_
        refine RD.op rfl rfl rfl (eff_move (v := .t _) rfl rfl rfl) ?_
        refine RD.op rfl rfl rfl (eff_indexAddr (i := ka) rfl rfl te22 rfl rfl (by first | rfl | omega) rfl rfl rfl (by omega)) ?_
        refine RD.op rfl rfl rfl (eff_fieldAddr rfl rfl tf57_1 (by decide) rfl rfl rfl (Nat.le_of_ble_eq_true rfl)) ?_
        refine RD.op rfl rfl rfl (eff_loadS (el := .t (encA ((setP b.accs ia (sub (b.accs[ia]'hia).p p))[ka]'hka))) (ys := [encI ((setP b.accs ia (sub (b.accs[ia]'hia).p p))[ka]'hka).p.e, encI ((setP b.accs ia (sub (b.accs[ia]'hia).p p))[ka]'hka).p.b, encI ((setP b.accs ia (sub (b.accs[ia]'hia).p p))[ka]'hka).p.d]) rfl rfl ti25 rfl rfl rfl (by rw [Nat.zero_add]; exact elA hka) rfl rfl) ?_
        refine RD.op rfl rfl rfl (eff_load rfl rfl ti25 rfl (.whole rfl rfl rfl rfl rfl rfl)) ?_
        refine RD.op rfl rfl rfl (eff_callT (plus20_ret ((setP b.accs ia (sub (b.accs[ia]'hia).p p))[ka]'hka).p p (near_mono (near_setP hia (near_sub (hN.2.1 _ (List.getElem_mem hia)) hp h3) hN.2.1 hka) (by omega)) hp2) co20 rfl rfl rfl rfl) ?_
        refine RD.op rfl rfl rfl (eff_indexAddr (i := ka) rfl rfl te22 rfl rfl (by first | rfl | omega) rfl rfl rfl (by omega)) ?_
        refine RD.op rfl rfl rfl (eff_fieldAddr rfl rfl tf57_1 (by decide) rfl rfl rfl (Nat.le_of_ble_eq_true rfl)) ?_
        refine RD.store rfl rfl rfl (eff_storeS (v := .t _) (el := .t (encA ((setP b.accs ia (sub (b.accs[ia]'hia).p p))[ka]'hka))) (ys := [encI ((setP b.accs ia (sub (b.accs[ia]'hia).p p))[ka]'hka).c, encI (plus ((setP b.accs ia (sub (b.accs[ia]'hia).p p))[ka]'hka).p p).e, encI (plus ((setP b.accs ia (sub (b.accs[ia]'hia).p p))[ka]'hka).p p).b, encI (plus ((setP b.accs ia (sub (b.accs[ia]'hia).p p))[ka]'hka).p p).d]) (els := ((setP b.accs ia (sub (b.accs[ia]'hia).p p)).map encA).map .t) (els' := ((setP (setP b.accs ia (sub (b.accs[ia]'hia).p p)) ka (plus ((setP b.accs ia (sub (b.accs[ia]'hia).p p))[ka]'hka).p p)).map encA).map .t) rfl rfl ti25 rfl rfl rfl rfl rfl rfl (by rw [Nat.zero_add]; exact elA hka) (Nat.le_of_ble_eq_true rfl) rfl (by rw [Nat.zero_add]; exact setP_els hka (plus ((setP b.accs ia (sub (b.accs[ia]'hia).p p))[ka]'hka).p p))) ?_
        refine RD.nil ?_
        refine awp_seq ?_
        refine awp_rw rfl ?_
        refine RW.op rfl rfl (eff_load rfl rfl ti27 rfl (.whole rfl rfl rfl rfl rfl rfl)) ?_
        refine RW.store rfl rfl (eff_storeW (v := .agg _) (els := [_]) (els' := [_]) rfl rfl ti27 rfl rfl rfl rfl rfl rfl rfl rfl rfl) ?_
        refine RW.op rfl rfl (eff_assign (v := .t _) rfl rfl rfl) ?_
        refine RW.nil ?_
        refine awp_ret ?_
        rw [transfer_0 hia hfF hkF h3 hka]
        exact ⟨Or.inr rfl, [_, _], ⟨.cell rfl ti27 (.whole rfl rfl rfl rfl rfl rfl) (Res.aggP (xs := [_, _, _, _, _]) ⟨Res.ownT (xs := (setP (setP b.accs ia (sub (b.accs[ia]'hia).p p)) ka (plus ((setP b.accs ia (sub (b.accs[ia]'hia).p p))[ka]'hka).p p)).map encA) rfl rfl rfl (by simp [setP_length]), Res.ownT (xs := b.ls.map encL) rfl rfl rfl (by simp [setP_length]), .t _, .t _, .t _, trivial⟩), .tmp (.t _), trivial⟩, (by repeat' first | exact trivial | exact Wk.refl _ | exact Wk.sl _ | refine And.intro ?_ ?_ | refine Wk.tupP ?_ | refine Wk.aggP ?_)⟩

end Go.Tv.C24

end
section
open Go Go.Tv Go.Proofs
namespace Go.Tv.C24
set_option maxRecDepth 20000
set_option maxHeartbeats 2000000
set_option linter.unusedSimpArgs false
set_option linter.unusedVariables false
theorem bub_full (l : List Lea) (x : Lea) : bub l x l.length = l ++ [x] := by unfold bub; simp

theorem grant46_ret (b : Bank) (l : Lea) (hB : BOK b) (hN : NB b) (hil : incrL b.ls) : Ret Try.prog 46 [encB b, encL l] (.tup [encB (grant b l).1, encI (grant b l).2]) := by
  refine ret_of_awp Try.func46 rfl (Nat.le_of_ble_eq_true rfl) ?_
  refine awp_seq ?_
  refine awp_rw rfl ?_
  refine RW.new rfl rfl (eff_boxK (v := .t _) (k := 5) (id := 2) rfl rfl rfl rfl rfl rfl) ?_
  refine RW.new rfl rfl (eff_boxK (v := .t _) (k := 8) (id := 3) rfl rfl rfl rfl rfl rfl) ?_
  refine RW.new rfl rfl (eff_allocK (k := 5) (id := 4) rfl rfl tz27 rfl rfl) ?_
  refine RW.op rfl rfl (eff_assign (v := .t _) rfl rfl rfl) ?_
  refine RW.nil ?_
  refine awp_seq ?_
  refine awp_seq ?_
  refine awp_rw rfl ?_
  refine RW.op rfl rfl (eff_load rfl rfl ti44 rfl (.whole rfl rfl rfl rfl rfl rfl)) ?_
  refine RW.op rfl rfl (eff_callT (formed61_ret l) co61 rfl rfl rfl rfl) ?_
  refine RW.op rfl rfl (eff_unop rfl rfl rfl rfl) ?_
  refine RW.nil ?_
  refine awp_cond rfl (fun h1 => ?_) (fun h1 => ?_)
  · try simp only [decide_eq_true_eq, decide_eq_false_iff_not, beq_iff_eq, bne_iff_ne, bne_eq_false_iff_eq, beq_eq_false_iff_ne, Bool.not_eq_true, Bool.not_eq_false, Bool.not_eq_true', Bool.not_eq_false', ne_eq] at h1
    refine awp_seq ?_
    refine awp_rw rfl ?_
    refine RW.op rfl rfl (eff_buildT (ys := [_, _, _, _, _]) rfl rfl tz27 tg27 rfl) ?_
    refine RW.store rfl rfl (eff_storeW (v := .t _) (els := [_]) (els' := [_]) rfl rfl ti27 rfl rfl rfl rfl rfl rfl rfl rfl rfl) ?_
    refine RW.op rfl rfl (eff_assign (v := .t _) rfl rfl rfl) ?_
    refine RW.nil ?_
    refine awp_ret ?_
    rw [grant_5 h1]
    exact ⟨Or.inr rfl, [_, _], ⟨.cell rfl ti27 (.whole rfl rfl rfl rfl rfl rfl) (.t _), .tmp (.t _), trivial⟩, (by repeat' first | exact trivial | exact Wk.refl _ | exact Wk.sl _ | refine And.intro ?_ ?_ | refine Wk.tupP ?_ | refine Wk.aggP ?_)⟩
  · try simp only [decide_eq_true_eq, decide_eq_false_iff_not, beq_iff_eq, bne_iff_ne, bne_eq_false_iff_eq, beq_eq_false_iff_ne, Bool.not_eq_true, Bool.not_eq_false, Bool.not_eq_true', Bool.not_eq_false', ne_eq] at h1
    refine awp_skip ?_
    refine awp_seq ?_
    refine awp_seq ?_
    refine awp_rw rfl ?_
    refine RW.op rfl rfl (eff_load rfl rfl ti27 rfl (.whole rfl rfl rfl rfl rfl rfl)) ?_
    refine RW.op rfl rfl (eff_fieldAddr rfl rfl tf44_0 (by decide) rfl rfl rfl (Nat.le_of_ble_eq_true rfl)) ?_
    refine RW.op rfl rfl (eff_load (y := .t _) rfl rfl ti3 rfl (.one rfl rfl rfl rfl)) ?_
    refine RW.op rfl rfl (eff_callT (find72_ret b l.id hB) co72 rfl rfl rfl rfl) ?_
    refine RW.op rfl rfl (eff_iop rfl rfl rfl rfl rfl) ?_
    refine RW.nil ?_
    refine awp_cond rfl (fun h2 => ?_) (fun h2 => ?_)
    · try simp only [decide_eq_true_eq, decide_eq_false_iff_not, beq_iff_eq, bne_iff_ne, bne_eq_false_iff_eq, beq_eq_false_iff_ne, Bool.not_eq_true, Bool.not_eq_false, Bool.not_eq_true', Bool.not_eq_false', ne_eq] at h2
      refine awp_seq ?_
      refine awp_rw rfl ?_
      refine RW.op rfl rfl (eff_buildT (ys := [_, _, _, _, _]) rfl rfl tz27 tg27 rfl) ?_
      refine RW.store rfl rfl (eff_storeW (v := .t _) (els := [_]) (els' := [_]) rfl rfl ti27 rfl rfl rfl rfl rfl rfl rfl rfl rfl) ?_
      refine RW.op rfl rfl (eff_assign (v := .t _) rfl rfl rfl) ?_
      refine RW.nil ?_
      refine awp_ret ?_
      rw [grant_4 h1 (by omega)]
      exact ⟨Or.inr rfl, [_, _], ⟨.cell rfl ti27 (.whole rfl rfl rfl rfl rfl rfl) (.t _), .tmp (.t _), trivial⟩, (by repeat' first | exact trivial | exact Wk.refl _ | exact Wk.sl _ | refine And.intro ?_ ?_ | refine Wk.tupP ?_ | refine Wk.aggP ?_)⟩
    · try simp only [decide_eq_true_eq, decide_eq_false_iff_not, beq_iff_eq, bne_iff_ne, bne_eq_false_iff_eq, beq_eq_false_iff_ne, Bool.not_eq_true, Bool.not_eq_false, Bool.not_eq_true', Bool.not_eq_false', ne_eq] at h2
      refine awp_skip ?_
      refine awp_seq ?_
      refine awp_rw rfl ?_
      refine RW.op rfl rfl (eff_load rfl rfl ti27 rfl (.whole rfl rfl rfl rfl rfl rfl)) ?_
      refine RW.op rfl rfl (eff_fieldAddr rfl rfl tf44_1 (by decide) rfl rfl rfl (Nat.le_of_ble_eq_true rfl)) ?_
      refine RW.op rfl rfl (eff_load (y := .t _) rfl rfl ti3 rfl (.one rfl rfl rfl rfl)) ?_
      refine RW.op rfl rfl (eff_callT (account_ret b l.cu hB) co33 rfl rfl rfl rfl) ?_
      refine RW.op rfl rfl (eff_assign (v := .t _) rfl rfl rfl) ?_
      refine RW.nil ?_
      refine awp_seq ?_
      refine awp_seq ?_
      refine awp_rw rfl ?_
      refine RW.op rfl rfl (eff_move (v := .t _) rfl rfl rfl) ?_
      refine RW.op rfl rfl (eff_iop rfl rfl rfl rfl rfl) ?_
      refine RW.nil ?_
      refine awp_cond rfl (fun h3 => ?_) (fun h3 => ?_)
      · try simp only [decide_eq_true_eq, decide_eq_false_iff_not, beq_iff_eq, bne_iff_ne, bne_eq_false_iff_eq, beq_eq_false_iff_ne, Bool.not_eq_true, Bool.not_eq_false, Bool.not_eq_true', Bool.not_eq_false', ne_eq] at h3
        refine awp_seq ?_
        refine awp_rw rfl ?_
        refine RW.op rfl rfl (eff_buildT (ys := [_, _, _, _, _]) rfl rfl tz27 tg27 rfl) ?_
        refine RW.store rfl rfl (eff_storeW (v := .t _) (els := [_]) (els' := [_]) rfl rfl ti27 rfl rfl rfl rfl rfl rfl rfl rfl rfl) ?_
        refine RW.op rfl rfl (eff_assign (v := .t _) rfl rfl rfl) ?_
        refine RW.nil ?_
        refine awp_ret ?_
        rw [grant_3 h1 (by omega) h3]
        exact ⟨Or.inr rfl, [_, _], ⟨.cell rfl ti27 (.whole rfl rfl rfl rfl rfl rfl) (.t _), .tmp (.t _), trivial⟩, (by repeat' first | exact trivial | exact Wk.refl _ | exact Wk.sl _ | refine And.intro ?_ ?_ | refine Wk.tupP ?_ | refine Wk.aggP ?_)⟩
      · try simp only [decide_eq_true_eq, decide_eq_false_iff_not, beq_iff_eq, bne_iff_ne, bne_eq_false_iff_eq, beq_eq_false_iff_ne, Bool.not_eq_true, Bool.not_eq_false, Bool.not_eq_true', Bool.not_eq_false', ne_eq] at h3
        refine awp_skip ?_
        refine awp_seq ?_
        refine awp_seq ?_
        refine awp_rw rfl ?_
        obtain ⟨ia, hia, hfx, hfF⟩ := acc_nat h3
        rw [hfx]
        have hL := hB.1
        have hL2 := hB.2
        refine RW.op rfl rfl (eff_assign (v := .t _) rfl rfl rfl) ?_
        refine RW.nil ?_
        refine awp_block ?_
        refine awp_loopW (fun m s => ∃ (i : Nat), (i ≤ b.ls.length) ∧ (∀ x, x ∈ b.ls.take i → ¬ confl x l) ∧ m = b.ls.length - i ∧ s = ⟨125, [(2, .ptr 2 0 0 0), (3, .ptr 3 0 0 0), (4, .ptr 4 0 0 0), (5, .t (encI 0)), (6, .t (encI (ia : Nat))), (7, .t (encI (i : Nat)))], [(2, some ⟨5, 27, 0, [.t (encB b)]⟩), (3, some ⟨8, 44, 0, [.t (encL l)]⟩), (4, some ⟨5, 27, 0, [.t z27]⟩)]⟩) (_) (⟨_, weak_keep (n := 125) (fr' := [(2, .ptr 2 0 0 0), (3, .ptr 3 0 0 0), (4, .ptr 4 0 0 0), (5, .t (encI 0)), (6, .t (encI (ia : Nat))), (7, .t (encI (0 : Nat)))]) (st' := [(2, some ⟨5, 27, 0, [.t (encB b)]⟩), (3, some ⟨8, 44, 0, [.t (encL l)]⟩), (4, some ⟨5, 27, 0, [.t z27]⟩)]) ⟨rfl, rfl, rfl, rfl, rfl, rfl, rfl, rfl, rfl, rfl, rfl, rfl, trivial⟩ ⟨rfl, okE_one rfl, rfl, okE_one rfl, rfl, okE_one rfl, trivial⟩, 0, (by omega), (by simp), rfl, rfl⟩) ?_
        rintro m s ⟨i, hi, ha, rfl, rfl⟩
        refine awp_seq ?_
        refine awp_seq ?_
        refine awp_rw rfl ?_
        refine RW.op rfl rfl (eff_move (v := .t _) rfl rfl rfl) ?_
        refine RW.op rfl rfl (eff_fieldAddr rfl rfl tf27_1 (by decide) rfl rfl rfl (Nat.le_of_ble_eq_true rfl)) ?_
        refine RW.op rfl rfl (eff_load (y := .t _) rfl rfl ti23 rfl (.one rfl rfl rfl rfl)) ?_
        refine RW.op rfl rfl (eff_lenM rfl rfl te23 rfl) ?_
        refine RW.op rfl rfl (eff_iop rfl rfl rfl rfl rfl) ?_
        refine RW.nil ?_
        refine awp_cond rfl (fun h4 => ?_) (fun h4 => ?_)
        · try simp only [decide_eq_true_eq, decide_eq_false_iff_not, beq_iff_eq, bne_iff_ne, bne_eq_false_iff_eq, beq_eq_false_iff_ne, Bool.not_eq_true, Bool.not_eq_false, Bool.not_eq_true', Bool.not_eq_false', ne_eq] at h4
          refine awp_skip ?_
          refine awp_seq ?_
          refine awp_block ?_
          refine awp_seq ?_
          refine awp_rd [(some 37, []), (some 38, []), (some 39, []), (some 40, []), (some 41, []), (some 42, []), (some 43, [])] [[], [0], [], [0, 1, 2], [0, 1, 2, 3], [], [0, 1, 2, 3, 4, 5]] tm rfl rfl rfl rfl ?_
          refine RD.op rfl rfl rfl (eff_fieldAddr rfl rfl tf27_1 (by decide) rfl rfl rfl (Nat.le_of_ble_eq_true rfl)) ?_
          refine RD.op rfl rfl rfl (eff_load (y := .t _) rfl rfl ti23 rfl (.one rfl rfl rfl rfl)) ?_
          refine RD.op rfl rfl rfl (eff_move (v := .t _) rfl rfl rfl) ?_
          refine RD.op rfl rfl rfl (eff_indexM rfl rfl te23 rfl rfl rfl (by first | assumption | exact List.getElem?_eq_getElem (by omega)) rfl (by decide)) ?_
          refine RD.op rfl rfl rfl (eff_loadW rfl rfl ti44 rfl rfl rfl) ?_
          refine RD.op rfl rfl rfl (eff_load rfl rfl ti44 rfl (.whole rfl rfl rfl rfl rfl rfl)) ?_
          refine RD.op rfl rfl rfl (eff_callT (confl34_ret (b.ls[i]'(by omega)) l) co34 rfl rfl rfl rfl) ?_
          refine RD.nil ?_
          refine awp_cond rfl (fun h5 => ?_) (fun h5 => ?_)
          · try simp only [decide_eq_true_eq, decide_eq_false_iff_not, beq_iff_eq, bne_iff_ne, bne_eq_false_iff_eq, beq_eq_false_iff_ne, Bool.not_eq_true, Bool.not_eq_false, Bool.not_eq_true', Bool.not_eq_false', ne_eq] at h5
            refine awp_seq ?_
            refine awp_rw rfl ?_
            refine RW.op rfl rfl (eff_buildT (ys := [_, _, _, _, _]) rfl rfl tz27 tg27 rfl) ?_
            refine RW.store rfl rfl (eff_storeW (v := .t _) (els := [_]) (els' := [_]) rfl rfl ti27 rfl rfl rfl rfl rfl rfl rfl rfl rfl) ?_
            refine RW.op rfl rfl (eff_assign (v := .t _) rfl rfl rfl) ?_
            refine RW.nil ?_
            refine awp_ret ?_
            rw [grant_32 h1 (by omega) hfF ⟨_, List.getElem_mem _, h5⟩]
            exact ⟨Or.inr rfl, [_, _], ⟨.cell rfl ti27 (.whole rfl rfl rfl rfl rfl rfl) (.t _), .tmp (.t _), trivial⟩, (by repeat' first | exact trivial | exact Wk.refl _ | exact Wk.sl _ | refine And.intro ?_ ?_ | refine Wk.tupP ?_ | refine Wk.aggP ?_)⟩
          · try simp only [decide_eq_true_eq, decide_eq_false_iff_not, beq_iff_eq, bne_iff_ne, bne_eq_false_iff_eq, beq_eq_false_iff_ne, Bool.not_eq_true, Bool.not_eq_false, Bool.not_eq_true', Bool.not_eq_false', ne_eq] at h5
            refine awp_skip ?_
            refine awp_rw rfl ?_
            refine RW.op rfl rfl (eff_move (v := .t _) rfl rfl rfl) ?_
            refine RW.op rfl rfl (eff_iop rfl rfl rfl rfl (iadd (by omega))) ?_
            refine RW.op rfl rfl (eff_assign (v := .t _) rfl rfl rfl) ?_
            refine RW.nil ?_
            refine ⟨_, ?_, _, weak_keep (n := 125) (fr' := [(2, .ptr 2 0 0 0), (3, .ptr 3 0 0 0), (4, .ptr 4 0 0 0), (5, .t (encI 0)), (6, .t (encI (ia : Nat))), (7, .t (encI ((i + 1) : Nat)))]) (st' := [(2, some ⟨5, 27, 0, [.t (encB b)]⟩), (3, some ⟨8, 44, 0, [.t (encL l)]⟩), (4, some ⟨5, 27, 0, [.t z27]⟩)]) ⟨rfl, rfl, rfl, rfl, rfl, rfl, rfl, rfl, rfl, rfl, rfl, rfl, trivial⟩ ⟨rfl, okE_one rfl, rfl, okE_one rfl, rfl, okE_one rfl, trivial⟩, i + 1, (by omega), (by intro x hx; rcases (mem_take_succ (by omega)).1 hx with h | h; exact ha x h; rw [h]; exact h5), rfl, rfl⟩
            omega
        · try simp only [decide_eq_true_eq, decide_eq_false_iff_not, beq_iff_eq, bne_iff_ne, bne_eq_false_iff_eq, beq_eq_false_iff_ne, Bool.not_eq_true, Bool.not_eq_false, Bool.not_eq_true', Bool.not_eq_false', ne_eq] at h4
          refine awp_exit ?_
          refine awp_seq ?_
          refine awp_seq ?_
          refine awp_rw rfl ?_
          rw [List.take_of_length_le (by omega)] at ha
          have hcf : ¬ ∃ x, x ∈ b.ls ∧ confl x l := fun ⟨x, hx, hc⟩ => ha x hx hc
          refine RW.op rfl rfl (eff_fieldAddr rfl rfl tf27_1 (by decide) rfl rfl rfl (Nat.le_of_ble_eq_true rfl)) ?_
          refine RW.op rfl rfl (eff_load (y := .t _) rfl rfl ti23 rfl (.one rfl rfl rfl rfl)) ?_
          refine RW.op rfl rfl (eff_lenM rfl rfl te23 rfl) ?_
          refine RW.op rfl rfl (eff_iop rfl rfl rfl rfl rfl) ?_
          refine RW.nil ?_
          refine awp_cond rfl (fun h6 => ?_) (fun h6 => ?_)
          · try simp only [decide_eq_true_eq, decide_eq_false_iff_not, beq_iff_eq, bne_iff_ne, bne_eq_false_iff_eq, beq_eq_false_iff_ne, Bool.not_eq_true, Bool.not_eq_false, Bool.not_eq_true', Bool.not_eq_false', ne_eq] at h6
            refine awp_seq ?_
            refine awp_rw rfl ?_
            refine RW.op rfl rfl (eff_buildT (ys := [_, _, _, _, _]) rfl rfl tz27 tg27 rfl) ?_
            refine RW.store rfl rfl (eff_storeW (v := .t _) (els := [_]) (els' := [_]) rfl rfl ti27 rfl rfl rfl rfl rfl rfl rfl rfl rfl) ?_
            refine RW.op rfl rfl (eff_assign (v := .t _) rfl rfl rfl) ?_
            refine RW.nil ?_
            refine awp_ret ?_
            rw [grant_9 h1 (by omega) hfF hcf (by omega)]
            exact ⟨Or.inr rfl, [_, _], ⟨.cell rfl ti27 (.whole rfl rfl rfl rfl rfl rfl) (.t _), .tmp (.t _), trivial⟩, (by repeat' first | exact trivial | exact Wk.refl _ | exact Wk.sl _ | refine And.intro ?_ ?_ | refine Wk.tupP ?_ | refine Wk.aggP ?_)⟩
          · try simp only [decide_eq_true_eq, decide_eq_false_iff_not, beq_iff_eq, bne_iff_ne, bne_eq_false_iff_eq, beq_eq_false_iff_ne, Bool.not_eq_true, Bool.not_eq_false, Bool.not_eq_true', Bool.not_eq_false', ne_eq] at h6
            refine awp_skip ?_
            refine awp_seq ?_
            refine awp_rd [(some 51, []), (some 52, []), (some 53, []), (some 54, []), (some 55, []), (some 56, []), (some 57, []), (some 58, []), (some 59, []), (some 50, []), (some 60, []), (some 61, []), (some 8, [8]), (none, [8]), (some 9, [])] [[], [0], [], [0, 1, 2], [0, 1, 2, 3], [0, 1, 2, 3, 4], [], [6], [0, 1, 2, 3, 4, 5, 6, 7], [0, 1, 2, 3, 4, 5, 6, 7, 8], [0, 1, 2, 3, 4, 5, 6, 7, 8, 9], [0, 1, 2, 3, 4, 5, 6, 7, 8, 9], [], [0, 1, 2, 3, 4, 5, 6, 7, 8, 9, 10, 12], [0, 1, 2, 3, 4, 5, 6, 7, 8, 9, 10, 11, 12, 13]] tm rfl rfl rfl rfl ?_
            refine RD.op rfl rfl rfl (eff_fieldAddr rfl rfl tf27_0 (by decide) rfl rfl rfl (Nat.le_of_ble_eq_true rfl)) ?_
            refine RD.op rfl rfl rfl (eff_load (y := .t _) rfl rfl ti22 rfl (.one rfl rfl rfl rfl)) ?_
            refine RD.op rfl rfl rfl (eff_move (v := .t _) rfl rfl rfl) ?_
            refine RD.op rfl rfl rfl (eff_indexM (i := ia) rfl rfl te22 rfl rfl (by first | rfl | omega) (by exact List.getElem?_eq_getElem (by omega)) rfl (by decide)) ?_
            refine RD.op rfl rfl rfl (eff_fieldAddrT rfl rfl tf57_1 (by decide) rfl) ?_
            refine RD.op rfl rfl rfl (eff_loadT (ys := [_, _, _]) rfl rfl ti25 rfl rfl rfl) ?_
            refine RD.op rfl rfl rfl (eff_fieldAddr rfl rfl tf44_5 (by decide) rfl rfl rfl (Nat.le_of_ble_eq_true rfl)) ?_
            refine RD.op rfl rfl rfl (eff_loadS (ys := [_, _, _]) rfl rfl ti25 rfl rfl rfl rfl rfl rfl) ?_
            refine RD.op rfl rfl rfl (eff_callT (minusD18_ret (b.accs[ia]'hia).p l.h (hN.acc hia) (near_mono (right_near h1.2.2.2.2.2.2) (by omega))) co18 rfl rfl rfl rfl) ?_
            refine RD.op rfl rfl rfl (eff_move (v := .t _) rfl rfl rfl) ?_
            refine RD.op rfl rfl rfl (eff_extract rfl rfl rfl rfl) ?_
            refine RD.op rfl rfl rfl (eff_extract rfl rfl rfl rfl) ?_
            refine RD.new rfl rfl rfl (eff_allocK (k := 3) (id := 8) rfl rfl tz25 rfl rfl) ?_
            refine RD.store rfl rfl rfl (eff_storeW (v := .t _) (els := [_]) (els' := [_]) rfl rfl ti25 rfl rfl rfl rfl rfl rfl rfl rfl rfl) ?_
            refine RD.op rfl rfl rfl (eff_assign (v := .t _) rfl rfl rfl) ?_
            refine RD.nil ?_
            refine awp_seq ?_
            refine awp_seq ?_
            refine awp_rw rfl ?_
            refine RW.op rfl rfl (eff_move (v := .t _) rfl rfl rfl) ?_
            refine RW.op rfl rfl (eff_unop rfl rfl rfl rfl) ?_
            refine RW.nil ?_
            refine awp_cond rfl (fun h7 => ?_) (fun h7 => ?_)
            · try simp only [decide_eq_true_eq, decide_eq_false_iff_not, beq_iff_eq, bne_iff_ne, bne_eq_false_iff_eq, beq_eq_false_iff_ne, Bool.not_eq_true, Bool.not_eq_false, Bool.not_eq_true', Bool.not_eq_false', ne_eq] at h7
              refine awp_seq ?_
              refine awp_rw rfl ?_
              refine RW.op rfl rfl (eff_buildT (ys := [_, _, _, _, _]) rfl rfl tz27 tg27 rfl) ?_
              refine RW.store rfl rfl (eff_storeW (v := .t _) (els := [_]) (els' := [_]) rfl rfl ti27 rfl rfl rfl rfl rfl rfl rfl rfl rfl) ?_
              refine RW.op rfl rfl (eff_assign (v := .t _) rfl rfl rfl) ?_
              refine RW.nil ?_
              refine awp_ret ?_
              rw [grant_40 h1 (by omega) hia hfF hcf (by omega) h7]
              exact ⟨Or.inr rfl, [_, _], ⟨.cell rfl ti27 (.whole rfl rfl rfl rfl rfl rfl) (.t _), .tmp (.t _), trivial⟩, (by repeat' first | exact trivial | exact Wk.refl _ | exact Wk.sl _ | refine And.intro ?_ ?_ | refine Wk.tupP ?_ | refine Wk.aggP ?_)⟩
            · try simp only [decide_eq_true_eq, decide_eq_false_iff_not, beq_iff_eq, bne_iff_ne, bne_eq_false_iff_eq, beq_eq_false_iff_ne, Bool.not_eq_true, Bool.not_eq_false, Bool.not_eq_true', Bool.not_eq_false', ne_eq] at h7
              refine awp_skip ?_
              refine awp_seq ?_
              refine awp_rw rfl ?_
              rw [minus_t h7]
              refine RW.op rfl rfl (eff_load rfl rfl ti27 rfl (.whole rfl rfl rfl rfl rfl rfl)) ?_
              refine RW.new2 rfl rfl (eff_callG (copyR b hB) co73 (fun id => id + 10000) rfl rfl rfl ⟨.t _, trivial⟩ (RenA.aggL (ds := [_, _, _, _, _]) ⟨.own _ _ _ _ rfl rfl, .own _ _ _ _ rfl rfl, .t _, .t _, .t _, trivial⟩) rfl trivial ⟨⟨treeEls_t, .inr rfl⟩, ⟨treeEls_t, .inr rfl⟩, trivial⟩) ?_
              refine RW.new rfl rfl (eff_allocK (k := 5) (id := 10) rfl rfl tz27 rfl rfl) ?_
              refine RW.store rfl rfl (eff_storeW (v := .agg _) (els := [_]) (els' := [_]) rfl rfl ti27 rfl rfl rfl rfl rfl rfl rfl rfl rfl) ?_
              refine RW.nil ?_
              refine awp_seq ?_
              refine awp_rw rfl ?_
              refine RW.op rfl rfl (eff_fieldAddr rfl rfl tf27_0 (by decide) rfl rfl rfl (Nat.le_of_ble_eq_true rfl)) ?_
              refine RW.op rfl rfl (eff_load (y := .own _ _ _ _) rfl rfl ti22 rfl (.one rfl rfl rfl rfl)) ?_
              refine RW.op rfl rfl (eff_move (v := .t _) rfl rfl rfl) ?_
              refine RW.op rfl rfl (eff_load rfl rfl ti25 rfl (.whole rfl rfl rfl rfl rfl rfl)) ?_
              refine RW.op rfl rfl (eff_indexAddr (i := ia) rfl rfl te22 rfl rfl (by first | rfl | omega) rfl rfl rfl (by omega)) ?_
              refine RW.op rfl rfl (eff_fieldAddr rfl rfl tf57_1 (by decide) rfl rfl rfl (Nat.le_of_ble_eq_true rfl)) ?_
              refine RW.store rfl rfl (eff_storeS (v := .t _) (el := .t (encA (b.accs[ia]'hia))) (ys := [encI (b.accs[ia]'hia).c, encI (sub (b.accs[ia]'hia).p l.h).e, encI (sub (b.accs[ia]'hia).p l.h).b, encI (sub (b.accs[ia]'hia).p l.h).d]) (els := (b.accs.map encA).map .t) (els' := ((setP b.accs ia (sub (b.accs[ia]'hia).p l.h)).map encA).map .t) rfl rfl ti25 rfl rfl rfl rfl rfl rfl (by rw [Nat.zero_add]; exact elA hia) (Nat.le_of_ble_eq_true rfl) rfl (by rw [Nat.zero_add]; exact setP_els hia (sub (b.accs[ia]'hia).p l.h))) ?_
              refine RW.nil ?_
              refine awp_seq ?_
              refine awp_rw rfl ?_
              refine RW.op rfl rfl (eff_fieldAddr rfl rfl tf27_1 (by decide) rfl rfl rfl (Nat.le_of_ble_eq_true rfl)) ?_
              refine RW.op rfl rfl (eff_load (y := .own _ _ _ _) rfl rfl ti23 rfl (.one rfl rfl rfl rfl)) ?_
              refine RW.op rfl rfl (eff_load rfl rfl ti44 rfl (.whole rfl rfl rfl rfl rfl rfl)) ?_
              refine RW.new rfl rfl (eff_buildSliceL (id := 76) (els := [.t (.agg [_, _, _, _, _, _, _, _])]) rfl rfl te23 tz44 rfl (by decide) (by decide) rfl rfl rfl rfl) ?_
              refine RW.new rfl rfl (eff_appendAny (id := 10007) (ys := [.t (encL l)]) rfl rfl ta23 rfl rfl rfl (by simp) rfl rfl (srcOwn rfl rfl rfl rfl rfl rfl) (by simp; omega) (by simp; omega)) ?_
              refine RW.op rfl rfl (eff_fieldAddr rfl rfl tf27_1 (by decide) rfl rfl rfl (Nat.le_of_ble_eq_true rfl)) ?_
              refine RW.store rfl rfl (eff_storeA (v := .own _ _ _ _) (ys := [.own 10003 _ 0 _, .own 10007 _ 0 _, .t _, .t _, .t _]) (els := [_]) (els' := [_]) rfl rfl ti23 rfl rfl rfl rfl rfl rfl rfl (Nat.le_of_ble_eq_true rfl) rfl rfl rfl) ?_
              refine RW.nil ?_
              refine awp_seq ?_
              refine awp_seq ?_
              refine awp_rw rfl ?_
              refine RW.op rfl rfl (eff_fieldAddr rfl rfl tf27_1 (by decide) rfl rfl rfl (Nat.le_of_ble_eq_true rfl)) ?_
              refine RW.op rfl rfl (eff_load (y := .own _ _ _ _) rfl rfl ti23 rfl (.one rfl rfl rfl rfl)) ?_
              refine RW.op rfl rfl (eff_len rfl rfl te23 rfl rfl rfl) ?_
              refine RW.op rfl rfl (eff_iop (r := encI (b.ls.length : Nat)) rfl rfl rfl rfl (isubE (by first | omega | simp) (by omega))) ?_
              refine RW.op rfl rfl (eff_assign (v := .t _) rfl rfl rfl) ?_
              refine RW.nil ?_
              refine awp_block ?_
              refine awp_loopW (fun m s => ∃ (k : Nat), (k ≤ b.ls.length) ∧ (∀ y, y ∈ b.ls.drop k → l.id < y.id) ∧ m = k + 1 ∧ s = ⟨125, [(4, .ptr 4 0 0 0), (5, .t (encI 0)), (10, .ptr 10 0 0 0), (11, .t (encI (k : Nat)))], [(4, some ⟨5, 27, 0, [.t z27]⟩), (10, some ⟨5, 27, 0, [.agg [.own 10003 1 0 b.accs.length, .own 10007 2 0 (b.ls.length + 1), .t (encI b.sp.e), .t (encI b.sp.b), .t (encI b.sp.d)]]⟩), (10003, some ⟨4, 57, 1, ((setP b.accs ia (sub (b.accs[ia]'hia).p l.h)).map encA).map .t⟩), (10007, some ⟨8, 44, 2, ((bub b.ls l k).map encL).map .t⟩)]⟩) (_) (⟨_, weak_keep (n := 125) (fr' := [(4, .ptr 4 0 0 0), (5, .t (encI 0)), (10, .ptr 10 0 0 0), (11, .t (encI ((b.ls.length) : Nat)))]) (st' := [(4, some ⟨5, 27, 0, [.t z27]⟩), (10, some ⟨5, 27, 0, [.agg [.own 10003 1 0 b.accs.length, .own 10007 2 0 (b.ls.length + 1), .t (encI b.sp.e), .t (encI b.sp.b), .t (encI b.sp.d)]]⟩), (10003, some ⟨4, 57, 1, ((setP b.accs ia (sub (b.accs[ia]'hia).p l.h)).map encA).map .t⟩), (10007, some ⟨8, 44, 2, ((bub b.ls l (b.ls.length)).map encL).map .t⟩)]) ⟨rfl, rfl, rfl, rfl, rfl, rfl, rfl, rfl, trivial⟩ ⟨rfl, okE_one rfl, (by first | rfl | (simp [sget]; done)), okE_one rfl, rfl, okE_t, (by first | (rw [bub_full]; simp [sget]; rfl) | (rw [← bub_swap b.ls l (by omega) (by omega)]; rfl)), okE_t, trivial⟩, b.ls.length, (by omega), (by simp), rfl, rfl⟩) ?_
              rintro m s ⟨k, hk, hb, rfl, rfl⟩
              refine awp_seq ?_
              refine awp_seq ?_
              by_cases hc8 : 0 < k
              · refine awp_rd [(some 83, []), (some 84, []), (some 85, []), (some 86, []), (some 87, []), (some 88, []), (some 89, []), (some 90, []), (some 91, []), (some 92, []), (some 93, []), (some 94, []), (some 95, []), (some 96, []), (some 97, []), (some 98, []), (some 99, []), (some 100, [])] [[], [0], [0, 1], [0, 1, 2], [0, 1, 2, 3], [0, 1, 2], [0, 1, 2, 5], [0, 1, 2, 3, 4, 5, 6], [0, 1, 2, 3, 4, 5, 6, 7], [0, 1, 2, 3, 4, 5, 6, 7, 8], [0, 1, 2], [0, 1, 2, 10], [0, 1, 2], [0, 1, 2, 10, 11, 12], [0, 1, 2, 10, 11, 12, 13], [0, 1, 2, 10, 11, 12, 13, 14], [0, 1, 2, 3, 4, 5, 6, 7, 8, 9, 10, 11, 12, 13, 14, 15], [0, 1, 2, 3, 4, 5, 6, 7, 8, 9, 10, 11, 12, 13, 14, 15, 16]] tm rfl rfl rfl rfl ?_
                refine RD.op rfl rfl rfl (eff_move (v := .t _) rfl rfl rfl) ?_
                refine RD.op rfl rfl rfl (eff_iop (r := .bool true) rfl rfl rfl rfl (by exact iop_gtr_t (by omega))) ?_
                refine RD.op rfl rfl rfl (eff_move (v := .t _) rfl rfl rfl) ?_
                refine RD.gop rfl rfl rfl rfl rfl rfl rfl (eff_fieldAddr rfl rfl tf27_1 (by decide) rfl rfl rfl (Nat.le_of_ble_eq_true rfl)) ?_
                refine RD.gop rfl rfl rfl rfl rfl rfl rfl (eff_load (y := .own _ _ _ _) rfl rfl ti23 rfl (.one rfl rfl rfl rfl)) ?_
                refine RD.gop rfl rfl rfl rfl rfl rfl rfl (eff_move (v := .t _) rfl rfl rfl) ?_
                refine RD.gop rfl rfl rfl rfl rfl rfl rfl (eff_iop rfl rfl rfl rfl (isub (by omega))) ?_
                refine RD.gop rfl rfl rfl rfl rfl rfl rfl (eff_indexAddr (i := k - 1) rfl rfl te23 rfl rfl (by first | rfl | omega) rfl rfl rfl (by omega)) ?_
                refine RD.gop rfl rfl rfl rfl rfl rfl rfl (eff_fieldAddr rfl rfl tf44_0 (by decide) rfl rfl rfl (Nat.le_of_ble_eq_true rfl)) ?_
                refine RD.gop rfl rfl rfl rfl rfl rfl rfl (eff_load (y := .t (encI ((b.ls[k - 1]'(by omega))).id)) rfl rfl ti3 rfl (.one (el := .t (encL (b.ls[k - 1]'(by omega)))) rfl rfl (by rw [Nat.zero_add]; exact elK (bub_pre b.ls l (by omega) (by omega))) rfl)) ?_
                refine RD.gop rfl rfl rfl rfl rfl rfl rfl (eff_fieldAddr rfl rfl tf27_1 (by decide) rfl rfl rfl (Nat.le_of_ble_eq_true rfl)) ?_
                refine RD.gop rfl rfl rfl rfl rfl rfl rfl (eff_load (y := .own _ _ _ _) rfl rfl ti23 rfl (.one rfl rfl rfl rfl)) ?_
                refine RD.gop rfl rfl rfl rfl rfl rfl rfl (eff_move (v := .t _) rfl rfl rfl) ?_
                refine RD.gop rfl rfl rfl rfl rfl rfl rfl (eff_indexAddr (i := k) rfl rfl te23 rfl rfl (by first | rfl | omega) rfl rfl rfl (by omega)) ?_
                refine RD.gop rfl rfl rfl rfl rfl rfl rfl (eff_fieldAddr rfl rfl tf44_0 (by decide) rfl rfl rfl (Nat.le_of_ble_eq_true rfl)) ?_
                refine RD.gop rfl rfl rfl rfl rfl rfl rfl (eff_load (y := .t (encI (l).id)) rfl rfl ti3 rfl (.one (el := .t (encL l)) rfl rfl (by rw [Nat.zero_add]; exact elK (bub_at b.ls l (by omega))) rfl)) ?_
                refine RD.gop rfl rfl rfl rfl rfl rfl rfl (eff_iop rfl rfl rfl rfl rfl) ?_
                refine RD.op rfl rfl rfl (eff_pick (v := .t _) rfl rfl rfl rfl) ?_
                refine RD.nil ?_
                refine awp_cond rfl (fun h9 => ?_) (fun h9 => ?_)
                · try simp only [decide_eq_true_eq, decide_eq_false_iff_not, beq_iff_eq, bne_iff_ne, bne_eq_false_iff_eq, beq_eq_false_iff_ne, Bool.not_eq_true, Bool.not_eq_false, Bool.not_eq_true', Bool.not_eq_false', ne_eq] at h9
                  refine awp_skip ?_
                  refine awp_seq ?_
                  refine awp_block ?_
                  refine awp_seq ?_
                  refine awp_rw rfl ?_
                  refine RW.op rfl rfl (eff_fieldAddr rfl rfl tf27_1 (by decide) rfl rfl rfl (Nat.le_of_ble_eq_true rfl)) ?_
                  refine RW.op rfl rfl (eff_load (y := .own _ _ _ _) rfl rfl ti23 rfl (.one rfl rfl rfl rfl)) ?_
                  refine RW.op rfl rfl (eff_move (v := .t _) rfl rfl rfl) ?_
                  refine RW.op rfl rfl (eff_indexAddr (i := k) rfl rfl te23 rfl rfl (by first | rfl | omega) rfl rfl rfl (by omega)) ?_
                  refine RW.op rfl rfl (eff_load (y := .t (encL l)) rfl rfl ti44 rfl (.whole rfl rfl (by rw [Nat.zero_add]; exact elK (bub_at b.ls l (by omega))) rfl rfl rfl)) ?_
                  refine RW.new rfl rfl (eff_allocK (k := 8) (id := 12) rfl rfl tz44 rfl rfl) ?_
                  refine RW.store rfl rfl (eff_storeW (v := .t _) (els := [_]) (els' := [_]) rfl rfl ti44 rfl rfl rfl rfl rfl rfl rfl rfl rfl) ?_
                  refine RW.nil ?_
                  refine awp_seq ?_
                  refine awp_rd [(some 108, []), (some 109, []), (some 110, []), (some 111, []), (some 112, []), (some 113, []), (some 114, []), (some 115, []), (some 116, []), (some 117, []), (none, [10007])] [[], [0], [], [], [3], [], [5], [3, 4, 5, 6], [3, 4, 5, 6, 7], [0, 1, 2, 3, 4, 5, 6, 7, 8], [0, 1, 2, 3, 4, 5, 6, 7, 8, 9]] tm rfl rfl rfl rfl ?_
                  refine RD.op rfl rfl rfl (eff_fieldAddr rfl rfl tf27_1 (by decide) rfl rfl rfl (Nat.le_of_ble_eq_true rfl)) ?_
                  refine RD.op rfl rfl rfl (eff_load (y := .own _ _ _ _) rfl rfl ti23 rfl (.one rfl rfl rfl rfl)) ?_
                  refine RD.op rfl rfl rfl (eff_move (v := .t _) rfl rfl rfl) ?_
                  refine RD.op rfl rfl rfl (eff_fieldAddr rfl rfl tf27_1 (by decide) rfl rfl rfl (Nat.le_of_ble_eq_true rfl)) ?_
                  refine RD.op rfl rfl rfl (eff_load (y := .own _ _ _ _) rfl rfl ti23 rfl (.one rfl rfl rfl rfl)) ?_
                  refine RD.op rfl rfl rfl (eff_move (v := .t _) rfl rfl rfl) ?_
                  refine RD.op rfl rfl rfl (eff_iop rfl rfl rfl rfl (isub (by omega))) ?_
                  refine RD.op rfl rfl rfl (eff_indexAddr (i := k - 1) rfl rfl te23 rfl rfl (by first | rfl | omega) rfl rfl rfl (by omega)) ?_
                  refine RD.op rfl rfl rfl (eff_load (y := .t (encL (b.ls[k - 1]'(by omega)))) rfl rfl ti44 rfl (.whole rfl rfl (by rw [Nat.zero_add]; exact elK (bub_pre b.ls l (by omega) (by omega))) rfl rfl rfl)) ?_
                  refine RD.op rfl rfl rfl (eff_indexAddr (i := k) rfl rfl te23 rfl rfl (by first | rfl | omega) rfl rfl rfl (by omega)) ?_
                  refine RD.store rfl rfl rfl (eff_storeW (v := .t (encL (b.ls[k - 1]'(by omega)))) (els := ((bub b.ls l k).map encL).map .t) (els' := (((bub b.ls l k).set k (b.ls[k - 1]'(by omega))).map encL).map .t) rfl rfl ti44 rfl rfl rfl rfl rfl rfl (by rw [Nat.zero_add]; exact elK (bub_at b.ls l (by omega))) rfl (by rw [Nat.zero_add]; exact setK _ _ _)) ?_
                  refine RD.nil ?_
                  refine awp_rw rfl ?_
                  refine RW.op rfl rfl (eff_fieldAddr rfl rfl tf27_1 (by decide) rfl rfl rfl (Nat.le_of_ble_eq_true rfl)) ?_
                  refine RW.op rfl rfl (eff_load (y := .own _ _ _ _) rfl rfl ti23 rfl (.one rfl rfl rfl rfl)) ?_
                  refine RW.op rfl rfl (eff_move (v := .t _) rfl rfl rfl) ?_
                  refine RW.op rfl rfl (eff_iop rfl rfl rfl rfl (isub (by omega))) ?_
                  refine RW.op rfl rfl (eff_load rfl rfl ti44 rfl (.whole rfl rfl rfl rfl rfl rfl)) ?_
                  refine RW.op rfl rfl (eff_indexAddr (i := k - 1) rfl rfl te23 rfl rfl (by first | rfl | omega) rfl rfl rfl (by omega)) ?_
                  refine RW.store rfl rfl (eff_storeW (v := .t (encL l)) (els := (((bub b.ls l k).set k (b.ls[k - 1]'(by omega))).map encL).map .t) (els' := ((((bub b.ls l k).set k (b.ls[k - 1]'(by omega))).set (k - 1) l).map encL).map .t) rfl rfl ti44 rfl rfl rfl rfl rfl rfl (by rw [Nat.zero_add]; exact elK (by rw [List.getElem?_set_ne (by omega)]; exact (bub_pre b.ls l (by omega) (by omega)))) rfl (by rw [Nat.zero_add]; exact setK _ _ _)) ?_
                  refine RW.nil ?_
                  refine awp_rw rfl ?_
                  refine RW.op rfl rfl (eff_move (v := .t _) rfl rfl rfl) ?_
                  refine RW.op rfl rfl (eff_iop (r := encI ((k - 1 : Nat) : Int)) rfl rfl rfl rfl (isubE (by omega) (by omega))) ?_
                  refine RW.op rfl rfl (eff_assign (v := .t _) rfl rfl rfl) ?_
                  refine RW.nil ?_
                  refine ⟨_, ?_, _, weak_keep (n := 125) (fr' := [(4, .ptr 4 0 0 0), (5, .t (encI 0)), (10, .ptr 10 0 0 0), (11, .t (encI ((k - 1) : Nat)))]) (st' := [(4, some ⟨5, 27, 0, [.t z27]⟩), (10, some ⟨5, 27, 0, [.agg [.own 10003 1 0 b.accs.length, .own 10007 2 0 (b.ls.length + 1), .t (encI b.sp.e), .t (encI b.sp.b), .t (encI b.sp.d)]]⟩), (10003, some ⟨4, 57, 1, ((setP b.accs ia (sub (b.accs[ia]'hia).p l.h)).map encA).map .t⟩), (10007, some ⟨8, 44, 2, ((bub b.ls l (k - 1)).map encL).map .t⟩)]) ⟨rfl, rfl, rfl, rfl, rfl, rfl, rfl, rfl, trivial⟩ ⟨rfl, okE_one rfl, (by first | rfl | (simp [sget]; done)), okE_one rfl, rfl, okE_t, (by first | (rw [bub_full]; simp [sget]; rfl) | (rw [← bub_swap b.ls l (by omega) (by omega)]; rfl)), okE_t, trivial⟩, k - 1, (by omega), (by intro y hy; rcases drop_pred (by omega) (by omega) hy with h | h; (rw [h]; omega); exact hb y h), rfl, rfl⟩
                  omega
                · try simp only [decide_eq_true_eq, decide_eq_false_iff_not, beq_iff_eq, bne_iff_ne, bne_eq_false_iff_eq, beq_eq_false_iff_ne, Bool.not_eq_true, Bool.not_eq_false, Bool.not_eq_true', Bool.not_eq_false', ne_eq] at h9
                  refine awp_exit ?_
                  refine awp_seq ?_
                  refine awp_rw rfl ?_
                  refine RW.op rfl rfl (eff_load rfl rfl ti27 rfl (.whole rfl rfl rfl rfl rfl rfl)) ?_
                  refine RW.store rfl rfl (eff_storeW (v := .agg _) (els := [_]) (els' := [_]) rfl rfl ti27 rfl rfl rfl rfl rfl rfl rfl rfl rfl) ?_
                  refine RW.op rfl rfl (eff_assign (v := .t _) rfl rfl rfl) ?_
                  refine RW.nil ?_
                  refine awp_ret ?_
                  rw [grant_0 h1 (by omega) hia hfF hcf (by omega) h7, ← bub_end hil (by omega) hk hb (by first | (left; omega) | (right; exact ⟨by omega, by omega⟩))]
                  exact ⟨Or.inr rfl, [_, _], ⟨.cell rfl ti27 (.whole rfl rfl rfl rfl rfl rfl) (Res.aggP (xs := [_, _, _, _, _]) ⟨Res.ownT (xs := (setP b.accs ia (sub (b.accs[ia]'hia).p l.h)).map encA) rfl rfl rfl (by simp [setP_length]), Res.ownT (xs := (bub b.ls l k).map encL) rfl rfl rfl (by rw [List.length_map, bub_length _ _ hk]), .t _, .t _, .t _, trivial⟩), .tmp (.t _), trivial⟩, (by repeat' first | exact trivial | exact Wk.refl _ | exact Wk.sl _ | refine And.intro ?_ ?_ | refine Wk.tupP ?_ | refine Wk.aggP ?_)⟩
              · refine awp_rd [(some 83, []), (some 84, []), (some 85, []), (some 86, []), (some 87, []), (some 88, []), (some 89, []), (some 90, []), (some 91, []), (some 92, []), (some 93, []), (some 94, []), (some 95, []), (some 96, []), (some 97, []), (some 98, []), (some 99, []), (some 100, [])] [[], [0], [0, 1], [0, 1, 2], [0, 1, 2, 3], [0, 1, 2], [0, 1, 2, 5], [0, 1, 2, 3, 4, 5, 6], [0, 1, 2, 3, 4, 5, 6, 7], [0, 1, 2, 3, 4, 5, 6, 7, 8], [0, 1, 2], [0, 1, 2, 10], [0, 1, 2], [0, 1, 2, 10, 11, 12], [0, 1, 2, 10, 11, 12, 13], [0, 1, 2, 10, 11, 12, 13, 14], [0, 1, 2, 3, 4, 5, 6, 7, 8, 9, 10, 11, 12, 13, 14, 15], [0, 1, 2, 3, 4, 5, 6, 7, 8, 9, 10, 11, 12, 13, 14, 15, 16]] tm rfl rfl rfl rfl ?_
                refine RD.op rfl rfl rfl (eff_move (v := .t _) rfl rfl rfl) ?_
                refine RD.op rfl rfl rfl (eff_iop (r := .bool false) rfl rfl rfl rfl (by exact iop_gtr_f (by omega))) ?_
                refine RD.op rfl rfl rfl (eff_move (v := .t _) rfl rfl rfl) ?_
                refine RD.gskip rfl rfl rfl rfl rfl rfl (by decide) ?_
                refine RD.gskip rfl rfl rfl rfl rfl rfl (by decide) ?_
                refine RD.gskip rfl rfl rfl rfl rfl rfl (by decide) ?_
                refine RD.gskip rfl rfl rfl rfl rfl rfl (by decide) ?_
                refine RD.gskip rfl rfl rfl rfl rfl rfl (by decide) ?_
                refine RD.gskip rfl rfl rfl rfl rfl rfl (by decide) ?_
                refine RD.gskip rfl rfl rfl rfl rfl rfl (by decide) ?_
                refine RD.gskip rfl rfl rfl rfl rfl rfl (by decide) ?_
                refine RD.gskip rfl rfl rfl rfl rfl rfl (by decide) ?_
                refine RD.gskip rfl rfl rfl rfl rfl rfl (by decide) ?_
                refine RD.gskip rfl rfl rfl rfl rfl rfl (by decide) ?_
                refine RD.gskip rfl rfl rfl rfl rfl rfl (by decide) ?_
                refine RD.gskip rfl rfl rfl rfl rfl rfl (by decide) ?_
                refine RD.gskip rfl rfl rfl rfl rfl rfl (by decide) ?_
                refine RD.op rfl rfl rfl (eff_pick (v := .t _) rfl rfl rfl rfl) ?_
                refine RD.nil ?_
                refine awp_cond rfl (fun h => nomatch h) (fun _ => ?_)
                refine awp_exit ?_
                refine awp_seq ?_
                refine awp_rw rfl ?_
                refine RW.op rfl rfl (eff_load rfl rfl ti27 rfl (.whole rfl rfl rfl rfl rfl rfl)) ?_
                refine RW.store rfl rfl (eff_storeW (v := .agg _) (els := [_]) (els' := [_]) rfl rfl ti27 rfl rfl rfl rfl rfl rfl rfl rfl rfl) ?_
                refine RW.op rfl rfl (eff_assign (v := .t _) rfl rfl rfl) ?_
                refine RW.nil ?_
                refine awp_ret ?_
                rw [grant_0 h1 (by omega) hia hfF hcf (by omega) h7, ← bub_end hil (by omega) hk hb (by first | (left; omega) | (right; exact ⟨by omega, by omega⟩))]
                exact ⟨Or.inr rfl, [_, _], ⟨.cell rfl ti27 (.whole rfl rfl rfl rfl rfl rfl) (Res.aggP (xs := [_, _, _, _, _]) ⟨Res.ownT (xs := (setP b.accs ia (sub (b.accs[ia]'hia).p l.h)).map encA) rfl rfl rfl (by simp [setP_length]), Res.ownT (xs := (bub b.ls l k).map encL) rfl rfl rfl (by rw [List.length_map, bub_length _ _ hk]), .t _, .t _, .t _, trivial⟩), .tmp (.t _), trivial⟩, (by repeat' first | exact trivial | exact Wk.refl _ | exact Wk.sl _ | refine And.intro ?_ ?_ | refine Wk.tupP ?_ | refine Wk.aggP ?_)⟩

end Go.Tv.C24

end
section
open Go Go.Tv Go.Proofs
namespace Go.Tv.C24
set_option maxRecDepth 20000
set_option maxHeartbeats 2000000
set_option linter.unusedSimpArgs false
set_option linter.unusedVariables false
theorem madeA_length (l : List Purse) : (madeA l).length = min 6 l.length := by simp [madeA]
theorem madeA_get {l : List Purse} {i : Nat} (h : i < l.length) (h6 : i < 6) : (madeA l)[i]'(by rw [madeA_length]; omega) = ⟨2 * (i : Int), amount l[i] 10000⟩ := by simp [madeA]
theorem madeA_step {l : List Purse} {i : Nat} (h : i < l.length) (h6 : i < 6) : (madeA l).take (i + 1) = (madeA l).take i ++ [⟨2 * (i : Int), amount l[i] 10000⟩] := by
  rw [take_succ_get (by rw [madeA_length]; omega), madeA_get h h6]

theorem made_ret (l : List Purse) (hl : l.length ≤ 9223372036854775807) (hP : ∀ p, p ∈ l → P64 p) : Ret Try.prog 21 [.sl (l.map encP) false] (encB (made l)) := by
  refine ret_of_awp Try.func21 rfl (Nat.le_of_ble_eq_true rfl) ?_
  refine awp_seq ?_
  refine awp_rw rfl ?_
  refine RW.new rfl rfl (eff_allocK (k := 5) (id := 2) rfl rfl tz27 rfl rfl) ?_
  refine RW.nil ?_
  refine awp_seq ?_
  refine awp_rw rfl ?_
  refine RW.new rfl rfl (eff_allocK (k := 5) (id := 3) rfl rfl tz27 rfl rfl) ?_
  refine RW.nil ?_
  show AWP _ _ _ _
  refine awp_weak (weak_open (id := 3) rfl) ?_
  refine awp_weak (weak_adoptC (id0 := 3) (cs := [_, _, _, _, _]) (cs' := [.own 900 0 0 0, _, _, _, _]) 900 4 57 0 rfl rfl rfl rfl) ?_
  refine awp_seq ?_
  refine awp_seq ?_
  refine awp_rw rfl ?_
  refine RW.op rfl rfl (eff_assign (v := .t _) rfl rfl rfl) ?_
  refine RW.nil ?_
  refine awp_block ?_
  refine awp_loopW (fun m s => ∃ (i : Nat) (els : List AV), (i ≤ l.length) ∧ (i ≤ 6) ∧ (els = (((madeA l).take i).map encA).map .t) ∧ m = 7 - i ∧ s = ⟨29, [(0, .t (.sl (l.map encP) false)), (2, .ptr 2 0 0 0), (3, .ptr 3 0 0 0), (4, .t (encI (i : Nat)))], [(2, some ⟨5, 27, 0, [.t z27]⟩), (3, some ⟨5, 27, 0, [.agg [.own 900 i 0 i, .t (.sl [] true), .t (encI 0), .t (encI 0), .t (encI 0)]]⟩), (900, some ⟨4, 57, i, els⟩)]⟩) (_) (⟨_, weak_keep (n := 29) (fr' := [(0, .t (.sl (l.map encP) false)), (2, .ptr 2 0 0 0), (3, .ptr 3 0 0 0), (4, .t (encI (0 : Nat)))]) (st' := [(2, some ⟨5, 27, 0, [.t z27]⟩), (3, some ⟨5, 27, 0, [.agg [.own 900 0 0 0, .t (.sl [] true), .t (encI 0), .t (encI 0), .t (encI 0)]]⟩), (900, some ⟨4, 57, 0, ([])⟩)]) ⟨rfl, rfl, rfl, rfl, rfl, rfl, rfl, rfl, trivial⟩ ⟨rfl, okE_one rfl, rfl, okE_one rfl, rfl, (by first | exact okE_nil | (rw [he]; intro x hx; simp only [List.mem_append, List.mem_map, List.mem_singleton] at hx; rcases hx with ⟨y, _, rfl⟩ | rfl <;> rfl)), trivial⟩, 0, [], (by omega), (by omega), (by rfl), rfl, rfl⟩) ?_
  rintro m s ⟨i, els, hi, hi6, he, rfl, rfl⟩
  have hM := madeA_length l
  refine awp_seq ?_
  refine awp_seq ?_
  refine awp_rw rfl ?_
  refine RW.op rfl rfl (eff_move (v := .t _) rfl rfl rfl) ?_
  refine RW.op rfl rfl (eff_move (v := .t _) rfl rfl rfl) ?_
  refine RW.op rfl rfl (eff_lenM rfl rfl te38 rfl) ?_
  refine RW.op rfl rfl (eff_iop rfl rfl rfl rfl rfl) ?_
  refine RW.op rfl rfl (eff_move (v := .t _) rfl rfl rfl) ?_
  refine RW.split 9 rfl (fun h1 => ?_) (fun h1 => ?_)
  · try simp only [decide_eq_true_eq, decide_eq_false_iff_not, beq_iff_eq, bne_iff_ne, bne_eq_false_iff_eq, beq_eq_false_iff_ne, Bool.not_eq_true, Bool.not_eq_false, Bool.not_eq_true', Bool.not_eq_false', ne_eq] at h1
    refine RW.gop rfl rfl rfl rfl rfl rfl (eff_move (v := .t _) rfl rfl rfl) ?_
    refine RW.gop rfl rfl rfl rfl rfl rfl (eff_iop rfl rfl rfl rfl rfl) ?_
    refine RW.op rfl rfl (eff_pick (v := .t _) rfl rfl rfl rfl) ?_
    refine RW.nil ?_
    refine awp_cond rfl (fun h2 => ?_) (fun h2 => ?_)
    · try simp only [decide_eq_true_eq, decide_eq_false_iff_not, beq_iff_eq, bne_iff_ne, bne_eq_false_iff_eq, beq_eq_false_iff_ne, Bool.not_eq_true, Bool.not_eq_false, Bool.not_eq_true', Bool.not_eq_false', ne_eq] at h2
      refine awp_skip ?_
      refine awp_seq ?_
      refine awp_block ?_
      refine awp_rd [(some 15, []), (some 16, []), (some 17, []), (some 18, []), (some 19, []), (some 20, []), (some 21, []), (some 22, []), (some 23, []), (some 24, []), (some 25, [25]), (some 26, [900]), (some 27, []), (none, [3])] [[], [0], [], [2], [], [], [4, 5], [4, 5, 6], [4, 5, 6, 7], [2, 3, 4, 5, 6, 7, 8], [2, 3, 4, 5, 6, 7, 8, 9], [0, 1, 2, 3, 4, 5, 6, 7, 8, 9, 10], [0, 1, 2, 3, 4, 5, 6, 7, 8, 9, 10, 11], [0, 1, 2, 3, 4, 5, 6, 7, 8, 9, 10, 11, 12]] tm rfl rfl rfl rfl ?_
      refine RD.op rfl rfl rfl (eff_fieldAddr rfl rfl tf27_0 (by decide) rfl rfl rfl (Nat.le_of_ble_eq_true rfl)) ?_
      refine RD.op rfl rfl rfl (eff_load (y := .own _ _ _ _) rfl rfl ti22 rfl (.one rfl rfl rfl rfl)) ?_
      refine RD.op rfl rfl rfl (eff_move (v := .t _) rfl rfl rfl) ?_
      refine RD.op rfl rfl rfl (eff_iop rfl rfl rfl rfl (imul (by omega))) ?_
      refine RD.op rfl rfl rfl (eff_move (v := .t _) rfl rfl rfl) ?_
      refine RD.op rfl rfl rfl (eff_move (v := .t _) rfl rfl rfl) ?_
      refine RD.op rfl rfl rfl (eff_indexM rfl rfl te38 rfl rfl rfl (by first | assumption | exact List.getElem?_eq_getElem (by omega)) rfl (by decide)) ?_
      refine RD.op rfl rfl rfl (eff_loadW rfl rfl ti25 rfl rfl rfl) ?_
      refine RD.op rfl rfl rfl (eff_callT (amount_ret (l[i]'(by omega)) 10000 (hP _ (List.getElem_mem _)) (by omega)) co16 rfl rfl rfl rfl) ?_
      refine RD.op rfl rfl rfl (eff_buildT (ys := [_, _, _, _]) rfl rfl tz57 tg57 rfl) ?_
      refine RD.new rfl rfl rfl (eff_buildSliceL (id := 25) (els := [.t (.agg [_, _, _, _])]) rfl rfl te22 tz57 rfl (by decide) (by decide) rfl rfl rfl rfl) ?_
      refine RD.new rfl rfl rfl (eff_append (id := 900) (ys := [_]) rfl rfl ta22 rfl rfl rfl (by rw [he]; simp; omega) rfl rfl (srcOwn rfl rfl rfl rfl rfl rfl) (by simp) (by simp; omega) (by simp; omega)) ?_
      refine RD.op rfl rfl rfl (eff_fieldAddr rfl rfl tf27_0 (by decide) rfl rfl rfl (Nat.le_of_ble_eq_true rfl)) ?_
      refine RD.store rfl rfl rfl (eff_storeA (v := .own _ _ _ _) (ys := [.own 900 _ 0 _, .t _, .t _, .t _, .t _]) (els := [_]) (els' := [_]) rfl rfl ti22 rfl rfl rfl rfl rfl rfl rfl (Nat.le_of_ble_eq_true rfl) rfl rfl rfl) ?_
      refine RD.nil ?_
      refine awp_rw rfl ?_
      refine RW.op rfl rfl (eff_move (v := .t _) rfl rfl rfl) ?_
      refine RW.op rfl rfl (eff_iop rfl rfl rfl rfl (iadd (by omega))) ?_
      refine RW.op rfl rfl (eff_assign (v := .t _) rfl rfl rfl) ?_
      refine RW.nil ?_
      refine ⟨_, ?_, _, weak_keep (n := 29) (fr' := [(0, .t (.sl (l.map encP) false)), (2, .ptr 2 0 0 0), (3, .ptr 3 0 0 0), (4, .t (encI ((i + 1) : Nat)))]) (st' := [(2, some ⟨5, 27, 0, [.t z27]⟩), (3, some ⟨5, 27, 0, [.agg [.own 900 (i + 1) 0 (i + 1), .t (.sl [] true), .t (encI 0), .t (encI 0), .t (encI 0)]]⟩), (900, some ⟨4, 57, (i + 1), _⟩)]) ⟨rfl, rfl, rfl, rfl, rfl, rfl, rfl, rfl, trivial⟩ ⟨rfl, okE_one rfl, rfl, okE_one rfl, rfl, (by first | exact okE_nil | (rw [he]; intro x hx; simp only [List.mem_append, List.mem_map, List.mem_singleton] at hx; rcases hx with ⟨y, _, rfl⟩ | rfl <;> rfl)), trivial⟩, i + 1, _, (by omega), (by omega), (by rw [he, madeA_step (by omega) (by omega), List.map_append, List.map_append]; rfl), rfl, rfl⟩
      omega
    · try simp only [decide_eq_true_eq, decide_eq_false_iff_not, beq_iff_eq, bne_iff_ne, bne_eq_false_iff_eq, beq_eq_false_iff_ne, Bool.not_eq_true, Bool.not_eq_false, Bool.not_eq_true', Bool.not_eq_false', ne_eq] at h2
      refine awp_exit ?_
      refine awp_seq ?_
      refine awp_rw rfl ?_
      refine RW.op rfl rfl (eff_load rfl rfl ti27 rfl (.whole rfl rfl rfl rfl rfl rfl)) ?_
      refine RW.store rfl rfl (eff_storeW (v := .agg _) (els := [_]) (els' := [_]) rfl rfl ti27 rfl rfl rfl rfl rfl rfl rfl rfl rfl) ?_
      refine RW.nil ?_
      refine awp_ret ?_
      have hi2 : i = (madeA l).length := by omega
      rw [hi2, List.take_length] at he
      subst he
      exact ⟨Or.inr rfl, [_], ⟨.cell rfl ti27 (.whole rfl rfl rfl rfl rfl rfl) (Res.aggP (xs := [_, _, _, _, _]) ⟨Res.ownT (xs := (madeA l).map encA) rfl rfl rfl (by simpa using hi2), .t _, .t _, .t _, .t _, trivial⟩), trivial⟩, (by repeat' first | exact trivial | exact Wk.refl _ | exact Wk.sl _ | refine And.intro ?_ ?_ | refine Wk.tupP ?_ | refine Wk.aggP ?_)⟩
  · try simp only [decide_eq_true_eq, decide_eq_false_iff_not, beq_iff_eq, bne_iff_ne, bne_eq_false_iff_eq, beq_eq_false_iff_ne, Bool.not_eq_true, Bool.not_eq_false, Bool.not_eq_true', Bool.not_eq_false', ne_eq] at h1
    refine RW.gskip rfl rfl rfl rfl rfl (by decide) ?_
    refine RW.gskip rfl rfl rfl rfl rfl (by decide) ?_
    refine RW.op rfl rfl (eff_pick (v := .t _) rfl rfl rfl rfl) ?_
    refine RW.nil ?_
    refine awp_cond rfl (fun h => nomatch h) (fun _ => ?_)
    refine awp_exit ?_
    refine awp_seq ?_
    refine awp_rw rfl ?_
    refine RW.op rfl rfl (eff_load rfl rfl ti27 rfl (.whole rfl rfl rfl rfl rfl rfl)) ?_
    refine RW.store rfl rfl (eff_storeW (v := .agg _) (els := [_]) (els' := [_]) rfl rfl ti27 rfl rfl rfl rfl rfl rfl rfl rfl rfl) ?_
    refine RW.nil ?_
    refine awp_ret ?_
    have hi2 : i = (madeA l).length := by omega
    rw [hi2, List.take_length] at he
    subst he
    exact ⟨Or.inr rfl, [_], ⟨.cell rfl ti27 (.whole rfl rfl rfl rfl rfl rfl) (Res.aggP (xs := [_, _, _, _, _]) ⟨Res.ownT (xs := (madeA l).map encA) rfl rfl rfl (by simpa using hi2), .t _, .t _, .t _, .t _, trivial⟩), trivial⟩, (by repeat' first | exact trivial | exact Wk.refl _ | exact Wk.sl _ | refine And.intro ?_ ?_ | refine Wk.tupP ?_ | refine Wk.aggP ?_)⟩

end Go.Tv.C24

end
section
open Go Go.Tv Go.Proofs
namespace Go.Tv.C24

theorem vb_accs {b : Bank} (h : VB b) {accs : List Acc} (hm : accs.map (·.c) = b.accs.map (·.c)) (hr : ∀ a, a ∈ accs → right a.p) (ht : right (total ⟨accs, b.ls, b.sp⟩)) : VB ⟨accs, b.ls, b.sp⟩ := by
  have hl : accs.length = b.accs.length := by have := congrArg List.length hm; simpa using this
  refine ⟨by rw [hl]; exact h.la, h.ll, by show (accs.map (·.c)).Pairwise (· < ·); rw [hm]; exact h.ia, h.il, ⟨h.rg.1, hr, h.rg.2.2.1, ht⟩, fun l hl => ?_, h.ap⟩
  obtain ⟨a, ha, hc⟩ := h.ow l hl
  have : a.c ∈ accs.map (·.c) := by rw [hm]; exact List.mem_map.2 ⟨a, ha, rfl⟩
  obtain ⟨a', ha', he⟩ := List.mem_map.1 this
  exact ⟨a', ha', by rw [he]; exact hc⟩

theorem transfer_keeps {b : Bank} (h : VB b) (f t : Int) {p : Purse} (hp : right p) : VB (transfer b f t p).1 ∧ ((transfer b f t p).2 = 0 → total (transfer b f t p).1 = total b ∧ (transfer b f t p).1.sp = b.sp) := by
  unfold transfer
  split
  · rename_i i k hi0 hk0
    obtain ⟨hi, hci⟩ := accF_some hi0
    obtain ⟨hk, hck⟩ := accF_some hk0
    split
    · exact ⟨vb_zb, by simp⟩
    · rename_i hcv
      have hcv := Classical.not_not.1 hcv
      rw [getDA hi] at hcv ⊢
      have hk1 : k < (setP b.accs i (sub b.accs[i].p p)).length := by rw [setP_length]; exact hk
      rw [getDA hk1]
      have hri : right b.accs[i].p := h.rg.2.1 _ (List.getElem_mem hi)
      have hr1 : ∀ a, a ∈ setP b.accs i (sub b.accs[i].p p) → right a.p := fun a ha => by
        rcases setP_mem hi ha with ha | rfl
        · exact h.rg.2.1 a ha
        · exact right_sub hri hp hcv
      have e1 := sumA_setP hi (sub b.accs[i].p p) b.sp
      have e2 := sumA_setP hk1 (plus (setP b.accs i (sub b.accs[i].p p))[k].p p) b.sp
      have c1 := sumA_one _ b.sp hr1 h.rg.1 _ (List.getElem_mem hk1)
      have c2 := sumL_mono b.ls (sumA b.accs b.sp) (fun x hx => (h.rg.2.2.1 x hx).2.2.2.2.2.2)
      have hrt : right (sumL b.ls (sumA b.accs b.sp)) := h.rg.2.2.2
      have hs : sumA (setP (setP b.accs i (sub b.accs[i].p p)) k (plus (setP b.accs i (sub b.accs[i].p p))[k].p p)) b.sp = sumA b.accs b.sp := by
        generalize (setP b.accs i (sub b.accs[i].p p))[k].p = y at *
        generalize sumA (setP (setP b.accs i (sub b.accs[i].p p)) k (plus y p)) b.sp = A at *
        generalize sumA (setP b.accs i (sub b.accs[i].p p)) b.sp = B at *
        generalize sumA b.accs b.sp = C at *
        generalize b.accs[i].p = x at *
        have f1 := congrArg Purse.e e1; have f2 := congrArg Purse.b e1; have f3 := congrArg Purse.d e1
        have g1 := congrArg Purse.e e2; have g2 := congrArg Purse.b e2; have g3 := congrArg Purse.d e2
        simp only [plus, sub] at f1 f2 f3 g1 g2 g3
        apply purse_ext <;> omega
      have ht : total ⟨setP (setP b.accs i (sub b.accs[i].p p)) k (plus (setP b.accs i (sub b.accs[i].p p))[k].p p), b.ls, b.sp⟩ = total b := by
        show sumL b.ls (sumA _ b.sp) = sumL b.ls (sumA b.accs b.sp)
        rw [hs]
      have hy := hr1 _ (List.getElem_mem hk1)
      have hry : right (plus (setP b.accs i (sub b.accs[i].p p))[k].p p) := by
        generalize (setP b.accs i (sub b.accs[i].p p))[k].p = y at *
        generalize sumA (setP b.accs i (sub b.accs[i].p p)) b.sp = B at *
        generalize sumL b.ls (sumA b.accs b.sp) = T at *
        generalize sumA b.accs b.sp = C at *
        generalize b.accs[i].p = x at *
        have f1 := congrArg Purse.e e1; have f2 := congrArg Purse.b e1; have f3 := congrArg Purse.d e1
        simp only [plus, sub] at f1 f2 f3
        unfold right num cov plus at *
        simp only
        omega
      refine ⟨vb_accs h (by rw [setP_map _ hk1, setP_map _ hi]) (fun a ha => ?_) (by rw [ht]; exact hrt), fun _ => ⟨ht, rfl⟩⟩
      rcases setP_mem hk1 ha with ha | rfl
      · exact hr1 a ha
      · exact hry
  · exact ⟨vb_zb, by simp⟩

/-! ### Credits -/
def crM (c : Int) (p : Purse) (l : List Acc) : List Acc := l.map fun x => if x.c = c then ⟨x.c, plus x.p p⟩ else x
theorem crM_c (c : Int) (p : Purse) (l : List Acc) : (crM c p l).map (·.c) = l.map (·.c) := by
  unfold crM; rw [List.map_map]; apply List.map_congr_left; intro x _; simp only [Function.comp]; split <;> rfl
theorem credit_map {l : List Acc} (h : incrA l) (c : Int) (p : Purse) : credit l c p = crM c p l := by
  unfold credit crM
  cases ha : accF l c with
  | none =>
    have := accF_none.1 ha
    simp only
    conv => lhs; rw [← List.map_id l]
    apply List.map_congr_left
    intro x hx
    rw [if_neg (this x hx)]; rfl
  | some a =>
    obtain ⟨hi, hc⟩ := accF_some ha
    simp only
    apply List.ext_getElem
    · simp [setP]
    · intro j h1 h2
      have hj : j < l.length := by simpa using h2
      rw [setP_get _ hi, List.getElem_map]
      simp only [getDA hi]
      by_cases e : a = j
      · subst e; rw [if_pos rfl, if_pos hc]
      · rw [if_neg e, if_neg (fun e2 => e (incr_inj (f := fun x : Acc => x.c) h hi hj (by rw [hc, e2])))]
theorem crM_comm (c c' : Int) (p p' : Purse) (l : List Acc) : crM c p (crM c' p' l) = crM c' p' (crM c p l) := by
  unfold crM
  rw [List.map_map, List.map_map]
  apply List.map_congr_left
  intro x _
  obtain ⟨z, q⟩ := x
  simp only [Function.comp]
  by_cases h1 : z = c
  · subst h1
    by_cases h2 : z = c'
    · subst h2; simp [plus_right_comm]
    · simp [h2]
  · by_cases h2 : z = c'
    · subst h2; simp [h1]
    · simp [h1, h2]
def crAll (l : List Lea) (a : List Acc) : List Acc := l.foldl (fun a x => crM x.cu x.h a) a
theorem crAll_perm {l l' : List Lea} (h : l.Perm l') : ∀ a, crAll l a = crAll l' a := by
  induction h with
  | nil => intro a; rfl
  | cons x _ ih => intro a; exact ih _
  | swap x y l => intro a; show crAll l (crM x.cu x.h (crM y.cu y.h a)) = crAll l (crM y.cu y.h (crM x.cu x.h a)); rw [crM_comm]
  | trans _ _ ih1 ih2 => intro a; rw [ih1, ih2]
theorem crAll_append (l l' : List Lea) (a : List Acc) : crAll (l ++ l') a = crAll l' (crAll l a) := by unfold crAll; rw [List.foldl_append]
theorem crAll_c (l : List Lea) : ∀ a, (crAll l a).map (·.c) = a.map (·.c) := by
  induction l with
  | nil => intro a; rfl
  | cons x l ih => intro a; show (crAll l (crM x.cu x.h a)).map (·.c) = _; rw [ih, crM_c]

/-- A lease that is closed in the middle. -/
theorem close_mid {b : Bank} (h : VB b) {u v : List Lea} {x : Lea} (hl : b.ls = u ++ x :: v) : close b x.id = (⟨crM x.cu x.h b.accs, u ++ v, b.sp⟩, 0) := by
  have hi : u.length < b.ls.length := by rw [hl]; simp
  have hx : b.ls[u.length] = x := by simp [hl]
  have hf : leaF b.ls x.id = some u.length := by have := leaF_at h.il hi; rwa [hx] at this
  unfold close
  rw [hf]; simp only
  rw [getDL hi, hx, credit_map h.ia]
  congr 2
  rw [hl]; simp

theorem expT_spec {b : Bank} (h : VB b) (t : Int) : ∀ i, i ≤ b.ls.length → expT b t i = ⟨crAll ((b.ls.take i).filter fun l => decide (l.un ≤ t)) b.accs, ((b.ls.take i).filter fun l => decide (t < l.un)) ++ b.ls.drop i, b.sp⟩
  | 0, _ => by simp [expT, crAll]
  | i + 1, hi => by
    have ih := expT_spec h t i (by omega)
    have hv := expT_vb h t i
    rw [expT_step (by omega)]
    have hd : b.ls.drop i = b.ls[i] :: b.ls.drop (i + 1) := List.drop_eq_getElem_cons (by omega)
    rw [take_succ_get (by omega), List.filter_append, List.filter_append]
    by_cases hc : b.ls[i].un ≤ t
    · rw [stepE_t hc, close_mid hv (u := (b.ls.take i).filter fun l => decide (t < l.un)) (v := b.ls.drop (i + 1)) (x := b.ls[i]) (by rw [ih, hd])]
      rw [ih]
      have h1 : ([b.ls[i]].filter fun l => decide (l.un ≤ t)) = [b.ls[i]] := by simp [hc]
      have h2 : ([b.ls[i]].filter fun l => decide (t < l.un)) = [] := by simp; omega
      rw [h1, h2, List.append_nil, crAll_append]; rfl
    · rw [stepE_f hc, ih]
      have h1 : ([b.ls[i]].filter fun l => decide (l.un ≤ t)) = [] := by simp; omega
      have h2 : ([b.ls[i]].filter fun l => decide (t < l.un)) = [b.ls[i]] := by simp; omega
      rw [h1, h2, List.append_nil, hd]; simp
theorem expire_spec {b : Bank} (h : VB b) (t : Int) : expire b t = ⟨crAll (b.ls.filter fun l => decide (l.un ≤ t)) b.accs, b.ls.filter fun l => decide (t < l.un), b.sp⟩ := by
  rw [expire_T, expT_spec h t _ (Nat.le_refl _), List.take_length]; simp
theorem expT_total {b : Bank} (h : VB b) (t : Int) : ∀ i, i ≤ b.ls.length → total (expT b t i) = total b
  | 0, _ => rfl
  | i + 1, hi => by
    have ih := expT_total h t i (by omega)
    have hv := expT_vb h t i
    rw [expT_step (by omega)]
    by_cases hc : b.ls[i].un ≤ t
    · rw [stepE_t hc]
      have hcm := close_mid hv (u := (b.ls.take i).filter fun l => decide (t < l.un)) (v := b.ls.drop (i + 1)) (x := b.ls[i]) (by rw [expT_spec h t i (by omega), List.drop_eq_getElem_cons (by omega)])
      have := ((close_keeps hv b.ls[i].id).2 (by rw [hcm])).1
      rw [this, ih]
    · rw [stepE_f hc, ih]
theorem expire_keeps {b : Bank} (h : VB b) (t : Int) : VB (expire b t) ∧ total (expire b t) = total b ∧ (expire b t).sp = b.sp := by
  refine ⟨by rw [expire_T]; exact expT_vb h t _, by rw [expire_T]; exact expT_total h t _ (Nat.le_refl _), by rw [expire_spec h]⟩

theorem cov_refl (p : Purse) : cov p p := ⟨Int.le_refl _, Int.le_refl _, Int.le_refl _⟩
theorem cov_trans {x y z : Purse} (h : cov x y) (k : cov y z) : cov x z := by unfold cov at *; omega
theorem amount_right (p : Purse) : right (amount p 2147483647) := amount_near (by omega)
theorem rawB_keeps {b : Bank} (h : VB b) (o : Opn) : VB (rawB b o).1 ∧ ((rawB b o).2 = 0 → total (rawB b o).1 = total b ∧ cov (rawB b o).1.sp b.sp) := by
  unfold rawB
  split
  · obtain ⟨h1, h2⟩ := grant_keeps h o.l
    exact ⟨h1, fun e => ⟨(h2 e).1, by rw [(h2 e).2]; exact cov_refl _⟩⟩
  · split
    · exact charge_keeps h _ _ (amount_right _)
    · split
      · obtain ⟨h1, h2⟩ := close_keeps h o.id
        exact ⟨h1, fun e => ⟨(h2 e).1, by rw [(h2 e).2]; exact cov_refl _⟩⟩
      · split
        · obtain ⟨h1, h2, h3⟩ := expire_keeps h o.tick
          exact ⟨h1, fun _ => ⟨h2, by rw [h3]; exact cov_refl _⟩⟩
        · obtain ⟨h1, h2⟩ := transfer_keeps h o.fr o.to (amount_right o.p)
          exact ⟨h1, fun e => ⟨(h2 e).1, by rw [(h2 e).2]; exact cov_refl _⟩⟩
theorem doB_keeps {b : Bank} (h : VB b) (o : Opn) : VB (doB b o).1 ∧ total (doB b o).1 = total b ∧ cov (doB b o).1.sp b.sp := by
  obtain ⟨h1, h2⟩ := rawB_keeps h o
  unfold doB
  split
  · rename_i e; exact ⟨h1, (h2 e).1, (h2 e).2⟩
  · exact ⟨h, rfl, cov_refl _⟩

def runB (b : Bank) (l : List Opn) : Bank := l.foldl (fun b o => (doB b o).1) b
theorem runB_step {b : Bank} {l : List Opn} {i : Nat} (h : i < l.length) : runB b (l.take (i + 1)) = (doB (runB b (l.take i)) l[i]).1 := by
  unfold runB; rw [take_succ_get h, List.foldl_append]; rfl
theorem runB_vb : ∀ (l : List Opn) {b : Bank}, VB b → VB (runB b l)
  | [], _, h => h
  | o :: l, _, h => runB_vb l (doB_keeps h o).1

theorem made_vb (l : List Purse) : VB (made l) := by
  have hlen : (madeA l).length ≤ 6 := by simp [madeA]; omega
  have hget : ∀ i (h : i < (madeA l).length), ∃ p, (madeA l)[i] = ⟨2 * (i : Int), amount p 10000⟩ := fun i h => by
    refine ⟨(l.take 6)[i]'(by simpa [madeA] using h), ?_⟩
    simp [madeA]
  have hr : ∀ a, a ∈ madeA l → near 10000 a.p := fun a ha => by
    obtain ⟨i, hi, rfl⟩ := List.mem_iff_getElem.1 ha
    obtain ⟨p, e⟩ := hget i hi
    rw [e]; exact amount_near (by omega)
  refine ⟨by show (madeA l).length ≤ 20; omega, by simp [made], ?_, List.Pairwise.nil, ⟨by show right zp; decide, fun a ha => near_mono (hr a ha) (by omega), by simp [made], ?_⟩, by intro l h; simp [made] at h, List.Pairwise.nil⟩
  · show ((madeA l).map (·.c)).Pairwise (· < ·)
    rw [List.pairwise_iff_getElem]
    intro i j hi hj hij
    rw [List.getElem_map, List.getElem_map]
    obtain ⟨p, e⟩ := hget i (by simpa using hi)
    obtain ⟨q, e2⟩ := hget j (by simpa using hj)
    rw [e, e2]; simp only; omega
  · show right (sumL [] (sumA (madeA l) zp))
    have := sumA_near (M := 10000) (by omega) (madeA l) (n := 0) (s := zp) (by unfold near; simp) hr
    have h4 : (10000 : Int) * ((madeA l).length : Int) ≤ 10000 * 6 := Int.mul_le_mul_of_nonneg_left (by omega) (by omega)
    exact near_mono this (by omega)

end Go.Tv.C24

end
section
open Go Go.Tv Go.Proofs
namespace Go.Tv.C24
set_option maxRecDepth 20000
set_option maxHeartbeats 2000000
set_option linter.unusedSimpArgs false
set_option linter.unusedVariables false
theorem raw0 {b : Bank} {o : Opn} (h : o.kind = 0) : rawB b o = grant b o.l := if_pos h
theorem raw1 {b : Bank} {o : Opn} (h : o.kind = 1) : rawB b o = charge b o.id o.tick (amount o.p 2147483647) := by unfold rawB; rw [if_neg (by omega), if_pos h]
theorem raw2 {b : Bank} {o : Opn} (h : o.kind = 2) : rawB b o = close b o.id := by unfold rawB; rw [if_neg (by omega), if_neg (by omega), if_pos h]
theorem raw3 {b : Bank} {o : Opn} (h : o.kind = 3) : rawB b o = (expire b o.tick, 0) := by unfold rawB; rw [if_neg (by omega), if_neg (by omega), if_neg (by omega), if_pos h]
theorem raw4 {b : Bank} {o : Opn} (h : ¬ o.kind = 0) (h1 : ¬ o.kind = 1) (h2 : ¬ o.kind = 2) (h3 : ¬ o.kind = 3) : rawB b o = transfer b o.fr o.to (amount o.p 2147483647) := by
  unfold rawB; rw [if_neg h, if_neg h1, if_neg h2, if_neg h3]
theorem do_ok {b : Bank} {o : Opn} {r : Bank × Int} (h : rawB b o = r) (e : r.2 = 0) : doB b o = r := by unfold doB; rw [h, if_pos e]
theorem do_err {b : Bank} {o : Opn} {r : Bank × Int} (h : rawB b o = r) (e : ¬ r.2 = 0) : doB b o = (b, r.2) := by unfold doB; rw [h, if_neg e]

theorem do_ret (b : Bank) (o : Opn) (hV : VB b) (ho : P64 o.p) : Ret Try.prog 22 [encB b, encO o] (.tup [encB (doB b o).1, encI (doB b o).2]) := by
  refine ret_of_awp Try.func22 rfl (Nat.le_of_ble_eq_true rfl) ?_
  refine awp_seq ?_
  refine awp_rw rfl ?_
  refine RW.new rfl rfl (eff_boxK (v := .t _) (k := 5) (id := 2) rfl rfl rfl rfl rfl rfl) ?_
  refine RW.new rfl rfl (eff_boxK (v := .t _) (k := 16) (id := 3) rfl rfl rfl rfl rfl rfl) ?_
  refine RW.new rfl rfl (eff_allocK (k := 5) (id := 4) rfl rfl tz27 rfl rfl) ?_
  refine RW.op rfl rfl (eff_assign (v := .t _) rfl rfl rfl) ?_
  refine RW.nil ?_
  refine awp_seq ?_
  refine awp_rw rfl ?_
  refine RW.op rfl rfl (eff_fieldAddr rfl rfl tf46_5 (by decide) rfl rfl rfl (Nat.le_of_ble_eq_true rfl)) ?_
  refine RW.op rfl rfl (eff_loadS (ys := [_, _, _]) rfl rfl ti25 rfl rfl rfl rfl rfl rfl) ?_
  refine RW.op rfl rfl (eff_callT (amount_ret o.p 2147483647 ho (by omega)) co16 rfl rfl rfl rfl) ?_
  refine RW.new rfl rfl (eff_allocK (k := 3) (id := 6) rfl rfl tz25 rfl rfl) ?_
  refine RW.store rfl rfl (eff_storeW (v := .t _) (els := [_]) (els' := [_]) rfl rfl ti25 rfl rfl rfl rfl rfl rfl rfl rfl rfl) ?_
  refine RW.nil ?_
  refine awp_seq ?_
  refine awp_rw rfl ?_
  refine RW.new rfl rfl (eff_allocK (k := 5) (id := 7) rfl rfl tz27 rfl rfl) ?_
  refine RW.nil ?_
  refine awp_seq ?_
  refine awp_rw rfl ?_
  refine RW.op rfl rfl (eff_assign (v := .t _) rfl rfl rfl) ?_
  refine RW.nil ?_
  refine awp_seq ?_
  refine awp_seq ?_
  refine awp_rw rfl ?_
  refine RW.op rfl rfl (eff_fieldAddr rfl rfl tf46_0 (by decide) rfl rfl rfl (Nat.le_of_ble_eq_true rfl)) ?_
  refine RW.op rfl rfl (eff_load (y := .t _) rfl rfl ti3 rfl (.one rfl rfl rfl rfl)) ?_
  refine RW.nil ?_
  refine awp_block ?_
  refine awp_seq ?_
  refine awp_rw rfl ?_
  refine RW.op rfl rfl (eff_iop rfl rfl rfl rfl rfl) ?_
  refine RW.op rfl rfl (eff_assign (v := .t _) rfl rfl rfl) ?_
  refine RW.nil ?_
  refine awp_cond rfl (fun h1 => ?_) (fun h1 => ?_)
  · try simp only [decide_eq_true_eq, decide_eq_false_iff_not, beq_iff_eq, bne_iff_ne, bne_eq_false_iff_eq, beq_eq_false_iff_ne, Bool.not_eq_true, Bool.not_eq_false, Bool.not_eq_true', Bool.not_eq_false', ne_eq] at h1
    refine awp_rw rfl ?_
    refine RW.op rfl rfl (eff_load rfl rfl ti27 rfl (.whole rfl rfl rfl rfl rfl rfl)) ?_
    refine RW.op rfl rfl (eff_fieldAddr rfl rfl tf46_6 (by decide) rfl rfl rfl (Nat.le_of_ble_eq_true rfl)) ?_
    refine RW.op rfl rfl (eff_loadS (ys := [_, _, _, _, _, _, _, _]) rfl rfl ti44 rfl rfl rfl rfl rfl rfl) ?_
    refine RW.op rfl rfl (eff_callT (grant_ret b o.l hV.bok hV.nb hV.il) co26 rfl rfl rfl rfl) ?_
    refine RW.op rfl rfl (eff_move (v := .t _) rfl rfl rfl) ?_
    refine RW.op rfl rfl (eff_extract rfl rfl rfl rfl) ?_
    refine RW.op rfl rfl (eff_extract rfl rfl rfl rfl) ?_
    refine RW.store rfl rfl (eff_storeW (v := .t _) (els := [_]) (els' := [_]) rfl rfl ti27 rfl rfl rfl rfl rfl rfl rfl rfl rfl) ?_
    refine RW.op rfl rfl (eff_assign (v := .t _) rfl rfl rfl) ?_
    refine RW.nil ?_
    refine awp_seq ?_
    refine awp_seq ?_
    refine awp_rw rfl ?_
    refine RW.op rfl rfl (eff_move (v := .t _) rfl rfl rfl) ?_
    refine RW.op rfl rfl (eff_iop rfl rfl rfl rfl rfl) ?_
    refine RW.nil ?_
    refine awp_cond rfl (fun h2 => ?_) (fun h2 => ?_)
    · try simp only [decide_eq_true_eq, decide_eq_false_iff_not, beq_iff_eq, bne_iff_ne, bne_eq_false_iff_eq, beq_eq_false_iff_ne, Bool.not_eq_true, Bool.not_eq_false, Bool.not_eq_true', Bool.not_eq_false', ne_eq] at h2
      refine awp_seq ?_
      refine awp_rw rfl ?_
      refine RW.op rfl rfl (eff_load rfl rfl ti27 rfl (.whole rfl rfl rfl rfl rfl rfl)) ?_
      refine RW.op rfl rfl (eff_move (v := .t _) rfl rfl rfl) ?_
      refine RW.store rfl rfl (eff_storeW (v := .t _) (els := [_]) (els' := [_]) rfl rfl ti27 rfl rfl rfl rfl rfl rfl rfl rfl rfl) ?_
      refine RW.op rfl rfl (eff_assign (v := .t _) rfl rfl rfl) ?_
      refine RW.nil ?_
      refine awp_ret ?_
      first
        | (exfalso; omega)
        | exact absurd trivial (by assumption : ¬ True)
        | rw [do_ok (raw0 (by assumption)) (by assumption)]
        | rw [do_err (raw0 (by assumption)) (by assumption)]
        | rw [do_ok (raw1 (by assumption)) (by assumption)]
        | rw [do_err (raw1 (by assumption)) (by assumption)]
        | rw [do_ok (raw2 (by assumption)) (by assumption)]
        | rw [do_err (raw2 (by assumption)) (by assumption)]
        | rw [do_ok (raw3 (by assumption)) rfl]
        | rw [do_ok (raw4 (by assumption) (by assumption) (by assumption) (by assumption)) (by assumption)]
        | rw [do_err (raw4 (by assumption) (by assumption) (by assumption) (by assumption)) (by assumption)]
      all_goals exact ⟨Or.inr rfl, [_, _], ⟨.cell rfl ti27 (.whole rfl rfl rfl rfl rfl rfl) (.t _), .tmp (.t _), trivial⟩, .refl _⟩
    · try simp only [decide_eq_true_eq, decide_eq_false_iff_not, beq_iff_eq, bne_iff_ne, bne_eq_false_iff_eq, beq_eq_false_iff_ne, Bool.not_eq_true, Bool.not_eq_false, Bool.not_eq_true', Bool.not_eq_false', ne_eq] at h2
      refine awp_skip ?_
      refine awp_seq ?_
      refine awp_rw rfl ?_
      refine RW.op rfl rfl (eff_load rfl rfl ti27 rfl (.whole rfl rfl rfl rfl rfl rfl)) ?_
      refine RW.op rfl rfl (eff_move (v := .t _) rfl rfl rfl) ?_
      refine RW.store rfl rfl (eff_storeW (v := .t _) (els := [_]) (els' := [_]) rfl rfl ti27 rfl rfl rfl rfl rfl rfl rfl rfl rfl) ?_
      refine RW.op rfl rfl (eff_assign (v := .t _) rfl rfl rfl) ?_
      refine RW.nil ?_
      refine awp_ret ?_
      first
        | (exfalso; omega)
        | exact absurd trivial (by assumption : ¬ True)
        | rw [do_ok (raw0 (by assumption)) (by assumption)]
        | rw [do_err (raw0 (by assumption)) (by assumption)]
        | rw [do_ok (raw1 (by assumption)) (by assumption)]
        | rw [do_err (raw1 (by assumption)) (by assumption)]
        | rw [do_ok (raw2 (by assumption)) (by assumption)]
        | rw [do_err (raw2 (by assumption)) (by assumption)]
        | rw [do_ok (raw3 (by assumption)) rfl]
        | rw [do_ok (raw4 (by assumption) (by assumption) (by assumption) (by assumption)) (by assumption)]
        | rw [do_err (raw4 (by assumption) (by assumption) (by assumption) (by assumption)) (by assumption)]
      all_goals exact ⟨Or.inr rfl, [_, _], ⟨.cell rfl ti27 (.whole rfl rfl rfl rfl rfl rfl) (.t _), .tmp (.t _), trivial⟩, .refl _⟩
  · try simp only [decide_eq_true_eq, decide_eq_false_iff_not, beq_iff_eq, bne_iff_ne, bne_eq_false_iff_eq, beq_eq_false_iff_ne, Bool.not_eq_true, Bool.not_eq_false, Bool.not_eq_true', Bool.not_eq_false', ne_eq] at h1
    refine awp_seq ?_
    refine awp_rw rfl ?_
    refine RW.op rfl rfl (eff_iop rfl rfl rfl rfl rfl) ?_
    refine RW.op rfl rfl (eff_assign (v := .t _) rfl rfl rfl) ?_
    refine RW.nil ?_
    refine awp_cond rfl (fun h3 => ?_) (fun h3 => ?_)
    · try simp only [decide_eq_true_eq, decide_eq_false_iff_not, beq_iff_eq, bne_iff_ne, bne_eq_false_iff_eq, beq_eq_false_iff_ne, Bool.not_eq_true, Bool.not_eq_false, Bool.not_eq_true', Bool.not_eq_false', ne_eq] at h3
      refine awp_rw rfl ?_
      refine RW.op rfl rfl (eff_load rfl rfl ti27 rfl (.whole rfl rfl rfl rfl rfl rfl)) ?_
      refine RW.op rfl rfl (eff_fieldAddr rfl rfl tf46_1 (by decide) rfl rfl rfl (Nat.le_of_ble_eq_true rfl)) ?_
      refine RW.op rfl rfl (eff_load (y := .t _) rfl rfl ti3 rfl (.one rfl rfl rfl rfl)) ?_
      refine RW.op rfl rfl (eff_fieldAddr rfl rfl tf46_2 (by decide) rfl rfl rfl (Nat.le_of_ble_eq_true rfl)) ?_
      refine RW.op rfl rfl (eff_load (y := .t _) rfl rfl ti3 rfl (.one rfl rfl rfl rfl)) ?_
      refine RW.op rfl rfl (eff_load rfl rfl ti25 rfl (.whole rfl rfl rfl rfl rfl rfl)) ?_
      refine RW.op rfl rfl (eff_callT (charge_ret b o.id o.tick (amount o.p 2147483647) hV.bok hV.nb (near_mono (amount_near (by omega)) (by omega))) co28 rfl rfl rfl rfl) ?_
      refine RW.op rfl rfl (eff_move (v := .t _) rfl rfl rfl) ?_
      refine RW.op rfl rfl (eff_extract rfl rfl rfl rfl) ?_
      refine RW.op rfl rfl (eff_extract rfl rfl rfl rfl) ?_
      refine RW.store rfl rfl (eff_storeW (v := .t _) (els := [_]) (els' := [_]) rfl rfl ti27 rfl rfl rfl rfl rfl rfl rfl rfl rfl) ?_
      refine RW.op rfl rfl (eff_assign (v := .t _) rfl rfl rfl) ?_
      refine RW.nil ?_
      refine awp_seq ?_
      refine awp_seq ?_
      refine awp_rw rfl ?_
      refine RW.op rfl rfl (eff_move (v := .t _) rfl rfl rfl) ?_
      refine RW.op rfl rfl (eff_iop rfl rfl rfl rfl rfl) ?_
      refine RW.nil ?_
      refine awp_cond rfl (fun h4 => ?_) (fun h4 => ?_)
      · try simp only [decide_eq_true_eq, decide_eq_false_iff_not, beq_iff_eq, bne_iff_ne, bne_eq_false_iff_eq, beq_eq_false_iff_ne, Bool.not_eq_true, Bool.not_eq_false, Bool.not_eq_true', Bool.not_eq_false', ne_eq] at h4
        refine awp_seq ?_
        refine awp_rw rfl ?_
        refine RW.op rfl rfl (eff_load rfl rfl ti27 rfl (.whole rfl rfl rfl rfl rfl rfl)) ?_
        refine RW.op rfl rfl (eff_move (v := .t _) rfl rfl rfl) ?_
        refine RW.store rfl rfl (eff_storeW (v := .t _) (els := [_]) (els' := [_]) rfl rfl ti27 rfl rfl rfl rfl rfl rfl rfl rfl rfl) ?_
        refine RW.op rfl rfl (eff_assign (v := .t _) rfl rfl rfl) ?_
        refine RW.nil ?_
        refine awp_ret ?_
        first
          | (exfalso; omega)
          | exact absurd trivial (by assumption : ¬ True)
          | rw [do_ok (raw0 (by assumption)) (by assumption)]
          | rw [do_err (raw0 (by assumption)) (by assumption)]
          | rw [do_ok (raw1 (by assumption)) (by assumption)]
          | rw [do_err (raw1 (by assumption)) (by assumption)]
          | rw [do_ok (raw2 (by assumption)) (by assumption)]
          | rw [do_err (raw2 (by assumption)) (by assumption)]
          | rw [do_ok (raw3 (by assumption)) rfl]
          | rw [do_ok (raw4 (by assumption) (by assumption) (by assumption) (by assumption)) (by assumption)]
          | rw [do_err (raw4 (by assumption) (by assumption) (by assumption) (by assumption)) (by assumption)]
        all_goals exact ⟨Or.inr rfl, [_, _], ⟨.cell rfl ti27 (.whole rfl rfl rfl rfl rfl rfl) (.t _), .tmp (.t _), trivial⟩, .refl _⟩
      · try simp only [decide_eq_true_eq, decide_eq_false_iff_not, beq_iff_eq, bne_iff_ne, bne_eq_false_iff_eq, beq_eq_false_iff_ne, Bool.not_eq_true, Bool.not_eq_false, Bool.not_eq_true', Bool.not_eq_false', ne_eq] at h4
        refine awp_skip ?_
        refine awp_seq ?_
        refine awp_rw rfl ?_
        refine RW.op rfl rfl (eff_load rfl rfl ti27 rfl (.whole rfl rfl rfl rfl rfl rfl)) ?_
        refine RW.op rfl rfl (eff_move (v := .t _) rfl rfl rfl) ?_
        refine RW.store rfl rfl (eff_storeW (v := .t _) (els := [_]) (els' := [_]) rfl rfl ti27 rfl rfl rfl rfl rfl rfl rfl rfl rfl) ?_
        refine RW.op rfl rfl (eff_assign (v := .t _) rfl rfl rfl) ?_
        refine RW.nil ?_
        refine awp_ret ?_
        first
          | (exfalso; omega)
          | exact absurd trivial (by assumption : ¬ True)
          | rw [do_ok (raw0 (by assumption)) (by assumption)]
          | rw [do_err (raw0 (by assumption)) (by assumption)]
          | rw [do_ok (raw1 (by assumption)) (by assumption)]
          | rw [do_err (raw1 (by assumption)) (by assumption)]
          | rw [do_ok (raw2 (by assumption)) (by assumption)]
          | rw [do_err (raw2 (by assumption)) (by assumption)]
          | rw [do_ok (raw3 (by assumption)) rfl]
          | rw [do_ok (raw4 (by assumption) (by assumption) (by assumption) (by assumption)) (by assumption)]
          | rw [do_err (raw4 (by assumption) (by assumption) (by assumption) (by assumption)) (by assumption)]
        all_goals exact ⟨Or.inr rfl, [_, _], ⟨.cell rfl ti27 (.whole rfl rfl rfl rfl rfl rfl) (.t _), .tmp (.t _), trivial⟩, .refl _⟩
    · try simp only [decide_eq_true_eq, decide_eq_false_iff_not, beq_iff_eq, bne_iff_ne, bne_eq_false_iff_eq, beq_eq_false_iff_ne, Bool.not_eq_true, Bool.not_eq_false, Bool.not_eq_true', Bool.not_eq_false', ne_eq] at h3
      refine awp_seq ?_
      refine awp_rw rfl ?_
      refine RW.op rfl rfl (eff_iop rfl rfl rfl rfl rfl) ?_
      refine RW.op rfl rfl (eff_assign (v := .t _) rfl rfl rfl) ?_
      refine RW.nil ?_
      refine awp_cond rfl (fun h5 => ?_) (fun h5 => ?_)
      · try simp only [decide_eq_true_eq, decide_eq_false_iff_not, beq_iff_eq, bne_iff_ne, bne_eq_false_iff_eq, beq_eq_false_iff_ne, Bool.not_eq_true, Bool.not_eq_false, Bool.not_eq_true', Bool.not_eq_false', ne_eq] at h5
        refine awp_rw rfl ?_
        refine RW.op rfl rfl (eff_load rfl rfl ti27 rfl (.whole rfl rfl rfl rfl rfl rfl)) ?_
        refine RW.op rfl rfl (eff_fieldAddr rfl rfl tf46_1 (by decide) rfl rfl rfl (Nat.le_of_ble_eq_true rfl)) ?_
        refine RW.op rfl rfl (eff_load (y := .t _) rfl rfl ti3 rfl (.one rfl rfl rfl rfl)) ?_
        refine RW.op rfl rfl (eff_callT (close_ret b o.id hV.bok hV.nb hV.ow) co27 rfl rfl rfl rfl) ?_
        refine RW.op rfl rfl (eff_move (v := .t _) rfl rfl rfl) ?_
        refine RW.op rfl rfl (eff_extract rfl rfl rfl rfl) ?_
        refine RW.op rfl rfl (eff_extract rfl rfl rfl rfl) ?_
        refine RW.store rfl rfl (eff_storeW (v := .t _) (els := [_]) (els' := [_]) rfl rfl ti27 rfl rfl rfl rfl rfl rfl rfl rfl rfl) ?_
        refine RW.op rfl rfl (eff_assign (v := .t _) rfl rfl rfl) ?_
        refine RW.nil ?_
        refine awp_seq ?_
        refine awp_seq ?_
        refine awp_rw rfl ?_
        refine RW.op rfl rfl (eff_move (v := .t _) rfl rfl rfl) ?_
        refine RW.op rfl rfl (eff_iop rfl rfl rfl rfl rfl) ?_
        refine RW.nil ?_
        refine awp_cond rfl (fun h6 => ?_) (fun h6 => ?_)
        · try simp only [decide_eq_true_eq, decide_eq_false_iff_not, beq_iff_eq, bne_iff_ne, bne_eq_false_iff_eq, beq_eq_false_iff_ne, Bool.not_eq_true, Bool.not_eq_false, Bool.not_eq_true', Bool.not_eq_false', ne_eq] at h6
          refine awp_seq ?_
          refine awp_rw rfl ?_
          refine RW.op rfl rfl (eff_load rfl rfl ti27 rfl (.whole rfl rfl rfl rfl rfl rfl)) ?_
          refine RW.op rfl rfl (eff_move (v := .t _) rfl rfl rfl) ?_
          refine RW.store rfl rfl (eff_storeW (v := .t _) (els := [_]) (els' := [_]) rfl rfl ti27 rfl rfl rfl rfl rfl rfl rfl rfl rfl) ?_
          refine RW.op rfl rfl (eff_assign (v := .t _) rfl rfl rfl) ?_
          refine RW.nil ?_
          refine awp_ret ?_
          first
            | (exfalso; omega)
            | exact absurd trivial (by assumption : ¬ True)
            | rw [do_ok (raw0 (by assumption)) (by assumption)]
            | rw [do_err (raw0 (by assumption)) (by assumption)]
            | rw [do_ok (raw1 (by assumption)) (by assumption)]
            | rw [do_err (raw1 (by assumption)) (by assumption)]
            | rw [do_ok (raw2 (by assumption)) (by assumption)]
            | rw [do_err (raw2 (by assumption)) (by assumption)]
            | rw [do_ok (raw3 (by assumption)) rfl]
            | rw [do_ok (raw4 (by assumption) (by assumption) (by assumption) (by assumption)) (by assumption)]
            | rw [do_err (raw4 (by assumption) (by assumption) (by assumption) (by assumption)) (by assumption)]
          all_goals exact ⟨Or.inr rfl, [_, _], ⟨.cell rfl ti27 (.whole rfl rfl rfl rfl rfl rfl) (.t _), .tmp (.t _), trivial⟩, .refl _⟩
        · try simp only [decide_eq_true_eq, decide_eq_false_iff_not, beq_iff_eq, bne_iff_ne, bne_eq_false_iff_eq, beq_eq_false_iff_ne, Bool.not_eq_true, Bool.not_eq_false, Bool.not_eq_true', Bool.not_eq_false', ne_eq] at h6
          refine awp_skip ?_
          refine awp_seq ?_
          refine awp_rw rfl ?_
          refine RW.op rfl rfl (eff_load rfl rfl ti27 rfl (.whole rfl rfl rfl rfl rfl rfl)) ?_
          refine RW.op rfl rfl (eff_move (v := .t _) rfl rfl rfl) ?_
          refine RW.store rfl rfl (eff_storeW (v := .t _) (els := [_]) (els' := [_]) rfl rfl ti27 rfl rfl rfl rfl rfl rfl rfl rfl rfl) ?_
          refine RW.op rfl rfl (eff_assign (v := .t _) rfl rfl rfl) ?_
          refine RW.nil ?_
          refine awp_ret ?_
          first
            | (exfalso; omega)
            | exact absurd trivial (by assumption : ¬ True)
            | rw [do_ok (raw0 (by assumption)) (by assumption)]
            | rw [do_err (raw0 (by assumption)) (by assumption)]
            | rw [do_ok (raw1 (by assumption)) (by assumption)]
            | rw [do_err (raw1 (by assumption)) (by assumption)]
            | rw [do_ok (raw2 (by assumption)) (by assumption)]
            | rw [do_err (raw2 (by assumption)) (by assumption)]
            | rw [do_ok (raw3 (by assumption)) rfl]
            | rw [do_ok (raw4 (by assumption) (by assumption) (by assumption) (by assumption)) (by assumption)]
            | rw [do_err (raw4 (by assumption) (by assumption) (by assumption) (by assumption)) (by assumption)]
          all_goals exact ⟨Or.inr rfl, [_, _], ⟨.cell rfl ti27 (.whole rfl rfl rfl rfl rfl rfl) (.t _), .tmp (.t _), trivial⟩, .refl _⟩
      · try simp only [decide_eq_true_eq, decide_eq_false_iff_not, beq_iff_eq, bne_iff_ne, bne_eq_false_iff_eq, beq_eq_false_iff_ne, Bool.not_eq_true, Bool.not_eq_false, Bool.not_eq_true', Bool.not_eq_false', ne_eq] at h5
        refine awp_seq ?_
        refine awp_rw rfl ?_
        refine RW.op rfl rfl (eff_iop rfl rfl rfl rfl rfl) ?_
        refine RW.op rfl rfl (eff_assign (v := .t _) rfl rfl rfl) ?_
        refine RW.nil ?_
        refine awp_cond rfl (fun h7 => ?_) (fun h7 => ?_)
        · try simp only [decide_eq_true_eq, decide_eq_false_iff_not, beq_iff_eq, bne_iff_ne, bne_eq_false_iff_eq, beq_eq_false_iff_ne, Bool.not_eq_true, Bool.not_eq_false, Bool.not_eq_true', Bool.not_eq_false', ne_eq] at h7
          refine awp_rw rfl ?_
          refine RW.op rfl rfl (eff_load rfl rfl ti27 rfl (.whole rfl rfl rfl rfl rfl rfl)) ?_
          refine RW.op rfl rfl (eff_fieldAddr rfl rfl tf46_2 (by decide) rfl rfl rfl (Nat.le_of_ble_eq_true rfl)) ?_
          refine RW.op rfl rfl (eff_load (y := .t _) rfl rfl ti3 rfl (.one rfl rfl rfl rfl)) ?_
          refine RW.op rfl rfl (eff_callT (expire_ret b o.tick hV) co29 rfl rfl rfl rfl) ?_
          refine RW.store rfl rfl (eff_storeW (v := .t _) (els := [_]) (els' := [_]) rfl rfl ti27 rfl rfl rfl rfl rfl rfl rfl rfl rfl) ?_
          refine RW.nil ?_
          refine awp_seq ?_
          refine awp_seq ?_
          refine awp_rw rfl ?_
          refine RW.op rfl rfl (eff_move (v := .t _) rfl rfl rfl) ?_
          refine RW.op rfl rfl (eff_iop rfl rfl rfl rfl rfl) ?_
          refine RW.nil ?_
          refine awp_cond rfl (fun h8 => ?_) (fun h8 => ?_)
          · try simp only [decide_eq_true_eq, decide_eq_false_iff_not, beq_iff_eq, bne_iff_ne, bne_eq_false_iff_eq, beq_eq_false_iff_ne, Bool.not_eq_true, Bool.not_eq_false, Bool.not_eq_true', Bool.not_eq_false', ne_eq] at h8
            refine awp_seq ?_
            refine awp_rw rfl ?_
            refine RW.op rfl rfl (eff_load rfl rfl ti27 rfl (.whole rfl rfl rfl rfl rfl rfl)) ?_
            refine RW.op rfl rfl (eff_move (v := .t _) rfl rfl rfl) ?_
            refine RW.store rfl rfl (eff_storeW (v := .t _) (els := [_]) (els' := [_]) rfl rfl ti27 rfl rfl rfl rfl rfl rfl rfl rfl rfl) ?_
            refine RW.op rfl rfl (eff_assign (v := .t _) rfl rfl rfl) ?_
            refine RW.nil ?_
            refine awp_ret ?_
            first
              | (exfalso; omega)
              | exact absurd trivial (by assumption : ¬ True)
              | rw [do_ok (raw0 (by assumption)) (by assumption)]
              | rw [do_err (raw0 (by assumption)) (by assumption)]
              | rw [do_ok (raw1 (by assumption)) (by assumption)]
              | rw [do_err (raw1 (by assumption)) (by assumption)]
              | rw [do_ok (raw2 (by assumption)) (by assumption)]
              | rw [do_err (raw2 (by assumption)) (by assumption)]
              | rw [do_ok (raw3 (by assumption)) rfl]
              | rw [do_ok (raw4 (by assumption) (by assumption) (by assumption) (by assumption)) (by assumption)]
              | rw [do_err (raw4 (by assumption) (by assumption) (by assumption) (by assumption)) (by assumption)]
            all_goals exact ⟨Or.inr rfl, [_, _], ⟨.cell rfl ti27 (.whole rfl rfl rfl rfl rfl rfl) (.t _), .tmp (.t _), trivial⟩, .refl _⟩
          · try simp only [decide_eq_true_eq, decide_eq_false_iff_not, beq_iff_eq, bne_iff_ne, bne_eq_false_iff_eq, beq_eq_false_iff_ne, Bool.not_eq_true, Bool.not_eq_false, Bool.not_eq_true', Bool.not_eq_false', ne_eq] at h8
            refine awp_skip ?_
            refine awp_seq ?_
            refine awp_rw rfl ?_
            refine RW.op rfl rfl (eff_load rfl rfl ti27 rfl (.whole rfl rfl rfl rfl rfl rfl)) ?_
            refine RW.op rfl rfl (eff_move (v := .t _) rfl rfl rfl) ?_
            refine RW.store rfl rfl (eff_storeW (v := .t _) (els := [_]) (els' := [_]) rfl rfl ti27 rfl rfl rfl rfl rfl rfl rfl rfl rfl) ?_
            refine RW.op rfl rfl (eff_assign (v := .t _) rfl rfl rfl) ?_
            refine RW.nil ?_
            refine awp_ret ?_
            first
              | (exfalso; omega)
              | exact absurd trivial (by assumption : ¬ True)
              | rw [do_ok (raw0 (by assumption)) (by assumption)]
              | rw [do_err (raw0 (by assumption)) (by assumption)]
              | rw [do_ok (raw1 (by assumption)) (by assumption)]
              | rw [do_err (raw1 (by assumption)) (by assumption)]
              | rw [do_ok (raw2 (by assumption)) (by assumption)]
              | rw [do_err (raw2 (by assumption)) (by assumption)]
              | rw [do_ok (raw3 (by assumption)) rfl]
              | rw [do_ok (raw4 (by assumption) (by assumption) (by assumption) (by assumption)) (by assumption)]
              | rw [do_err (raw4 (by assumption) (by assumption) (by assumption) (by assumption)) (by assumption)]
            all_goals exact ⟨Or.inr rfl, [_, _], ⟨.cell rfl ti27 (.whole rfl rfl rfl rfl rfl rfl) (.t _), .tmp (.t _), trivial⟩, .refl _⟩
        · try simp only [decide_eq_true_eq, decide_eq_false_iff_not, beq_iff_eq, bne_iff_ne, bne_eq_false_iff_eq, beq_eq_false_iff_ne, Bool.not_eq_true, Bool.not_eq_false, Bool.not_eq_true', Bool.not_eq_false', ne_eq] at h7
          refine awp_rw rfl ?_
          refine RW.op rfl rfl (eff_load rfl rfl ti27 rfl (.whole rfl rfl rfl rfl rfl rfl)) ?_
          refine RW.op rfl rfl (eff_fieldAddr rfl rfl tf46_3 (by decide) rfl rfl rfl (Nat.le_of_ble_eq_true rfl)) ?_
          refine RW.op rfl rfl (eff_load (y := .t _) rfl rfl ti3 rfl (.one rfl rfl rfl rfl)) ?_
          refine RW.op rfl rfl (eff_fieldAddr rfl rfl tf46_4 (by decide) rfl rfl rfl (Nat.le_of_ble_eq_true rfl)) ?_
          refine RW.op rfl rfl (eff_load (y := .t _) rfl rfl ti3 rfl (.one rfl rfl rfl rfl)) ?_
          refine RW.op rfl rfl (eff_load rfl rfl ti25 rfl (.whole rfl rfl rfl rfl rfl rfl)) ?_
          refine RW.op rfl rfl (eff_callT (transfer_ret b o.fr o.to (amount o.p 2147483647) hV.bok hV.nb (amount_near (by omega))) co30 rfl rfl rfl rfl) ?_
          refine RW.op rfl rfl (eff_move (v := .t _) rfl rfl rfl) ?_
          refine RW.op rfl rfl (eff_extract rfl rfl rfl rfl) ?_
          refine RW.op rfl rfl (eff_extract rfl rfl rfl rfl) ?_
          refine RW.store rfl rfl (eff_storeW (v := .t _) (els := [_]) (els' := [_]) rfl rfl ti27 rfl rfl rfl rfl rfl rfl rfl rfl rfl) ?_
          refine RW.op rfl rfl (eff_assign (v := .t _) rfl rfl rfl) ?_
          refine RW.nil ?_
          refine awp_seq ?_
          refine awp_seq ?_
          refine awp_rw rfl ?_
          refine RW.op rfl rfl (eff_move (v := .t _) rfl rfl rfl) ?_
          refine RW.op rfl rfl (eff_iop rfl rfl rfl rfl rfl) ?_
          refine RW.nil ?_
          refine awp_cond rfl (fun h9 => ?_) (fun h9 => ?_)
          · try simp only [decide_eq_true_eq, decide_eq_false_iff_not, beq_iff_eq, bne_iff_ne, bne_eq_false_iff_eq, beq_eq_false_iff_ne, Bool.not_eq_true, Bool.not_eq_false, Bool.not_eq_true', Bool.not_eq_false', ne_eq] at h9
            refine awp_seq ?_
            refine awp_rw rfl ?_
            refine RW.op rfl rfl (eff_load rfl rfl ti27 rfl (.whole rfl rfl rfl rfl rfl rfl)) ?_
            refine RW.op rfl rfl (eff_move (v := .t _) rfl rfl rfl) ?_
            refine RW.store rfl rfl (eff_storeW (v := .t _) (els := [_]) (els' := [_]) rfl rfl ti27 rfl rfl rfl rfl rfl rfl rfl rfl rfl) ?_
            refine RW.op rfl rfl (eff_assign (v := .t _) rfl rfl rfl) ?_
            refine RW.nil ?_
            refine awp_ret ?_
            first
              | (exfalso; omega)
              | exact absurd trivial (by assumption : ¬ True)
              | rw [do_ok (raw0 (by assumption)) (by assumption)]
              | rw [do_err (raw0 (by assumption)) (by assumption)]
              | rw [do_ok (raw1 (by assumption)) (by assumption)]
              | rw [do_err (raw1 (by assumption)) (by assumption)]
              | rw [do_ok (raw2 (by assumption)) (by assumption)]
              | rw [do_err (raw2 (by assumption)) (by assumption)]
              | rw [do_ok (raw3 (by assumption)) rfl]
              | rw [do_ok (raw4 (by assumption) (by assumption) (by assumption) (by assumption)) (by assumption)]
              | rw [do_err (raw4 (by assumption) (by assumption) (by assumption) (by assumption)) (by assumption)]
            all_goals exact ⟨Or.inr rfl, [_, _], ⟨.cell rfl ti27 (.whole rfl rfl rfl rfl rfl rfl) (.t _), .tmp (.t _), trivial⟩, .refl _⟩
          · try simp only [decide_eq_true_eq, decide_eq_false_iff_not, beq_iff_eq, bne_iff_ne, bne_eq_false_iff_eq, beq_eq_false_iff_ne, Bool.not_eq_true, Bool.not_eq_false, Bool.not_eq_true', Bool.not_eq_false', ne_eq] at h9
            refine awp_skip ?_
            refine awp_seq ?_
            refine awp_rw rfl ?_
            refine RW.op rfl rfl (eff_load rfl rfl ti27 rfl (.whole rfl rfl rfl rfl rfl rfl)) ?_
            refine RW.op rfl rfl (eff_move (v := .t _) rfl rfl rfl) ?_
            refine RW.store rfl rfl (eff_storeW (v := .t _) (els := [_]) (els' := [_]) rfl rfl ti27 rfl rfl rfl rfl rfl rfl rfl rfl rfl) ?_
            refine RW.op rfl rfl (eff_assign (v := .t _) rfl rfl rfl) ?_
            refine RW.nil ?_
            refine awp_ret ?_
            first
              | (exfalso; omega)
              | exact absurd trivial (by assumption : ¬ True)
              | rw [do_ok (raw0 (by assumption)) (by assumption)]
              | rw [do_err (raw0 (by assumption)) (by assumption)]
              | rw [do_ok (raw1 (by assumption)) (by assumption)]
              | rw [do_err (raw1 (by assumption)) (by assumption)]
              | rw [do_ok (raw2 (by assumption)) (by assumption)]
              | rw [do_err (raw2 (by assumption)) (by assumption)]
              | rw [do_ok (raw3 (by assumption)) rfl]
              | rw [do_ok (raw4 (by assumption) (by assumption) (by assumption) (by assumption)) (by assumption)]
              | rw [do_err (raw4 (by assumption) (by assumption) (by assumption) (by assumption)) (by assumption)]
            all_goals exact ⟨Or.inr rfl, [_, _], ⟨.cell rfl ti27 (.whole rfl rfl rfl rfl rfl rfl) (.t _), .tmp (.t _), trivial⟩, .refl _⟩

theorem wanted_ret (b : Bank) (o : Opn) (hV : VB b) (ho : P64 o.p) : Ret Try.prog 23 [encB b, encO o] (.tup [encB (doB b o).1, encI (doB b o).2]) := by
  refine ret_of_awp Try.func23 rfl (Nat.le_of_ble_eq_true rfl) ?_
  refine awp_seq ?_
  refine awp_rw rfl ?_
  refine RW.new rfl rfl (eff_boxK (v := .t _) (k := 5) (id := 2) rfl rfl rfl rfl rfl rfl) ?_
  refine RW.new rfl rfl (eff_boxK (v := .t _) (k := 16) (id := 3) rfl rfl rfl rfl rfl rfl) ?_
  refine RW.new rfl rfl (eff_allocK (k := 5) (id := 4) rfl rfl tz27 rfl rfl) ?_
  refine RW.op rfl rfl (eff_assign (v := .t _) rfl rfl rfl) ?_
  refine RW.nil ?_
  refine awp_seq ?_
  refine awp_rw rfl ?_
  refine RW.op rfl rfl (eff_fieldAddr rfl rfl tf46_5 (by decide) rfl rfl rfl (Nat.le_of_ble_eq_true rfl)) ?_
  refine RW.op rfl rfl (eff_loadS (ys := [_, _, _]) rfl rfl ti25 rfl rfl rfl rfl rfl rfl) ?_
  refine RW.op rfl rfl (eff_callT (amount_ret o.p 2147483647 ho (by omega)) co16 rfl rfl rfl rfl) ?_
  refine RW.new rfl rfl (eff_allocK (k := 3) (id := 6) rfl rfl tz25 rfl rfl) ?_
  refine RW.store rfl rfl (eff_storeW (v := .t _) (els := [_]) (els' := [_]) rfl rfl ti25 rfl rfl rfl rfl rfl rfl rfl rfl rfl) ?_
  refine RW.nil ?_
  refine awp_seq ?_
  refine awp_rw rfl ?_
  refine RW.new rfl rfl (eff_allocK (k := 5) (id := 7) rfl rfl tz27 rfl rfl) ?_
  refine RW.nil ?_
  refine awp_seq ?_
  refine awp_rw rfl ?_
  refine RW.op rfl rfl (eff_assign (v := .t _) rfl rfl rfl) ?_
  refine RW.nil ?_
  refine awp_seq ?_
  refine awp_seq ?_
  refine awp_rw rfl ?_
  refine RW.op rfl rfl (eff_fieldAddr rfl rfl tf46_0 (by decide) rfl rfl rfl (Nat.le_of_ble_eq_true rfl)) ?_
  refine RW.op rfl rfl (eff_load (y := .t _) rfl rfl ti3 rfl (.one rfl rfl rfl rfl)) ?_
  refine RW.nil ?_
  refine awp_block ?_
  refine awp_seq ?_
  refine awp_rw rfl ?_
  refine RW.op rfl rfl (eff_iop rfl rfl rfl rfl rfl) ?_
  refine RW.op rfl rfl (eff_assign (v := .t _) rfl rfl rfl) ?_
  refine RW.nil ?_
  refine awp_cond rfl (fun h1 => ?_) (fun h1 => ?_)
  · try simp only [decide_eq_true_eq, decide_eq_false_iff_not, beq_iff_eq, bne_iff_ne, bne_eq_false_iff_eq, beq_eq_false_iff_ne, Bool.not_eq_true, Bool.not_eq_false, Bool.not_eq_true', Bool.not_eq_false', ne_eq] at h1
    refine awp_rw rfl ?_
    refine RW.op rfl rfl (eff_load rfl rfl ti27 rfl (.whole rfl rfl rfl rfl rfl rfl)) ?_
    refine RW.op rfl rfl (eff_fieldAddr rfl rfl tf46_6 (by decide) rfl rfl rfl (Nat.le_of_ble_eq_true rfl)) ?_
    refine RW.op rfl rfl (eff_loadS (ys := [_, _, _, _, _, _, _, _]) rfl rfl ti44 rfl rfl rfl rfl rfl rfl) ?_
    refine RW.op rfl rfl (eff_callT (grant46_ret b o.l hV.bok hV.nb hV.il) co46 rfl rfl rfl rfl) ?_
    refine RW.op rfl rfl (eff_move (v := .t _) rfl rfl rfl) ?_
    refine RW.op rfl rfl (eff_extract rfl rfl rfl rfl) ?_
    refine RW.op rfl rfl (eff_extract rfl rfl rfl rfl) ?_
    refine RW.store rfl rfl (eff_storeW (v := .t _) (els := [_]) (els' := [_]) rfl rfl ti27 rfl rfl rfl rfl rfl rfl rfl rfl rfl) ?_
    refine RW.op rfl rfl (eff_assign (v := .t _) rfl rfl rfl) ?_
    refine RW.nil ?_
    refine awp_seq ?_
    refine awp_seq ?_
    refine awp_rw rfl ?_
    refine RW.op rfl rfl (eff_move (v := .t _) rfl rfl rfl) ?_
    refine RW.op rfl rfl (eff_iop rfl rfl rfl rfl rfl) ?_
    refine RW.nil ?_
    refine awp_cond rfl (fun h2 => ?_) (fun h2 => ?_)
    · try simp only [decide_eq_true_eq, decide_eq_false_iff_not, beq_iff_eq, bne_iff_ne, bne_eq_false_iff_eq, beq_eq_false_iff_ne, Bool.not_eq_true, Bool.not_eq_false, Bool.not_eq_true', Bool.not_eq_false', ne_eq] at h2
      refine awp_seq ?_
      refine awp_rw rfl ?_
      refine RW.op rfl rfl (eff_load rfl rfl ti27 rfl (.whole rfl rfl rfl rfl rfl rfl)) ?_
      refine RW.op rfl rfl (eff_move (v := .t _) rfl rfl rfl) ?_
      refine RW.store rfl rfl (eff_storeW (v := .t _) (els := [_]) (els' := [_]) rfl rfl ti27 rfl rfl rfl rfl rfl rfl rfl rfl rfl) ?_
      refine RW.op rfl rfl (eff_assign (v := .t _) rfl rfl rfl) ?_
      refine RW.nil ?_
      refine awp_ret ?_
      first
        | (exfalso; omega)
        | exact absurd trivial (by assumption : ¬ True)
        | rw [do_ok (raw0 (by assumption)) (by assumption)]
        | rw [do_err (raw0 (by assumption)) (by assumption)]
        | rw [do_ok (raw1 (by assumption)) (by assumption)]
        | rw [do_err (raw1 (by assumption)) (by assumption)]
        | rw [do_ok (raw2 (by assumption)) (by assumption)]
        | rw [do_err (raw2 (by assumption)) (by assumption)]
        | rw [do_ok (raw3 (by assumption)) rfl]
        | rw [do_ok (raw4 (by assumption) (by assumption) (by assumption) (by assumption)) (by assumption)]
        | rw [do_err (raw4 (by assumption) (by assumption) (by assumption) (by assumption)) (by assumption)]
      all_goals exact ⟨Or.inr rfl, [_, _], ⟨.cell rfl ti27 (.whole rfl rfl rfl rfl rfl rfl) (.t _), .tmp (.t _), trivial⟩, .refl _⟩
    · try simp only [decide_eq_true_eq, decide_eq_false_iff_not, beq_iff_eq, bne_iff_ne, bne_eq_false_iff_eq, beq_eq_false_iff_ne, Bool.not_eq_true, Bool.not_eq_false, Bool.not_eq_true', Bool.not_eq_false', ne_eq] at h2
      refine awp_skip ?_
      refine awp_seq ?_
      refine awp_rw rfl ?_
      refine RW.op rfl rfl (eff_load rfl rfl ti27 rfl (.whole rfl rfl rfl rfl rfl rfl)) ?_
      refine RW.op rfl rfl (eff_move (v := .t _) rfl rfl rfl) ?_
      refine RW.store rfl rfl (eff_storeW (v := .t _) (els := [_]) (els' := [_]) rfl rfl ti27 rfl rfl rfl rfl rfl rfl rfl rfl rfl) ?_
      refine RW.op rfl rfl (eff_assign (v := .t _) rfl rfl rfl) ?_
      refine RW.nil ?_
      refine awp_ret ?_
      first
        | (exfalso; omega)
        | exact absurd trivial (by assumption : ¬ True)
        | rw [do_ok (raw0 (by assumption)) (by assumption)]
        | rw [do_err (raw0 (by assumption)) (by assumption)]
        | rw [do_ok (raw1 (by assumption)) (by assumption)]
        | rw [do_err (raw1 (by assumption)) (by assumption)]
        | rw [do_ok (raw2 (by assumption)) (by assumption)]
        | rw [do_err (raw2 (by assumption)) (by assumption)]
        | rw [do_ok (raw3 (by assumption)) rfl]
        | rw [do_ok (raw4 (by assumption) (by assumption) (by assumption) (by assumption)) (by assumption)]
        | rw [do_err (raw4 (by assumption) (by assumption) (by assumption) (by assumption)) (by assumption)]
      all_goals exact ⟨Or.inr rfl, [_, _], ⟨.cell rfl ti27 (.whole rfl rfl rfl rfl rfl rfl) (.t _), .tmp (.t _), trivial⟩, .refl _⟩
  · try simp only [decide_eq_true_eq, decide_eq_false_iff_not, beq_iff_eq, bne_iff_ne, bne_eq_false_iff_eq, beq_eq_false_iff_ne, Bool.not_eq_true, Bool.not_eq_false, Bool.not_eq_true', Bool.not_eq_false', ne_eq] at h1
    refine awp_seq ?_
    refine awp_rw rfl ?_
    refine RW.op rfl rfl (eff_iop rfl rfl rfl rfl rfl) ?_
    refine RW.op rfl rfl (eff_assign (v := .t _) rfl rfl rfl) ?_
    refine RW.nil ?_
    refine awp_cond rfl (fun h3 => ?_) (fun h3 => ?_)
    · try simp only [decide_eq_true_eq, decide_eq_false_iff_not, beq_iff_eq, bne_iff_ne, bne_eq_false_iff_eq, beq_eq_false_iff_ne, Bool.not_eq_true, Bool.not_eq_false, Bool.not_eq_true', Bool.not_eq_false', ne_eq] at h3
      refine awp_rw rfl ?_
      refine RW.op rfl rfl (eff_load rfl rfl ti27 rfl (.whole rfl rfl rfl rfl rfl rfl)) ?_
      refine RW.op rfl rfl (eff_fieldAddr rfl rfl tf46_1 (by decide) rfl rfl rfl (Nat.le_of_ble_eq_true rfl)) ?_
      refine RW.op rfl rfl (eff_load (y := .t _) rfl rfl ti3 rfl (.one rfl rfl rfl rfl)) ?_
      refine RW.op rfl rfl (eff_fieldAddr rfl rfl tf46_2 (by decide) rfl rfl rfl (Nat.le_of_ble_eq_true rfl)) ?_
      refine RW.op rfl rfl (eff_load (y := .t _) rfl rfl ti3 rfl (.one rfl rfl rfl rfl)) ?_
      refine RW.op rfl rfl (eff_load rfl rfl ti25 rfl (.whole rfl rfl rfl rfl rfl rfl)) ?_
      refine RW.op rfl rfl (eff_callT (charge47_ret b o.id o.tick (amount o.p 2147483647) hV.bok hV.nb (near_mono (amount_near (by omega)) (by omega))) co47 rfl rfl rfl rfl) ?_
      refine RW.op rfl rfl (eff_move (v := .t _) rfl rfl rfl) ?_
      refine RW.op rfl rfl (eff_extract rfl rfl rfl rfl) ?_
      refine RW.op rfl rfl (eff_extract rfl rfl rfl rfl) ?_
      refine RW.store rfl rfl (eff_storeW (v := .t _) (els := [_]) (els' := [_]) rfl rfl ti27 rfl rfl rfl rfl rfl rfl rfl rfl rfl) ?_
      refine RW.op rfl rfl (eff_assign (v := .t _) rfl rfl rfl) ?_
      refine RW.nil ?_
      refine awp_seq ?_
      refine awp_seq ?_
      refine awp_rw rfl ?_
      refine RW.op rfl rfl (eff_move (v := .t _) rfl rfl rfl) ?_
      refine RW.op rfl rfl (eff_iop rfl rfl rfl rfl rfl) ?_
      refine RW.nil ?_
      refine awp_cond rfl (fun h4 => ?_) (fun h4 => ?_)
      · try simp only [decide_eq_true_eq, decide_eq_false_iff_not, beq_iff_eq, bne_iff_ne, bne_eq_false_iff_eq, beq_eq_false_iff_ne, Bool.not_eq_true, Bool.not_eq_false, Bool.not_eq_true', Bool.not_eq_false', ne_eq] at h4
        refine awp_seq ?_
        refine awp_rw rfl ?_
        refine RW.op rfl rfl (eff_load rfl rfl ti27 rfl (.whole rfl rfl rfl rfl rfl rfl)) ?_
        refine RW.op rfl rfl (eff_move (v := .t _) rfl rfl rfl) ?_
        refine RW.store rfl rfl (eff_storeW (v := .t _) (els := [_]) (els' := [_]) rfl rfl ti27 rfl rfl rfl rfl rfl rfl rfl rfl rfl) ?_
        refine RW.op rfl rfl (eff_assign (v := .t _) rfl rfl rfl) ?_
        refine RW.nil ?_
        refine awp_ret ?_
        first
          | (exfalso; omega)
          | exact absurd trivial (by assumption : ¬ True)
          | rw [do_ok (raw0 (by assumption)) (by assumption)]
          | rw [do_err (raw0 (by assumption)) (by assumption)]
          | rw [do_ok (raw1 (by assumption)) (by assumption)]
          | rw [do_err (raw1 (by assumption)) (by assumption)]
          | rw [do_ok (raw2 (by assumption)) (by assumption)]
          | rw [do_err (raw2 (by assumption)) (by assumption)]
          | rw [do_ok (raw3 (by assumption)) rfl]
          | rw [do_ok (raw4 (by assumption) (by assumption) (by assumption) (by assumption)) (by assumption)]
          | rw [do_err (raw4 (by assumption) (by assumption) (by assumption) (by assumption)) (by assumption)]
        all_goals exact ⟨Or.inr rfl, [_, _], ⟨.cell rfl ti27 (.whole rfl rfl rfl rfl rfl rfl) (.t _), .tmp (.t _), trivial⟩, .refl _⟩
      · try simp only [decide_eq_true_eq, decide_eq_false_iff_not, beq_iff_eq, bne_iff_ne, bne_eq_false_iff_eq, beq_eq_false_iff_ne, Bool.not_eq_true, Bool.not_eq_false, Bool.not_eq_true', Bool.not_eq_false', ne_eq] at h4
        refine awp_skip ?_
        refine awp_seq ?_
        refine awp_rw rfl ?_
        refine RW.op rfl rfl (eff_load rfl rfl ti27 rfl (.whole rfl rfl rfl rfl rfl rfl)) ?_
        refine RW.op rfl rfl (eff_move (v := .t _) rfl rfl rfl) ?_
        refine RW.store rfl rfl (eff_storeW (v := .t _) (els := [_]) (els' := [_]) rfl rfl ti27 rfl rfl rfl rfl rfl rfl rfl rfl rfl) ?_
        refine RW.op rfl rfl (eff_assign (v := .t _) rfl rfl rfl) ?_
        refine RW.nil ?_
        refine awp_ret ?_
        first
          | (exfalso; omega)
          | exact absurd trivial (by assumption : ¬ True)
          | rw [do_ok (raw0 (by assumption)) (by assumption)]
          | rw [do_err (raw0 (by assumption)) (by assumption)]
          | rw [do_ok (raw1 (by assumption)) (by assumption)]
          | rw [do_err (raw1 (by assumption)) (by assumption)]
          | rw [do_ok (raw2 (by assumption)) (by assumption)]
          | rw [do_err (raw2 (by assumption)) (by assumption)]
          | rw [do_ok (raw3 (by assumption)) rfl]
          | rw [do_ok (raw4 (by assumption) (by assumption) (by assumption) (by assumption)) (by assumption)]
          | rw [do_err (raw4 (by assumption) (by assumption) (by assumption) (by assumption)) (by assumption)]
        all_goals exact ⟨Or.inr rfl, [_, _], ⟨.cell rfl ti27 (.whole rfl rfl rfl rfl rfl rfl) (.t _), .tmp (.t _), trivial⟩, .refl _⟩
    · try simp only [decide_eq_true_eq, decide_eq_false_iff_not, beq_iff_eq, bne_iff_ne, bne_eq_false_iff_eq, beq_eq_false_iff_ne, Bool.not_eq_true, Bool.not_eq_false, Bool.not_eq_true', Bool.not_eq_false', ne_eq] at h3
      refine awp_seq ?_
      refine awp_rw rfl ?_
      refine RW.op rfl rfl (eff_iop rfl rfl rfl rfl rfl) ?_
      refine RW.op rfl rfl (eff_assign (v := .t _) rfl rfl rfl) ?_
      refine RW.nil ?_
      refine awp_cond rfl (fun h5 => ?_) (fun h5 => ?_)
      · try simp only [decide_eq_true_eq, decide_eq_false_iff_not, beq_iff_eq, bne_iff_ne, bne_eq_false_iff_eq, beq_eq_false_iff_ne, Bool.not_eq_true, Bool.not_eq_false, Bool.not_eq_true', Bool.not_eq_false', ne_eq] at h5
        refine awp_rw rfl ?_
        refine RW.op rfl rfl (eff_load rfl rfl ti27 rfl (.whole rfl rfl rfl rfl rfl rfl)) ?_
        refine RW.op rfl rfl (eff_fieldAddr rfl rfl tf46_1 (by decide) rfl rfl rfl (Nat.le_of_ble_eq_true rfl)) ?_
        refine RW.op rfl rfl (eff_load (y := .t _) rfl rfl ti3 rfl (.one rfl rfl rfl rfl)) ?_
        refine RW.op rfl rfl (eff_callT (close48_ret b o.id hV.bok hV.nb hV.ow) co48 rfl rfl rfl rfl) ?_
        refine RW.op rfl rfl (eff_move (v := .t _) rfl rfl rfl) ?_
        refine RW.op rfl rfl (eff_extract rfl rfl rfl rfl) ?_
        refine RW.op rfl rfl (eff_extract rfl rfl rfl rfl) ?_
        refine RW.store rfl rfl (eff_storeW (v := .t _) (els := [_]) (els' := [_]) rfl rfl ti27 rfl rfl rfl rfl rfl rfl rfl rfl rfl) ?_
        refine RW.op rfl rfl (eff_assign (v := .t _) rfl rfl rfl) ?_
        refine RW.nil ?_
        refine awp_seq ?_
        refine awp_seq ?_
        refine awp_rw rfl ?_
        refine RW.op rfl rfl (eff_move (v := .t _) rfl rfl rfl) ?_
        refine RW.op rfl rfl (eff_iop rfl rfl rfl rfl rfl) ?_
        refine RW.nil ?_
        refine awp_cond rfl (fun h6 => ?_) (fun h6 => ?_)
        · try simp only [decide_eq_true_eq, decide_eq_false_iff_not, beq_iff_eq, bne_iff_ne, bne_eq_false_iff_eq, beq_eq_false_iff_ne, Bool.not_eq_true, Bool.not_eq_false, Bool.not_eq_true', Bool.not_eq_false', ne_eq] at h6
          refine awp_seq ?_
          refine awp_rw rfl ?_
          refine RW.op rfl rfl (eff_load rfl rfl ti27 rfl (.whole rfl rfl rfl rfl rfl rfl)) ?_
          refine RW.op rfl rfl (eff_move (v := .t _) rfl rfl rfl) ?_
          refine RW.store rfl rfl (eff_storeW (v := .t _) (els := [_]) (els' := [_]) rfl rfl ti27 rfl rfl rfl rfl rfl rfl rfl rfl rfl) ?_
          refine RW.op rfl rfl (eff_assign (v := .t _) rfl rfl rfl) ?_
          refine RW.nil ?_
          refine awp_ret ?_
          first
            | (exfalso; omega)
            | exact absurd trivial (by assumption : ¬ True)
            | rw [do_ok (raw0 (by assumption)) (by assumption)]
            | rw [do_err (raw0 (by assumption)) (by assumption)]
            | rw [do_ok (raw1 (by assumption)) (by assumption)]
            | rw [do_err (raw1 (by assumption)) (by assumption)]
            | rw [do_ok (raw2 (by assumption)) (by assumption)]
            | rw [do_err (raw2 (by assumption)) (by assumption)]
            | rw [do_ok (raw3 (by assumption)) rfl]
            | rw [do_ok (raw4 (by assumption) (by assumption) (by assumption) (by assumption)) (by assumption)]
            | rw [do_err (raw4 (by assumption) (by assumption) (by assumption) (by assumption)) (by assumption)]
          all_goals exact ⟨Or.inr rfl, [_, _], ⟨.cell rfl ti27 (.whole rfl rfl rfl rfl rfl rfl) (.t _), .tmp (.t _), trivial⟩, .refl _⟩
        · try simp only [decide_eq_true_eq, decide_eq_false_iff_not, beq_iff_eq, bne_iff_ne, bne_eq_false_iff_eq, beq_eq_false_iff_ne, Bool.not_eq_true, Bool.not_eq_false, Bool.not_eq_true', Bool.not_eq_false', ne_eq] at h6
          refine awp_skip ?_
          refine awp_seq ?_
          refine awp_rw rfl ?_
          refine RW.op rfl rfl (eff_load rfl rfl ti27 rfl (.whole rfl rfl rfl rfl rfl rfl)) ?_
          refine RW.op rfl rfl (eff_move (v := .t _) rfl rfl rfl) ?_
          refine RW.store rfl rfl (eff_storeW (v := .t _) (els := [_]) (els' := [_]) rfl rfl ti27 rfl rfl rfl rfl rfl rfl rfl rfl rfl) ?_
          refine RW.op rfl rfl (eff_assign (v := .t _) rfl rfl rfl) ?_
          refine RW.nil ?_
          refine awp_ret ?_
          first
            | (exfalso; omega)
            | exact absurd trivial (by assumption : ¬ True)
            | rw [do_ok (raw0 (by assumption)) (by assumption)]
            | rw [do_err (raw0 (by assumption)) (by assumption)]
            | rw [do_ok (raw1 (by assumption)) (by assumption)]
            | rw [do_err (raw1 (by assumption)) (by assumption)]
            | rw [do_ok (raw2 (by assumption)) (by assumption)]
            | rw [do_err (raw2 (by assumption)) (by assumption)]
            | rw [do_ok (raw3 (by assumption)) rfl]
            | rw [do_ok (raw4 (by assumption) (by assumption) (by assumption) (by assumption)) (by assumption)]
            | rw [do_err (raw4 (by assumption) (by assumption) (by assumption) (by assumption)) (by assumption)]
          all_goals exact ⟨Or.inr rfl, [_, _], ⟨.cell rfl ti27 (.whole rfl rfl rfl rfl rfl rfl) (.t _), .tmp (.t _), trivial⟩, .refl _⟩
      · try simp only [decide_eq_true_eq, decide_eq_false_iff_not, beq_iff_eq, bne_iff_ne, bne_eq_false_iff_eq, beq_eq_false_iff_ne, Bool.not_eq_true, Bool.not_eq_false, Bool.not_eq_true', Bool.not_eq_false', ne_eq] at h5
        refine awp_seq ?_
        refine awp_rw rfl ?_
        refine RW.op rfl rfl (eff_iop rfl rfl rfl rfl rfl) ?_
        refine RW.op rfl rfl (eff_assign (v := .t _) rfl rfl rfl) ?_
        refine RW.nil ?_
        refine awp_cond rfl (fun h7 => ?_) (fun h7 => ?_)
        · try simp only [decide_eq_true_eq, decide_eq_false_iff_not, beq_iff_eq, bne_iff_ne, bne_eq_false_iff_eq, beq_eq_false_iff_ne, Bool.not_eq_true, Bool.not_eq_false, Bool.not_eq_true', Bool.not_eq_false', ne_eq] at h7
          refine awp_rw rfl ?_
          refine RW.op rfl rfl (eff_load rfl rfl ti27 rfl (.whole rfl rfl rfl rfl rfl rfl)) ?_
          refine RW.op rfl rfl (eff_fieldAddr rfl rfl tf46_2 (by decide) rfl rfl rfl (Nat.le_of_ble_eq_true rfl)) ?_
          refine RW.op rfl rfl (eff_load (y := .t _) rfl rfl ti3 rfl (.one rfl rfl rfl rfl)) ?_
          refine RW.op rfl rfl (eff_callT (expire49_ret b o.tick hV) co49 rfl rfl rfl rfl) ?_
          refine RW.store rfl rfl (eff_storeW (v := .t _) (els := [_]) (els' := [_]) rfl rfl ti27 rfl rfl rfl rfl rfl rfl rfl rfl rfl) ?_
          refine RW.nil ?_
          refine awp_seq ?_
          refine awp_seq ?_
          refine awp_rw rfl ?_
          refine RW.op rfl rfl (eff_move (v := .t _) rfl rfl rfl) ?_
          refine RW.op rfl rfl (eff_iop rfl rfl rfl rfl rfl) ?_
          refine RW.nil ?_
          refine awp_cond rfl (fun h8 => ?_) (fun h8 => ?_)
          · try simp only [decide_eq_true_eq, decide_eq_false_iff_not, beq_iff_eq, bne_iff_ne, bne_eq_false_iff_eq, beq_eq_false_iff_ne, Bool.not_eq_true, Bool.not_eq_false, Bool.not_eq_true', Bool.not_eq_false', ne_eq] at h8
            refine awp_seq ?_
            refine awp_rw rfl ?_
            refine RW.op rfl rfl (eff_load rfl rfl ti27 rfl (.whole rfl rfl rfl rfl rfl rfl)) ?_
            refine RW.op rfl rfl (eff_move (v := .t _) rfl rfl rfl) ?_
            refine RW.store rfl rfl (eff_storeW (v := .t _) (els := [_]) (els' := [_]) rfl rfl ti27 rfl rfl rfl rfl rfl rfl rfl rfl rfl) ?_
            refine RW.op rfl rfl (eff_assign (v := .t _) rfl rfl rfl) ?_
            refine RW.nil ?_
            refine awp_ret ?_
            first
              | (exfalso; omega)
              | exact absurd trivial (by assumption : ¬ True)
              | rw [do_ok (raw0 (by assumption)) (by assumption)]
              | rw [do_err (raw0 (by assumption)) (by assumption)]
              | rw [do_ok (raw1 (by assumption)) (by assumption)]
              | rw [do_err (raw1 (by assumption)) (by assumption)]
              | rw [do_ok (raw2 (by assumption)) (by assumption)]
              | rw [do_err (raw2 (by assumption)) (by assumption)]
              | rw [do_ok (raw3 (by assumption)) rfl]
              | rw [do_ok (raw4 (by assumption) (by assumption) (by assumption) (by assumption)) (by assumption)]
              | rw [do_err (raw4 (by assumption) (by assumption) (by assumption) (by assumption)) (by assumption)]
            all_goals exact ⟨Or.inr rfl, [_, _], ⟨.cell rfl ti27 (.whole rfl rfl rfl rfl rfl rfl) (.t _), .tmp (.t _), trivial⟩, .refl _⟩
          · try simp only [decide_eq_true_eq, decide_eq_false_iff_not, beq_iff_eq, bne_iff_ne, bne_eq_false_iff_eq, beq_eq_false_iff_ne, Bool.not_eq_true, Bool.not_eq_false, Bool.not_eq_true', Bool.not_eq_false', ne_eq] at h8
            refine awp_skip ?_
            refine awp_seq ?_
            refine awp_rw rfl ?_
            refine RW.op rfl rfl (eff_load rfl rfl ti27 rfl (.whole rfl rfl rfl rfl rfl rfl)) ?_
            refine RW.op rfl rfl (eff_move (v := .t _) rfl rfl rfl) ?_
            refine RW.store rfl rfl (eff_storeW (v := .t _) (els := [_]) (els' := [_]) rfl rfl ti27 rfl rfl rfl rfl rfl rfl rfl rfl rfl) ?_
            refine RW.op rfl rfl (eff_assign (v := .t _) rfl rfl rfl) ?_
            refine RW.nil ?_
            refine awp_ret ?_
            first
              | (exfalso; omega)
              | exact absurd trivial (by assumption : ¬ True)
              | rw [do_ok (raw0 (by assumption)) (by assumption)]
              | rw [do_err (raw0 (by assumption)) (by assumption)]
              | rw [do_ok (raw1 (by assumption)) (by assumption)]
              | rw [do_err (raw1 (by assumption)) (by assumption)]
              | rw [do_ok (raw2 (by assumption)) (by assumption)]
              | rw [do_err (raw2 (by assumption)) (by assumption)]
              | rw [do_ok (raw3 (by assumption)) rfl]
              | rw [do_ok (raw4 (by assumption) (by assumption) (by assumption) (by assumption)) (by assumption)]
              | rw [do_err (raw4 (by assumption) (by assumption) (by assumption) (by assumption)) (by assumption)]
            all_goals exact ⟨Or.inr rfl, [_, _], ⟨.cell rfl ti27 (.whole rfl rfl rfl rfl rfl rfl) (.t _), .tmp (.t _), trivial⟩, .refl _⟩
        · try simp only [decide_eq_true_eq, decide_eq_false_iff_not, beq_iff_eq, bne_iff_ne, bne_eq_false_iff_eq, beq_eq_false_iff_ne, Bool.not_eq_true, Bool.not_eq_false, Bool.not_eq_true', Bool.not_eq_false', ne_eq] at h7
          refine awp_rw rfl ?_
          refine RW.op rfl rfl (eff_load rfl rfl ti27 rfl (.whole rfl rfl rfl rfl rfl rfl)) ?_
          refine RW.op rfl rfl (eff_fieldAddr rfl rfl tf46_3 (by decide) rfl rfl rfl (Nat.le_of_ble_eq_true rfl)) ?_
          refine RW.op rfl rfl (eff_load (y := .t _) rfl rfl ti3 rfl (.one rfl rfl rfl rfl)) ?_
          refine RW.op rfl rfl (eff_fieldAddr rfl rfl tf46_4 (by decide) rfl rfl rfl (Nat.le_of_ble_eq_true rfl)) ?_
          refine RW.op rfl rfl (eff_load (y := .t _) rfl rfl ti3 rfl (.one rfl rfl rfl rfl)) ?_
          refine RW.op rfl rfl (eff_load rfl rfl ti25 rfl (.whole rfl rfl rfl rfl rfl rfl)) ?_
          refine RW.op rfl rfl (eff_callT (transfer50_ret b o.fr o.to (amount o.p 2147483647) hV.bok hV.nb (amount_near (by omega))) co50 rfl rfl rfl rfl) ?_
          refine RW.op rfl rfl (eff_move (v := .t _) rfl rfl rfl) ?_
          refine RW.op rfl rfl (eff_extract rfl rfl rfl rfl) ?_
          refine RW.op rfl rfl (eff_extract rfl rfl rfl rfl) ?_
          refine RW.store rfl rfl (eff_storeW (v := .t _) (els := [_]) (els' := [_]) rfl rfl ti27 rfl rfl rfl rfl rfl rfl rfl rfl rfl) ?_
          refine RW.op rfl rfl (eff_assign (v := .t _) rfl rfl rfl) ?_
          refine RW.nil ?_
          refine awp_seq ?_
          refine awp_seq ?_
          refine awp_rw rfl ?_
          refine RW.op rfl rfl (eff_move (v := .t _) rfl rfl rfl) ?_
          refine RW.op rfl rfl (eff_iop rfl rfl rfl rfl rfl) ?_
          refine RW.nil ?_
          refine awp_cond rfl (fun h9 => ?_) (fun h9 => ?_)
          · try simp only [decide_eq_true_eq, decide_eq_false_iff_not, beq_iff_eq, bne_iff_ne, bne_eq_false_iff_eq, beq_eq_false_iff_ne, Bool.not_eq_true, Bool.not_eq_false, Bool.not_eq_true', Bool.not_eq_false', ne_eq] at h9
            refine awp_seq ?_
            refine awp_rw rfl ?_
            refine RW.op rfl rfl (eff_load rfl rfl ti27 rfl (.whole rfl rfl rfl rfl rfl rfl)) ?_
            refine RW.op rfl rfl (eff_move (v := .t _) rfl rfl rfl) ?_
            refine RW.store rfl rfl (eff_storeW (v := .t _) (els := [_]) (els' := [_]) rfl rfl ti27 rfl rfl rfl rfl rfl rfl rfl rfl rfl) ?_
            refine RW.op rfl rfl (eff_assign (v := .t _) rfl rfl rfl) ?_
            refine RW.nil ?_
            refine awp_ret ?_
            first
              | (exfalso; omega)
              | exact absurd trivial (by assumption : ¬ True)
              | rw [do_ok (raw0 (by assumption)) (by assumption)]
              | rw [do_err (raw0 (by assumption)) (by assumption)]
              | rw [do_ok (raw1 (by assumption)) (by assumption)]
              | rw [do_err (raw1 (by assumption)) (by assumption)]
              | rw [do_ok (raw2 (by assumption)) (by assumption)]
              | rw [do_err (raw2 (by assumption)) (by assumption)]
              | rw [do_ok (raw3 (by assumption)) rfl]
              | rw [do_ok (raw4 (by assumption) (by assumption) (by assumption) (by assumption)) (by assumption)]
              | rw [do_err (raw4 (by assumption) (by assumption) (by assumption) (by assumption)) (by assumption)]
            all_goals exact ⟨Or.inr rfl, [_, _], ⟨.cell rfl ti27 (.whole rfl rfl rfl rfl rfl rfl) (.t _), .tmp (.t _), trivial⟩, .refl _⟩
          · try simp only [decide_eq_true_eq, decide_eq_false_iff_not, beq_iff_eq, bne_iff_ne, bne_eq_false_iff_eq, beq_eq_false_iff_ne, Bool.not_eq_true, Bool.not_eq_false, Bool.not_eq_true', Bool.not_eq_false', ne_eq] at h9
            refine awp_skip ?_
            refine awp_seq ?_
            refine awp_rw rfl ?_
            refine RW.op rfl rfl (eff_load rfl rfl ti27 rfl (.whole rfl rfl rfl rfl rfl rfl)) ?_
            refine RW.op rfl rfl (eff_move (v := .t _) rfl rfl rfl) ?_
            refine RW.store rfl rfl (eff_storeW (v := .t _) (els := [_]) (els' := [_]) rfl rfl ti27 rfl rfl rfl rfl rfl rfl rfl rfl rfl) ?_
            refine RW.op rfl rfl (eff_assign (v := .t _) rfl rfl rfl) ?_
            refine RW.nil ?_
            refine awp_ret ?_
            first
              | (exfalso; omega)
              | exact absurd trivial (by assumption : ¬ True)
              | rw [do_ok (raw0 (by assumption)) (by assumption)]
              | rw [do_err (raw0 (by assumption)) (by assumption)]
              | rw [do_ok (raw1 (by assumption)) (by assumption)]
              | rw [do_err (raw1 (by assumption)) (by assumption)]
              | rw [do_ok (raw2 (by assumption)) (by assumption)]
              | rw [do_err (raw2 (by assumption)) (by assumption)]
              | rw [do_ok (raw3 (by assumption)) rfl]
              | rw [do_ok (raw4 (by assumption) (by assumption) (by assumption) (by assumption)) (by assumption)]
              | rw [do_err (raw4 (by assumption) (by assumption) (by assumption) (by assumption)) (by assumption)]
            all_goals exact ⟨Or.inr rfl, [_, _], ⟨.cell rfl ti27 (.whole rfl rfl rfl rfl rfl rfl) (.t _), .tmp (.t _), trivial⟩, .refl _⟩

end Go.Tv.C24

end
section
open Go Go.Tv Go.Proofs
namespace Go.Tv.C24
set_option maxRecDepth 20000
set_option maxHeartbeats 2000000
set_option linter.unusedSimpArgs false
set_option linter.unusedVariables false
def LB : Bank := ⟨[⟨4, ⟨100, 50, 360⟩⟩, ⟨7, zp⟩], [], zp⟩
def LL : Lea := ⟨1, 4, 2, 10, 20, ⟨30, 0, 90⟩⟩
def LLate : Lea := ⟨2, 4, 2, 19, 25, zp⟩
def LNext : Lea := ⟨3, 4, 2, 20, 25, ⟨71, 0, 0⟩⟩
def LC : Bank := ⟨[⟨4, ⟨70, 50, 270⟩⟩, ⟨7, zp⟩], [LL], zp⟩
def LD : Bank := ⟨[⟨4, ⟨70, 50, 270⟩⟩, ⟨7, zp⟩], [⟨1, 4, 2, 10, 20, ⟨20, 0, 45⟩⟩], ⟨10, 0, 45⟩⟩
def LG : Bank := ⟨[⟨4, ⟨90, 50, 315⟩⟩, ⟨7, zp⟩], [], ⟨10, 0, 45⟩⟩
def LM : Bank := ⟨[⟨4, ⟨99, 48, 357⟩⟩, ⟨7, ⟨1, 2, 3⟩⟩], [], zp⟩
def LE : Bank := ⟨[⟨4, ⟨100, 50, 360⟩⟩, ⟨7, zp⟩], [], zp⟩
theorem VLB : VB LB := chk_ok.1 (by decide +kernel)
theorem VLC : VB LC := chk_ok.1 (by decide +kernel)
theorem VLD : VB LD := chk_ok.1 (by decide +kernel)
theorem VLG : VB LG := chk_ok.1 (by decide +kernel)
theorem lv1 : grant LB LL = (LC, 0) := by decide +kernel
theorem lv2 : charge LC 1 12 ⟨10, 0, 45⟩ = (LD, 0) := by decide +kernel
theorem lv3 : close LD 1 = (LG, 0) := by decide +kernel
theorem lv4 : grant LC LLate = (zb, 32) := by decide +kernel
theorem lv5 : grant LC LNext = (zb, 40) := by decide +kernel
theorem lv6 : charge LC 1 20 zp = (zb, 32) := by decide +kernel
theorem lv7 : transfer LB 4 7 ⟨1, 2, 3⟩ = (LM, 0) := by decide +kernel
theorem lv8 : chk LB = 0 := by decide +kernel
theorem lv9 : total LD = ⟨100, 50, 360⟩ := by decide +kernel
theorem lv10 : total LG = ⟨100, 50, 360⟩ := by decide +kernel
theorem lv11 : expire LC 19 = LC := by decide +kernel
theorem lv12 : expire LC 20 = LE := by decide +kernel

theorem lives_ret  : Ret Try.prog 11 [] (.bool true) := by
  refine ret_of_awp Try.func11 rfl (Nat.le_of_ble_eq_true rfl) ?_
  refine awp_seq ?_
  refine awp_rw rfl ?_
  refine RW.op rfl rfl (eff_assign (v := .t _) rfl rfl rfl) ?_
  refine RW.nil ?_
  refine awp_seq ?_
  refine awp_rw rfl ?_
  refine RW.op rfl rfl (eff_callT (purse_ret _ _ _) co31 rfl rfl rfl rfl) ?_
  refine RW.op rfl rfl (eff_buildT (ys := [_, _, _, _]) rfl rfl tz57 tg57 rfl) ?_
  refine RW.op rfl rfl (eff_buildT (ys := [_, _, _, _]) rfl rfl tz57 tg57 rfl) ?_
  refine RW.new rfl rfl (eff_buildSliceL (id := 22) (els := [.t (.agg [_, _, _, _]), .t (.agg [_, _, _, _])]) rfl rfl te22 tz57 rfl (by decide) (by decide) rfl rfl rfl rfl) ?_
  refine RW.weak (s' := ⟨219, [(22, .t (.sl [encA ⟨4, ⟨100, 50, 360⟩⟩, encA ⟨7, zp⟩] false))], []⟩) (weak_frz [(22, some ⟨4, 57, 0, [.t (encA ⟨4, ⟨100, 50, 360⟩⟩), .t (encA ⟨7, zp⟩)]⟩)] ⟨rfl, trivial⟩ trivial ⟨.res (Res.ownT (xs := [encA ⟨4, ⟨100, 50, 360⟩⟩, encA ⟨7, zp⟩]) rfl rfl rfl rfl) (.refl _), trivial⟩ trivial) rfl ?_
  refine RW.op rfl rfl (eff_buildT (ys := [_, _, _, _, _]) rfl rfl tz27 tg27 rfl) ?_
  refine RW.new rfl rfl (eff_allocK (k := 5) (id := 1) rfl rfl tz27 rfl rfl) ?_
  refine RW.store rfl rfl (eff_storeW (v := .t _) (els := [_]) (els' := [_]) rfl rfl ti27 rfl rfl rfl rfl rfl rfl rfl rfl rfl) ?_
  refine RW.nil ?_
  refine awp_seq ?_
  refine awp_rw rfl ?_
  refine RW.op rfl rfl (eff_callT (purse_ret _ _ _) co31 rfl rfl rfl rfl) ?_
  refine RW.op rfl rfl (eff_buildT (ys := [_, _, _, _, _, _, _, _]) rfl rfl tz44 tg44 rfl) ?_
  refine RW.new rfl rfl (eff_allocK (k := 8) (id := 2) rfl rfl tz44 rfl rfl) ?_
  refine RW.store rfl rfl (eff_storeW (v := .t _) (els := [_]) (els' := [_]) rfl rfl ti44 rfl rfl rfl rfl rfl rfl rfl rfl rfl) ?_
  refine RW.nil ?_
  refine awp_seq ?_
  refine awp_rw rfl ?_
  refine RW.op rfl rfl (eff_load rfl rfl ti27 rfl (.whole rfl rfl rfl rfl rfl rfl)) ?_
  refine RW.op rfl rfl (eff_load rfl rfl ti44 rfl (.whole rfl rfl rfl rfl rfl rfl)) ?_
  refine RW.op rfl rfl (eff_callW (xs := [_, _]) ((by have h := grant_ret LB LL VLB.bok VLB.nb VLB.il; rw [lv1] at h; exact h)) co26 rfl rfl rfl rfl (by repeat' first | exact trivial | exact Wk.refl _ | exact Wk.sl _ | refine And.intro ?_ ?_ | refine Wk.aggP ?_)) ?_
  refine RW.op rfl rfl (eff_move (v := .t _) rfl rfl rfl) ?_
  refine RW.op rfl rfl (eff_extract rfl rfl rfl rfl) ?_
  refine RW.op rfl rfl (eff_extract rfl rfl rfl rfl) ?_
  refine RW.new rfl rfl (eff_allocK (k := 5) (id := 3) rfl rfl tz27 rfl rfl) ?_
  refine RW.store rfl rfl (eff_storeW (v := .t _) (els := [_]) (els' := [_]) rfl rfl ti27 rfl rfl rfl rfl rfl rfl rfl rfl rfl) ?_
  refine RW.op rfl rfl (eff_assign (v := .t _) rfl rfl rfl) ?_
  refine RW.nil ?_
  refine awp_seq ?_
  refine awp_rd [(some 33, []), (some 34, []), (some 35, []), (some 32, []), (some 36, []), (some 37, []), (some 5, [5]), (none, [5]), (some 6, [])] [[], [], [0, 1], [0, 1, 2], [0, 1, 2, 3], [0, 1, 2, 3], [], [0, 1, 2, 3, 4, 6], [0, 1, 2, 3, 4, 5, 6, 7]] tm rfl rfl rfl rfl ?_
  refine RD.op rfl rfl rfl (eff_load rfl rfl ti27 rfl (.whole rfl rfl rfl rfl rfl rfl)) ?_
  refine RD.op rfl rfl rfl (eff_callT (purse_ret _ _ _) co31 rfl rfl rfl rfl) ?_
  refine RD.op rfl rfl rfl (eff_callT ((by have h := charge_ret LC 1 12 ⟨10, 0, 45⟩ VLC.bok VLC.nb (by unfold near; decide); rw [lv2] at h; exact h)) co28 rfl rfl rfl rfl) ?_
  refine RD.op rfl rfl rfl (eff_move (v := .t _) rfl rfl rfl) ?_
  refine RD.op rfl rfl rfl (eff_extract rfl rfl rfl rfl) ?_
  refine RD.op rfl rfl rfl (eff_extract rfl rfl rfl rfl) ?_
  refine RD.new rfl rfl rfl (eff_allocK (k := 5) (id := 5) rfl rfl tz27 rfl rfl) ?_
  refine RD.store rfl rfl rfl (eff_storeW (v := .t _) (els := [_]) (els' := [_]) rfl rfl ti27 rfl rfl rfl rfl rfl rfl rfl rfl rfl) ?_
  refine RD.op rfl rfl rfl (eff_assign (v := .t _) rfl rfl rfl) ?_
  refine RD.nil ?_
  refine awp_seq ?_
  refine awp_rw rfl ?_
  refine RW.op rfl rfl (eff_load rfl rfl ti27 rfl (.whole rfl rfl rfl rfl rfl rfl)) ?_
  refine RW.op rfl rfl (eff_callT ((by have h := close_ret LD 1 VLD.bok VLD.nb VLD.ow; rw [lv3] at h; exact h)) co27 rfl rfl rfl rfl) ?_
  refine RW.op rfl rfl (eff_move (v := .t _) rfl rfl rfl) ?_
  refine RW.op rfl rfl (eff_extract rfl rfl rfl rfl) ?_
  refine RW.op rfl rfl (eff_extract rfl rfl rfl rfl) ?_
  refine RW.new rfl rfl (eff_allocK (k := 5) (id := 7) rfl rfl tz27 rfl rfl) ?_
  refine RW.store rfl rfl (eff_storeW (v := .t _) (els := [_]) (els' := [_]) rfl rfl ti27 rfl rfl rfl rfl rfl rfl rfl rfl rfl) ?_
  refine RW.op rfl rfl (eff_assign (v := .t _) rfl rfl rfl) ?_
  refine RW.nil ?_
  refine awp_seq ?_
  refine awp_rd [(some 43, []), (some 44, []), (some 9, [9]), (some 10, [10]), (none, [9]), (none, [10])] [[], [], [], [], [0, 2, 3], [0, 1, 2, 3, 4]] tm rfl rfl rfl rfl ?_
  refine RD.op rfl rfl rfl (eff_load rfl rfl ti44 rfl (.whole rfl rfl rfl rfl rfl rfl)) ?_
  refine RD.op rfl rfl rfl (eff_load rfl rfl ti44 rfl (.whole rfl rfl rfl rfl rfl rfl)) ?_
  refine RD.new rfl rfl rfl (eff_allocK (k := 8) (id := 9) rfl rfl tz44 rfl rfl) ?_
  refine RD.new rfl rfl rfl (eff_allocK (k := 8) (id := 10) rfl rfl tz44 rfl rfl) ?_
  refine RD.store rfl rfl rfl (eff_storeW (v := .t _) (els := [_]) (els' := [_]) rfl rfl ti44 rfl rfl rfl rfl rfl rfl rfl rfl rfl) ?_
  refine RD.store rfl rfl rfl (eff_storeW (v := .t _) (els := [_]) (els' := [_]) rfl rfl ti44 rfl rfl rfl rfl rfl rfl rfl rfl rfl) ?_
  refine RD.nil ?_
  refine awp_seq ?_
  refine awp_rw rfl ?_
  refine RW.op rfl rfl (eff_callT (purse_ret _ _ _) co31 rfl rfl rfl rfl) ?_
  refine RW.op rfl rfl (eff_fieldAddr rfl rfl tf44_0 (by decide) rfl rfl rfl (Nat.le_of_ble_eq_true rfl)) ?_
  refine RW.store rfl rfl (eff_storeS (v := .t _) (ys := [_, _, _, _, _, _, _, _]) (els := [_]) (els' := [_]) rfl rfl ti3 rfl rfl rfl rfl rfl rfl rfl (Nat.le_of_ble_eq_true rfl) rfl rfl) ?_
  refine RW.op rfl rfl (eff_fieldAddr rfl rfl tf44_3 (by decide) rfl rfl rfl (Nat.le_of_ble_eq_true rfl)) ?_
  refine RW.store rfl rfl (eff_storeS (v := .t _) (ys := [_, _, _, _, _, _, _, _]) (els := [_]) (els' := [_]) rfl rfl ti3 rfl rfl rfl rfl rfl rfl rfl (Nat.le_of_ble_eq_true rfl) rfl rfl) ?_
  refine RW.op rfl rfl (eff_fieldAddr rfl rfl tf44_4 (by decide) rfl rfl rfl (Nat.le_of_ble_eq_true rfl)) ?_
  refine RW.store rfl rfl (eff_storeS (v := .t _) (ys := [_, _, _, _, _, _, _, _]) (els := [_]) (els' := [_]) rfl rfl ti3 rfl rfl rfl rfl rfl rfl rfl (Nat.le_of_ble_eq_true rfl) rfl rfl) ?_
  refine RW.op rfl rfl (eff_fieldAddr rfl rfl tf44_5 (by decide) rfl rfl rfl (Nat.le_of_ble_eq_true rfl)) ?_
  refine RW.store rfl rfl (eff_storeS (v := .t _) (ys := [_, _, _, _, _, _, _, _]) (els := [_]) (els' := [_]) rfl rfl ti25 rfl rfl rfl rfl rfl rfl rfl (Nat.le_of_ble_eq_true rfl) rfl rfl) ?_
  refine RW.nil ?_
  refine awp_seq ?_
  refine awp_rw rfl ?_
  refine RW.op rfl rfl (eff_callT (purse_ret _ _ _) co31 rfl rfl rfl rfl) ?_
  refine RW.op rfl rfl (eff_fieldAddr rfl rfl tf44_0 (by decide) rfl rfl rfl (Nat.le_of_ble_eq_true rfl)) ?_
  refine RW.store rfl rfl (eff_storeS (v := .t _) (ys := [_, _, _, _, _, _, _, _]) (els := [_]) (els' := [_]) rfl rfl ti3 rfl rfl rfl rfl rfl rfl rfl (Nat.le_of_ble_eq_true rfl) rfl rfl) ?_
  refine RW.op rfl rfl (eff_fieldAddr rfl rfl tf44_3 (by decide) rfl rfl rfl (Nat.le_of_ble_eq_true rfl)) ?_
  refine RW.store rfl rfl (eff_storeS (v := .t _) (ys := [_, _, _, _, _, _, _, _]) (els := [_]) (els' := [_]) rfl rfl ti3 rfl rfl rfl rfl rfl rfl rfl (Nat.le_of_ble_eq_true rfl) rfl rfl) ?_
  refine RW.op rfl rfl (eff_fieldAddr rfl rfl tf44_4 (by decide) rfl rfl rfl (Nat.le_of_ble_eq_true rfl)) ?_
  refine RW.store rfl rfl (eff_storeS (v := .t _) (ys := [_, _, _, _, _, _, _, _]) (els := [_]) (els' := [_]) rfl rfl ti3 rfl rfl rfl rfl rfl rfl rfl (Nat.le_of_ble_eq_true rfl) rfl rfl) ?_
  refine RW.op rfl rfl (eff_fieldAddr rfl rfl tf44_5 (by decide) rfl rfl rfl (Nat.le_of_ble_eq_true rfl)) ?_
  refine RW.store rfl rfl (eff_storeS (v := .t _) (ys := [_, _, _, _, _, _, _, _]) (els := [_]) (els' := [_]) rfl rfl ti25 rfl rfl rfl rfl rfl rfl rfl (Nat.le_of_ble_eq_true rfl) rfl rfl) ?_
  refine RW.nil ?_
  refine awp_seq ?_
  refine awp_rw rfl ?_
  refine RW.op rfl rfl (eff_load rfl rfl ti27 rfl (.whole rfl rfl rfl rfl rfl rfl)) ?_
  refine RW.op rfl rfl (eff_load rfl rfl ti44 rfl (.whole rfl rfl rfl rfl rfl rfl)) ?_
  refine RW.op rfl rfl (eff_callT ((by have h := grant_ret LC LLate VLC.bok VLC.nb VLC.il; rw [lv4] at h; exact h)) co26 rfl rfl rfl rfl) ?_
  refine RW.op rfl rfl (eff_move (v := .t _) rfl rfl rfl) ?_
  refine RW.op rfl rfl (eff_extract rfl rfl rfl rfl) ?_
  refine RW.op rfl rfl (eff_extract rfl rfl rfl rfl) ?_
  refine RW.new rfl rfl (eff_allocK (k := 5) (id := 11) rfl rfl tz27 rfl rfl) ?_
  refine RW.store rfl rfl (eff_storeW (v := .t _) (els := [_]) (els' := [_]) rfl rfl ti27 rfl rfl rfl rfl rfl rfl rfl rfl rfl) ?_
  refine RW.op rfl rfl (eff_assign (v := .t _) rfl rfl rfl) ?_
  refine RW.nil ?_
  refine awp_seq ?_
  refine awp_rw rfl ?_
  refine RW.op rfl rfl (eff_load rfl rfl ti27 rfl (.whole rfl rfl rfl rfl rfl rfl)) ?_
  refine RW.op rfl rfl (eff_load rfl rfl ti44 rfl (.whole rfl rfl rfl rfl rfl rfl)) ?_
  refine RW.op rfl rfl (eff_callT ((by have h := grant_ret LC LNext VLC.bok VLC.nb VLC.il; rw [lv5] at h; exact h)) co26 rfl rfl rfl rfl) ?_
  refine RW.op rfl rfl (eff_move (v := .t _) rfl rfl rfl) ?_
  refine RW.op rfl rfl (eff_extract rfl rfl rfl rfl) ?_
  refine RW.op rfl rfl (eff_extract rfl rfl rfl rfl) ?_
  refine RW.new rfl rfl (eff_allocK (k := 5) (id := 13) rfl rfl tz27 rfl rfl) ?_
  refine RW.store rfl rfl (eff_storeW (v := .t _) (els := [_]) (els' := [_]) rfl rfl ti27 rfl rfl rfl rfl rfl rfl rfl rfl rfl) ?_
  refine RW.op rfl rfl (eff_assign (v := .t _) rfl rfl rfl) ?_
  refine RW.nil ?_
  refine awp_seq ?_
  refine awp_rd [(some 68, []), (some 69, []), (some 70, []), (some 67, []), (some 71, []), (some 72, []), (some 15, [15]), (none, [15]), (some 16, [])] [[], [], [0, 1], [0, 1, 2], [0, 1, 2, 3], [0, 1, 2, 3], [], [0, 1, 2, 3, 4, 6], [0, 1, 2, 3, 4, 5, 6, 7]] tm rfl rfl rfl rfl ?_
  refine RD.op rfl rfl rfl (eff_load rfl rfl ti27 rfl (.whole rfl rfl rfl rfl rfl rfl)) ?_
  refine RD.op rfl rfl rfl (eff_callT (purse_ret _ _ _) co31 rfl rfl rfl rfl) ?_
  refine RD.op rfl rfl rfl (eff_callT ((by have h := charge_ret LC 1 20 zp VLC.bok VLC.nb (by unfold near; decide); rw [lv6] at h; exact h)) co28 rfl rfl rfl rfl) ?_
  refine RD.op rfl rfl rfl (eff_move (v := .t _) rfl rfl rfl) ?_
  refine RD.op rfl rfl rfl (eff_extract rfl rfl rfl rfl) ?_
  refine RD.op rfl rfl rfl (eff_extract rfl rfl rfl rfl) ?_
  refine RD.new rfl rfl rfl (eff_allocK (k := 5) (id := 15) rfl rfl tz27 rfl rfl) ?_
  refine RD.store rfl rfl rfl (eff_storeW (v := .t _) (els := [_]) (els' := [_]) rfl rfl ti27 rfl rfl rfl rfl rfl rfl rfl rfl rfl) ?_
  refine RD.op rfl rfl rfl (eff_assign (v := .t _) rfl rfl rfl) ?_
  refine RD.nil ?_
  refine awp_seq ?_
  refine awp_rd [(some 74, []), (some 75, []), (some 76, []), (some 73, []), (some 77, []), (some 78, []), (some 17, [17]), (none, [17]), (some 18, [])] [[], [], [0, 1], [0, 1, 2], [0, 1, 2, 3], [0, 1, 2, 3], [], [0, 1, 2, 3, 4, 6], [0, 1, 2, 3, 4, 5, 6, 7]] tm rfl rfl rfl rfl ?_
  refine RD.op rfl rfl rfl (eff_load rfl rfl ti27 rfl (.whole rfl rfl rfl rfl rfl rfl)) ?_
  refine RD.op rfl rfl rfl (eff_callT (purse_ret _ _ _) co31 rfl rfl rfl rfl) ?_
  refine RD.op rfl rfl rfl (eff_callW (xs := [_, _, _, _]) ((by have h := transfer_ret LB 4 7 ⟨1, 2, 3⟩ VLB.bok VLB.nb (by unfold near; decide); rw [lv7] at h; exact h)) co30 rfl rfl rfl rfl (by repeat' first | exact trivial | exact Wk.refl _ | exact Wk.sl _ | refine And.intro ?_ ?_ | refine Wk.aggP ?_)) ?_
  refine RD.op rfl rfl rfl (eff_move (v := .t _) rfl rfl rfl) ?_
  refine RD.op rfl rfl rfl (eff_extract rfl rfl rfl rfl) ?_
  refine RD.op rfl rfl rfl (eff_extract rfl rfl rfl rfl) ?_
  refine RD.new rfl rfl rfl (eff_allocK (k := 5) (id := 17) rfl rfl tz27 rfl rfl) ?_
  refine RD.store rfl rfl rfl (eff_storeW (v := .t _) (els := [_]) (els' := [_]) rfl rfl ti27 rfl rfl rfl rfl rfl rfl rfl rfl rfl) ?_
  refine RD.op rfl rfl rfl (eff_assign (v := .t _) rfl rfl rfl) ?_
  refine RD.nil ?_
  refine awp_seq ?_
  refine awp_seq ?_
  refine awp_rw rfl ?_
  refine RW.op rfl rfl (eff_move (v := .t _) rfl rfl rfl) ?_
  refine RW.op rfl rfl (eff_iop (r := .bool false) rfl rfl rfl rfl (by exact iop_neq_f (by rfl))) ?_
  refine RW.op rfl rfl (eff_move (v := .t _) rfl rfl rfl) ?_
  refine RW.gop rfl rfl rfl rfl rfl rfl (eff_move (v := .t _) rfl rfl rfl) ?_
  refine RW.gop rfl rfl rfl rfl rfl rfl (eff_iop (r := .bool false) rfl rfl rfl rfl (by exact iop_neq_f (by rfl))) ?_
  refine RW.op rfl rfl (eff_pick (v := .t _) rfl rfl rfl rfl) ?_
  refine RW.op rfl rfl (eff_move (v := .t _) rfl rfl rfl) ?_
  refine RW.gop rfl rfl rfl rfl rfl rfl (eff_move (v := .t _) rfl rfl rfl) ?_
  refine RW.gop rfl rfl rfl rfl rfl rfl (eff_iop (r := .bool false) rfl rfl rfl rfl (by exact iop_neq_f (by rfl))) ?_
  refine RW.op rfl rfl (eff_pick (v := .t _) rfl rfl rfl rfl) ?_
  refine RW.op rfl rfl (eff_move (v := .t _) rfl rfl rfl) ?_
  refine RW.gop rfl rfl rfl rfl rfl rfl (eff_move (v := .t _) rfl rfl rfl) ?_
  refine RW.gop rfl rfl rfl rfl rfl rfl (eff_iop (r := .bool false) rfl rfl rfl rfl (by exact iop_neq_f (by rfl))) ?_
  refine RW.op rfl rfl (eff_pick (v := .t _) rfl rfl rfl rfl) ?_
  refine RW.op rfl rfl (eff_move (v := .t _) rfl rfl rfl) ?_
  refine RW.gop rfl rfl rfl rfl rfl rfl (eff_move (v := .t _) rfl rfl rfl) ?_
  refine RW.gop rfl rfl rfl rfl rfl rfl (eff_iop (r := .bool false) rfl rfl rfl rfl (by exact iop_neq_f (by rfl))) ?_
  refine RW.op rfl rfl (eff_pick (v := .t _) rfl rfl rfl rfl) ?_
  refine RW.op rfl rfl (eff_move (v := .t _) rfl rfl rfl) ?_
  refine RW.gop rfl rfl rfl rfl rfl rfl (eff_move (v := .t _) rfl rfl rfl) ?_
  refine RW.gop rfl rfl rfl rfl rfl rfl (eff_iop (r := .bool false) rfl rfl rfl rfl (by exact iop_neq_f (by rfl))) ?_
  refine RW.op rfl rfl (eff_pick (v := .t _) rfl rfl rfl rfl) ?_
  refine RW.op rfl rfl (eff_move (v := .t _) rfl rfl rfl) ?_
  refine RW.gop rfl rfl rfl rfl rfl rfl (eff_move (v := .t _) rfl rfl rfl) ?_
  refine RW.gop rfl rfl rfl rfl rfl rfl (eff_iop (r := .bool false) rfl rfl rfl rfl (by exact iop_neq_f (by rfl))) ?_
  refine RW.op rfl rfl (eff_pick (v := .t _) rfl rfl rfl rfl) ?_
  refine RW.nil ?_
  refine awp_cond rfl (fun h => nomatch h) (fun _ => ?_)
  refine awp_skip ?_
  refine awp_seq ?_
  refine awp_seq ?_
  refine awp_rw rfl ?_
  refine RW.op rfl rfl (eff_fieldAddr rfl rfl tf27_0 (by decide) rfl rfl rfl (Nat.le_of_ble_eq_true rfl)) ?_
  refine RW.op rfl rfl (eff_load (y := .t _) rfl rfl ti22 rfl (.one rfl rfl rfl rfl)) ?_
  refine RW.op rfl rfl (eff_lenM rfl rfl te22 rfl) ?_
  refine RW.op rfl rfl (eff_iop (r := .bool false) rfl rfl rfl rfl (by exact iop_neq_f (by rfl))) ?_
  refine RW.op rfl rfl (eff_move (v := .t _) rfl rfl rfl) ?_
  refine RW.gop rfl rfl rfl rfl rfl rfl (eff_fieldAddr rfl rfl tf27_1 (by decide) rfl rfl rfl (Nat.le_of_ble_eq_true rfl)) ?_
  refine RW.gop rfl rfl rfl rfl rfl rfl (eff_load (y := .t _) rfl rfl ti23 rfl (.one rfl rfl rfl rfl)) ?_
  refine RW.gop rfl rfl rfl rfl rfl rfl (eff_lenM rfl rfl te23 rfl) ?_
  refine RW.gop rfl rfl rfl rfl rfl rfl (eff_iop (r := .bool false) rfl rfl rfl rfl (by exact iop_neq_f (by rfl))) ?_
  refine RW.op rfl rfl (eff_pick (v := .t _) rfl rfl rfl rfl) ?_
  refine RW.op rfl rfl (eff_move (v := .t _) rfl rfl rfl) ?_
  refine RW.gop rfl rfl rfl rfl rfl rfl (eff_fieldAddr rfl rfl tf27_1 (by decide) rfl rfl rfl (Nat.le_of_ble_eq_true rfl)) ?_
  refine RW.gop rfl rfl rfl rfl rfl rfl (eff_load (y := .t _) rfl rfl ti23 rfl (.one rfl rfl rfl rfl)) ?_
  refine RW.gop rfl rfl rfl rfl rfl rfl (eff_lenM rfl rfl te23 rfl) ?_
  refine RW.gop rfl rfl rfl rfl rfl rfl (eff_iop (r := .bool false) rfl rfl rfl rfl (by exact iop_neq_f (by rfl))) ?_
  refine RW.op rfl rfl (eff_pick (v := .t _) rfl rfl rfl rfl) ?_
  refine RW.op rfl rfl (eff_move (v := .t _) rfl rfl rfl) ?_
  refine RW.gop rfl rfl rfl rfl rfl rfl (eff_fieldAddr rfl rfl tf27_0 (by decide) rfl rfl rfl (Nat.le_of_ble_eq_true rfl)) ?_
  refine RW.gop rfl rfl rfl rfl rfl rfl (eff_load (y := .t _) rfl rfl ti22 rfl (.one rfl rfl rfl rfl)) ?_
  refine RW.gop rfl rfl rfl rfl rfl rfl (eff_lenM rfl rfl te22 rfl) ?_
  refine RW.gop rfl rfl rfl rfl rfl rfl (eff_iop (r := .bool false) rfl rfl rfl rfl (by exact iop_neq_f (by rfl))) ?_
  refine RW.op rfl rfl (eff_pick (v := .t _) rfl rfl rfl rfl) ?_
  refine RW.op rfl rfl (eff_move (v := .t _) rfl rfl rfl) ?_
  refine RW.gop rfl rfl rfl rfl rfl rfl (eff_fieldAddr rfl rfl tf27_1 (by decide) rfl rfl rfl (Nat.le_of_ble_eq_true rfl)) ?_
  refine RW.gop rfl rfl rfl rfl rfl rfl (eff_load (y := .t _) rfl rfl ti23 rfl (.one rfl rfl rfl rfl)) ?_
  refine RW.gop rfl rfl rfl rfl rfl rfl (eff_lenM rfl rfl te23 rfl) ?_
  refine RW.gop rfl rfl rfl rfl rfl rfl (eff_iop (r := .bool false) rfl rfl rfl rfl (by exact iop_neq_f (by rfl))) ?_
  refine RW.op rfl rfl (eff_pick (v := .t _) rfl rfl rfl rfl) ?_
  refine RW.op rfl rfl (eff_move (v := .t _) rfl rfl rfl) ?_
  refine RW.gop rfl rfl rfl rfl rfl rfl (eff_fieldAddr rfl rfl tf27_0 (by decide) rfl rfl rfl (Nat.le_of_ble_eq_true rfl)) ?_
  refine RW.gop rfl rfl rfl rfl rfl rfl (eff_load (y := .t _) rfl rfl ti22 rfl (.one rfl rfl rfl rfl)) ?_
  refine RW.gop rfl rfl rfl rfl rfl rfl (eff_lenM rfl rfl te22 rfl) ?_
  refine RW.gop rfl rfl rfl rfl rfl rfl (eff_iop (r := .bool false) rfl rfl rfl rfl (by exact iop_neq_f (by rfl))) ?_
  refine RW.op rfl rfl (eff_pick (v := .t _) rfl rfl rfl rfl) ?_
  refine RW.nil ?_
  refine awp_cond rfl (fun h => nomatch h) (fun _ => ?_)
  refine awp_skip ?_
  refine awp_seq ?_
  refine awp_rh [(some 139, []), (some 140, []), (some 141, []), (some 142, []), (some 143, []), (some 144, []), (some 145, []), (some 146, []), (some 147, []), (some 148, []), (some 149, []), (some 150, []), (some 151, []), (some 152, []), (some 153, []), (some 154, []), (some 155, []), (some 156, []), (some 157, []), (some 158, []), (some 159, []), (some 160, []), (some 161, []), (some 162, []), (some 163, []), (some 164, []), (some 165, []), (some 166, []), (some 167, []), (some 168, []), (some 169, []), (some 170, []), (some 171, []), (some 172, []), (some 173, []), (some 174, []), (some 175, []), (some 176, []), (some 177, []), (some 178, []), (some 179, []), (some 180, []), (some 181, []), (some 182, []), (some 183, []), (some 184, []), (some 185, []), (some 186, []), (some 187, []), (some 188, []), (some 189, []), (some 190, []), (some 191, []), (some 192, []), (some 193, []), (some 194, []), (some 195, []), (some 196, []), (some 197, []), (some 198, []), (some 199, []), (some 200, []), (some 201, []), (some 202, []), (some 203, []), (some 204, []), (some 205, []), (some 206, []), (some 207, []), (some 208, []), (some 209, []), (some 210, []), (some 211, []), (some 212, []), (some 213, []), (some 214, []), (some 215, []), (some 216, []), (some 217, []), (some 218, []), (some 0, [])] [[], [0], [0, 1], [0, 1, 2], [0, 1, 2, 3], [0, 1, 2, 3, 4], [0, 1, 2, 3, 4, 5], [0, 1, 2, 3, 4, 5, 6], [0, 1, 2, 3, 4, 5, 6, 7], [0, 1, 2, 3], [0, 1, 2, 3, 4, 5, 6, 7, 8, 9], [0, 1, 2, 3, 4, 5, 6, 7, 8, 9, 10], [0, 1, 2, 3, 4, 5, 6, 7, 8, 9, 10, 11], [0, 1, 2, 3, 4, 5, 6, 7, 8, 9, 10, 11, 12], [0, 1, 2, 3, 4, 5, 6, 7, 8, 9, 10, 11, 12, 13], [0, 1, 2, 3, 4, 5, 6, 7, 8, 9, 10, 11, 12, 13, 14], [0, 1, 2, 3, 4, 5, 6, 7, 8, 9, 10, 11, 12, 13, 14, 15], [0, 1, 2, 3, 4, 5, 6, 7, 8, 9, 10, 11, 12, 13, 14, 15, 16], [0, 1, 2, 3, 4, 5, 6, 7, 8, 9, 10, 11, 12], [0, 1, 2, 3, 4, 5, 6, 7, 8, 9, 10, 11, 12, 13, 14, 15, 16, 17, 18], [0, 1, 2, 3, 4, 5, 6, 7, 8, 9, 10, 11, 12, 13, 14, 15, 16, 17, 18, 19], [0, 1, 2, 3, 4, 5, 6, 7, 8, 9, 10, 11, 12, 13, 14, 15, 16, 17, 18, 19, 20], [0, 1, 2, 3, 4, 5, 6, 7, 8, 9, 10, 11, 12, 13, 14, 15, 16, 17, 18, 19, 20, 21], [0, 1, 2, 3, 4, 5, 6, 7, 8, 9, 10, 11, 12, 13, 14, 15, 16, 17, 18, 19, 20, 21, 22], [0, 1, 2, 3, 4, 5, 6, 7, 8, 9, 10, 11, 12, 13, 14, 15, 16, 17, 18, 19, 20, 21], [0, 1, 2, 3, 4, 5, 6, 7, 8, 9, 10, 11, 12, 13, 14, 15, 16, 17, 18, 19, 20, 21, 22, 23, 24], [0, 1, 2, 3, 4, 5, 6, 7, 8, 9, 10, 11, 12, 13, 14, 15, 16, 17, 18, 19, 20, 21, 22, 23, 24, 25], [0, 1, 2, 3, 4, 5, 6, 7, 8, 9, 10, 11, 12, 13, 14, 15, 16, 17, 18, 19, 20, 21, 22, 23, 24, 25, 26], [0, 1, 2, 3, 4, 5, 6, 7, 8, 9, 10, 11, 12, 13, 14, 15, 16, 17, 18, 19, 20, 21, 22, 23, 24, 25, 26, 27], [0, 1, 2, 3, 4, 5, 6, 7, 8, 9, 10, 11, 12, 13, 14, 15, 16, 17, 18, 19, 20, 21, 22, 23, 24, 25, 26, 27, 28], [0, 1, 2, 3, 4, 5, 6, 7, 8, 9, 10, 11, 12, 13, 14, 15, 16, 17, 18, 19, 20, 21, 22, 23, 24, 25, 26, 27, 28, 29], [0, 1, 2, 3, 4, 5, 6, 7, 8, 9, 10, 11, 12, 13, 14, 15, 16, 17, 18, 19, 20, 21, 22, 23, 24, 25, 26, 27, 28, 29, 30], [0, 1, 2, 3, 4, 5, 6, 7, 8, 9, 10, 11, 12, 13, 14, 15, 16, 17, 18, 19, 20, 21, 22, 23, 24, 25, 26, 27, 28, 29, 30, 31], [0, 1, 2, 3, 4, 5, 6, 7, 8, 9, 10, 11, 12, 13, 14, 15, 16, 17, 18, 19, 20, 21, 22, 23, 24, 25, 26, 27], [0, 1, 2, 3, 4, 5, 6, 7, 8, 9, 10, 11, 12, 13, 14, 15, 16, 17, 18, 19, 20, 21, 22, 23, 24, 25, 26, 27, 28, 29, 30, 31, 32, 33], [0, 1, 2, 3, 4, 5, 6, 7, 8, 9, 10, 11, 12, 13, 14, 15, 16, 17, 18, 19, 20, 21, 22, 23, 24, 25, 26, 27, 28, 29, 30, 31, 32, 33, 34], [0, 1, 2, 3, 4, 5, 6, 7, 8, 9, 10, 11, 12, 13, 14, 15, 16, 17, 18, 19, 20, 21, 22, 23, 24, 25, 26, 27, 28, 29, 30, 31, 32, 33, 34, 35], [0, 1, 2, 3, 4, 5, 6, 7, 8, 9, 10, 11, 12, 13, 14, 15, 16, 17, 18, 19, 20, 21, 22, 23, 24, 25, 26, 27, 28, 29, 30, 31, 32, 33, 34, 35, 36], [0, 1, 2, 3, 4, 5, 6, 7, 8, 9, 10, 11, 12, 13, 14, 15, 16, 17, 18, 19, 20, 21, 22, 23, 24, 25, 26, 27, 28, 29, 30, 31, 32, 33, 34, 35, 36, 37], [0, 1, 2, 3, 4, 5, 6, 7, 8, 9, 10, 11, 12, 13, 14, 15, 16, 17, 18, 19, 20, 21, 22, 23, 24, 25, 26, 27, 28, 29, 30, 31, 32, 33, 34, 35, 36, 37, 38], [0, 1, 2, 3, 4, 5, 6, 7, 8, 9, 10, 11, 12, 13, 14, 15, 16, 17, 18, 19, 20, 21, 22, 23, 24, 25, 26, 27, 28, 29, 30, 31, 32, 33, 34, 35, 36, 37, 38, 39], [0, 1, 2, 3, 4, 5, 6, 7, 8, 9, 10, 11, 12, 13, 14, 15, 16, 17, 18, 19, 20, 21, 22, 23, 24, 25, 26, 27, 28, 29, 30, 31, 32, 33, 34, 35, 36, 37, 38, 39, 40], [0, 1, 2, 3, 4, 5, 6, 7, 8, 9, 10, 11, 12, 13, 14, 15, 16, 17, 18, 19, 20, 21, 22, 23, 24, 25, 26, 27, 28, 29, 30, 31, 32, 33, 34, 35, 36, 37, 38, 39, 40, 41], [0, 1, 2, 3, 4, 5, 6, 7, 8, 9, 10, 11, 12, 13, 14, 15, 16, 17, 18, 19, 20, 21, 22, 23, 24, 25, 26, 27, 28, 29, 30, 31, 32, 33, 34, 35, 36, 37, 38, 39, 40, 41, 42], [0, 1, 2, 3, 4, 5, 6, 7, 8, 9, 10, 11, 12, 13, 14, 15, 16, 17, 18, 19, 20, 21, 22, 23, 24, 25, 26, 27, 28, 29, 30, 31, 32, 33, 34, 35, 36, 37, 38, 39, 40, 41, 42, 43], [0, 1, 2, 3, 4, 5, 6, 7, 8, 9, 10, 11, 12, 13, 14, 15, 16, 17, 18, 19, 20, 21, 22, 23, 24, 25, 26, 27, 28, 29, 30, 31, 32, 33, 34, 35, 36, 37, 38, 39, 40, 41, 42, 43, 44], [0, 1, 2, 3, 4, 5, 6, 7, 8, 9, 10, 11, 12, 13, 14, 15, 16, 17, 18, 19, 20, 21, 22, 23, 24, 25, 26, 27, 28, 29, 30, 31, 32, 33, 34, 35, 36, 37, 38, 39, 40, 41, 42, 43, 44, 45], [0, 1, 2, 3, 4, 5, 6, 7, 8, 9, 10, 11, 12, 13, 14, 15, 16, 17, 18, 19, 20, 21, 22, 23, 24, 25, 26, 27, 28, 29, 30, 31, 32, 33, 34, 35, 36, 37, 38, 39, 40, 41, 42, 43, 44, 45, 46], [0, 1, 2, 3, 4, 5, 6, 7, 8, 9, 10, 11, 12, 13, 14, 15, 16, 17, 18, 19, 20, 21, 22, 23, 24, 25, 26, 27, 28, 29, 30, 31, 32, 33, 34, 35, 36, 37, 38, 39, 40, 41, 42, 43, 44, 45, 46, 47], [0, 1, 2, 3, 4, 5, 6, 7, 8, 9, 10, 11, 12, 13, 14, 15, 16, 17, 18, 19, 20, 21, 22, 23, 24, 25, 26, 27, 28, 29, 30, 31, 32, 33, 34, 35, 36, 37, 38, 39, 40, 41, 42, 43, 44, 45, 46, 47, 48], [0, 1, 2, 3, 4, 5, 6, 7, 8, 9, 10, 11, 12, 13, 14, 15, 16, 17, 18, 19, 20, 21, 22, 23, 24, 25, 26, 27, 28, 29, 30, 31, 32, 33, 34, 35, 36, 37, 38, 39, 40, 41, 42, 43, 44, 45, 46, 47, 48, 49], [0, 1, 2, 3, 4, 5, 6, 7, 8, 9, 10, 11, 12, 13, 14, 15, 16, 17, 18, 19, 20, 21, 22, 23, 24, 25, 26, 27, 28, 29, 30, 31, 32, 33, 34, 35, 36, 37, 38, 39, 40, 41, 42, 43, 44, 45, 46, 47, 48, 49, 50], [0, 1, 2, 3, 4, 5, 6, 7, 8, 9, 10, 11, 12, 13, 14, 15, 16, 17, 18, 19, 20, 21, 22, 23, 24, 25, 26, 27, 28, 29, 30, 31, 32, 33, 34, 35, 36, 37, 38, 39, 40, 41, 42, 43, 44, 45, 46, 47, 48, 49, 50, 51], [0, 1, 2, 3, 4, 5, 6, 7, 8, 9, 10, 11, 12, 13, 14, 15, 16, 17, 18, 19, 20, 21, 22, 23, 24, 25, 26, 27, 28, 29, 30, 31, 32, 33, 34, 35, 36, 37, 38, 39, 40, 41, 42, 43, 44, 45, 46, 47, 48, 49, 50, 51, 52], [0, 1, 2, 3, 4, 5, 6, 7, 8, 9, 10, 11, 12, 13, 14, 15, 16, 17, 18, 19, 20, 21, 22, 23, 24, 25, 26, 27, 28, 29, 30, 31, 32, 33, 34, 35, 36, 37, 38, 39, 40, 41, 42, 43, 44, 45, 46, 47, 48], [0, 1, 2, 3, 4, 5, 6, 7, 8, 9, 10, 11, 12, 13, 14, 15, 16, 17, 18, 19, 20, 21, 22, 23, 24, 25, 26, 27, 28, 29, 30, 31, 32, 33, 34, 35, 36, 37, 38, 39, 40, 41, 42, 43, 44, 45, 46, 47, 48, 49, 50, 51, 52, 53, 54], [0, 1, 2, 3, 4, 5, 6, 7, 8, 9, 10, 11, 12, 13, 14, 15, 16, 17, 18, 19, 20, 21, 22, 23, 24, 25, 26, 27, 28, 29, 30, 31, 32, 33, 34, 35, 36, 37, 38, 39, 40, 41, 42, 43, 44, 45, 46, 47, 48, 49, 50, 51, 52, 53, 54, 55], [0, 1, 2, 3, 4, 5, 6, 7, 8, 9, 10, 11, 12, 13, 14, 15, 16, 17, 18, 19, 20, 21, 22, 23, 24, 25, 26, 27, 28, 29, 30, 31, 32, 33, 34, 35, 36, 37, 38, 39, 40, 41, 42, 43, 44, 45, 46, 47, 48, 49, 50, 51, 52, 53, 54, 55, 56], [0, 1, 2, 3, 4, 5, 6, 7, 8, 9, 10, 11, 12, 13, 14, 15, 16, 17, 18, 19, 20, 21, 22, 23, 24, 25, 26, 27, 28, 29, 30, 31, 32, 33, 34, 35, 36, 37, 38, 39, 40, 41, 42, 43, 44, 45, 46, 47, 48, 49, 50, 51, 52, 53, 54, 55, 56, 57], [0, 1, 2, 3, 4, 5, 6, 7, 8, 9, 10, 11, 12, 13, 14, 15, 16, 17, 18, 19, 20, 21, 22, 23, 24, 25, 26, 27, 28, 29, 30, 31, 32, 33, 34, 35, 36, 37, 38, 39, 40, 41, 42, 43, 44, 45, 46, 47, 48, 49, 50, 51, 52, 53, 54, 55, 56, 57, 58], [0, 1, 2, 3, 4, 5, 6, 7, 8, 9, 10, 11, 12, 13, 14, 15, 16, 17, 18, 19, 20, 21, 22, 23, 24, 25, 26, 27, 28, 29, 30, 31, 32, 33, 34, 35, 36, 37, 38, 39, 40, 41, 42, 43, 44, 45, 46, 47, 48, 49, 50, 51, 52, 53, 54, 55, 56, 57, 58, 59], [0, 1, 2, 3, 4, 5, 6, 7, 8, 9, 10, 11, 12, 13, 14, 15, 16, 17, 18, 19, 20, 21, 22, 23, 24, 25, 26, 27, 28, 29, 30, 31, 32, 33, 34, 35, 36, 37, 38, 39, 40, 41, 42, 43, 44, 45, 46, 47, 48, 49, 50, 51, 52, 53, 54, 55, 56, 57, 58, 59, 60], [0, 1, 2, 3, 4, 5, 6, 7, 8, 9, 10, 11, 12, 13, 14, 15, 16, 17, 18, 19, 20, 21, 22, 23, 24, 25, 26, 27, 28, 29, 30, 31, 32, 33, 34, 35, 36, 37, 38, 39, 40, 41, 42, 43, 44, 45, 46, 47, 48, 49, 50, 51, 52, 53, 54, 55, 56, 57, 58, 59, 60, 61], [0, 1, 2, 3, 4, 5, 6, 7, 8, 9, 10, 11, 12, 13, 14, 15, 16, 17, 18, 19, 20, 21, 22, 23, 24, 25, 26, 27, 28, 29, 30, 31, 32, 33, 34, 35, 36, 37, 38, 39, 40, 41, 42, 43, 44, 45, 46, 47, 48, 49, 50, 51, 52, 53, 54, 55, 56, 57], [0, 1, 2, 3, 4, 5, 6, 7, 8, 9, 10, 11, 12, 13, 14, 15, 16, 17, 18, 19, 20, 21, 22, 23, 24, 25, 26, 27, 28, 29, 30, 31, 32, 33, 34, 35, 36, 37, 38, 39, 40, 41, 42, 43, 44, 45, 46, 47, 48, 49, 50, 51, 52, 53, 54, 55, 56, 57, 58, 59, 60, 61, 62, 63], [0, 1, 2, 3, 4, 5, 6, 7, 8, 9, 10, 11, 12, 13, 14, 15, 16, 17, 18, 19, 20, 21, 22, 23, 24, 25, 26, 27, 28, 29, 30, 31, 32, 33, 34, 35, 36, 37, 38, 39, 40, 41, 42, 43, 44, 45, 46, 47, 48, 49, 50, 51, 52, 53, 54, 55, 56, 57, 58, 59, 60, 61, 62, 63, 64], [0, 1, 2, 3, 4, 5, 6, 7, 8, 9, 10, 11, 12, 13, 14, 15, 16, 17, 18, 19, 20, 21, 22, 23, 24, 25, 26, 27, 28, 29, 30, 31, 32, 33, 34, 35, 36, 37, 38, 39, 40, 41, 42, 43, 44, 45, 46, 47, 48, 49, 50, 51, 52, 53, 54, 55, 56, 57, 58, 59, 60, 61, 62, 63, 64, 65], [0, 1, 2, 3, 4, 5, 6, 7, 8, 9, 10, 11, 12, 13, 14, 15, 16, 17, 18, 19, 20, 21, 22, 23, 24, 25, 26, 27, 28, 29, 30, 31, 32, 33, 34, 35, 36, 37, 38, 39, 40, 41, 42, 43, 44, 45, 46, 47, 48, 49, 50, 51, 52, 53, 54, 55, 56, 57, 58, 59, 60, 61, 62, 63, 64, 65, 66], [0, 1, 2, 3, 4, 5, 6, 7, 8, 9, 10, 11, 12, 13, 14, 15, 16, 17, 18, 19, 20, 21, 22, 23, 24, 25, 26, 27, 28, 29, 30, 31, 32, 33, 34, 35, 36, 37, 38, 39, 40, 41, 42, 43, 44, 45, 46, 47, 48, 49, 50, 51, 52, 53, 54, 55, 56, 57, 58, 59, 60, 61, 62, 63, 64, 65, 66, 67], [0, 1, 2, 3, 4, 5, 6, 7, 8, 9, 10, 11, 12, 13, 14, 15, 16, 17, 18, 19, 20, 21, 22, 23, 24, 25, 26, 27, 28, 29, 30, 31, 32, 33, 34, 35, 36, 37, 38, 39, 40, 41, 42, 43, 44, 45, 46, 47, 48, 49, 50, 51, 52, 53, 54, 55, 56, 57, 58, 59, 60, 61, 62, 63, 64, 65, 66, 67, 68], [0, 1, 2, 3, 4, 5, 6, 7, 8, 9, 10, 11, 12, 13, 14, 15, 16, 17, 18, 19, 20, 21, 22, 23, 24, 25, 26, 27, 28, 29, 30, 31, 32, 33, 34, 35, 36, 37, 38, 39, 40, 41, 42, 43, 44, 45, 46, 47, 48, 49, 50, 51, 52, 53, 54, 55, 56, 57, 58, 59, 60, 61, 62, 63, 64, 65, 66, 67, 68, 69], [0, 1, 2, 3, 4, 5, 6, 7, 8, 9, 10, 11, 12, 13, 14, 15, 16, 17, 18, 19, 20, 21, 22, 23, 24, 25, 26, 27, 28, 29, 30, 31, 32, 33, 34, 35, 36, 37, 38, 39, 40, 41, 42, 43, 44, 45, 46, 47, 48, 49, 50, 51, 52, 53, 54, 55, 56, 57, 58, 59, 60, 61, 62, 63, 64, 65, 66, 67, 68, 69, 70], [0, 1, 2, 3, 4, 5, 6, 7, 8, 9, 10, 11, 12, 13, 14, 15, 16, 17, 18, 19, 20, 21, 22, 23, 24, 25, 26, 27, 28, 29, 30, 31, 32, 33, 34, 35, 36, 37, 38, 39, 40, 41, 42, 43, 44, 45, 46, 47, 48, 49, 50, 51, 52, 53, 54, 55, 56, 57, 58, 59, 60, 61, 62, 63, 64, 65, 66, 67, 68, 69, 70, 71], [0, 1, 2, 3, 4, 5, 6, 7, 8, 9, 10, 11, 12, 13, 14, 15, 16, 17, 18, 19, 20, 21, 22, 23, 24, 25, 26, 27, 28, 29, 30, 31, 32, 33, 34, 35, 36, 37, 38, 39, 40, 41, 42, 43, 44, 45, 46, 47, 48, 49, 50, 51, 52, 53, 54, 55, 56, 57, 58, 59, 60, 61, 62, 63, 64, 65, 66, 67, 68, 69, 70, 71, 72], [0, 1, 2, 3, 4, 5, 6, 7, 8, 9, 10, 11, 12, 13, 14, 15, 16, 17, 18, 19, 20, 21, 22, 23, 24, 25, 26, 27, 28, 29, 30, 31, 32, 33, 34, 35, 36, 37, 38, 39, 40, 41, 42, 43, 44, 45, 46, 47, 48, 49, 50, 51, 52, 53, 54, 55, 56, 57, 58, 59, 60, 61, 62, 63, 64, 65, 66, 67, 68, 69, 70, 71, 72, 73], [0, 1, 2, 3, 4, 5, 6, 7, 8, 9, 10, 11, 12, 13, 14, 15, 16, 17, 18, 19, 20, 21, 22, 23, 24, 25, 26, 27, 28, 29, 30, 31, 32, 33, 34, 35, 36, 37, 38, 39, 40, 41, 42, 43, 44, 45, 46, 47, 48, 49, 50, 51, 52, 53, 54, 55, 56, 57, 58, 59, 60, 61, 62, 63, 64, 65, 66, 67, 68, 69, 70, 71, 72, 73, 74], [0, 1, 2, 3, 4, 5, 6, 7, 8, 9, 10, 11, 12, 13, 14, 15, 16, 17, 18, 19, 20, 21, 22, 23, 24, 25, 26, 27, 28, 29, 30, 31, 32, 33, 34, 35, 36, 37, 38, 39, 40, 41, 42, 43, 44, 45, 46, 47, 48, 49, 50, 51, 52, 53, 54, 55, 56, 57, 58, 59, 60, 61, 62, 63, 64, 65, 66, 67, 68, 69, 70, 71, 72, 73, 74, 75], [0, 1, 2, 3, 4, 5, 6, 7, 8, 9, 10, 11, 12, 13, 14, 15, 16, 17, 18, 19, 20, 21, 22, 23, 24, 25, 26, 27, 28, 29, 30, 31, 32, 33, 34, 35, 36, 37, 38, 39, 40, 41, 42, 43, 44, 45, 46, 47, 48, 49, 50, 51, 52, 53, 54, 55, 56, 57, 58, 59, 60, 61, 62, 63, 64, 65, 66, 67, 68, 69, 70, 71, 72, 73, 74, 75, 76], [0, 1, 2, 3, 4, 5, 6, 7, 8, 9, 10, 11, 12, 13, 14, 15, 16, 17, 18, 19, 20, 21, 22, 23, 24, 25, 26, 27, 28, 29, 30, 31, 32, 33, 34, 35, 36, 37, 38, 39, 40, 41, 42, 43, 44, 45, 46, 47, 48, 49, 50, 51, 52, 53, 54, 55, 56, 57, 58, 59, 60, 61, 62, 63, 64, 65, 66, 67, 68, 69, 70, 71, 72, 73, 74, 75, 76, 77], [0, 1, 2, 3, 4, 5, 6, 7, 8, 9, 10, 11, 12, 13, 14, 15, 16, 17, 18, 19, 20, 21, 22, 23, 24, 25, 26, 27, 28, 29, 30, 31, 32, 33, 34, 35, 36, 37, 38, 39, 40, 41, 42, 43, 44, 45, 46, 47, 48, 49, 50, 51, 52, 53, 54, 55, 56, 57, 58, 59, 60, 61, 62, 63, 64, 65, 66, 67, 68, 69, 70, 71, 72, 73, 74, 75, 76, 77, 78], [0, 1, 2, 3, 4, 5, 6, 7, 8, 9, 10, 11, 12, 13, 14, 15, 16, 17, 18, 19, 20, 21, 22, 23, 24, 25, 26, 27, 28, 29, 30, 31, 32, 33, 34, 35, 36, 37, 38, 39, 40, 41, 42, 43, 44, 45, 46, 47, 48, 49, 50, 51, 52, 53, 54, 55, 56, 57, 58, 59, 60, 61, 62, 63, 64, 65, 66, 67, 68, 69, 70, 71, 72, 73, 74, 75, 76, 77, 78, 79]] [([], (some 139, [])), ([], (some 140, [])), ([], (some 141, [])), ([], (some 142, [])), ([(some 148, [])], (some 143, [])), ([(some 148, [])], (some 144, [])), ([(some 148, [])], (some 145, [])), ([(some 148, [])], (some 146, [])), ([(some 148, [])], (some 147, [])), ([(some 143, []), (some 144, []), (some 145, []), (some 146, []), (some 147, [])], (some 148, [])), ([], (some 149, [])), ([], (some 150, [])), ([], (some 151, [])), ([(some 157, [])], (some 152, [])), ([(some 157, [])], (some 153, [])), ([(some 157, [])], (some 154, [])), ([(some 157, [])], (some 155, [])), ([(some 157, [])], (some 156, [])), ([(some 152, []), (some 153, []), (some 154, []), (some 155, []), (some 156, [])], (some 157, [])), ([], (some 158, [])), ([], (some 159, [])), ([], (some 160, [])), ([(some 163, [])], (some 161, [])), ([(some 163, [])], (some 162, [])), ([(some 161, []), (some 162, [])], (some 163, [])), ([], (some 164, [])), ([], (some 165, [])), ([], (some 166, [])), ([(some 172, [])], (some 167, [])), ([(some 172, [])], (some 168, [])), ([(some 172, [])], (some 169, [])), ([(some 172, [])], (some 170, [])), ([(some 172, [])], (some 171, [])), ([(some 167, []), (some 168, []), (some 169, []), (some 170, []), (some 171, [])], (some 172, [])), ([], (some 173, [])), ([], (some 174, [])), ([], (some 175, [])), ([], (some 176, [])), ([], (some 177, [])), ([], (some 178, [])), ([], (some 179, [])), ([], (some 180, [])), ([], (some 181, [])), ([], (some 182, [])), ([], (some 183, [])), ([], (some 184, [])), ([], (some 185, [])), ([], (some 186, [])), ([], (some 187, [])), ([(some 193, [])], (some 188, [])), ([(some 193, [])], (some 189, [])), ([(some 193, [])], (some 190, [])), ([(some 193, [])], (some 191, [])), ([(some 193, [])], (some 192, [])), ([(some 188, []), (some 189, []), (some 190, []), (some 191, []), (some 192, [])], (some 193, [])), ([], (some 194, [])), ([], (some 195, [])), ([], (some 196, [])), ([(some 202, [])], (some 197, [])), ([(some 202, [])], (some 198, [])), ([(some 202, [])], (some 199, [])), ([(some 202, [])], (some 200, [])), ([(some 202, [])], (some 201, [])), ([(some 197, []), (some 198, []), (some 199, []), (some 200, []), (some 201, [])], (some 202, [])), ([], (some 203, [])), ([], (some 204, [])), ([], (some 205, [])), ([], (some 206, [])), ([], (some 207, [])), ([], (some 208, [])), ([], (some 209, [])), ([], (some 210, [])), ([], (some 211, [])), ([], (some 212, [])), ([], (some 213, [])), ([], (some 214, [])), ([], (some 215, [])), ([], (some 216, [])), ([], (some 217, [])), ([], (some 218, [])), ([], (some 0, []))] tm rfl (by decide +kernel) (by decide +kernel) rfl (by decide +kernel) ?_
  refine RH.op rfl rfl rfl (eff_load rfl rfl ti27 rfl (.whole rfl rfl rfl rfl rfl rfl)) ?_
  refine RH.op rfl rfl rfl (eff_callW (xs := [_]) ((by have h := chk13_ret LB VLB.bok; rw [lv8] at h; exact h)) co13 rfl rfl rfl rfl (by repeat' first | exact trivial | exact Wk.refl _ | exact Wk.sl _ | refine And.intro ?_ ?_ | refine Wk.aggP ?_)) ?_
  refine RH.op rfl rfl rfl (eff_iop (r := .bool true) rfl rfl rfl rfl (by exact iop_eql_t (by rfl))) ?_
  refine RH.op rfl rfl rfl (eff_move (v := .t _) rfl rfl rfl) ?_
  refine RH.gop rfl rfl rfl rfl rfl rfl rfl (eff_fieldAddr rfl rfl tf27_0 (by decide) rfl rfl rfl (Nat.le_of_ble_eq_true rfl)) ?_
  refine RH.gop rfl rfl rfl rfl rfl rfl rfl (eff_load (y := .t _) rfl rfl ti22 rfl (.one rfl rfl rfl rfl)) ?_
  refine RH.gop rfl rfl rfl rfl rfl rfl rfl (eff_indexM (i := 0) rfl rfl te22 rfl rfl rfl (by first | rfl | assumption | exact List.getElem?_eq_getElem (by omega)) rfl (by decide)) ?_
  refine RH.gop rfl rfl rfl rfl rfl rfl rfl (eff_fieldAddrT rfl rfl tf57_1 (by decide) rfl) ?_
  refine RH.gop rfl rfl rfl rfl rfl rfl rfl (eff_loadT (ys := [_, _, _]) rfl rfl ti25 rfl rfl rfl) ?_
  refine RH.gop rfl rfl rfl rfl rfl rfl rfl (eff_callT (purse_ret _ _ _) co31 rfl rfl rfl rfl) ?_
  refine RH.gop rfl rfl rfl rfl rfl rfl rfl (eff_structEql (ns := [_, _, _]) (ms := [_, _, _]) rfl rfl tq25 ti25 th25 rfl rfl rfl rfl) ?_
  refine RH.op rfl rfl rfl (eff_pick (v := .t _) rfl rfl rfl rfl) ?_
  refine RH.op rfl rfl rfl (eff_move (v := .t _) rfl rfl rfl) ?_
  refine RH.gop rfl rfl rfl rfl rfl rfl rfl (eff_fieldAddr rfl rfl tf27_1 (by decide) rfl rfl rfl (Nat.le_of_ble_eq_true rfl)) ?_
  refine RH.gop rfl rfl rfl rfl rfl rfl rfl (eff_load (y := .t _) rfl rfl ti23 rfl (.one rfl rfl rfl rfl)) ?_
  refine RH.gop rfl rfl rfl rfl rfl rfl rfl (eff_indexM (i := 0) rfl rfl te23 rfl rfl rfl (by first | rfl | assumption | exact List.getElem?_eq_getElem (by omega)) rfl (by decide)) ?_
  refine RH.gop rfl rfl rfl rfl rfl rfl rfl (eff_fieldAddrT rfl rfl tf44_5 (by decide) rfl) ?_
  refine RH.gop rfl rfl rfl rfl rfl rfl rfl (eff_loadT (ys := [_, _, _]) rfl rfl ti25 rfl rfl rfl) ?_
  refine RH.gop rfl rfl rfl rfl rfl rfl rfl (eff_callT (purse_ret _ _ _) co31 rfl rfl rfl rfl) ?_
  refine RH.gop rfl rfl rfl rfl rfl rfl rfl (eff_structEql (ns := [_, _, _]) (ms := [_, _, _]) rfl rfl tq25 ti25 th25 rfl rfl rfl rfl) ?_
  refine RH.op rfl rfl rfl (eff_pick (v := .t _) rfl rfl rfl rfl) ?_
  refine RH.op rfl rfl rfl (eff_move (v := .t _) rfl rfl rfl) ?_
  refine RH.gop rfl rfl rfl rfl rfl rfl rfl (eff_fieldAddr rfl rfl tf27_2 (by decide) rfl rfl rfl (Nat.le_of_ble_eq_true rfl)) ?_
  refine RH.gop rfl rfl rfl rfl rfl rfl rfl (eff_loadS (ys := [_, _, _]) rfl rfl ti25 rfl rfl rfl rfl rfl rfl) ?_
  refine RH.gop rfl rfl rfl rfl rfl rfl rfl (eff_callT (purse_ret _ _ _) co31 rfl rfl rfl rfl) ?_
  refine RH.gop rfl rfl rfl rfl rfl rfl rfl (eff_structEql (ns := [_, _, _]) (ms := [_, _, _]) rfl rfl tq25 ti25 th25 rfl rfl rfl rfl) ?_
  refine RH.op rfl rfl rfl (eff_pick (v := .t _) rfl rfl rfl rfl) ?_
  refine RH.op rfl rfl rfl (eff_move (v := .t _) rfl rfl rfl) ?_
  refine RH.gop rfl rfl rfl rfl rfl rfl rfl (eff_fieldAddr rfl rfl tf27_0 (by decide) rfl rfl rfl (Nat.le_of_ble_eq_true rfl)) ?_
  refine RH.gop rfl rfl rfl rfl rfl rfl rfl (eff_load (y := .t _) rfl rfl ti22 rfl (.one rfl rfl rfl rfl)) ?_
  refine RH.gop rfl rfl rfl rfl rfl rfl rfl (eff_indexM (i := 0) rfl rfl te22 rfl rfl rfl (by first | rfl | assumption | exact List.getElem?_eq_getElem (by omega)) rfl (by decide)) ?_
  refine RH.gop rfl rfl rfl rfl rfl rfl rfl (eff_fieldAddrT rfl rfl tf57_1 (by decide) rfl) ?_
  refine RH.gop rfl rfl rfl rfl rfl rfl rfl (eff_loadT (ys := [_, _, _]) rfl rfl ti25 rfl rfl rfl) ?_
  refine RH.gop rfl rfl rfl rfl rfl rfl rfl (eff_callT (purse_ret _ _ _) co31 rfl rfl rfl rfl) ?_
  refine RH.gop rfl rfl rfl rfl rfl rfl rfl (eff_structEql (ns := [_, _, _]) (ms := [_, _, _]) rfl rfl tq25 ti25 th25 rfl rfl rfl rfl) ?_
  refine RH.op rfl rfl rfl (eff_pick (v := .t _) rfl rfl rfl rfl) ?_
  refine RH.op rfl rfl rfl (eff_move (v := .t _) rfl rfl rfl) ?_
  refine RH.gop rfl rfl rfl rfl rfl rfl rfl (eff_load rfl rfl ti27 rfl (.whole rfl rfl rfl rfl rfl rfl)) ?_
  refine RH.gop rfl rfl rfl rfl rfl rfl rfl (eff_callT ((by have h := total_ret LD VLD.bok VLD.nb; rw [lv9] at h; exact h)) co14 rfl rfl rfl rfl) ?_
  refine RH.gop rfl rfl rfl rfl rfl rfl rfl (eff_callT (purse_ret _ _ _) co31 rfl rfl rfl rfl) ?_
  refine RH.gop rfl rfl rfl rfl rfl rfl rfl (eff_structEql (ns := [_, _, _]) (ms := [_, _, _]) rfl rfl tq25 ti25 th25 rfl rfl rfl rfl) ?_
  refine RH.op rfl rfl rfl (eff_pick (v := .t _) rfl rfl rfl rfl) ?_
  refine RH.op rfl rfl rfl (eff_move (v := .t _) rfl rfl rfl) ?_
  refine RH.gop rfl rfl rfl rfl rfl rfl rfl (eff_load rfl rfl ti27 rfl (.whole rfl rfl rfl rfl rfl rfl)) ?_
  refine RH.gop rfl rfl rfl rfl rfl rfl rfl (eff_callT ((by have h := total_ret LG VLG.bok VLG.nb; rw [lv10] at h; exact h)) co14 rfl rfl rfl rfl) ?_
  refine RH.gop rfl rfl rfl rfl rfl rfl rfl (eff_callT (purse_ret _ _ _) co31 rfl rfl rfl rfl) ?_
  refine RH.gop rfl rfl rfl rfl rfl rfl rfl (eff_structEql (ns := [_, _, _]) (ms := [_, _, _]) rfl rfl tq25 ti25 th25 rfl rfl rfl rfl) ?_
  refine RH.op rfl rfl rfl (eff_pick (v := .t _) rfl rfl rfl rfl) ?_
  refine RH.op rfl rfl rfl (eff_move (v := .t _) rfl rfl rfl) ?_
  refine RH.gop rfl rfl rfl rfl rfl rfl rfl (eff_fieldAddr rfl rfl tf27_0 (by decide) rfl rfl rfl (Nat.le_of_ble_eq_true rfl)) ?_
  refine RH.gop rfl rfl rfl rfl rfl rfl rfl (eff_load (y := .t _) rfl rfl ti22 rfl (.one rfl rfl rfl rfl)) ?_
  refine RH.gop rfl rfl rfl rfl rfl rfl rfl (eff_indexM (i := 0) rfl rfl te22 rfl rfl rfl (by first | rfl | assumption | exact List.getElem?_eq_getElem (by omega)) rfl (by decide)) ?_
  refine RH.gop rfl rfl rfl rfl rfl rfl rfl (eff_fieldAddrT rfl rfl tf57_1 (by decide) rfl) ?_
  refine RH.gop rfl rfl rfl rfl rfl rfl rfl (eff_loadT (ys := [_, _, _]) rfl rfl ti25 rfl rfl rfl) ?_
  refine RH.gop rfl rfl rfl rfl rfl rfl rfl (eff_callT (purse_ret _ _ _) co31 rfl rfl rfl rfl) ?_
  refine RH.gop rfl rfl rfl rfl rfl rfl rfl (eff_structEql (ns := [_, _, _]) (ms := [_, _, _]) rfl rfl tq25 ti25 th25 rfl rfl rfl rfl) ?_
  refine RH.op rfl rfl rfl (eff_pick (v := .t _) rfl rfl rfl rfl) ?_
  refine RH.op rfl rfl rfl (eff_move (v := .t _) rfl rfl rfl) ?_
  refine RH.gop rfl rfl rfl rfl rfl rfl rfl (eff_fieldAddr rfl rfl tf27_0 (by decide) rfl rfl rfl (Nat.le_of_ble_eq_true rfl)) ?_
  refine RH.gop rfl rfl rfl rfl rfl rfl rfl (eff_load (y := .t _) rfl rfl ti22 rfl (.one rfl rfl rfl rfl)) ?_
  refine RH.gop rfl rfl rfl rfl rfl rfl rfl (eff_indexM (i := 1) rfl rfl te22 rfl rfl rfl (by first | rfl | assumption | exact List.getElem?_eq_getElem (by omega)) rfl (by decide)) ?_
  refine RH.gop rfl rfl rfl rfl rfl rfl rfl (eff_fieldAddrT rfl rfl tf57_1 (by decide) rfl) ?_
  refine RH.gop rfl rfl rfl rfl rfl rfl rfl (eff_loadT (ys := [_, _, _]) rfl rfl ti25 rfl rfl rfl) ?_
  refine RH.gop rfl rfl rfl rfl rfl rfl rfl (eff_callT (purse_ret _ _ _) co31 rfl rfl rfl rfl) ?_
  refine RH.gop rfl rfl rfl rfl rfl rfl rfl (eff_structEql (ns := [_, _, _]) (ms := [_, _, _]) rfl rfl tq25 ti25 th25 rfl rfl rfl rfl) ?_
  refine RH.op rfl rfl rfl (eff_pick (v := .t _) rfl rfl rfl rfl) ?_
  refine RH.op rfl rfl rfl (eff_move (v := .t _) rfl rfl rfl) ?_
  refine RH.gop rfl rfl rfl rfl rfl rfl rfl (eff_load rfl rfl ti27 rfl (.whole rfl rfl rfl rfl rfl rfl)) ?_
  refine RH.gop rfl rfl rfl rfl rfl rfl rfl (eff_callT ((by have h := expire_ret LC 19 VLC; rw [lv11] at h; exact h)) co29 rfl rfl rfl rfl) ?_
  refine RH.gop rfl rfl rfl rfl rfl rfl rfl (eff_field rfl rfl tf27_1 rfl rfl) ?_
  refine RH.gop rfl rfl rfl rfl rfl rfl rfl (eff_lenM rfl rfl te23 rfl) ?_
  refine RH.gop rfl rfl rfl rfl rfl rfl rfl (eff_iop (r := .bool true) rfl rfl rfl rfl (by exact iop_eql_t (by rfl))) ?_
  refine RH.op rfl rfl rfl (eff_pick (v := .t _) rfl rfl rfl rfl) ?_
  refine RH.op rfl rfl rfl (eff_move (v := .t _) rfl rfl rfl) ?_
  refine RH.gop rfl rfl rfl rfl rfl rfl rfl (eff_load rfl rfl ti27 rfl (.whole rfl rfl rfl rfl rfl rfl)) ?_
  refine RH.gop rfl rfl rfl rfl rfl rfl rfl (eff_callT ((by have h := expire_ret LC 20 VLC; rw [lv12] at h; exact h)) co29 rfl rfl rfl rfl) ?_
  refine RH.gop rfl rfl rfl rfl rfl rfl rfl (eff_field rfl rfl tf27_1 rfl rfl) ?_
  refine RH.gop rfl rfl rfl rfl rfl rfl rfl (eff_lenM rfl rfl te23 rfl) ?_
  refine RH.gop rfl rfl rfl rfl rfl rfl rfl (eff_iop (r := .bool true) rfl rfl rfl rfl (by exact iop_eql_t (by rfl))) ?_
  refine RH.op rfl rfl rfl (eff_pick (v := .t _) rfl rfl rfl rfl) ?_
  refine RH.op rfl rfl rfl (eff_assign (v := .t _) rfl rfl rfl) ?_
  refine RH.nil ?_
  refine awp_ret ?_
  exact ⟨Or.inr rfl, [_], ⟨.tmp (.t _), trivial⟩, .refl _⟩

end Go.Tv.C24

end
section
open Go Go.Tv Go.Proofs
namespace Go.Tv.C24
set_option maxRecDepth 20000
set_option maxHeartbeats 2000000
set_option linter.unusedSimpArgs false
set_option linter.unusedVariables false
theorem checks_ret (b : Bank) : Ret Try.prog 3 [encB b] (.bool true) := by
  refine ret_of_awp Try.func3 rfl (Nat.le_of_ble_eq_true rfl) ?_
  refine awp_seq ?_
  refine awp_rw rfl ?_
  refine RW.new rfl rfl (eff_boxK (v := .t _) (k := 5) (id := 1) rfl rfl rfl rfl rfl rfl) ?_
  refine RW.op rfl rfl (eff_assign (v := .t _) rfl rfl rfl) ?_
  refine RW.nil ?_
  refine awp_seq ?_
  refine awp_seq ?_
  refine awp_rw rfl ?_
  refine RW.op rfl rfl (eff_fieldAddr rfl rfl tf27_0 (by decide) rfl rfl rfl (Nat.le_of_ble_eq_true rfl)) ?_
  refine RW.op rfl rfl (eff_load (y := .t _) rfl rfl ti22 rfl (.one rfl rfl rfl rfl)) ?_
  refine RW.op rfl rfl (eff_lenM rfl rfl te22 rfl) ?_
  refine RW.op rfl rfl (eff_iop rfl rfl rfl rfl rfl) ?_
  refine RW.op rfl rfl (eff_move (v := .t _) rfl rfl rfl) ?_
  refine RW.split 8 rfl (fun h1 => ?_) (fun h1 => ?_)
  · try simp only [decide_eq_true_eq, decide_eq_false_iff_not, beq_iff_eq, bne_iff_ne, bne_eq_false_iff_eq, beq_eq_false_iff_ne, Bool.not_eq_true, Bool.not_eq_false, Bool.not_eq_true', Bool.not_eq_false', ne_eq] at h1
    refine RW.gskip rfl rfl rfl rfl rfl (by decide) ?_
    refine RW.gskip rfl rfl rfl rfl rfl (by decide) ?_
    refine RW.gskip rfl rfl rfl rfl rfl (by decide) ?_
    refine RW.gskip rfl rfl rfl rfl rfl (by decide) ?_
    refine RW.op rfl rfl (eff_pick (v := .t _) rfl rfl rfl rfl) ?_
    refine RW.nil ?_
    refine awp_cond rfl (fun _ => ?_) (fun h => nomatch h)
    refine awp_seq ?_
    refine awp_rw rfl ?_
    refine RW.op rfl rfl (eff_callT (lives_ret) co11 rfl rfl rfl rfl) ?_
    refine RW.op rfl rfl (eff_assign (v := .t _) rfl rfl rfl) ?_
    refine RW.nil ?_
    refine awp_ret ?_
    exact ⟨Or.inr rfl, [_], ⟨.tmp (.t _), trivial⟩, .refl _⟩
  · try simp only [decide_eq_true_eq, decide_eq_false_iff_not, beq_iff_eq, bne_iff_ne, bne_eq_false_iff_eq, beq_eq_false_iff_ne, Bool.not_eq_true, Bool.not_eq_false, Bool.not_eq_true', Bool.not_eq_false', ne_eq] at h1
    refine RW.gop rfl rfl rfl rfl rfl rfl (eff_fieldAddr rfl rfl tf27_1 (by decide) rfl rfl rfl (Nat.le_of_ble_eq_true rfl)) ?_
    refine RW.gop rfl rfl rfl rfl rfl rfl (eff_load (y := .t _) rfl rfl ti23 rfl (.one rfl rfl rfl rfl)) ?_
    refine RW.gop rfl rfl rfl rfl rfl rfl (eff_lenM rfl rfl te23 rfl) ?_
    refine RW.gop rfl rfl rfl rfl rfl rfl (eff_iop rfl rfl rfl rfl rfl) ?_
    refine RW.op rfl rfl (eff_pick (v := .t _) rfl rfl rfl rfl) ?_
    refine RW.nil ?_
    refine awp_cond rfl (fun h2 => ?_) (fun h2 => ?_)
    · try simp only [decide_eq_true_eq, decide_eq_false_iff_not, beq_iff_eq, bne_iff_ne, bne_eq_false_iff_eq, beq_eq_false_iff_ne, Bool.not_eq_true, Bool.not_eq_false, Bool.not_eq_true', Bool.not_eq_false', ne_eq] at h2
      refine awp_seq ?_
      refine awp_rw rfl ?_
      refine RW.op rfl rfl (eff_callT (lives_ret) co11 rfl rfl rfl rfl) ?_
      refine RW.op rfl rfl (eff_assign (v := .t _) rfl rfl rfl) ?_
      refine RW.nil ?_
      refine awp_ret ?_
      exact ⟨Or.inr rfl, [_], ⟨.tmp (.t _), trivial⟩, .refl _⟩
    · try simp only [decide_eq_true_eq, decide_eq_false_iff_not, beq_iff_eq, bne_iff_ne, bne_eq_false_iff_eq, beq_eq_false_iff_ne, Bool.not_eq_true, Bool.not_eq_false, Bool.not_eq_true', Bool.not_eq_false', ne_eq] at h2
      refine awp_skip ?_
      refine awp_seq ?_
      refine awp_rw rfl ?_
      have hB : BOK b := ⟨by omega, by omega⟩
      refine RW.op rfl rfl (eff_load rfl rfl ti27 rfl (.whole rfl rfl rfl rfl rfl rfl)) ?_
      refine RW.op rfl rfl (eff_callT (chk12_ret b hB) co12 rfl rfl rfl rfl) ?_
      refine RW.op rfl rfl (eff_assign (v := .t _) rfl rfl rfl) ?_
      refine RW.nil ?_
      refine awp_seq ?_
      by_cases hc3 : chk b = 0
      · refine awp_rd [(some 17, []), (some 18, []), (some 19, []), (some 20, []), (some 21, []), (some 22, []), (some 23, []), (some 24, []), (some 25, []), (some 26, []), (some 27, []), (some 28, []), (some 29, []), (some 30, []), (some 31, []), (some 32, []), (some 33, []), (some 34, []), (some 2, [])] [[], [0], [], [0, 1, 2], [0, 1, 2, 3], [0, 1, 2, 3, 4], [0, 1, 2, 3, 4, 5], [0, 1, 2, 3, 4, 5, 6], [0, 1, 2, 3, 4, 5, 6, 7], [0, 1, 2, 3, 4, 5, 6, 7, 8], [0, 1, 2, 3, 4, 5, 6, 7], [0, 1, 2, 3, 4, 5, 6, 7, 8, 9, 10], [0, 1, 2, 3, 4, 5, 6, 7, 8, 9, 10, 11], [0, 1, 2, 3, 4, 5, 6, 7, 8, 9, 10, 11, 12], [0, 1, 2, 3, 4, 5, 6, 7, 8, 9, 10, 11, 12, 13], [0, 1, 2, 3, 4, 5, 6, 7, 8, 9, 10, 11, 12, 13, 14], [0, 1, 2, 3, 4, 5, 6, 7, 8, 9, 10, 11, 12, 13, 14, 15], [0, 1, 2, 3, 4, 5, 6, 7, 8, 9, 10, 11, 12, 13, 14, 15, 16], [0, 1, 2, 3, 4, 5, 6, 7, 8, 9, 10, 11, 12, 13, 14, 15, 16, 17]] tm rfl rfl rfl rfl ?_
        refine RD.op rfl rfl rfl (eff_load rfl rfl ti27 rfl (.whole rfl rfl rfl rfl rfl rfl)) ?_
        refine RD.op rfl rfl rfl (eff_callT (chk13_ret b hB) co13 rfl rfl rfl rfl) ?_
        refine RD.op rfl rfl rfl (eff_move (v := .t _) rfl rfl rfl) ?_
        refine RD.op rfl rfl rfl (eff_iop (r := .bool true) rfl rfl rfl rfl (by exact iop_eql_t (by rfl))) ?_
        refine RD.op rfl rfl rfl (eff_move (v := .t _) rfl rfl rfl) ?_
        refine RD.gop rfl rfl rfl rfl rfl rfl rfl (eff_move (v := .t _) rfl rfl rfl) ?_
        refine RD.gop rfl rfl rfl rfl rfl rfl rfl (eff_iop (r := .bool false) rfl rfl rfl rfl (by exact iop_neq_f hc3)) ?_
        refine RD.gop rfl rfl rfl rfl rfl rfl rfl (eff_move (v := .t _) rfl rfl rfl) ?_
        refine RD.gop rfl rfl rfl rfl rfl rfl rfl (eff_load rfl rfl ti27 rfl (.whole rfl rfl rfl rfl rfl rfl)) ?_
        refine RD.gop rfl rfl rfl rfl rfl rfl rfl (eff_callT (total_ret b hB (chk_ok.1 hc3).nb) co14 rfl rfl rfl rfl) ?_
        refine RD.gop rfl rfl rfl rfl rfl rfl rfl (eff_load rfl rfl ti27 rfl (.whole rfl rfl rfl rfl rfl rfl)) ?_
        refine RD.gop rfl rfl rfl rfl rfl rfl rfl (eff_callT (total15_ret b hB (chk_ok.1 hc3).nb) co15 rfl rfl rfl rfl) ?_
        refine RD.gop rfl rfl rfl rfl rfl rfl rfl (eff_structEqlB (r := true) (ns := [_, _, _]) (ms := [_, _, _]) rfl rfl tq25 ti25 th25 rfl rfl rfl rfl (by simp)) ?_
        refine RD.gop rfl rfl rfl rfl rfl rfl rfl (eff_pick (v := .t _) rfl rfl rfl rfl) ?_
        refine RD.op rfl rfl rfl (eff_pick (v := .t _) rfl rfl rfl rfl) ?_
        refine RD.op rfl rfl rfl (eff_move (v := .t _) rfl rfl rfl) ?_
        refine RD.gop rfl rfl rfl rfl rfl rfl rfl (eff_callT (lives_ret) co11 rfl rfl rfl rfl) ?_
        refine RD.op rfl rfl rfl (eff_pick (v := .t _) rfl rfl rfl rfl) ?_
        refine RD.op rfl rfl rfl (eff_assign (v := .t _) rfl rfl rfl) ?_
        refine RD.nil ?_
        refine awp_ret ?_
        exact ⟨Or.inr rfl, [_], ⟨.tmp (.t _), trivial⟩, .refl _⟩
      · refine awp_rd [(some 17, []), (some 18, []), (some 19, []), (some 20, []), (some 21, []), (some 22, []), (some 23, []), (some 24, []), (some 25, []), (some 26, []), (some 27, []), (some 28, []), (some 29, []), (some 30, []), (some 31, []), (some 32, []), (some 33, []), (some 34, []), (some 2, [])] [[], [0], [], [0, 1, 2], [0, 1, 2, 3], [0, 1, 2, 3, 4], [0, 1, 2, 3, 4, 5], [0, 1, 2, 3, 4, 5, 6], [0, 1, 2, 3, 4, 5, 6, 7], [0, 1, 2, 3, 4, 5, 6, 7, 8], [0, 1, 2, 3, 4, 5, 6, 7], [0, 1, 2, 3, 4, 5, 6, 7, 8, 9, 10], [0, 1, 2, 3, 4, 5, 6, 7, 8, 9, 10, 11], [0, 1, 2, 3, 4, 5, 6, 7, 8, 9, 10, 11, 12], [0, 1, 2, 3, 4, 5, 6, 7, 8, 9, 10, 11, 12, 13], [0, 1, 2, 3, 4, 5, 6, 7, 8, 9, 10, 11, 12, 13, 14], [0, 1, 2, 3, 4, 5, 6, 7, 8, 9, 10, 11, 12, 13, 14, 15], [0, 1, 2, 3, 4, 5, 6, 7, 8, 9, 10, 11, 12, 13, 14, 15, 16], [0, 1, 2, 3, 4, 5, 6, 7, 8, 9, 10, 11, 12, 13, 14, 15, 16, 17]] tm rfl rfl rfl rfl ?_
        refine RD.op rfl rfl rfl (eff_load rfl rfl ti27 rfl (.whole rfl rfl rfl rfl rfl rfl)) ?_
        refine RD.op rfl rfl rfl (eff_callT (chk13_ret b hB) co13 rfl rfl rfl rfl) ?_
        refine RD.op rfl rfl rfl (eff_move (v := .t _) rfl rfl rfl) ?_
        refine RD.op rfl rfl rfl (eff_iop (r := .bool true) rfl rfl rfl rfl (by exact iop_eql_t (by rfl))) ?_
        refine RD.op rfl rfl rfl (eff_move (v := .t _) rfl rfl rfl) ?_
        refine RD.gop rfl rfl rfl rfl rfl rfl rfl (eff_move (v := .t _) rfl rfl rfl) ?_
        refine RD.gop rfl rfl rfl rfl rfl rfl rfl (eff_iop (r := .bool true) rfl rfl rfl rfl (by exact iop_neq_t hc3)) ?_
        refine RD.gop rfl rfl rfl rfl rfl rfl rfl (eff_move (v := .t _) rfl rfl rfl) ?_
        refine RD.gskip rfl rfl rfl rfl rfl rfl (by decide) ?_
        refine RD.gskip rfl rfl rfl rfl rfl rfl (by decide) ?_
        refine RD.gskip rfl rfl rfl rfl rfl rfl (by decide) ?_
        refine RD.gskip rfl rfl rfl rfl rfl rfl (by decide) ?_
        refine RD.gskip rfl rfl rfl rfl rfl rfl (by decide) ?_
        refine RD.gop rfl rfl rfl rfl rfl rfl rfl (eff_pick (v := .t _) rfl rfl rfl rfl) ?_
        refine RD.op rfl rfl rfl (eff_pick (v := .t _) rfl rfl rfl rfl) ?_
        refine RD.op rfl rfl rfl (eff_move (v := .t _) rfl rfl rfl) ?_
        refine RD.gop rfl rfl rfl rfl rfl rfl rfl (eff_callT (lives_ret) co11 rfl rfl rfl rfl) ?_
        refine RD.op rfl rfl rfl (eff_pick (v := .t _) rfl rfl rfl rfl) ?_
        refine RD.op rfl rfl rfl (eff_assign (v := .t _) rfl rfl rfl) ?_
        refine RD.nil ?_
        refine awp_ret ?_
        exact ⟨Or.inr rfl, [_], ⟨.tmp (.t _), trivial⟩, .refl _⟩

theorem cov_plus {x y : Purse} {n : Int} (h : near n x) : cov (plus x y) y := by unfold near cov plus at *; simp only; omega

theorem amounts_ret (a b : Purse) (ha : P64 a) (hb : P64 b) : Ret Try.prog 4 [encP a, encP b] (.bool true) := by
  refine ret_of_awp Try.func4 rfl (Nat.le_of_ble_eq_true rfl) ?_
  refine awp_seq ?_
  refine awp_rw rfl ?_
  refine RW.new rfl rfl (eff_boxK (v := .t _) (k := 3) (id := 2) rfl rfl rfl rfl rfl rfl) ?_
  refine RW.new rfl rfl (eff_boxK (v := .t _) (k := 3) (id := 3) rfl rfl rfl rfl rfl rfl) ?_
  refine RW.op rfl rfl (eff_assign (v := .t _) rfl rfl rfl) ?_
  refine RW.nil ?_
  refine awp_seq ?_
  refine awp_rd [(some 16, []), (some 17, []), (some 18, []), (some 19, []), (some 5, [5]), (some 6, [6]), (none, [5]), (none, [6])] [[], [0], [], [0, 1, 2], [], [], [0, 1, 2, 3, 4, 5], [0, 1, 2, 3, 4, 5, 6]] tm rfl rfl rfl rfl ?_
  refine RD.op rfl rfl rfl (eff_load rfl rfl ti25 rfl (.whole rfl rfl rfl rfl rfl rfl)) ?_
  refine RD.op rfl rfl rfl (eff_callT (amount_ret a 2147483647 ha (by omega)) co16 rfl rfl rfl rfl) ?_
  refine RD.op rfl rfl rfl (eff_load rfl rfl ti25 rfl (.whole rfl rfl rfl rfl rfl rfl)) ?_
  refine RD.op rfl rfl rfl (eff_callT (amount_ret b 2147483647 hb (by omega)) co16 rfl rfl rfl rfl) ?_
  refine RD.new rfl rfl rfl (eff_allocK (k := 3) (id := 5) rfl rfl tz25 rfl rfl) ?_
  refine RD.new rfl rfl rfl (eff_allocK (k := 3) (id := 6) rfl rfl tz25 rfl rfl) ?_
  refine RD.store rfl rfl rfl (eff_storeW (v := .t _) (els := [_]) (els' := [_]) rfl rfl ti25 rfl rfl rfl rfl rfl rfl rfl rfl rfl) ?_
  refine RD.store rfl rfl rfl (eff_storeW (v := .t _) (els := [_]) (els' := [_]) rfl rfl ti25 rfl rfl rfl rfl rfl rfl rfl rfl rfl) ?_
  refine RD.nil ?_
  refine awp_seq ?_
  refine awp_rw rfl ?_
  refine RW.op rfl rfl (eff_load rfl rfl ti25 rfl (.whole rfl rfl rfl rfl rfl rfl)) ?_
  refine RW.op rfl rfl (eff_load rfl rfl ti25 rfl (.whole rfl rfl rfl rfl rfl rfl)) ?_
  refine RW.op rfl rfl (eff_callT (minusD_ret (amount a 2147483647) (amount b 2147483647) (near_mono (amount_near (by omega)) (by omega)) (near_mono (amount_near (by omega)) (by omega))) co17 rfl rfl rfl rfl) ?_
  refine RW.op rfl rfl (eff_move (v := .t _) rfl rfl rfl) ?_
  refine RW.op rfl rfl (eff_extract rfl rfl rfl rfl) ?_
  refine RW.op rfl rfl (eff_extract rfl rfl rfl rfl) ?_
  refine RW.new rfl rfl (eff_allocK (k := 3) (id := 7) rfl rfl tz25 rfl rfl) ?_
  refine RW.store rfl rfl (eff_storeW (v := .t _) (els := [_]) (els' := [_]) rfl rfl ti25 rfl rfl rfl rfl rfl rfl rfl rfl rfl) ?_
  refine RW.op rfl rfl (eff_assign (v := .t _) rfl rfl rfl) ?_
  refine RW.nil ?_
  refine awp_seq ?_
  refine awp_rw rfl ?_
  refine RW.op rfl rfl (eff_load rfl rfl ti25 rfl (.whole rfl rfl rfl rfl rfl rfl)) ?_
  refine RW.op rfl rfl (eff_load rfl rfl ti25 rfl (.whole rfl rfl rfl rfl rfl rfl)) ?_
  refine RW.op rfl rfl (eff_callT (minusD18_ret (amount a 2147483647) (amount b 2147483647) (near_mono (amount_near (by omega)) (by omega)) (near_mono (amount_near (by omega)) (by omega))) co18 rfl rfl rfl rfl) ?_
  refine RW.op rfl rfl (eff_move (v := .t _) rfl rfl rfl) ?_
  refine RW.op rfl rfl (eff_extract rfl rfl rfl rfl) ?_
  refine RW.op rfl rfl (eff_extract rfl rfl rfl rfl) ?_
  refine RW.new rfl rfl (eff_allocK (k := 3) (id := 9) rfl rfl tz25 rfl rfl) ?_
  refine RW.store rfl rfl (eff_storeW (v := .t _) (els := [_]) (els' := [_]) rfl rfl ti25 rfl rfl rfl rfl rfl rfl rfl rfl rfl) ?_
  refine RW.op rfl rfl (eff_assign (v := .t _) rfl rfl rfl) ?_
  refine RW.nil ?_
  refine awp_seq ?_
  refine awp_rd [(some 32, []), (some 33, []), (some 34, []), (some 35, []), (some 11, [11]), (some 12, [12]), (none, [11]), (none, [12])] [[], [0], [], [0, 1, 2], [], [], [0, 1, 2, 3, 4, 5], [0, 1, 2, 3, 4, 5, 6]] tm rfl rfl rfl rfl ?_
  refine RD.op rfl rfl rfl (eff_load rfl rfl ti25 rfl (.whole rfl rfl rfl rfl rfl rfl)) ?_
  refine RD.op rfl rfl rfl (eff_callT (amount_ret a 1073741823 ha (by omega)) co16 rfl rfl rfl rfl) ?_
  refine RD.op rfl rfl rfl (eff_load rfl rfl ti25 rfl (.whole rfl rfl rfl rfl rfl rfl)) ?_
  refine RD.op rfl rfl rfl (eff_callT (amount_ret b 1073741823 hb (by omega)) co16 rfl rfl rfl rfl) ?_
  refine RD.new rfl rfl rfl (eff_allocK (k := 3) (id := 11) rfl rfl tz25 rfl rfl) ?_
  refine RD.new rfl rfl rfl (eff_allocK (k := 3) (id := 12) rfl rfl tz25 rfl rfl) ?_
  refine RD.store rfl rfl rfl (eff_storeW (v := .t _) (els := [_]) (els' := [_]) rfl rfl ti25 rfl rfl rfl rfl rfl rfl rfl rfl rfl) ?_
  refine RD.store rfl rfl rfl (eff_storeW (v := .t _) (els := [_]) (els' := [_]) rfl rfl ti25 rfl rfl rfl rfl rfl rfl rfl rfl rfl) ?_
  refine RD.nil ?_
  refine awp_seq ?_
  refine awp_rw rfl ?_
  refine RW.op rfl rfl (eff_load rfl rfl ti25 rfl (.whole rfl rfl rfl rfl rfl rfl)) ?_
  refine RW.op rfl rfl (eff_load rfl rfl ti25 rfl (.whole rfl rfl rfl rfl rfl rfl)) ?_
  refine RW.op rfl rfl (eff_callT (plus_ret (amount a 1073741823) (amount b 1073741823) (near_mono (amount_near (by omega)) (by omega)) (near_mono (amount_near (by omega)) (by omega))) co19 rfl rfl rfl rfl) ?_
  refine RW.new rfl rfl (eff_allocK (k := 3) (id := 13) rfl rfl tz25 rfl rfl) ?_
  refine RW.store rfl rfl (eff_storeW (v := .t _) (els := [_]) (els' := [_]) rfl rfl ti25 rfl rfl rfl rfl rfl rfl rfl rfl rfl) ?_
  refine RW.nil ?_
  refine awp_seq ?_
  refine awp_rw rfl ?_
  have hcp : cov (plus (amount a 1073741823) (amount b 1073741823)) (amount b 1073741823) := cov_plus (amount_near (p := a) (m := 1073741823) (by omega))
  have hpn : near 1000000000000000 (plus (amount a 1073741823) (amount b 1073741823)) := near_mono (near_plus (amount_near (by omega)) (amount_near (by omega))) (by omega)
  refine RW.op rfl rfl (eff_load rfl rfl ti25 rfl (.whole rfl rfl rfl rfl rfl rfl)) ?_
  refine RW.op rfl rfl (eff_load rfl rfl ti25 rfl (.whole rfl rfl rfl rfl rfl rfl)) ?_
  refine RW.op rfl rfl (eff_callT ((by have h := minusD_ret (plus (amount a 1073741823) (amount b 1073741823)) (amount b 1073741823) hpn (near_mono (amount_near (by omega)) (by omega)); rw [minus_t hcp, decide_eq_true hcp, sub_plus] at h; exact h)) co17 rfl rfl rfl rfl) ?_
  refine RW.op rfl rfl (eff_move (v := .t _) rfl rfl rfl) ?_
  refine RW.op rfl rfl (eff_extract rfl rfl rfl rfl) ?_
  refine RW.op rfl rfl (eff_extract rfl rfl rfl rfl) ?_
  refine RW.new rfl rfl (eff_allocK (k := 3) (id := 14) rfl rfl tz25 rfl rfl) ?_
  refine RW.store rfl rfl (eff_storeW (v := .t _) (els := [_]) (els' := [_]) rfl rfl ti25 rfl rfl rfl rfl rfl rfl rfl rfl rfl) ?_
  refine RW.op rfl rfl (eff_assign (v := .t _) rfl rfl rfl) ?_
  refine RW.nil ?_
  refine awp_seq ?_
  refine awp_rh [(some 45, []), (some 46, []), (some 47, []), (some 48, []), (some 49, []), (some 50, []), (some 51, []), (some 52, []), (some 53, []), (some 54, []), (some 55, []), (some 56, []), (some 57, []), (some 58, []), (some 59, []), (some 60, []), (some 61, []), (some 62, []), (some 63, []), (some 64, []), (some 65, []), (some 66, []), (some 67, []), (some 68, []), (some 69, []), (some 70, []), (some 71, []), (some 72, []), (some 73, []), (some 74, []), (some 75, []), (some 76, []), (some 77, []), (some 78, []), (some 79, []), (some 4, [])] [[], [], [0, 1], [0, 1, 2], [0, 1, 2, 3], [0, 1, 2, 3], [0, 1, 2, 3, 4, 5], [0, 1, 2, 3, 4, 5, 6], [0, 1, 2, 3, 4, 5, 6, 7], [0, 1, 2, 3, 4, 5, 6, 7, 8], [0, 1, 2, 3, 4, 5, 6, 7, 8], [0, 1, 2, 3, 4, 5, 6, 7, 8, 9, 10], [0, 1, 2, 3, 4, 5, 6, 7, 8], [0, 1, 2, 3, 4, 5, 6, 7, 8], [0, 1, 2, 3, 4, 5, 6, 7, 8, 9, 10, 11, 12, 13], [0, 1, 2, 3, 4, 5, 6, 7, 8, 9, 10, 11, 12, 13, 14], [0, 1, 2, 3, 4, 5, 6, 7, 8, 9, 10, 11, 12, 13, 14, 15], [0, 1, 2, 3, 4, 5, 6, 7, 8, 9, 10, 11, 12, 13, 14, 15, 16], [0, 1, 2, 3, 4, 5, 6, 7, 8, 9, 10, 11, 12, 13, 14, 15, 16, 17], [0, 1, 2, 3, 4, 5, 6, 7, 8, 9, 10, 11, 12, 13, 14, 15, 16, 17], [0, 1, 2, 3, 4, 5, 6, 7, 8, 9, 10, 11, 12, 13, 14, 15, 16, 17], [0, 1, 2, 3, 4, 5, 6, 7, 8, 9, 10, 11, 12, 13, 14, 15, 16, 17, 19, 20], [0, 1, 2, 3, 4, 5, 6, 7, 8, 9, 10, 11, 12, 13, 14, 15, 16, 17, 18, 19, 20, 21], [0, 1, 2, 3, 4, 5, 6, 7, 8, 9, 10, 11, 12, 13, 14, 15, 16, 17, 18, 19, 20, 21, 22], [0, 1, 2, 3, 4, 5, 6, 7, 8, 9, 10, 11, 12, 13, 14, 15, 16, 17, 18, 19, 20, 21, 22, 23], [0, 1, 2, 3, 4, 5, 6, 7, 8, 9, 10, 11, 12, 13, 14, 15, 16, 17, 18, 19, 20, 21, 22, 23, 24], [0, 1, 2, 3, 4, 5, 6, 7, 8, 9, 10, 11, 12, 13, 14, 15, 16, 17, 18, 19, 20, 21, 22, 23, 24, 25], [0, 1, 2, 3, 4, 5, 6, 7, 8, 9, 10, 11, 12, 13, 14, 15, 16, 17, 18, 19, 20, 21, 22, 23, 24, 25, 26], [0, 1, 2, 3, 4, 5, 6, 7, 8, 9, 10, 11, 12, 13, 14, 15, 16, 17, 18, 19, 20, 21, 22, 23, 24, 25, 26, 27], [0, 1, 2, 3, 4, 5, 6, 7, 8, 9, 10, 11, 12, 13, 14, 15, 16, 17, 18, 19, 20, 21, 22, 23, 24, 25, 26, 27], [0, 1, 2, 3, 4, 5, 6, 7, 8, 9, 10, 11, 12, 13, 14, 15, 16, 17, 18, 19, 20, 21, 22, 23, 24, 25, 26, 27, 28, 29], [0, 1, 2, 3, 4, 5, 6, 7, 8, 9, 10, 11, 12, 13, 14, 15, 16, 17, 18, 19, 20, 21, 22, 23, 24, 25, 26, 27, 28, 29, 30], [0, 1, 2, 3, 4, 5, 6, 7, 8, 9, 10, 11, 12, 13, 14, 15, 16, 17, 18, 19, 20, 21, 22, 23, 24, 25, 26, 27, 28, 29, 30, 31], [0, 1, 2, 3, 4, 5, 6, 7, 8, 9, 10, 11, 12, 13, 14, 15, 16, 17, 18, 19, 20, 21, 22, 23, 24, 25, 26, 27, 28, 29, 30, 31, 32], [0, 1, 2, 3, 4, 5, 6, 7, 8, 9, 10, 11, 12, 13, 14, 15, 16, 17, 18, 19, 20, 21, 22, 23, 24, 25, 26, 27, 28, 29, 30, 31, 32, 33], [0, 1, 2, 3, 4, 5, 6, 7, 8, 9, 10, 11, 12, 13, 14, 15, 16, 17, 18, 19, 20, 21, 22, 23, 24, 25, 26, 27, 28, 29, 30, 31, 32, 33, 34]] [([(some 46, [])], (some 45, [])), ([(some 45, [])], (some 46, [])), ([], (some 47, [])), ([], (some 48, [])), ([(some 50, [])], (some 49, [])), ([(some 49, [])], (some 50, [])), ([], (some 51, [])), ([], (some 52, [])), ([], (some 53, [])), ([(some 55, []), (some 57, []), (some 58, [])], (some 54, [])), ([(some 54, []), (some 57, []), (some 58, [])], (some 55, [])), ([(some 57, []), (some 58, [])], (some 56, [])), ([(some 54, []), (some 55, []), (some 56, []), (some 58, [])], (some 57, [])), ([(some 54, []), (some 55, []), (some 56, []), (some 57, [])], (some 58, [])), ([], (some 59, [])), ([], (some 60, [])), ([], (some 61, [])), ([], (some 62, [])), ([(some 64, []), (some 65, []), (some 66, [])], (some 63, [])), ([(some 63, []), (some 65, [])], (some 64, [])), ([(some 63, []), (some 64, [])], (some 65, [])), ([(some 63, [])], (some 66, [])), ([], (some 67, [])), ([], (some 68, [])), ([], (some 69, [])), ([], (some 70, [])), ([], (some 71, [])), ([], (some 72, [])), ([(some 74, [])], (some 73, [])), ([(some 73, [])], (some 74, [])), ([], (some 75, [])), ([], (some 76, [])), ([], (some 77, [])), ([], (some 78, [])), ([], (some 79, [])), ([], (some 4, []))] tm rfl (by decide +kernel) (by decide +kernel) rfl (by decide +kernel) ?_
  refine RH.op rfl rfl rfl (eff_load rfl rfl ti25 rfl (.whole rfl rfl rfl rfl rfl rfl)) ?_
  refine RH.op rfl rfl rfl (eff_load rfl rfl ti25 rfl (.whole rfl rfl rfl rfl rfl rfl)) ?_
  refine RH.op rfl rfl rfl (eff_structEqlB (r := true) (ns := [_, _, _]) (ms := [_, _, _]) rfl rfl tq25 ti25 th25 rfl rfl rfl rfl (by simp)) ?_
  refine RH.op rfl rfl rfl (eff_move (v := .t _) rfl rfl rfl) ?_
  refine RH.gop rfl rfl rfl rfl rfl rfl rfl (eff_move (v := .t _) rfl rfl rfl) ?_
  refine RH.gop rfl rfl rfl rfl rfl rfl rfl (eff_move (v := .t _) rfl rfl rfl) ?_
  refine RH.gop rfl rfl rfl rfl rfl rfl rfl (eff_boolEq (b := true) rfl rfl (.inl rfl) tu4 rfl rfl (by simp)) ?_
  refine RH.op rfl rfl rfl (eff_pick (v := .t _) rfl rfl rfl rfl) ?_
  refine RH.op rfl rfl rfl (eff_move (v := .t _) rfl rfl rfl) ?_
  refine RH.gop rfl rfl rfl rfl rfl rfl rfl (eff_load rfl rfl ti25 rfl (.whole rfl rfl rfl rfl rfl rfl)) ?_
  refine RH.gop rfl rfl rfl rfl rfl rfl rfl (eff_load rfl rfl ti25 rfl (.whole rfl rfl rfl rfl rfl rfl)) ?_
  refine RH.gop rfl rfl rfl rfl rfl rfl rfl (eff_callT (plus_ret (amount a 2147483647) (amount b 2147483647) (near_mono (amount_near (by omega)) (by omega)) (near_mono (amount_near (by omega)) (by omega))) co19 rfl rfl rfl rfl) ?_
  refine RH.gop rfl rfl rfl rfl rfl rfl rfl (eff_load rfl rfl ti25 rfl (.whole rfl rfl rfl rfl rfl rfl)) ?_
  refine RH.gop rfl rfl rfl rfl rfl rfl rfl (eff_load rfl rfl ti25 rfl (.whole rfl rfl rfl rfl rfl rfl)) ?_
  refine RH.gop rfl rfl rfl rfl rfl rfl rfl (eff_callT (plus20_ret (amount a 2147483647) (amount b 2147483647) (near_mono (amount_near (by omega)) (by omega)) (near_mono (amount_near (by omega)) (by omega))) co20 rfl rfl rfl rfl) ?_
  refine RH.gop rfl rfl rfl rfl rfl rfl rfl (eff_structEqlB (r := true) (ns := [_, _, _]) (ms := [_, _, _]) rfl rfl tq25 ti25 th25 rfl rfl rfl rfl (by simp)) ?_
  refine RH.op rfl rfl rfl (eff_pick (v := .t _) rfl rfl rfl rfl) ?_
  refine RH.op rfl rfl rfl (eff_move (v := .t _) rfl rfl rfl) ?_
  refine RH.gop rfl rfl rfl rfl rfl rfl rfl (eff_load rfl rfl ti25 rfl (.whole rfl rfl rfl rfl rfl rfl)) ?_
  refine RH.gop rfl rfl rfl rfl rfl rfl rfl (eff_load rfl rfl ti25 rfl (.whole rfl rfl rfl rfl rfl rfl)) ?_
  refine RH.gop rfl rfl rfl rfl rfl rfl rfl (eff_load rfl rfl ti25 rfl (.whole rfl rfl rfl rfl rfl rfl)) ?_
  refine RH.gop rfl rfl rfl rfl rfl rfl rfl (eff_callT (plus20_ret (amount a 1073741823) (amount b 1073741823) (near_mono (amount_near (by omega)) (by omega)) (near_mono (amount_near (by omega)) (by omega))) co20 rfl rfl rfl rfl) ?_
  refine RH.gop rfl rfl rfl rfl rfl rfl rfl (eff_structEqlB (r := true) (ns := [_, _, _]) (ms := [_, _, _]) rfl rfl tq25 ti25 th25 rfl rfl rfl rfl (by simp)) ?_
  refine RH.op rfl rfl rfl (eff_pick (v := .t _) rfl rfl rfl rfl) ?_
  refine RH.op rfl rfl rfl (eff_move (v := .t _) rfl rfl rfl) ?_
  refine RH.gop rfl rfl rfl rfl rfl rfl rfl (eff_move (v := .t _) rfl rfl rfl) ?_
  refine RH.op rfl rfl rfl (eff_pick (v := .t _) rfl rfl rfl rfl) ?_
  refine RH.op rfl rfl rfl (eff_move (v := .t _) rfl rfl rfl) ?_
  refine RH.gop rfl rfl rfl rfl rfl rfl rfl (eff_load rfl rfl ti25 rfl (.whole rfl rfl rfl rfl rfl rfl)) ?_
  refine RH.gop rfl rfl rfl rfl rfl rfl rfl (eff_load rfl rfl ti25 rfl (.whole rfl rfl rfl rfl rfl rfl)) ?_
  refine RH.gop rfl rfl rfl rfl rfl rfl rfl (eff_structEqlB (r := true) (ns := [_, _, _]) (ms := [_, _, _]) rfl rfl tq25 ti25 th25 rfl rfl rfl rfl (by simp)) ?_
  refine RH.op rfl rfl rfl (eff_pick (v := .t _) rfl rfl rfl rfl) ?_
  refine RH.op rfl rfl rfl (eff_move (v := .t _) rfl rfl rfl) ?_
  refine RH.gop rfl rfl rfl rfl rfl rfl rfl (eff_callT (lives_ret) co11 rfl rfl rfl rfl) ?_
  refine RH.op rfl rfl rfl (eff_pick (v := .t _) rfl rfl rfl rfl) ?_
  refine RH.op rfl rfl rfl (eff_assign (v := .t _) rfl rfl rfl) ?_
  refine RH.nil ?_
  refine awp_ret ?_
  exact ⟨Or.inr rfl, [_], ⟨.tmp (.t _), trivial⟩, .refl _⟩

end Go.Tv.C24

end
section
open Go Go.Tv Go.Proofs
namespace Go.Tv.C24
set_option maxRecDepth 20000
set_option maxHeartbeats 2000000
set_option linter.unusedSimpArgs false
set_option linter.unusedVariables false
theorem run_vb (l : List Purse) (q : List Opn) (i : Nat) : VB (runB (made l) (q.take i)) := runB_vb _ (made_vb l)
theorem runAll_vb (l : List Purse) (q : List Opn) : VB (runB (made l) q) := runB_vb _ (made_vb l)
theorem run_total (l : List Purse) : ∀ (q : List Opn) {b : Bank}, VB b → total (runB b q) = total b
  | [], _, _ => rfl
  | o :: q, b, h => (run_total l q (doB_keeps h o).1).trans (doB_keeps h o).2.1

theorem matches_ret (l : List Purse) (hl : l.length ≤ 9223372036854775807) (hP : ∀ p, p ∈ l → P64 p) (q : List Opn) (hq : q.length ≤ 9223372036854775807) (hQ : ∀ o, o ∈ q → P64 o.p) : Ret Try.prog 5 [.sl (l.map encP) false, .sl (q.map encO) false] (.bool true) := by
  refine ret_of_awp Try.func5 rfl (Nat.le_of_ble_eq_true rfl) ?_
  refine awp_seq ?_
  refine awp_rw rfl ?_
  refine RW.op rfl rfl (eff_assign (v := .t _) rfl rfl rfl) ?_
  refine RW.nil ?_
  refine awp_seq ?_
  refine awp_seq ?_
  refine awp_rw rfl ?_
  refine RW.op rfl rfl (eff_move (v := .t _) rfl rfl rfl) ?_
  refine RW.op rfl rfl (eff_lenM rfl rfl te39 rfl) ?_
  refine RW.op rfl rfl (eff_iop rfl rfl rfl rfl rfl) ?_
  refine RW.nil ?_
  refine awp_cond rfl (fun h1 => ?_) (fun h1 => ?_)
  · try simp only [decide_eq_true_eq, decide_eq_false_iff_not, beq_iff_eq, bne_iff_ne, bne_eq_false_iff_eq, beq_eq_false_iff_ne, Bool.not_eq_true, Bool.not_eq_false, Bool.not_eq_true', Bool.not_eq_false', ne_eq] at h1
    refine awp_seq ?_
    refine awp_rw rfl ?_
    refine RW.op rfl rfl (eff_callT (lives_ret) co11 rfl rfl rfl rfl) ?_
    refine RW.op rfl rfl (eff_assign (v := .t _) rfl rfl rfl) ?_
    refine RW.nil ?_
    refine awp_ret ?_
    exact ⟨Or.inr rfl, [_], ⟨.tmp (.t _), trivial⟩, .refl _⟩
  · try simp only [decide_eq_true_eq, decide_eq_false_iff_not, beq_iff_eq, bne_iff_ne, bne_eq_false_iff_eq, beq_eq_false_iff_ne, Bool.not_eq_true, Bool.not_eq_false, Bool.not_eq_true', Bool.not_eq_false', ne_eq] at h1
    refine awp_skip ?_
    refine awp_seq ?_
    refine awp_rw rfl ?_
    refine RW.op rfl rfl (eff_move (v := .t _) rfl rfl rfl) ?_
    refine RW.op rfl rfl (eff_callT (made_ret l hl hP) co21 rfl rfl rfl rfl) ?_
    refine RW.new rfl rfl (eff_allocK (k := 5) (id := 5) rfl rfl tz27 rfl rfl) ?_
    refine RW.store rfl rfl (eff_storeW (v := .t _) (els := [_]) (els' := [_]) rfl rfl ti27 rfl rfl rfl rfl rfl rfl rfl rfl rfl) ?_
    refine RW.nil ?_
    refine awp_seq ?_
    refine awp_rw rfl ?_
    refine RW.op rfl rfl (eff_move (v := .t _) rfl rfl rfl) ?_
    refine RW.op rfl rfl (eff_callT (made_ret l hl hP) co21 rfl rfl rfl rfl) ?_
    refine RW.new rfl rfl (eff_allocK (k := 5) (id := 6) rfl rfl tz27 rfl rfl) ?_
    refine RW.store rfl rfl (eff_storeW (v := .t _) (els := [_]) (els' := [_]) rfl rfl ti27 rfl rfl rfl rfl rfl rfl rfl rfl rfl) ?_
    refine RW.nil ?_
    refine awp_seq ?_
    refine awp_seq ?_
    refine awp_rw rfl ?_
    refine RW.op rfl rfl (eff_assign (v := .t _) rfl rfl rfl) ?_
    refine RW.nil ?_
    refine awp_block ?_
    refine awp_loopW (fun m s => ∃ (i : Nat), (i ≤ q.length) ∧ m = q.length - i ∧ s = ⟨56, [(1, .t (.sl (q.map encO) false)), (5, .ptr 5 0 0 0), (6, .ptr 6 0 0 0), (7, .t (encI (i : Nat)))], [(5, some ⟨5, 27, 0, [.t (encB (runB (made l) (q.take i)))]⟩), (6, some ⟨5, 27, 0, [.t (encB (runB (made l) (q.take i)))]⟩)]⟩) (_) (⟨_, weak_keep (n := 56) (fr' := [(1, .t (.sl (q.map encO) false)), (5, .ptr 5 0 0 0), (6, .ptr 6 0 0 0), (7, .t (encI (0 : Nat)))]) (st' := [(5, some ⟨5, 27, 0, [.t (encB (runB (made l) (q.take 0)))]⟩), (6, some ⟨5, 27, 0, [.t (encB (runB (made l) (q.take 0)))]⟩)]) ⟨rfl, rfl, rfl, rfl, rfl, rfl, rfl, rfl, trivial⟩ ⟨(by first | rfl | (rw [runB_step (by omega)]; rfl)), okE_one rfl, (by first | rfl | (rw [runB_step (by omega)]; rfl)), okE_one rfl, trivial⟩, 0, (by omega), rfl, rfl⟩) ?_
    rintro m s ⟨i, hi, rfl, rfl⟩
    have hV := run_vb l q i
    refine awp_seq ?_
    refine awp_seq ?_
    refine awp_rw rfl ?_
    refine RW.op rfl rfl (eff_move (v := .t _) rfl rfl rfl) ?_
    refine RW.op rfl rfl (eff_move (v := .t _) rfl rfl rfl) ?_
    refine RW.op rfl rfl (eff_lenM rfl rfl te39 rfl) ?_
    refine RW.op rfl rfl (eff_iop rfl rfl rfl rfl rfl) ?_
    refine RW.nil ?_
    refine awp_cond rfl (fun h2 => ?_) (fun h2 => ?_)
    · try simp only [decide_eq_true_eq, decide_eq_false_iff_not, beq_iff_eq, bne_iff_ne, bne_eq_false_iff_eq, beq_eq_false_iff_ne, Bool.not_eq_true, Bool.not_eq_false, Bool.not_eq_true', Bool.not_eq_false', ne_eq] at h2
      refine awp_skip ?_
      refine awp_seq ?_
      refine awp_block ?_
      refine awp_seq ?_
      refine awp_rd [(some 27, []), (some 28, []), (some 29, []), (some 30, []), (some 31, []), (some 32, []), (some 26, []), (some 33, []), (some 34, []), (some 8, [8]), (none, [8]), (some 9, [])] [[], [], [], [1, 2], [1, 2, 3], [0, 1, 2, 3, 4], [0, 1, 2, 3, 4, 5], [0, 1, 2, 3, 4, 5, 6], [0, 1, 2, 3, 4, 5, 6], [], [0, 1, 2, 3, 4, 5, 6, 7, 9], [0, 1, 2, 3, 4, 5, 6, 7, 8, 9, 10]] tm rfl rfl rfl rfl ?_
      refine RD.op rfl rfl rfl (eff_load rfl rfl ti27 rfl (.whole rfl rfl rfl rfl rfl rfl)) ?_
      refine RD.op rfl rfl rfl (eff_move (v := .t _) rfl rfl rfl) ?_
      refine RD.op rfl rfl rfl (eff_move (v := .t _) rfl rfl rfl) ?_
      refine RD.op rfl rfl rfl (eff_indexM rfl rfl te39 rfl rfl rfl (by first | assumption | exact List.getElem?_eq_getElem (by omega)) rfl (by decide)) ?_
      refine RD.op rfl rfl rfl (eff_loadW rfl rfl ti46 rfl rfl rfl) ?_
      refine RD.op rfl rfl rfl (eff_callT (do_ret (runB (made l) (q.take i)) (q[i]'(by omega)) hV (hQ _ (List.getElem_mem _))) co22 rfl rfl rfl rfl) ?_
      refine RD.op rfl rfl rfl (eff_move (v := .t _) rfl rfl rfl) ?_
      refine RD.op rfl rfl rfl (eff_extract rfl rfl rfl rfl) ?_
      refine RD.op rfl rfl rfl (eff_extract rfl rfl rfl rfl) ?_
      refine RD.new rfl rfl rfl (eff_allocK (k := 5) (id := 8) rfl rfl tz27 rfl rfl) ?_
      refine RD.store rfl rfl rfl (eff_storeW (v := .t _) (els := [_]) (els' := [_]) rfl rfl ti27 rfl rfl rfl rfl rfl rfl rfl rfl rfl) ?_
      refine RD.op rfl rfl rfl (eff_assign (v := .t _) rfl rfl rfl) ?_
      refine RD.nil ?_
      refine awp_seq ?_
      refine awp_rd [(some 36, []), (some 37, []), (some 38, []), (some 39, []), (some 40, []), (some 41, []), (some 35, []), (some 42, []), (some 43, []), (some 10, [10]), (none, [10]), (some 11, [])] [[], [], [], [1, 2], [1, 2, 3], [0, 1, 2, 3, 4], [0, 1, 2, 3, 4, 5], [0, 1, 2, 3, 4, 5, 6], [0, 1, 2, 3, 4, 5, 6], [], [0, 1, 2, 3, 4, 5, 6, 7, 9], [0, 1, 2, 3, 4, 5, 6, 7, 8, 9, 10]] tm rfl rfl rfl rfl ?_
      refine RD.op rfl rfl rfl (eff_load rfl rfl ti27 rfl (.whole rfl rfl rfl rfl rfl rfl)) ?_
      refine RD.op rfl rfl rfl (eff_move (v := .t _) rfl rfl rfl) ?_
      refine RD.op rfl rfl rfl (eff_move (v := .t _) rfl rfl rfl) ?_
      refine RD.op rfl rfl rfl (eff_indexM rfl rfl te39 rfl rfl rfl (by first | assumption | exact List.getElem?_eq_getElem (by omega)) rfl (by decide)) ?_
      refine RD.op rfl rfl rfl (eff_loadW rfl rfl ti46 rfl rfl rfl) ?_
      refine RD.op rfl rfl rfl (eff_callT (wanted_ret (runB (made l) (q.take i)) (q[i]'(by omega)) hV (hQ _ (List.getElem_mem _))) co23 rfl rfl rfl rfl) ?_
      refine RD.op rfl rfl rfl (eff_move (v := .t _) rfl rfl rfl) ?_
      refine RD.op rfl rfl rfl (eff_extract rfl rfl rfl rfl) ?_
      refine RD.op rfl rfl rfl (eff_extract rfl rfl rfl rfl) ?_
      refine RD.new rfl rfl rfl (eff_allocK (k := 5) (id := 10) rfl rfl tz27 rfl rfl) ?_
      refine RD.store rfl rfl rfl (eff_storeW (v := .t _) (els := [_]) (els' := [_]) rfl rfl ti27 rfl rfl rfl rfl rfl rfl rfl rfl rfl) ?_
      refine RD.op rfl rfl rfl (eff_assign (v := .t _) rfl rfl rfl) ?_
      refine RD.nil ?_
      refine awp_seq ?_
      refine awp_seq ?_
      refine awp_rw rfl ?_
      have hT := (doB_keeps hV (q[i]'(by omega))).1
      refine RW.op rfl rfl (eff_move (v := .t _) rfl rfl rfl) ?_
      refine RW.op rfl rfl (eff_move (v := .t _) rfl rfl rfl) ?_
      refine RW.op rfl rfl (eff_iop (r := .bool false) rfl rfl rfl rfl (by exact iop_neq_f (by rfl))) ?_
      refine RW.op rfl rfl (eff_move (v := .t _) rfl rfl rfl) ?_
      refine RW.gop rfl rfl rfl rfl rfl rfl (eff_load rfl rfl ti27 rfl (.whole rfl rfl rfl rfl rfl rfl)) ?_
      refine RW.gop rfl rfl rfl rfl rfl rfl (eff_load rfl rfl ti27 rfl (.whole rfl rfl rfl rfl rfl rfl)) ?_
      refine RW.gop rfl rfl rfl rfl rfl rfl (eff_callT ((by have h := same_ret (doB (runB (made l) (q.take i)) (q[i]'(by omega))).1 (doB (runB (made l) (q.take i)) (q[i]'(by omega))).1 hT.bok; rw [decide_eq_true rfl] at h; exact h)) co24 rfl rfl rfl rfl) ?_
      refine RW.gop rfl rfl rfl rfl rfl rfl (eff_unop rfl rfl rfl rfl) ?_
      refine RW.op rfl rfl (eff_pick (v := .t _) rfl rfl rfl rfl) ?_
      refine RW.nil ?_
      refine awp_cond rfl (fun h => nomatch h) (fun _ => ?_)
      refine awp_skip ?_
      refine awp_rd [(some 53, []), (some 54, []), (none, [5]), (none, [6])] [[], [], [0], [0, 1, 2]] tm rfl rfl rfl rfl ?_
      refine RD.op rfl rfl rfl (eff_load rfl rfl ti27 rfl (.whole rfl rfl rfl rfl rfl rfl)) ?_
      refine RD.op rfl rfl rfl (eff_load rfl rfl ti27 rfl (.whole rfl rfl rfl rfl rfl rfl)) ?_
      refine RD.store rfl rfl rfl (eff_storeW (v := .t _) (els := [_]) (els' := [_]) rfl rfl ti27 rfl rfl rfl rfl rfl rfl rfl rfl rfl) ?_
      refine RD.store rfl rfl rfl (eff_storeW (v := .t _) (els := [_]) (els' := [_]) rfl rfl ti27 rfl rfl rfl rfl rfl rfl rfl rfl rfl) ?_
      refine RD.nil ?_
      refine awp_rw rfl ?_
      refine RW.op rfl rfl (eff_move (v := .t _) rfl rfl rfl) ?_
      refine RW.op rfl rfl (eff_iop rfl rfl rfl rfl (iadd (by omega))) ?_
      refine RW.op rfl rfl (eff_assign (v := .t _) rfl rfl rfl) ?_
      refine RW.nil ?_
      refine ⟨_, ?_, _, weak_keep (n := 56) (fr' := [(1, .t (.sl (q.map encO) false)), (5, .ptr 5 0 0 0), (6, .ptr 6 0 0 0), (7, .t (encI ((i + 1) : Nat)))]) (st' := [(5, some ⟨5, 27, 0, [.t (encB (runB (made l) (q.take (i + 1))))]⟩), (6, some ⟨5, 27, 0, [.t (encB (runB (made l) (q.take (i + 1))))]⟩)]) ⟨rfl, rfl, rfl, rfl, rfl, rfl, rfl, rfl, trivial⟩ ⟨(by first | rfl | (rw [runB_step (by omega)]; rfl)), okE_one rfl, (by first | rfl | (rw [runB_step (by omega)]; rfl)), okE_one rfl, trivial⟩, i + 1, (by omega), rfl, rfl⟩
      omega
    · try simp only [decide_eq_true_eq, decide_eq_false_iff_not, beq_iff_eq, bne_iff_ne, bne_eq_false_iff_eq, beq_eq_false_iff_ne, Bool.not_eq_true, Bool.not_eq_false, Bool.not_eq_true', Bool.not_eq_false', ne_eq] at h2
      refine awp_exit ?_
      refine awp_seq ?_
      refine awp_rw rfl ?_
      refine RW.op rfl rfl (eff_callT (lives_ret) co11 rfl rfl rfl rfl) ?_
      refine RW.op rfl rfl (eff_assign (v := .t _) rfl rfl rfl) ?_
      refine RW.nil ?_
      refine awp_ret ?_
      exact ⟨Or.inr rfl, [_], ⟨.tmp (.t _), trivial⟩, .refl _⟩

end Go.Tv.C24

end
section
open Go Go.Tv Go.Proofs
namespace Go.Tv.C24
set_option maxRecDepth 20000
set_option maxHeartbeats 2000000
set_option linter.unusedSimpArgs false
set_option linter.unusedVariables false
theorem apart_get {l : List Lea} (h : apart l) {i k : Nat} (hi : i < l.length) (hk : k < i) : ¬ confl l[i] (l[k]'(by omega)) := List.pairwise_iff_getElem.1 h k i (by omega) hi hk
theorem no_cover {x y : Lea} (hx : formed x) (hy : formed y) (hd : x.dev = y.dev) (h : ¬ confl x y) : imin x.un y.un ≤ imax x.fr y.fr := by
  unfold formed at hx hy
  unfold confl at h
  unfold imin imax
  split <;> split <;> omega

theorem conserves_ret (l : List Purse) (hl : l.length ≤ 9223372036854775807) (hP : ∀ p, p ∈ l → P64 p) (q : List Opn) (hq : q.length ≤ 9223372036854775807) (hQ : ∀ o, o ∈ q → P64 o.p) : Ret Try.prog 6 [.sl (l.map encP) false, .sl (q.map encO) false] (.bool true) := by
  refine ret_of_awp Try.func6 rfl (Nat.le_of_ble_eq_true rfl) ?_
  refine awp_seq ?_
  refine awp_rw rfl ?_
  refine RW.op rfl rfl (eff_assign (v := .t _) rfl rfl rfl) ?_
  refine RW.nil ?_
  refine awp_seq ?_
  refine awp_seq ?_
  refine awp_rw rfl ?_
  refine RW.op rfl rfl (eff_move (v := .t _) rfl rfl rfl) ?_
  refine RW.op rfl rfl (eff_lenM rfl rfl te39 rfl) ?_
  refine RW.op rfl rfl (eff_iop rfl rfl rfl rfl rfl) ?_
  refine RW.nil ?_
  refine awp_cond rfl (fun h1 => ?_) (fun h1 => ?_)
  · try simp only [decide_eq_true_eq, decide_eq_false_iff_not, beq_iff_eq, bne_iff_ne, bne_eq_false_iff_eq, beq_eq_false_iff_ne, Bool.not_eq_true, Bool.not_eq_false, Bool.not_eq_true', Bool.not_eq_false', ne_eq] at h1
    refine awp_seq ?_
    refine awp_rw rfl ?_
    refine RW.op rfl rfl (eff_callT (lives_ret) co11 rfl rfl rfl rfl) ?_
    refine RW.op rfl rfl (eff_assign (v := .t _) rfl rfl rfl) ?_
    refine RW.nil ?_
    refine awp_ret ?_
    exact ⟨Or.inr rfl, [_], ⟨.tmp (.t _), trivial⟩, .refl _⟩
  · try simp only [decide_eq_true_eq, decide_eq_false_iff_not, beq_iff_eq, bne_iff_ne, bne_eq_false_iff_eq, beq_eq_false_iff_ne, Bool.not_eq_true, Bool.not_eq_false, Bool.not_eq_true', Bool.not_eq_false', ne_eq] at h1
    refine awp_skip ?_
    refine awp_seq ?_
    refine awp_rw rfl ?_
    refine RW.op rfl rfl (eff_move (v := .t _) rfl rfl rfl) ?_
    refine RW.op rfl rfl (eff_callT (made_ret l hl hP) co21 rfl rfl rfl rfl) ?_
    refine RW.new rfl rfl (eff_allocK (k := 5) (id := 5) rfl rfl tz27 rfl rfl) ?_
    refine RW.store rfl rfl (eff_storeW (v := .t _) (els := [_]) (els' := [_]) rfl rfl ti27 rfl rfl rfl rfl rfl rfl rfl rfl rfl) ?_
    refine RW.nil ?_
    refine awp_seq ?_
    refine awp_rw rfl ?_
    refine RW.op rfl rfl (eff_load rfl rfl ti27 rfl (.whole rfl rfl rfl rfl rfl rfl)) ?_
    refine RW.op rfl rfl (eff_callT (total_ret (made l) (made_vb l).bok (made_vb l).nb) co14 rfl rfl rfl rfl) ?_
    refine RW.new rfl rfl (eff_allocK (k := 3) (id := 6) rfl rfl tz25 rfl rfl) ?_
    refine RW.store rfl rfl (eff_storeW (v := .t _) (els := [_]) (els' := [_]) rfl rfl ti25 rfl rfl rfl rfl rfl rfl rfl rfl rfl) ?_
    refine RW.nil ?_
    refine awp_seq ?_
    refine awp_seq ?_
    refine awp_rw rfl ?_
    refine RW.op rfl rfl (eff_assign (v := .t _) rfl rfl rfl) ?_
    refine RW.nil ?_
    refine awp_block ?_
    refine awp_loopW (fun m s => ∃ (i : Nat), (i ≤ q.length) ∧ m = q.length - i ∧ s = ⟨101, [(1, .t (.sl (q.map encO) false)), (5, .ptr 5 0 0 0), (6, .ptr 6 0 0 0), (7, .t (encI (i : Nat)))], [(5, some ⟨5, 27, 0, [.t (encB (runB (made l) (q.take i)))]⟩), (6, some ⟨3, 25, 0, [.t (encP (total (made l)))]⟩)]⟩) (_) (⟨_, weak_keep (n := 101) (fr' := [(1, .t (.sl (q.map encO) false)), (5, .ptr 5 0 0 0), (6, .ptr 6 0 0 0), (7, .t (encI (0 : Nat)))]) (st' := [(5, some ⟨5, 27, 0, [.t (encB (runB (made l) (q.take 0)))]⟩), (6, some ⟨3, 25, 0, [.t (encP (total (made l)))]⟩)]) ⟨rfl, rfl, rfl, rfl, rfl, rfl, rfl, rfl, trivial⟩ ⟨(by first | rfl | (rw [runB_step (by omega)]; rfl)), okE_one rfl, rfl, okE_one rfl, trivial⟩, 0, (by omega), rfl, rfl⟩) ?_
    rintro m s ⟨i, hi, rfl, rfl⟩
    have hV := run_vb l q i
    refine awp_seq ?_
    refine awp_seq ?_
    refine awp_rw rfl ?_
    refine RW.op rfl rfl (eff_move (v := .t _) rfl rfl rfl) ?_
    refine RW.op rfl rfl (eff_move (v := .t _) rfl rfl rfl) ?_
    refine RW.op rfl rfl (eff_lenM rfl rfl te39 rfl) ?_
    refine RW.op rfl rfl (eff_iop rfl rfl rfl rfl rfl) ?_
    refine RW.nil ?_
    refine awp_cond rfl (fun h2 => ?_) (fun h2 => ?_)
    · try simp only [decide_eq_true_eq, decide_eq_false_iff_not, beq_iff_eq, bne_iff_ne, bne_eq_false_iff_eq, beq_eq_false_iff_ne, Bool.not_eq_true, Bool.not_eq_false, Bool.not_eq_true', Bool.not_eq_false', ne_eq] at h2
      refine awp_skip ?_
      refine awp_seq ?_
      refine awp_block ?_
      refine awp_seq ?_
      refine awp_rd [(some 29, []), (some 30, []), (some 31, []), (some 32, []), (some 33, []), (some 34, []), (some 28, []), (some 35, []), (some 36, []), (some 8, [8]), (none, [8]), (some 9, [])] [[], [], [], [1, 2], [1, 2, 3], [0, 1, 2, 3, 4], [0, 1, 2, 3, 4, 5], [0, 1, 2, 3, 4, 5, 6], [0, 1, 2, 3, 4, 5, 6], [], [0, 1, 2, 3, 4, 5, 6, 7, 9], [0, 1, 2, 3, 4, 5, 6, 7, 8, 9, 10]] tm rfl rfl rfl rfl ?_
      refine RD.op rfl rfl rfl (eff_load rfl rfl ti27 rfl (.whole rfl rfl rfl rfl rfl rfl)) ?_
      refine RD.op rfl rfl rfl (eff_move (v := .t _) rfl rfl rfl) ?_
      refine RD.op rfl rfl rfl (eff_move (v := .t _) rfl rfl rfl) ?_
      refine RD.op rfl rfl rfl (eff_indexM rfl rfl te39 rfl rfl rfl (by first | assumption | exact List.getElem?_eq_getElem (by omega)) rfl (by decide)) ?_
      refine RD.op rfl rfl rfl (eff_loadW rfl rfl ti46 rfl rfl rfl) ?_
      refine RD.op rfl rfl rfl (eff_callT (do_ret (runB (made l) (q.take i)) (q[i]'(by omega)) hV (hQ _ (List.getElem_mem _))) co22 rfl rfl rfl rfl) ?_
      refine RD.op rfl rfl rfl (eff_move (v := .t _) rfl rfl rfl) ?_
      refine RD.op rfl rfl rfl (eff_extract rfl rfl rfl rfl) ?_
      refine RD.op rfl rfl rfl (eff_extract rfl rfl rfl rfl) ?_
      refine RD.new rfl rfl rfl (eff_allocK (k := 5) (id := 8) rfl rfl tz27 rfl rfl) ?_
      refine RD.store rfl rfl rfl (eff_storeW (v := .t _) (els := [_]) (els' := [_]) rfl rfl ti27 rfl rfl rfl rfl rfl rfl rfl rfl rfl) ?_
      refine RD.op rfl rfl rfl (eff_assign (v := .t _) rfl rfl rfl) ?_
      refine RD.nil ?_
      refine awp_seq ?_
      refine awp_seq ?_
      obtain ⟨hT, htt, hcc⟩ := doB_keeps hV (q[i]'(by omega))
      have htot : total (doB (runB (made l) (q.take i)) (q[i]'(by omega))).1 = total (made l) := htt.trans (run_total l _ (made_vb l))
      refine awp_rd [(some 37, []), (some 38, []), (some 39, []), (some 40, []), (some 41, []), (some 42, []), (some 43, []), (some 44, []), (some 45, []), (some 46, []), (some 47, []), (some 48, []), (some 49, []), (some 50, []), (some 51, []), (some 52, []), (some 53, []), (some 54, []), (some 55, []), (some 56, []), (some 57, []), (some 58, [])] [[], [0], [], [0, 1, 2], [0, 1, 2, 3], [0, 1, 2, 3, 4], [0, 1, 2, 3, 4, 5], [0, 1, 2, 3, 4, 5, 6], [0, 1, 2, 3, 4, 5, 6, 7], [0, 1, 2, 3, 4, 5, 6, 7, 8], [0, 1, 2, 3, 4, 5, 6, 7, 8, 9], [0, 1, 2, 3, 4, 5, 6, 7, 8, 9, 10], [0, 1, 2, 3, 4, 5, 6, 7, 8, 9, 10, 11], [0, 1, 2, 3, 4, 5, 6, 7, 8, 9, 10, 11, 12], [0, 1, 2, 3, 4, 5, 6, 7, 8, 9, 10, 11, 12, 13], [0, 1, 2, 3, 4, 5, 6, 7, 8, 9, 10, 11, 12, 13, 14], [0, 1, 2, 3, 4, 5, 6, 7, 8, 9, 10, 11, 12, 13, 14, 15], [0, 1, 2, 3, 4, 5, 6, 7, 8, 9, 10, 11, 12, 13, 14], [0, 1, 2, 3, 4, 5, 6, 7, 8, 9, 10, 11, 12, 13, 14, 17], [0, 1, 2, 3, 4, 5, 6, 7, 8, 9, 10, 11, 12, 13, 14, 15, 16, 17, 18], [0, 1, 2, 3, 4, 5, 6, 7, 8, 9, 10, 11, 12, 13, 14, 15, 16, 17, 18, 19], [0, 1, 2, 3, 4, 5, 6, 7, 8, 9, 10, 11, 12, 13, 14, 15, 16, 17, 18, 19, 20]] tm rfl rfl rfl rfl ?_
      refine RD.op rfl rfl rfl (eff_load rfl rfl ti27 rfl (.whole rfl rfl rfl rfl rfl rfl)) ?_
      refine RD.op rfl rfl rfl (eff_callT ((by have h := total_ret (doB (runB (made l) (q.take i)) (q[i]'(by omega))).1 hT.bok hT.nb; rw [htot] at h; exact h)) co14 rfl rfl rfl rfl) ?_
      refine RD.op rfl rfl rfl (eff_load rfl rfl ti25 rfl (.whole rfl rfl rfl rfl rfl rfl)) ?_
      refine RD.op rfl rfl rfl (eff_structNeqB (r := false) (ns := [_, _, _]) (ms := [_, _, _]) rfl rfl tq25 ti25 th25 rfl rfl rfl rfl (by simp)) ?_
      refine RD.op rfl rfl rfl (eff_move (v := .t _) rfl rfl rfl) ?_
      refine RD.gop rfl rfl rfl rfl rfl rfl rfl (eff_load rfl rfl ti27 rfl (.whole rfl rfl rfl rfl rfl rfl)) ?_
      refine RD.gop rfl rfl rfl rfl rfl rfl rfl (eff_callT ((by have h := chk12_ret (doB (runB (made l) (q.take i)) (q[i]'(by omega))).1 hT.bok; rw [chk_ok.2 hT] at h; exact h)) co12 rfl rfl rfl rfl) ?_
      refine RD.gop rfl rfl rfl rfl rfl rfl rfl (eff_iop (r := .bool false) rfl rfl rfl rfl (by exact iop_neq_f (by rfl))) ?_
      refine RD.op rfl rfl rfl (eff_pick (v := .t _) rfl rfl rfl rfl) ?_
      refine RD.op rfl rfl rfl (eff_move (v := .t _) rfl rfl rfl) ?_
      refine RD.gop rfl rfl rfl rfl rfl rfl rfl (eff_load rfl rfl ti27 rfl (.whole rfl rfl rfl rfl rfl rfl)) ?_
      refine RD.gop rfl rfl rfl rfl rfl rfl rfl (eff_callT ((by have h := chk13_ret (doB (runB (made l) (q.take i)) (q[i]'(by omega))).1 hT.bok; rw [chk_ok.2 hT] at h; exact h)) co13 rfl rfl rfl rfl) ?_
      refine RD.gop rfl rfl rfl rfl rfl rfl rfl (eff_iop (r := .bool false) rfl rfl rfl rfl (by exact iop_neq_f (by rfl))) ?_
      refine RD.op rfl rfl rfl (eff_pick (v := .t _) rfl rfl rfl rfl) ?_
      refine RD.op rfl rfl rfl (eff_move (v := .t _) rfl rfl rfl) ?_
      refine RD.gop rfl rfl rfl rfl rfl rfl rfl (eff_fieldAddr rfl rfl tf27_2 (by decide) rfl rfl rfl (Nat.le_of_ble_eq_true rfl)) ?_
      refine RD.gop rfl rfl rfl rfl rfl rfl rfl (eff_loadS (ys := [_, _, _]) rfl rfl ti25 rfl rfl rfl rfl rfl rfl) ?_
      refine RD.gop rfl rfl rfl rfl rfl rfl rfl (eff_fieldAddr rfl rfl tf27_2 (by decide) rfl rfl rfl (Nat.le_of_ble_eq_true rfl)) ?_
      refine RD.gop rfl rfl rfl rfl rfl rfl rfl (eff_loadS (ys := [_, _, _]) rfl rfl ti25 rfl rfl rfl rfl rfl rfl) ?_
      refine RD.gop rfl rfl rfl rfl rfl rfl rfl (eff_callT ((by have h := less_ret (runB (made l) (q.take i)).sp (doB (runB (made l) (q.take i)) (q[i]'(by omega))).1.sp; rw [decide_eq_true hcc] at h; exact h)) co25 rfl rfl rfl rfl) ?_
      refine RD.gop rfl rfl rfl rfl rfl rfl rfl (eff_unop rfl rfl rfl rfl) ?_
      refine RD.op rfl rfl rfl (eff_pick (v := .t _) rfl rfl rfl rfl) ?_
      refine RD.nil ?_
      refine awp_cond rfl (fun h => nomatch h) (fun _ => ?_)
      refine awp_skip ?_
      refine awp_rw rfl ?_
      refine RW.op rfl rfl (eff_load rfl rfl ti27 rfl (.whole rfl rfl rfl rfl rfl rfl)) ?_
      refine RW.store rfl rfl (eff_storeW (v := .t _) (els := [_]) (els' := [_]) rfl rfl ti27 rfl rfl rfl rfl rfl rfl rfl rfl rfl) ?_
      refine RW.nil ?_
      refine awp_rw rfl ?_
      refine RW.op rfl rfl (eff_move (v := .t _) rfl rfl rfl) ?_
      refine RW.op rfl rfl (eff_iop rfl rfl rfl rfl (iadd (by omega))) ?_
      refine RW.op rfl rfl (eff_assign (v := .t _) rfl rfl rfl) ?_
      refine RW.nil ?_
      refine ⟨_, ?_, _, weak_keep (n := 101) (fr' := [(1, .t (.sl (q.map encO) false)), (5, .ptr 5 0 0 0), (6, .ptr 6 0 0 0), (7, .t (encI ((i + 1) : Nat)))]) (st' := [(5, some ⟨5, 27, 0, [.t (encB (runB (made l) (q.take (i + 1))))]⟩), (6, some ⟨3, 25, 0, [.t (encP (total (made l)))]⟩)]) ⟨rfl, rfl, rfl, rfl, rfl, rfl, rfl, rfl, trivial⟩ ⟨(by first | rfl | (rw [runB_step (by omega)]; rfl)), okE_one rfl, rfl, okE_one rfl, trivial⟩, i + 1, (by omega), rfl, rfl⟩
      omega
    · try simp only [decide_eq_true_eq, decide_eq_false_iff_not, beq_iff_eq, bne_iff_ne, bne_eq_false_iff_eq, beq_eq_false_iff_ne, Bool.not_eq_true, Bool.not_eq_false, Bool.not_eq_true', Bool.not_eq_false', ne_eq] at h2
      refine awp_exit ?_
      refine awp_seq ?_
      refine awp_seq ?_
      refine awp_rw rfl ?_
      obtain rfl : i = q.length := by omega
      rw [List.take_length]
      have hVB := runAll_vb l q
      have hL := hVB.ll
      refine RW.op rfl rfl (eff_assign (v := .t _) rfl rfl rfl) ?_
      refine RW.nil ?_
      refine awp_block ?_
      refine awp_loopW (fun m s => ∃ (j : Nat), (j ≤ (runB (made l) q).ls.length) ∧ m = (runB (made l) q).ls.length - j ∧ s = ⟨101, [(5, .ptr 5 0 0 0), (10, .t (encI (j : Nat)))], [(5, some ⟨5, 27, 0, [.t (encB (runB (made l) q))]⟩)]⟩) (_) (⟨_, weak_keep (n := 101) (fr' := [(5, .ptr 5 0 0 0), (10, .t (encI (0 : Nat)))]) (st' := [(5, some ⟨5, 27, 0, [.t (encB (runB (made l) q))]⟩)]) ⟨rfl, rfl, rfl, rfl, trivial⟩ ⟨rfl, okE_one rfl, trivial⟩, 0, (by omega), rfl, rfl⟩) ?_
      rintro m s ⟨j, hj, rfl, rfl⟩
      refine awp_seq ?_
      refine awp_seq ?_
      refine awp_rw rfl ?_
      refine RW.op rfl rfl (eff_move (v := .t _) rfl rfl rfl) ?_
      refine RW.op rfl rfl (eff_fieldAddr rfl rfl tf27_1 (by decide) rfl rfl rfl (Nat.le_of_ble_eq_true rfl)) ?_
      refine RW.op rfl rfl (eff_load (y := .t _) rfl rfl ti23 rfl (.one rfl rfl rfl rfl)) ?_
      refine RW.op rfl rfl (eff_lenM rfl rfl te23 rfl) ?_
      refine RW.op rfl rfl (eff_iop rfl rfl rfl rfl rfl) ?_
      refine RW.nil ?_
      refine awp_cond rfl (fun h3 => ?_) (fun h3 => ?_)
      · try simp only [decide_eq_true_eq, decide_eq_false_iff_not, beq_iff_eq, bne_iff_ne, bne_eq_false_iff_eq, beq_eq_false_iff_ne, Bool.not_eq_true, Bool.not_eq_false, Bool.not_eq_true', Bool.not_eq_false', ne_eq] at h3
        refine awp_skip ?_
        refine awp_seq ?_
        refine awp_block ?_
        refine awp_seq ?_
        refine awp_rw rfl ?_
        refine RW.op rfl rfl (eff_assign (v := .t _) rfl rfl rfl) ?_
        refine RW.nil ?_
        refine awp_block ?_
        refine awp_loopW (fun m s => ∃ (k : Nat), (k ≤ j) ∧ m = j - k ∧ s = ⟨101, [(5, .ptr 5 0 0 0), (10, .t (encI (j : Nat))), (11, .t (encI (k : Nat)))], [(5, some ⟨5, 27, 0, [.t (encB (runB (made l) q))]⟩)]⟩) (_) (⟨_, weak_keep (n := 101) (fr' := [(5, .ptr 5 0 0 0), (10, .t (encI (j : Nat))), (11, .t (encI (0 : Nat)))]) (st' := [(5, some ⟨5, 27, 0, [.t (encB (runB (made l) q))]⟩)]) ⟨rfl, rfl, rfl, rfl, rfl, rfl, trivial⟩ ⟨rfl, okE_one rfl, trivial⟩, 0, (by omega), rfl, rfl⟩) ?_
        rintro m s ⟨k, hk, rfl, rfl⟩
        refine awp_seq ?_
        refine awp_seq ?_
        refine awp_rw rfl ?_
        refine RW.op rfl rfl (eff_move (v := .t _) rfl rfl rfl) ?_
        refine RW.op rfl rfl (eff_move (v := .t _) rfl rfl rfl) ?_
        refine RW.op rfl rfl (eff_iop rfl rfl rfl rfl rfl) ?_
        refine RW.nil ?_
        refine awp_cond rfl (fun h4 => ?_) (fun h4 => ?_)
        · try simp only [decide_eq_true_eq, decide_eq_false_iff_not, beq_iff_eq, bne_iff_ne, bne_eq_false_iff_eq, beq_eq_false_iff_ne, Bool.not_eq_true, Bool.not_eq_false, Bool.not_eq_true', Bool.not_eq_false', ne_eq] at h4
          refine awp_skip ?_
          refine awp_seq ?_
          refine awp_block ?_
          refine awp_seq ?_
          have hjl : j < (runB (made l) q).ls.length := by omega
          refine awp_rd [(some 72, []), (some 73, []), (some 74, []), (some 75, []), (some 76, []), (some 77, []), (some 78, []), (some 79, []), (some 80, []), (some 81, []), (some 12, [12]), (some 13, [13]), (none, [12]), (none, [13])] [[], [0], [], [0, 1, 2], [0, 1, 2, 3], [], [5], [], [5, 6, 7], [5, 6, 7, 8], [], [], [0, 1, 2, 3, 4, 10, 11], [0, 1, 2, 3, 4, 5, 6, 7, 8, 9, 10, 11, 12]] tm rfl rfl rfl rfl ?_
          refine RD.op rfl rfl rfl (eff_fieldAddr rfl rfl tf27_1 (by decide) rfl rfl rfl (Nat.le_of_ble_eq_true rfl)) ?_
          refine RD.op rfl rfl rfl (eff_load (y := .t _) rfl rfl ti23 rfl (.one rfl rfl rfl rfl)) ?_
          refine RD.op rfl rfl rfl (eff_move (v := .t _) rfl rfl rfl) ?_
          refine RD.op rfl rfl rfl (eff_indexM rfl rfl te23 rfl rfl rfl (by first | assumption | exact List.getElem?_eq_getElem (by omega)) rfl (by decide)) ?_
          refine RD.op rfl rfl rfl (eff_loadW rfl rfl ti44 rfl rfl rfl) ?_
          refine RD.op rfl rfl rfl (eff_fieldAddr rfl rfl tf27_1 (by decide) rfl rfl rfl (Nat.le_of_ble_eq_true rfl)) ?_
          refine RD.op rfl rfl rfl (eff_load (y := .t _) rfl rfl ti23 rfl (.one rfl rfl rfl rfl)) ?_
          refine RD.op rfl rfl rfl (eff_move (v := .t _) rfl rfl rfl) ?_
          refine RD.op rfl rfl rfl (eff_indexM rfl rfl te23 rfl rfl rfl (by first | assumption | exact List.getElem?_eq_getElem (by omega)) rfl (by decide)) ?_
          refine RD.op rfl rfl rfl (eff_loadW rfl rfl ti44 rfl rfl rfl) ?_
          refine RD.new rfl rfl rfl (eff_allocK (k := 8) (id := 12) rfl rfl tz44 rfl rfl) ?_
          refine RD.new rfl rfl rfl (eff_allocK (k := 8) (id := 13) rfl rfl tz44 rfl rfl) ?_
          refine RD.store rfl rfl rfl (eff_storeW (v := .t _) (els := [_]) (els' := [_]) rfl rfl ti44 rfl rfl rfl rfl rfl rfl rfl rfl rfl) ?_
          refine RD.store rfl rfl rfl (eff_storeW (v := .t _) (els := [_]) (els' := [_]) rfl rfl ti44 rfl rfl rfl rfl rfl rfl rfl rfl rfl) ?_
          refine RD.nil ?_
          refine awp_seq ?_
          refine awp_rw rfl ?_
          refine RW.op rfl rfl (eff_fieldAddr rfl rfl tf44_2 (by decide) rfl rfl rfl (Nat.le_of_ble_eq_true rfl)) ?_
          refine RW.op rfl rfl (eff_load (y := .t _) rfl rfl ti3 rfl (.one rfl rfl rfl rfl)) ?_
          refine RW.op rfl rfl (eff_fieldAddr rfl rfl tf44_2 (by decide) rfl rfl rfl (Nat.le_of_ble_eq_true rfl)) ?_
          refine RW.op rfl rfl (eff_load (y := .t _) rfl rfl ti3 rfl (.one rfl rfl rfl rfl)) ?_
          refine RW.op rfl rfl (eff_iop rfl rfl rfl rfl rfl) ?_
          refine RW.op rfl rfl (eff_move (v := .t _) rfl rfl rfl) ?_
          refine RW.split 87 rfl (fun h5 => ?_) (fun h5 => ?_)
          · try simp only [decide_eq_true_eq, decide_eq_false_iff_not, beq_iff_eq, bne_iff_ne, bne_eq_false_iff_eq, beq_eq_false_iff_ne, Bool.not_eq_true, Bool.not_eq_false, Bool.not_eq_true', Bool.not_eq_false', ne_eq] at h5
            refine RW.gop rfl rfl rfl rfl rfl rfl (eff_fieldAddr rfl rfl tf44_3 (by decide) rfl rfl rfl (Nat.le_of_ble_eq_true rfl)) ?_
            refine RW.gop rfl rfl rfl rfl rfl rfl (eff_load (y := .t _) rfl rfl ti3 rfl (.one rfl rfl rfl rfl)) ?_
            refine RW.gop rfl rfl rfl rfl rfl rfl (eff_fieldAddr rfl rfl tf44_3 (by decide) rfl rfl rfl (Nat.le_of_ble_eq_true rfl)) ?_
            refine RW.gop rfl rfl rfl rfl rfl rfl (eff_load (y := .t _) rfl rfl ti3 rfl (.one rfl rfl rfl rfl)) ?_
            refine RW.gop rfl rfl rfl rfl rfl rfl (eff_max rfl rfl rfl rfl) ?_
            refine RW.gop rfl rfl rfl rfl rfl rfl (eff_fieldAddr rfl rfl tf44_4 (by decide) rfl rfl rfl (Nat.le_of_ble_eq_true rfl)) ?_
            refine RW.gop rfl rfl rfl rfl rfl rfl (eff_load (y := .t _) rfl rfl ti3 rfl (.one rfl rfl rfl rfl)) ?_
            refine RW.gop rfl rfl rfl rfl rfl rfl (eff_fieldAddr rfl rfl tf44_4 (by decide) rfl rfl rfl (Nat.le_of_ble_eq_true rfl)) ?_
            refine RW.gop rfl rfl rfl rfl rfl rfl (eff_load (y := .t _) rfl rfl ti3 rfl (.one rfl rfl rfl rfl)) ?_
            refine RW.gop rfl rfl rfl rfl rfl rfl (eff_min rfl rfl rfl rfl) ?_
            refine RW.gop rfl rfl rfl rfl rfl rfl (eff_iop (r := .bool false) rfl rfl rfl rfl (by exact iop_lss_f (no_cover (hVB.rg.2.2.1 _ (List.getElem_mem _)) (hVB.rg.2.2.1 _ (List.getElem_mem _)) h5 (apart_get hVB.ap hjl (by omega))))) ?_
            refine RW.op rfl rfl (eff_pick (v := .t _) rfl rfl rfl rfl) ?_
            refine RW.nil ?_
            refine awp_cond rfl (fun h => nomatch h) (fun _ => ?_)
            refine awp_skip ?_
            refine awp_rw rfl ?_
            refine RW.op rfl rfl (eff_move (v := .t _) rfl rfl rfl) ?_
            refine RW.op rfl rfl (eff_iop rfl rfl rfl rfl (iadd (by omega))) ?_
            refine RW.op rfl rfl (eff_assign (v := .t _) rfl rfl rfl) ?_
            refine RW.nil ?_
            refine ⟨_, ?_, _, weak_keep (n := 101) (fr' := [(5, .ptr 5 0 0 0), (10, .t (encI (j : Nat))), (11, .t (encI ((k + 1) : Nat)))]) (st' := [(5, some ⟨5, 27, 0, [.t (encB (runB (made l) q))]⟩)]) ⟨rfl, rfl, rfl, rfl, rfl, rfl, trivial⟩ ⟨rfl, okE_one rfl, trivial⟩, k + 1, (by omega), rfl, rfl⟩
            omega
          · try simp only [decide_eq_true_eq, decide_eq_false_iff_not, beq_iff_eq, bne_iff_ne, bne_eq_false_iff_eq, beq_eq_false_iff_ne, Bool.not_eq_true, Bool.not_eq_false, Bool.not_eq_true', Bool.not_eq_false', ne_eq] at h5
            refine RW.gskip rfl rfl rfl rfl rfl (by decide) ?_
            refine RW.gskip rfl rfl rfl rfl rfl (by decide) ?_
            refine RW.gskip rfl rfl rfl rfl rfl (by decide) ?_
            refine RW.gskip rfl rfl rfl rfl rfl (by decide) ?_
            refine RW.gskip rfl rfl rfl rfl rfl (by decide) ?_
            refine RW.gskip rfl rfl rfl rfl rfl (by decide) ?_
            refine RW.gskip rfl rfl rfl rfl rfl (by decide) ?_
            refine RW.gskip rfl rfl rfl rfl rfl (by decide) ?_
            refine RW.gskip rfl rfl rfl rfl rfl (by decide) ?_
            refine RW.gskip rfl rfl rfl rfl rfl (by decide) ?_
            refine RW.gskip rfl rfl rfl rfl rfl (by decide) ?_
            refine RW.op rfl rfl (eff_pick (v := .t _) rfl rfl rfl rfl) ?_
            refine RW.nil ?_
            refine awp_cond rfl (fun h => nomatch h) (fun _ => ?_)
            refine awp_skip ?_
            refine awp_rw rfl ?_
            refine RW.op rfl rfl (eff_move (v := .t _) rfl rfl rfl) ?_
            refine RW.op rfl rfl (eff_iop rfl rfl rfl rfl (iadd (by omega))) ?_
            refine RW.op rfl rfl (eff_assign (v := .t _) rfl rfl rfl) ?_
            refine RW.nil ?_
            refine ⟨_, ?_, _, weak_keep (n := 101) (fr' := [(5, .ptr 5 0 0 0), (10, .t (encI (j : Nat))), (11, .t (encI ((k + 1) : Nat)))]) (st' := [(5, some ⟨5, 27, 0, [.t (encB (runB (made l) q))]⟩)]) ⟨rfl, rfl, rfl, rfl, rfl, rfl, trivial⟩ ⟨rfl, okE_one rfl, trivial⟩, k + 1, (by omega), rfl, rfl⟩
            omega
        · try simp only [decide_eq_true_eq, decide_eq_false_iff_not, beq_iff_eq, bne_iff_ne, bne_eq_false_iff_eq, beq_eq_false_iff_ne, Bool.not_eq_true, Bool.not_eq_false, Bool.not_eq_true', Bool.not_eq_false', ne_eq] at h4
          refine awp_exit ?_
          refine awp_rw rfl ?_
          refine RW.op rfl rfl (eff_move (v := .t _) rfl rfl rfl) ?_
          refine RW.op rfl rfl (eff_iop rfl rfl rfl rfl (iadd (by omega))) ?_
          refine RW.op rfl rfl (eff_assign (v := .t _) rfl rfl rfl) ?_
          refine RW.nil ?_
          refine ⟨_, ?_, _, weak_keep (n := 101) (fr' := [(5, .ptr 5 0 0 0), (10, .t (encI ((j + 1) : Nat)))]) (st' := [(5, some ⟨5, 27, 0, [.t (encB (runB (made l) q))]⟩)]) ⟨rfl, rfl, rfl, rfl, trivial⟩ ⟨rfl, okE_one rfl, trivial⟩, j + 1, (by omega), rfl, rfl⟩
          omega
      · try simp only [decide_eq_true_eq, decide_eq_false_iff_not, beq_iff_eq, bne_iff_ne, bne_eq_false_iff_eq, beq_eq_false_iff_ne, Bool.not_eq_true, Bool.not_eq_false, Bool.not_eq_true', Bool.not_eq_false', ne_eq] at h3
        refine awp_exit ?_
        refine awp_seq ?_
        refine awp_rw rfl ?_
        refine RW.op rfl rfl (eff_callT (lives_ret) co11 rfl rfl rfl rfl) ?_
        refine RW.op rfl rfl (eff_assign (v := .t _) rfl rfl rfl) ?_
        refine RW.nil ?_
        refine awp_ret ?_
        exact ⟨Or.inr rfl, [_], ⟨.tmp (.t _), trivial⟩, .refl _⟩

end Go.Tv.C24

end
