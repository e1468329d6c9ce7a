/- Part of the proof that the laws of this seat return true for every input. No condition. -/
import Derived.Test.YtheklenmejhdoaaGreatDoorT2
import Derived.Shelf.SlLaysM
import Derived.Shelf.Spec.SlicesGrow
set_option linter.unnecessarySimpa false
set_option linter.unusedVariables false
set_option linter.unusedSimpArgs false
section
namespace Go.Proofs
open Go.Shelf
def Tryz.sortRv_ren : Go.Shelf.Ren := ⟨fun | 6 => 50 | 15 => 66 | 14 => 70 | 28 => 85 | 29 => 86 | 20 => 90 | 21 => 91 | 22 => 92 | 23 => 93 | 24 => 94 | 25 => 95 | 26 => 96 | 27 => 97 | 46 => 106 | 47 => 101 | 48 => 102 | 49 => 107 | 50 => 108 | 57 => 118 | n => n, fun | 22 => 25 | 24 => 33 | 25 => 61 | 3 => 3 | 39 => 112 | 0 => 0 | 53 => 128 | 55 => 39 | 4 => 4 | 46 => 121 | 45 => 120 | 50 => 102 | 5 => 5 | 9 => 9 | 66 => 138 | 70 => 142 | 76 => 153 | 77 => 42 | n => n, fun | n => n⟩
theorem Tryz.sortRv : Go.Proofs.SlLaysF0.n6 Tryz.prog Tryz.sortRv_ren := {
  mixed := by kernel_rfl
  f6 := ⟨Tryz.f50.name, by decide, Tryz.func50.trans (congrArg some (by kernel_rfl))⟩
  f14 := ⟨Tryz.f70.name, by decide, Tryz.func70.trans (congrArg some (by kernel_rfl))⟩
  f15 := Tryz.func66.trans (congrArg some (by kernel_rfl))
  f20 := ⟨Tryz.f90.name, by decide, Tryz.func90.trans (congrArg some (by kernel_rfl))⟩
  f21 := ⟨Tryz.f91.name, by decide, Tryz.func91.trans (congrArg some (by kernel_rfl))⟩
  f22 := ⟨Tryz.f92.name, by decide, Tryz.func92.trans (congrArg some (by kernel_rfl))⟩
  f23 := ⟨Tryz.f93.name, by decide, Tryz.func93.trans (congrArg some (by kernel_rfl))⟩
  f24 := ⟨Tryz.f94.name, by decide, Tryz.func94.trans (congrArg some (by kernel_rfl))⟩
  f25 := ⟨Tryz.f95.name, by decide, Tryz.func95.trans (congrArg some (by kernel_rfl))⟩
  f26 := ⟨Tryz.f96.name, by decide, Tryz.func96.trans (congrArg some (by kernel_rfl))⟩
  f27 := ⟨Tryz.f97.name, by decide, Tryz.func97.trans (congrArg some (by kernel_rfl))⟩
  f28 := Tryz.func85.trans (congrArg some (by kernel_rfl))
  f29 := Tryz.func86.trans (congrArg some (by kernel_rfl))
  f46 := ⟨Tryz.f106.name, by decide, Tryz.func106.trans (congrArg some (by kernel_rfl))⟩
  f47 := Tryz.func101.trans (congrArg some (by kernel_rfl))
  f48 := Tryz.func102.trans (congrArg some (by kernel_rfl))
  f49 := ⟨Tryz.f107.name, by decide, Tryz.func107.trans (congrArg some (by kernel_rfl))⟩
  f50 := ⟨Tryz.f108.name, by decide, Tryz.func108.trans (congrArg some (by kernel_rfl))⟩
  f57 := ⟨Tryz.f118.name, by decide, Tryz.func118.trans (congrArg some (by kernel_rfl))⟩
  t0 := Tryz.underlying0
  a0 := Tryz.isAgg0
  z0 := Tryz.sizeOf0
  v0 := Tryz.zeroValue0
  t3 := Tryz.underlying3
  a3 := Tryz.isAgg3
  z3 := Tryz.sizeOf3
  v3 := Tryz.zeroValue3
  t4 := Tryz.underlying4
  a4 := Tryz.isAgg4
  z4 := Tryz.sizeOf4
  v4 := Tryz.zeroValue4
  t5 := Tryz.underlying5
  a5 := Tryz.isAgg5
  z5 := Tryz.sizeOf5
  v5 := Tryz.zeroValue5
  t9 := Tryz.underlying9
  a9 := Tryz.isAgg9
  z9 := Tryz.sizeOf9
  v9 := Tryz.zeroValue9
  t22 := Tryz.underlying25
  a22 := Tryz.isAgg25
  z22 := Tryz.sizeOf25
  v22 := Tryz.zeroValue25
  t25 := Tryz.underlying61
  a25 := Tryz.isAgg61
  z25 := Tryz.sizeOf61
  v25 := Tryz.zeroValue61
  t39 := Tryz.underlying112
  a39 := Tryz.isAgg112
  z39 := Tryz.sizeOf112
  v39 := Tryz.zeroValue112
  t45 := Tryz.underlying120
  a45 := Tryz.isAgg120
  z45 := Tryz.sizeOf120
  v45 := Tryz.zeroValue120
  t46 := Tryz.underlying121
  a46 := Tryz.isAgg121
  z46 := Tryz.sizeOf121
  v46 := Tryz.zeroValue121
  t50 := Tryz.underlying102
  a50 := Tryz.isAgg102
  z50 := Tryz.sizeOf102
  v50 := Tryz.zeroValue102
  t53 := Tryz.underlying128
  a53 := Tryz.isAgg128
  z53 := Tryz.sizeOf128
  v53 := Tryz.zeroValue128
  t55 := Tryz.underlying39
  a55 := Tryz.isAgg39
  z55 := Tryz.sizeOf39
  v55 := Tryz.zeroValue39
  t66 := Tryz.underlying138
  a66 := Tryz.isAgg138
  z66 := Tryz.sizeOf138
  v66 := Tryz.zeroValue138
  t70 := Tryz.underlying142
  a70 := Tryz.isAgg142
  z70 := Tryz.sizeOf142
  v70 := Tryz.zeroValue142
  t76 := Tryz.underlying153
  a76 := Tryz.isAgg153
  z76 := Tryz.sizeOf153
  v76 := Tryz.zeroValue153
  t77 := Tryz.underlying42
  a77 := Tryz.isAgg42
  z77 := Tryz.sizeOf42
  v77 := Tryz.zeroValue42 }
end Go.Proofs

end
section
open Go Go.Tv Go.Tv.C37 Go.Proofs
namespace Go.Tv.C37t
set_option maxRecDepth 20000
set_option maxHeartbeats 2000000
set_option linter.unusedSimpArgs false
set_option linter.unusedVariables false
theorem spread_ret (l : List Rep) (f : Frm) (hl : Srt l) (hp : ∀ y, y ∈ l → HP y) : RetT Tryz.prog 24 [(1, deT)] [mset l, encF f] (mset (stepF l f)) := by
  refine retT_of_awr Tryz.func24 rfl (Nat.le_of_ble_eq_true rfl) ?_
  intro F0 w0
  refine awj_openS 0 (l := l) rfl (fun b0 lp hperm => ?_)
  refine awj_seq ?_
  refine awj_rj rfl ?_
  refine RJ.new rfl rfl (eff_boxK (v := .t _) (k := 5) (id := 3) rfl rfl rfl rfl rfl rfl) ?_
  refine RJ.op rfl rfl (eff_assign (v := .junk) rfl rfl rfl) ?_
  refine RJ.nil ?_
  refine awj_seq ?_
  refine awj_rj rfl ?_
  refine RJ.sMake rfl rfl rfl rfl (fun rO hrO => ?_)
  refine RJ.op rfl rfl (eff_assign (v := .t _) rfl rfl rfl) ?_
  refine RJ.nil ?_
  refine awj_seq ?_
  refine awj_seq ?_
  refine awj_rj rfl ?_
  refine RJ.op rfl rfl (eff_move (v := .t _) rfl rfl rfl) ?_
  refine RJ.sRange rfl rfl rfl rfl Tryz.underlying62 rfl (fun rI hrI => ?_)
  refine RJ.nil ?_
  show AWJ _ _ _ _ _ _ _ _
  have hne : rO ≠ rI := by intro e; subst e; rw [gget_same] at hrI; cases hrI
  refine awj_block ?_
  refine awj_loopW (fun m s g => ∃ (seen : List Nat) (cur : List Rep), (gget g rO = some (mapO KR XU (setL cur))) ∧ (gget g rI = some (itM b0 lp.length seen)) ∧ (seen.Nodup) ∧ (∀ j, j ∈ seen → j < lp.length) ∧ (cameF lp f seen cur) ∧ m = lp.length - seen.length ∧ s = ⟨21, [(3, .ptr 3 0 0 0), (5, .t (.mp rO)), (8, .t (.mpx b0 (mapL KR XU (setL lp)))), (9, .t (.adr rI 0)), (22, .t deT)], [(3, some ⟨5, 41, 0, [.t (encF f)]⟩)]⟩) (_) (⟨_, weak_keep (n := 21) (fr' := [(3, .ptr 3 0 0 0), (5, .t (.mp rO)), (8, .t (.mpx b0 (mapL KR XU (setL lp)))), (9, .t (.adr rI 0)), (22, .t deT)]) (st' := [(3, some ⟨5, 41, 0, [.t (encF f)]⟩)]) ⟨rfl, rfl, rfl, rfl, rfl, rfl, rfl, rfl, rfl, rfl, trivial⟩ ⟨rfl, okE_one rfl, trivial⟩, [], [], (by rw [gget_ne _ _ (Ne.symm hne)]; exact gget_same _ _ _), (by exact gget_same _ _ _), (by exact List.nodup_nil), (by intro j hj; simp at hj), (by exact cameF_nil _ _), rfl, rfl⟩) ?_
  rintro m s g ⟨seen, cur, hgO, hgI, hsn, hsb, hcm, rfl, rfl⟩
  refine awj_seq ?_
  refine awj_rj rfl ?_
  refine RJ.sNext (.tmp 8) rfl rfl rfl rfl rfl rfl hgI ?_ ?_
  · intro hall
    refine RJ.op rfl rfl (eff_extract rfl rfl rfl rfl) ?_
    refine RJ.nil ?_
    refine awj_seq ?_
    refine awj_cond rfl (fun h => nomatch h) (fun _ => ?_)
    refine awj_exit ?_
    refine awj_seq ?_
    refine awj_rj rfl ?_
    refine RJ.op rfl rfl (eff_move (v := .t _) rfl rfl rfl) ?_
    refine RJ.op rfl rfl (eff_assign (v := .t _) rfl rfl rfl) ?_
    refine RJ.nil ?_
    show AWJ _ _ _ _ _ _ _ _
    refine awj_freezeS 4 (l0 := cur) (stepF l f) rfl hgO (cameF_end hl hperm hcm hall) ?_
    refine awj_ret ?_
    exact ⟨Or.inr rfl, [_], ⟨.tmp (.t _), trivial⟩, .refl _⟩
  · intro q hq hqs
    refine RJ.op rfl rfl (eff_extract rfl rfl rfl rfl) ?_
    refine RJ.nil ?_
    refine awj_seq ?_
    refine awj_cond rfl (fun _ => ?_) (fun h => nomatch h)
    refine awj_skip ?_
    refine awj_block ?_
    refine awj_seq ?_
    refine awj_rj rfl ?_
    refine RJ.sEntry (.tmp 8) (seen := seen) hq rfl rfl rfl rfl rfl rfl (gget_same _ _ _) ?_
    refine RJ.op rfl rfl (eff_extract rfl rfl rfl rfl) ?_
    refine RJ.new rfl rfl (eff_allocK (k := 4) (id := 6) rfl rfl tz33 rfl rfl) ?_
    refine RJ.store rfl rfl (eff_storeW (v := .t _) (els := [_]) (els' := [_]) rfl rfl ti33 rfl rfl rfl rfl rfl rfl rfl rfl rfl) ?_
    refine RJ.nil ?_
    refine awj_seq ?_
    refine awj_rj rfl ?_
    refine RJ.op rfl rfl (eff_move (v := .t _) rfl rfl rfl) ?_
    refine RJ.op rfl rfl (eff_load rfl rfl ti33 rfl (.whole rfl rfl rfl rfl rfl rfl)) ?_
    refine RJ.sPut lp[q] cur rfl rfl (.inl rfl) Tryz.underlying62 rfl rfl rfl (by rw [gget_ne _ _ (Ne.symm hne)]; exact hgO) ?_
    refine RJ.nil ?_
    refine awj_rj rfl ?_
    refine RJ.op rfl rfl (eff_move (v := .t _) rfl rfl rfl) ?_
    refine RJ.op rfl rfl (eff_load rfl rfl ti33 rfl (.whole rfl rfl rfl rfl rfl rfl)) ?_
    refine RJ.op rfl rfl (eff_load rfl rfl ti41 rfl (.whole rfl rfl rfl rfl rfl rfl)) ?_
    refine RJ.op rfl rfl (eff_callXT (apply_ret _ _ (hp _ (hperm.mem_iff.1 (List.getElem_mem _)))) co49 rfl rfl rfl ⟨rfl, trivial⟩ rfl) ?_
    refine RJ.sPut (apply lp[q] f) (ins cur lp[q]) rfl rfl (.inl rfl) Tryz.underlying62 rfl rfl rfl (gget_same _ _ _) ?_
    refine RJ.nil ?_
    refine ⟨_, ?_, _, weak_keep (n := 21) (fr' := [(3, .ptr 3 0 0 0), (5, .t (.mp rO)), (8, .t (.mpx b0 (mapL KR XU (setL lp)))), (9, .t (.adr rI 0)), (22, .t deT)]) (st' := [(3, some ⟨5, 41, 0, [.t (encF f)]⟩)]) ⟨rfl, rfl, rfl, rfl, rfl, rfl, rfl, rfl, rfl, rfl, trivial⟩ ⟨rfl, okE_one rfl, trivial⟩, seen ++ [q], ins (ins cur lp[q]) (apply lp[q] f), (by exact gget_same _ _ _), (by rw [gget_ne _ _ hne, gget_ne _ _ hne]; exact gget_same _ _ _), (by exact seen_nodup hsn hqs), (by exact seen_bound hsb hq), (by exact cameF_step hcm hq), rfl, rfl⟩
    have hsl := seen_lt hsn hsb hq hqs
    simp only [List.length_append, List.length_singleton]
    omega

end Go.Tv.C37t

end
section
open Go Go.Tv Go.Tv.C37 Go.Proofs
namespace Go.Tv.C37t
set_option maxRecDepth 20000
set_option maxHeartbeats 2000000
set_option linter.unusedSimpArgs false
set_option linter.unusedVariables false
theorem sorted_ret (l : List Rep) (hl : Srt l) (hll : l.length ≤ 100000) : Ret Tryz.prog 26 [mset l] (.sl (l.map encR) false) := by
  refine ret_of_awr Tryz.func26 rfl (Nat.le_of_ble_eq_true rfl) ?_
  intro F0 w0
  refine awj_openS 0 (l := l) rfl (fun b0 lp hperm => ?_)
  have hpl := hperm.length_eq
  refine awj_seq ?_
  refine awj_rj rfl ?_
  refine RJ.op rfl rfl (eff_assign (v := .t _) rfl rfl rfl) ?_
  refine RJ.nil ?_
  refine awj_seq ?_
  refine awj_rj rfl ?_
  refine RJ.op rfl rfl (eff_assign (v := .t _) rfl rfl rfl) ?_
  refine RJ.nil ?_
  show AWJ _ _ _ _ _ _ _ _
  refine awj_weak (weak_adopt (d := 3) (id := 3) (k := 4) (ty := 33) rfl rfl) ?_
  refine awj_seq ?_
  refine awj_seq ?_
  refine awj_rj rfl ?_
  refine RJ.op rfl rfl (eff_move (v := .t _) rfl rfl rfl) ?_
  refine RJ.sRange rfl rfl rfl rfl Tryz.underlying62 rfl (fun rI hrI => ?_)
  refine RJ.nil ?_
  refine awj_block ?_
  refine awj_loopW (fun m s g => ∃ (seen : List Nat) (gn : Nat) (n : Nat) (els : List AV), (gget g rI = some (itM b0 lp.length seen)) ∧ (seen.Nodup) ∧ (∀ j, j ∈ seen → j < lp.length) ∧ (n = seen.length) ∧ (els = ((pick lp seen).map encR).map .t) ∧ m = lp.length - seen.length ∧ s = ⟨18, [(3, .own 3 gn 0 n), (5, .t (.mpx b0 (mapL KR XU (setL lp)))), (6, .t (.adr rI 0))], [(3, some ⟨4, 33, gn, els⟩)]⟩) (_) (⟨_, weak_keep (n := 18) (fr' := [(3, .own 3 0 0 0), (5, .t (.mpx b0 (mapL KR XU (setL lp)))), (6, .t (.adr rI 0))]) (st' := [(3, some ⟨4, 33, 0, ([])⟩)]) ⟨rfl, rfl, rfl, rfl, rfl, rfl, trivial⟩ ⟨rfl, (by first | exact okE_nil | (rw [he]; exact okE_t) | (rw [he]; intro x hx; simp only [List.mem_append, List.mem_map, List.mem_singleton] at hx; rcases hx with ⟨y, _, rfl⟩ | rfl <;> rfl)), trivial⟩, [], 0, 0, [], (by exact gget_same _ _ _), (by exact List.nodup_nil), (by intro j hj; simp at hj), (by rfl), (by rfl), rfl, rfl⟩) ?_
  rintro m s g ⟨seen, gn, n, els, hgI, hsn, hsb, hnn, he, rfl, rfl⟩
  refine awj_seq ?_
  refine awj_rj rfl ?_
  refine RJ.sNext (.tmp 5) rfl rfl rfl rfl rfl rfl hgI ?_ ?_
  · intro hall
    refine RJ.op rfl rfl (eff_extract rfl rfl rfl rfl) ?_
    refine RJ.nil ?_
    refine awj_seq ?_
    refine awj_cond rfl (fun h => nomatch h) (fun _ => ?_)
    refine awj_exit ?_
    refine awj_seq ?_
    refine awj_rj rfl ?_
    have hpa := pick_all hsn hsb hall ((hperm.nodup_iff).2 (srt_nodup hl))
    have hso : sortA cmpR (pick lp seen) = l := sort_srt hl (hpa.trans hperm)
    have hpn : (pick lp seen).length = l.length := (hpa.trans hperm).length_eq
    have hnl : n = (pick lp seen).length := by rw [hnn, pick_len hsb]
    refine RJ.op rfl rfl (eff_move (v := .own _ _ _ _) rfl rfl rfl) ?_
    refine RJ.new rfl rfl (eff_sortFunc Tryz.sortRv (cells := cellsR) (k := 4) (fun _ => rfl) (by decide) (cf := cmpR) cmpR_swo (g := 51) compare_ret co51 ti33 (id := 3) (gen := gn) (pick lp seen) (by omega) rfl co50 rfl rfl rfl rfl rfl rfl (he.trans (sortEls_eq _).symm) hnl ((sortEls_eq _).trans (by rw [hso]))) ?_
    refine RJ.nil ?_
    refine awj_seq ?_
    refine awj_rj rfl ?_
    refine RJ.op rfl rfl (eff_move (v := .own _ _ _ _) rfl rfl rfl) ?_
    refine RJ.op rfl rfl (eff_assign (v := .own _ _ _ _) rfl rfl rfl) ?_
    refine RJ.nil ?_
    refine awj_ret ?_
    exact ⟨Or.inr rfl, [_], ⟨.tmp (Res.ownT (xs := l.map encR) rfl rfl rfl (by rw [hnl, hpn]; simp)), trivial⟩, .refl _⟩
  · intro q hq hqs
    refine RJ.op rfl rfl (eff_extract rfl rfl rfl rfl) ?_
    refine RJ.nil ?_
    refine awj_seq ?_
    refine awj_cond rfl (fun _ => ?_) (fun h => nomatch h)
    refine awj_skip ?_
    refine awj_block ?_
    refine awj_seq ?_
    refine awj_rj rfl ?_
    refine RJ.sEntry (.tmp 5) (seen := seen) hq rfl rfl rfl rfl rfl rfl (gget_same _ _ _) ?_
    refine RJ.op rfl rfl (eff_extract rfl rfl rfl rfl) ?_
    refine RJ.new rfl rfl (eff_allocK (k := 4) (id := 4) rfl rfl tz33 rfl rfl) ?_
    refine RJ.store rfl rfl (eff_storeW (v := .t _) (els := [_]) (els' := [_]) rfl rfl ti33 rfl rfl rfl rfl rfl rfl rfl rfl rfl) ?_
    refine RJ.nil ?_
    refine awj_rj rfl ?_
    have hsl2 := seen_lt hsn hsb hq hqs
    refine RJ.op rfl rfl (eff_move (v := .own _ _ _ _) rfl rfl rfl) ?_
    refine RJ.op rfl rfl (eff_load rfl rfl ti33 rfl (.whole rfl rfl rfl rfl rfl rfl)) ?_
    refine RJ.new rfl rfl (eff_buildSliceL (id := 13) (els := [.t (.agg [_, _, _, _])]) rfl rfl te25 tz33 rfl (by decide) (by decide) rfl rfl rfl rfl) ?_
    refine RJ.new rfl rfl (eff_append (id := 3) (ys := [_]) rfl rfl ta25 rfl rfl rfl (by rw [he, hnn]; simp [pick_len hsb]) rfl rfl (srcOwn rfl rfl rfl rfl rfl rfl) (by simp) (by simp; omega) (by simp; omega)) ?_
    refine RJ.op rfl rfl (eff_assign (v := .own _ _ _ _) rfl rfl rfl) ?_
    refine RJ.nil ?_
    refine ⟨_, ?_, _, weak_keep (n := 18) (fr' := [(3, .own 3 _ 0 _), (5, .t (.mpx b0 (mapL KR XU (setL lp)))), (6, .t (.adr rI 0))]) (st' := [(3, some ⟨4, 33, _, _⟩)]) ⟨rfl, rfl, rfl, rfl, rfl, rfl, trivial⟩ ⟨rfl, (by first | exact okE_nil | (rw [he]; exact okE_t) | (rw [he]; intro x hx; simp only [List.mem_append, List.mem_map, List.mem_singleton] at hx; rcases hx with ⟨y, _, rfl⟩ | rfl <;> rfl)), trivial⟩, seen ++ [q], _, _, _, (by exact gget_same _ _ _), (by exact seen_nodup hsn hqs), (by exact seen_bound hsb hq), (by rw [hnn]; simp), (by rw [pick_step hq, he]; simp <;> rfl), rfl, rfl⟩
    have hsl := seen_lt hsn hsb hq hqs
    simp only [List.length_append, List.length_singleton]
    omega

theorem reach_ret (x : Rep) (l : List Frm) (hx : HP x) (hl : l.length ≤ 1000000) : RetT Tryz.prog 22 [(1, deT)] [encR x, .sl (l.map encF) false] (mset (reachF x l)) := by
  refine retT_of_awr Tryz.func22 rfl (Nat.le_of_ble_eq_true rfl) ?_
  intro F0 w0
  refine awj_seq ?_
  refine awj_rj rfl ?_
  refine RJ.new rfl rfl (eff_boxK (v := .t _) (k := 4) (id := 2) rfl rfl rfl rfl rfl rfl) ?_
  refine RJ.op rfl rfl (eff_assign (v := .junk) rfl rfl rfl) ?_
  refine RJ.nil ?_
  refine awj_seq ?_
  refine awj_rj rfl ?_
  refine RJ.sMake rfl rfl rfl rfl (fun rO hrO => ?_)
  refine RJ.op rfl rfl (eff_load rfl rfl ti33 rfl (.whole rfl rfl rfl rfl rfl rfl)) ?_
  refine RJ.sPut x [] rfl rfl (.inr rfl) Tryz.underlying62 rfl rfl rfl (gget_same _ _ _) ?_
  refine RJ.op rfl rfl (eff_move (v := .t _) rfl rfl rfl) ?_
  refine RJ.op rfl rfl (eff_assign (v := .t _) rfl rfl rfl) ?_
  refine RJ.nil ?_
  show AWJ _ _ _ _ _ _ _ _
  refine awj_freezeS 5 (l0 := ins [] x) [x] rfl (gget_same _ _ _) (by simp [ins]) ?_
  refine awj_seq ?_
  refine awj_seq ?_
  refine awj_rj rfl ?_
  refine RJ.op rfl rfl (eff_move (v := .t _) rfl rfl rfl) ?_
  refine RJ.op rfl rfl (eff_lenM rfl rfl te24 rfl) ?_
  refine RJ.op rfl rfl (eff_move (v := .t _) rfl rfl rfl) ?_
  refine RJ.nil ?_
  refine awj_block ?_
  refine awj_loopW (fun m s g => ∃ (i : Nat) (cur : List Rep), (i ≤ l.length) ∧ (cur = reachF x (l.take i)) ∧ m = l.length - i ∧ s = ⟨22, [(5, .t (mset cur)), (11, .t (.sl (l.map encF) false)), (12, .t (encI l.length)), (13, .t (encI (i : Nat))), (23, .t deT)], []⟩) (_) (⟨_, weak_keep (n := 22) (fr' := [(5, .t (mset ([x]))), (11, .t (.sl (l.map encF) false)), (12, .t (encI l.length)), (13, .t (encI (0 : Nat))), (23, .t deT)]) (st' := []) ⟨rfl, rfl, rfl, rfl, rfl, rfl, rfl, rfl, rfl, rfl, trivial⟩ trivial, 0, [x], (by omega), (by rfl), rfl, rfl⟩) ?_
  rintro m s g ⟨i, cur, hi, ho, rfl, rfl⟩
  refine awj_seq ?_
  refine awj_rj rfl ?_
  refine RJ.op rfl rfl (eff_iop rfl rfl rfl rfl rfl) ?_
  refine RJ.nil ?_
  refine awj_seq ?_
  refine awj_cond rfl (fun h1 => ?_) (fun h1 => ?_)
  · try simp only [cl] at h1
    refine awj_skip ?_
    refine awj_seq ?_
    refine awj_block ?_
    refine awj_seq ?_
    refine awj_rj rfl ?_
    refine RJ.op rfl rfl (eff_indexM rfl rfl te24 rfl rfl rfl (by first | assumption | exact List.getElem?_eq_getElem (by omega)) rfl (by decide)) ?_
    refine RJ.op rfl rfl (eff_loadW rfl rfl ti41 rfl rfl rfl) ?_
    refine RJ.new rfl rfl (eff_allocK (k := 5) (id := 7) rfl rfl tz41 rfl rfl) ?_
    refine RJ.store rfl rfl (eff_storeW (v := .t _) (els := [_]) (els' := [_]) rfl rfl ti41 rfl rfl rfl rfl rfl rfl rfl rfl rfl) ?_
    refine RJ.nil ?_
    refine awj_rj rfl ?_
    refine RJ.op rfl rfl (eff_move (v := .t _) rfl rfl rfl) ?_
    refine RJ.op rfl rfl (eff_load rfl rfl ti41 rfl (.whole rfl rfl rfl rfl rfl rfl)) ?_
    refine RJ.op rfl rfl (eff_callXT (spread_ret cur _ (by rw [ho]; exact srt_reach _ _) (by rw [ho]; exact reach_hp hx _)) co24 rfl rfl rfl ⟨rfl, trivial⟩ rfl) ?_
    refine RJ.op rfl rfl (eff_assign (v := .t _) rfl rfl rfl) ?_
    refine RJ.nil ?_
    refine awj_rj rfl ?_
    refine RJ.op rfl rfl (eff_iop rfl rfl rfl rfl (iadd (by omega))) ?_
    refine RJ.op rfl rfl (eff_move (v := .t _) rfl rfl rfl) ?_
    refine RJ.nil ?_
    refine ⟨_, ?_, _, weak_keep (n := 22) (fr' := [(5, .t (mset (stepF cur (l[i]'(by omega))))), (11, .t (.sl (l.map encF) false)), (12, .t (encI l.length)), (13, .t (encI ((i + 1) : Nat))), (23, .t deT)]) (st' := []) ⟨rfl, rfl, rfl, rfl, rfl, rfl, rfl, rfl, rfl, rfl, trivial⟩ trivial, i + 1, stepF cur (l[i]'(by omega)), (by omega), (by rw [reachF_take (by omega), ho]), rfl, rfl⟩
    omega
  · try simp only [cl] at h1
    refine awj_exit ?_
    refine awj_seq ?_
    refine awj_rj rfl ?_
    refine RJ.op rfl rfl (eff_move (v := .t _) rfl rfl rfl) ?_
    refine RJ.op rfl rfl (eff_assign (v := .t _) rfl rfl rfl) ?_
    refine RJ.nil ?_
    refine awj_ret ?_
    have hi2 : i = l.length := by omega
    subst hi2
    rw [List.take_length] at ho
    rw [← ho]
    exact ⟨Or.inr rfl, [_], ⟨.tmp (.t _), trivial⟩, .refl _⟩

end Go.Tv.C37t

end
section
open Go Go.Tv Go.Tv.C37 Go.Proofs
namespace Go.Tv.C37t
set_option maxRecDepth 20000
set_option maxHeartbeats 2000000
set_option linter.unusedSimpArgs false
set_option linter.unusedVariables false
theorem cloneO_retG (l : List Frm) (g : Nat) (hl : l.length ≤ 100000) (h0 : 0 < l.length) : RetG Tryz.prog 47 [(0, some ⟨5, 41, g, (l.map encF).map .t⟩)] [.own 0 g 0 l.length] [(0, some ⟨5, 41, g + 1, (l.map encF).map .t⟩), (5, some ⟨5, 41, 1, (l.map encF).map .t⟩)] (.own 5 1 0 l.length) := by
  refine retG_of_awp Tryz.func47 rfl (Nat.le_of_ble_eq_true rfl) ?_
  refine awp_seq ?_
  refine awp_rw rfl ?_
  refine asT ?_
  refine RW.nil ?_
  refine awp_seq ?_
  refine awp_seq ?_
  refine awp_rw rfl ?_
  refine mvO ?_
  refine RW.op rfl rfl (eff_ownNotNil rfl rfl te24 rfl rfl rfl h0) ?_
  refine RW.nil ?_
  refine awp_cond rfl (fun h => nomatch h) (fun _ => ?_)
  refine awp_skip ?_
  refine awp_seq ?_
  refine awp_rw rfl ?_
  refine RW.new rfl rfl (eff_buildSliceL (id := 5) (els := []) rfl rfl te24 tz41 rfl (by decide) (by decide) rfl rfl rfl rfl) ?_
  refine mvO ?_
  refine RW.new rfl rfl (eff_appendAny (id := 5) rfl rfl ta24 rfl rfl rfl rfl rfl rfl (srcOwn' (ys := (l.map encF).map .t) rfl rfl rfl rfl (by simp) (by rw [List.take_of_length_le (by simp)]; rfl)) (by simp; omega) (by simp; omega)) ?_
  refine asO ?_
  refine RW.nil ?_
  refine awp_ret ?_
  refine ⟨Or.inr rfl, [_], [.own 5 1 0 l.length], ⟨.tmp rfl, trivial⟩, rfl, Weak.trans (weak_raise (id := 0) (g + 1) rfl (by omega)) ?_, rfl⟩
  exact weak_keep ⟨(by show AV.own 5 _ 0 _ = AV.own 5 1 0 l.length; congr 1; simp), rfl, trivial⟩ ⟨rfl, okE_t, rfl, okE_t, trivial⟩

theorem ownO_retG (l : List Frm) (g : Nat) (hl : l.length ≤ 100000) (h0 : 0 < l.length) (hb : ∀ f, f ∈ l → f.body.length ≤ 1000000) : RetG Tryz.prog 23 [(0, some ⟨5, 41, g, (l.map encF).map .t⟩)] [.own 0 g 0 l.length] [(0, some ⟨5, 41, g + 1, (l.map encF).map .t⟩), (5, some ⟨5, 41, 1, (l.map encF).map .t⟩)] (.own 5 1 0 l.length) := by
  refine retG_of_awp Tryz.func23 rfl (Nat.le_of_ble_eq_true rfl) ?_
  refine awp_seq ?_
  refine awp_rw rfl ?_
  refine asT ?_
  refine RW.nil ?_
  refine awp_seq ?_
  refine awp_rw rfl ?_
  refine mvO ?_
  refine RW.new2 rfl rfl (eff_callG (cloneO_retG l g hl h0) co47 (fun id => id) rfl rfl rfl ⟨.own _ _ _ _ rfl rfl, trivial⟩ (.own _ _ _ _ rfl rfl) rfl ⟨⟨rfl, treeEls_t, ⟨_, rfl, Nat.lt_succ_self _⟩⟩, trivial⟩ ⟨⟨treeEls_t, .inl rfl⟩, ⟨treeEls_t, .inr rfl⟩, trivial⟩) ?_
  refine asO ?_
  refine RW.nil ?_
  refine awp_seq ?_
  refine awp_seq ?_
  refine awp_rw rfl ?_
  refine mvO ?_
  refine RW.op rfl rfl (eff_len rfl rfl te24 rfl rfl rfl) ?_
  refine mvT ?_
  refine RW.nil ?_
  refine awp_block ?_
  refine awp_loopW (fun m s => ∃ (i : Nat), (i ≤ l.length) ∧ m = l.length - i ∧ s = ⟨23, [(0, .own 5 1 0 l.length), (7, .own 5 1 0 l.length), (8, .t (encI l.length)), (9, .t (encI (i : Nat)))], [(0, some ⟨5, 41, g + 1, (l.map encF).map .t⟩), (5, some ⟨5, 41, 1, (l.map encF).map .t⟩)]⟩) (_) (⟨_, weak_keep (n := 23) (fr' := [(0, .own 5 1 0 l.length), (7, .own 5 1 0 l.length), (8, .t (encI l.length)), (9, .t (encI (0 : Nat)))]) (st' := [(0, some ⟨5, 41, g + 1, (l.map encF).map .t⟩), (5, some ⟨5, 41, 1, (l.map encF).map .t⟩)]) ⟨rfl, rfl, rfl, rfl, rfl, rfl, rfl, rfl, trivial⟩ ⟨rfl, okE_t, rfl, okE_t, trivial⟩, 0, (by omega), rfl, rfl⟩) ?_
  rintro m s ⟨i, hi, rfl, rfl⟩
  refine awp_seq ?_
  refine awp_rw rfl ?_
  refine ioT ?_
  refine RW.nil ?_
  refine awp_seq ?_
  refine awp_cond rfl (fun h1 => ?_) (fun h1 => ?_)
  · try simp only [cl] at h1
    refine awp_skip ?_
    refine awp_seq ?_
    refine awp_block ?_
    refine awp_seq ?_
    refine awp_rw rfl ?_
    have hil : i < l.length := by omega
    have hbl := hb _ (List.getElem_mem hil)
    refine mvT ?_
    refine RW.op rfl rfl (eff_indexAddr rfl rfl te24 rfl rfl rfl rfl rfl rfl (by omega)) ?_
    refine RW.op rfl rfl (eff_load (y := .t (encF (l[i]'hil))) rfl rfl ti41 rfl (.whole rfl rfl (by rw [Nat.zero_add]; exact elF hil) rfl rfl rfl)) ?_
    refine RW.new rfl rfl (eff_allocK (k := 5) (id := 4) rfl rfl tz41 rfl rfl) ?_
    refine asT ?_
    refine RW.store rfl rfl (eff_storeW (v := .t _) (els := [_]) (els' := [_]) rfl rfl ti41 rfl rfl rfl rfl rfl rfl rfl rfl rfl) ?_
    refine RW.nil ?_
    refine awp_rw rfl ?_
    refine mvO ?_
    refine mvT ?_
    refine faT tf41_3 ?_
    refine l1T ti38 rfl rfl rfl rfl rfl (.one rfl rfl rfl rfl) ?_
    refine RW.op rfl rfl (eff_callT (cloneB_ret _ hbl) co48 rfl rfl rfl rfl) ?_
    refine RW.op rfl rfl (eff_indexAddr rfl rfl te24 rfl rfl rfl rfl rfl rfl (by omega)) ?_
    refine faT tf41_3 ?_
    refine RW.store rfl rfl (eff_storeS (v := .t _) (el := .t (encF (l[i]'hil))) (ys := [encI (l[i]'hil).seq, encI (l[i]'hil).key, .bool (l[i]'hil).unlock, .sl ((l[i]'hil).body.map encBy) false, .int .u64 (l[i]'hil).tag]) (els := (l.map encF).map .t) (els' := (l.map encF).map .t) rfl rfl ti38 rfl rfl rfl rfl rfl rfl (by rw [Nat.zero_add]; exact elF hil) (Nat.le_of_ble_eq_true rfl) rfl (by rw [Nat.zero_add]; exact setF_same hil)) ?_
    refine RW.nil ?_
    refine awp_rw rfl ?_
    refine RW.op rfl rfl (eff_iop rfl rfl rfl rfl (iadd (by omega))) ?_
    refine mvT ?_
    refine RW.nil ?_
    refine ⟨_, ?_, _, weak_keep (n := 23) (fr' := [(0, .own 5 1 0 l.length), (7, .own 5 1 0 l.length), (8, .t (encI l.length)), (9, .t (encI ((i + 1) : Nat)))]) (st' := [(0, some ⟨5, 41, g + 1, (l.map encF).map .t⟩), (5, some ⟨5, 41, 1, (l.map encF).map .t⟩)]) ⟨rfl, rfl, rfl, rfl, rfl, rfl, rfl, rfl, trivial⟩ ⟨rfl, okE_t, rfl, okE_t, trivial⟩, i + 1, (by omega), rfl, rfl⟩
    omega
  · try simp only [cl] at h1
    refine awp_exit ?_
    refine awp_seq ?_
    refine awp_rw rfl ?_
    refine mvO ?_
    refine asO ?_
    refine RW.nil ?_
    refine awp_ret ?_
    exact ⟨Or.inr rfl, [_], [.own 5 1 0 l.length], ⟨.tmp rfl, trivial⟩, rfl, weak_keep ⟨rfl, rfl, trivial⟩ ⟨rfl, okE_t, rfl, okE_t, trivial⟩, rfl⟩

theorem ownO (l : List Frm) (g n : Nat) (E : List AV) (hn : n = l.length) (hE : E = (l.map encF).map .t) (hl : l.length ≤ 100000) (h0 : 0 < l.length) (hb : ∀ f, f ∈ l → f.body.length ≤ 1000000) :
    RetG Tryz.prog 23 [(0, some ⟨5, 41, g, E⟩)] [.own 0 g 0 n] [(0, some ⟨5, 41, g + 1, E⟩), (5, some ⟨5, 41, 1, (l.map encF).map .t⟩)] (.own 5 1 0 l.length) := by
  subst hn hE; exact ownO_retG l g hl h0 hb
theorem treeEls_app {xs : List Tr} {y : Tr} {k g : Nat} {ty : TypeId} : treeEls ⟨k, ty, g, xs.map .t ++ [.t y]⟩ := by
  intro x hx
  rcases List.mem_append.1 hx with h | h
  · obtain ⟨z, _, rfl⟩ := List.mem_map.1 h; exact ⟨z, rfl⟩
  · rw [List.mem_singleton.1 h]; exact ⟨y, rfl⟩

theorem tsend_ret (t : Twn) (f : Frm) (hs : Srt t.poss) (hp : ∀ y, y ∈ t.poss → HP y) (hl : t.poss.length ≤ 1000) (hsl : t.sent.length ≤ 1000) (hb : ∀ x, x ∈ t.sent → x.body.length ≤ 1000000) (hbf : f.body.length ≤ 1000000) : RetT Tryz.prog 8 [(1, deT)] [encT t, encF f] (.tup [encT (send t f).1, encI (send t f).2]) := by
  refine retT_of_awr Tryz.func8 rfl (Nat.le_of_ble_eq_true rfl) ?_
  intro F0 w0
  refine awj_seq ?_
  refine awj_rj rfl ?_
  refine RJ.new rfl rfl (eff_boxK (v := .t _) (k := 2) (id := 2) rfl rfl rfl rfl rfl rfl) ?_
  refine RJ.new rfl rfl (eff_boxK (v := .t _) (k := 5) (id := 3) rfl rfl rfl rfl rfl rfl) ?_
  refine RJ.new rfl rfl (eff_allocK (k := 2) (id := 4) rfl rfl tz27 rfl rfl) ?_
  refine RJ.op rfl rfl (eff_assign (v := .t _) rfl rfl rfl) ?_
  refine RJ.nil ?_
  refine awj_seq ?_
  refine awj_seq ?_
  refine awj_rj rfl ?_
  refine RJ.op rfl rfl (eff_fieldAddr rfl rfl tf27_0 (by decide) rfl rfl rfl (Nat.le_of_ble_eq_true rfl)) ?_
  refine RJ.op rfl rfl (eff_load (y := .t _) rfl rfl ti24 rfl (.one rfl rfl rfl rfl)) ?_
  refine RJ.op rfl rfl (eff_lenM rfl rfl te24 rfl) ?_
  refine RJ.op rfl rfl (eff_assign (v := .t _) rfl rfl rfl) ?_
  refine RJ.nil ?_
  refine awj_seq ?_
  by_cases hc1 : 0 < t.sent.length
  · refine awj_rd [(some 13, []), (some 14, []), (some 15, []), (some 16, []), (some 17, []), (some 18, []), (some 19, []), (some 20, []), (some 21, []), (some 22, []), (some 23, []), (some 24, []), (some 25, []), (some 26, [])] [[], [0], [0, 1], [0, 1, 2], [0, 1, 2, 3], [0, 1, 2], [0, 1, 2, 5], [0, 1, 2, 3, 4, 5, 6], [0, 1, 2, 3, 4, 5, 6, 7], [0, 1, 2, 3, 4, 5, 6, 7, 8], [0, 1, 2], [0, 1, 2, 10], [0, 1, 2, 3, 4, 5, 6, 7, 8, 9, 10, 11], [0, 1, 2, 3, 4, 5, 6, 7, 8, 9, 10, 11, 12]] tm rfl rfl rfl rfl ?_
    refine mvD ?_
    refine RD.op rfl rfl rfl (eff_iop (r := .bool true) rfl rfl rfl rfl (by show some (Tr.bool (decide _)) = _; rw [decide_eq_true (by omega)])) ?_
    refine mvD ?_
    refine RD.gop rfl rfl rfl rfl rfl rfl rfl (eff_fieldAddr rfl rfl tf27_0 (by decide) rfl rfl rfl (Nat.le_of_ble_eq_true rfl)) ?_
    refine RD.gop rfl rfl rfl rfl rfl rfl rfl (eff_load (y := .t _) rfl rfl ti24 rfl (.one rfl rfl rfl rfl)) ?_
    refine RD.gop rfl rfl rfl rfl rfl rfl rfl (eff_move (v := .t _) rfl rfl rfl) ?_
    refine RD.gop rfl rfl rfl rfl rfl rfl rfl (eff_iop rfl rfl rfl rfl (isub (by omega))) ?_
    refine RD.gop rfl rfl rfl rfl rfl rfl rfl (eff_indexM (i := t.sent.length - 1) rfl rfl te24 rfl rfl (by first | rfl | omega) (by exact List.getElem?_eq_getElem (by omega)) rfl (by decide)) ?_
    refine RD.gop rfl rfl rfl rfl rfl rfl rfl (eff_fieldAddrT rfl rfl tf41_1 (by decide) rfl) ?_
    refine RD.gop rfl rfl rfl rfl rfl rfl rfl (eff_loadT1 rfl rfl ti3 rfl rfl) ?_
    refine RD.gop rfl rfl rfl rfl rfl rfl rfl (eff_fieldAddr rfl rfl tf41_1 (by decide) rfl rfl rfl (Nat.le_of_ble_eq_true rfl)) ?_
    refine RD.gop rfl rfl rfl rfl rfl rfl rfl (eff_load (y := .t _) rfl rfl ti3 rfl (.one rfl rfl rfl rfl)) ?_
    refine RD.gop rfl rfl rfl rfl rfl rfl rfl (eff_iop rfl rfl rfl rfl rfl) ?_
    refine RD.op rfl rfl rfl (eff_pick (v := .t _) rfl rfl rfl rfl) ?_
    refine RD.nil ?_
    refine awj_cond rfl (fun h2 => ?_) (fun h2 => ?_)
    · try simp only [cl] at h2
      refine awj_seq ?_
      refine awj_rj rfl ?_
      refine RJ.op rfl rfl (eff_buildT (ys := [_, _]) rfl rfl tz27 tg27 rfl) ?_
      refine RJ.store rfl rfl (eff_storeW (v := .t _) (els := [_]) (els' := [_]) rfl rfl ti27 rfl rfl rfl rfl rfl rfl rfl rfl rfl) ?_
      refine RJ.op rfl rfl (eff_assign (v := .t _) rfl rfl rfl) ?_
      refine RJ.nil ?_
      refine awj_ret ?_
      first
        | (rw [send_late (by first | (rw [late_at (by omega)]; exact decide_eq_true (by first | assumption | omega)) | (exfalso; omega))]
           exact ⟨Or.inr rfl, [_, _], ⟨.cell rfl ti27 (.whole rfl rfl rfl rfl rfl rfl) (.t _), .tmp (.t _), trivial⟩, (by repeat' first | exact trivial | exact Wk.refl _ | exact Wk.sl _ | refine And.intro ?_ ?_ | refine Wk.tupP ?_ | refine Wk.aggP ?_)⟩)
        | (rw [send_many (by first | exact late_nil (by omega) | (rw [late_at (by omega)]; exact decide_eq_false (by first | assumption | omega))) (by omega)]
           exact ⟨Or.inr rfl, [_, _], ⟨.cell rfl ti27 (.whole rfl rfl rfl rfl rfl rfl) (.t _), .tmp (.t _), trivial⟩, (by repeat' first | exact trivial | exact Wk.refl _ | exact Wk.sl _ | refine And.intro ?_ ?_ | refine Wk.tupP ?_ | refine Wk.aggP ?_)⟩)
        | (rw [send_ok (by first | exact late_nil (by omega) | (rw [late_at (by omega)]; exact decide_eq_false (by first | assumption | omega))) (by omega)]
           exact ⟨Or.inr rfl, [_, _], ⟨.cell rfl ti27 (.whole rfl rfl rfl rfl rfl rfl) (Res.aggP (xs := [_, _]) ⟨Res.ownT (xs := (t.sent ++ [f]).map encF) rfl rfl rfl (by simp), .t _, trivial⟩), .tmp (.t _), trivial⟩, .refl _⟩)
    · try simp only [cl] at h2
      refine awj_skip ?_
      refine awj_seq ?_
      refine awj_rj rfl ?_
      refine RJ.sMake rfl rfl rfl rfl (fun rO hrO => ?_)
      refine RJ.op rfl rfl (eff_assign (v := .t _) rfl rfl rfl) ?_
      refine RJ.nil ?_
      refine awj_seq ?_
      refine awj_seq ?_
      refine awj_rj rfl ?_
      refine RJ.op rfl rfl (eff_fieldAddr rfl rfl tf27_1 (by decide) rfl rfl rfl (Nat.le_of_ble_eq_true rfl)) ?_
      refine RJ.op rfl rfl (eff_load (y := .t _) rfl rfl ti25 rfl (.one rfl rfl rfl rfl)) ?_
      refine RJ.op rfl rfl (eff_lenM rfl rfl te25 rfl) ?_
      refine RJ.op rfl rfl (eff_move (v := .t _) rfl rfl rfl) ?_
      refine RJ.nil ?_
      refine awj_block ?_
      refine awj_loopW (fun m s g => ∃ (i : Nat), (i ≤ t.poss.length) ∧ (gget g rO = some (mapO KR XU (setL (t.poss.take i)))) ∧ m = t.poss.length - i ∧ s = ⟨56, [(2, .ptr 2 0 0 0), (3, .ptr 3 0 0 0), (4, .ptr 4 0 0 0), (7, .t (.mp rO)), (30, .t (.sl (t.poss.map encR) false)), (31, .t (encI t.poss.length)), (32, .t (encI (i : Nat))), (57, .t deT)], [(2, some ⟨2, 27, 0, [.t (encT t)]⟩), (3, some ⟨5, 41, 0, [.t (encF f)]⟩), (4, some ⟨2, 27, 0, [.t z27]⟩)]⟩) (_) (⟨_, weak_keep (n := 56) (fr' := [(2, .ptr 2 0 0 0), (3, .ptr 3 0 0 0), (4, .ptr 4 0 0 0), (7, .t (.mp rO)), (30, .t (.sl (t.poss.map encR) false)), (31, .t (encI t.poss.length)), (32, .t (encI (0 : Nat))), (57, .t deT)]) (st' := [(2, some ⟨2, 27, 0, [.t (encT t)]⟩), (3, some ⟨5, 41, 0, [.t (encF f)]⟩), (4, some ⟨2, 27, 0, [.t z27]⟩)]) ⟨rfl, rfl, rfl, rfl, rfl, rfl, rfl, rfl, rfl, rfl, rfl, rfl, rfl, rfl, rfl, rfl, trivial⟩ ⟨rfl, okE_one rfl, rfl, okE_one rfl, rfl, okE_one rfl, trivial⟩, 0, (by omega), (by exact gget_same _ _ _), rfl, rfl⟩) ?_
      rintro m s g ⟨i, hi, hgO, rfl, rfl⟩
      refine awj_seq ?_
      refine awj_rj rfl ?_
      refine RJ.op rfl rfl (eff_iop rfl rfl rfl rfl rfl) ?_
      refine RJ.nil ?_
      refine awj_seq ?_
      refine awj_cond rfl (fun h3 => ?_) (fun h3 => ?_)
      · try simp only [cl] at h3
        refine awj_skip ?_
        refine awj_seq ?_
        refine awj_block ?_
        refine awj_seq ?_
        refine awj_rj rfl ?_
        refine RJ.op rfl rfl (eff_indexM rfl rfl te25 rfl rfl rfl (by first | assumption | exact List.getElem?_eq_getElem (by omega)) rfl (by decide)) ?_
        refine RJ.op rfl rfl (eff_loadW rfl rfl ti33 rfl rfl rfl) ?_
        refine RJ.new rfl rfl (eff_allocK (k := 4) (id := 9) rfl rfl tz33 rfl rfl) ?_
        refine RJ.store rfl rfl (eff_storeW (v := .t _) (els := [_]) (els' := [_]) rfl rfl ti33 rfl rfl rfl rfl rfl rfl rfl rfl rfl) ?_
        refine RJ.nil ?_
        refine awj_rj rfl ?_
        refine RJ.op rfl rfl (eff_move (v := .t _) rfl rfl rfl) ?_
        refine RJ.op rfl rfl (eff_load rfl rfl ti33 rfl (.whole rfl rfl rfl rfl rfl rfl)) ?_
        refine RJ.sPut (t.poss[i]'(by omega)) (t.poss.take i) rfl rfl (.inl rfl) Tryz.underlying62 rfl rfl rfl hgO ?_
        refine RJ.nil ?_
        refine awj_rj rfl ?_
        refine RJ.op rfl rfl (eff_iop rfl rfl rfl rfl (iadd (by omega))) ?_
        refine RJ.op rfl rfl (eff_move (v := .t _) rfl rfl rfl) ?_
        refine RJ.nil ?_
        refine ⟨_, ?_, _, weak_keep (n := 56) (fr' := [(2, .ptr 2 0 0 0), (3, .ptr 3 0 0 0), (4, .ptr 4 0 0 0), (7, .t (.mp rO)), (30, .t (.sl (t.poss.map encR) false)), (31, .t (encI t.poss.length)), (32, .t (encI ((i + 1) : Nat))), (57, .t deT)]) (st' := [(2, some ⟨2, 27, 0, [.t (encT t)]⟩), (3, some ⟨5, 41, 0, [.t (encF f)]⟩), (4, some ⟨2, 27, 0, [.t z27]⟩)]) ⟨rfl, rfl, rfl, rfl, rfl, rfl, rfl, rfl, rfl, rfl, rfl, rfl, rfl, rfl, rfl, rfl, trivial⟩ ⟨rfl, okE_one rfl, rfl, okE_one rfl, rfl, okE_one rfl, trivial⟩, i + 1, (by omega), (by rw [gget_same, ins_take (srt_nodup hs) (by omega)]), rfl, rfl⟩
        omega
      · try simp only [cl] at h3
        refine awj_exit ?_
        refine awj_seq ?_
        have hi2 : i = t.poss.length := by omega
        subst hi2
        rw [List.take_length] at hgO
        refine awj_freezeS 7 (l0 := t.poss) t.poss rfl hgO (.refl _) ?_
        have hfl := stepF_len t.poss f
        refine awj_rj rfl ?_
        refine RJ.op rfl rfl (eff_move (v := .t _) rfl rfl rfl) ?_
        refine RJ.op rfl rfl (eff_load rfl rfl ti41 rfl (.whole rfl rfl rfl rfl rfl rfl)) ?_
        refine RJ.op rfl rfl (eff_callXT (spread_ret t.poss f hs hp) co24 rfl rfl rfl ⟨rfl, trivial⟩ rfl) ?_
        refine RJ.op rfl rfl (eff_assign (v := .t _) rfl rfl rfl) ?_
        refine RJ.nil ?_
        refine awj_seq ?_
        refine awj_seq ?_
        refine awj_rj rfl ?_
        refine RJ.op rfl rfl (eff_move (v := .t _) rfl rfl rfl) ?_
        refine RJ.op rfl rfl (eff_lenS rfl rfl Tryz.underlying62 rfl) ?_
        refine RJ.op rfl rfl (eff_iop rfl rfl rfl rfl rfl) ?_
        refine RJ.nil ?_
        refine awj_cond rfl (fun h4 => ?_) (fun h4 => ?_)
        · try simp only [cl] at h4
          refine awj_seq ?_
          refine awj_rj rfl ?_
          refine RJ.op rfl rfl (eff_buildT (ys := [_, _]) rfl rfl tz27 tg27 rfl) ?_
          refine RJ.store rfl rfl (eff_storeW (v := .t _) (els := [_]) (els' := [_]) rfl rfl ti27 rfl rfl rfl rfl rfl rfl rfl rfl rfl) ?_
          refine RJ.op rfl rfl (eff_assign (v := .t _) rfl rfl rfl) ?_
          refine RJ.nil ?_
          refine awj_ret ?_
          first
            | (rw [send_late (by first | (rw [late_at (by omega)]; exact decide_eq_true (by first | assumption | omega)) | (exfalso; omega))]
               exact ⟨Or.inr rfl, [_, _], ⟨.cell rfl ti27 (.whole rfl rfl rfl rfl rfl rfl) (.t _), .tmp (.t _), trivial⟩, (by repeat' first | exact trivial | exact Wk.refl _ | exact Wk.sl _ | refine And.intro ?_ ?_ | refine Wk.tupP ?_ | refine Wk.aggP ?_)⟩)
            | (rw [send_many (by first | exact late_nil (by omega) | (rw [late_at (by omega)]; exact decide_eq_false (by first | assumption | omega))) (by omega)]
               exact ⟨Or.inr rfl, [_, _], ⟨.cell rfl ti27 (.whole rfl rfl rfl rfl rfl rfl) (.t _), .tmp (.t _), trivial⟩, (by repeat' first | exact trivial | exact Wk.refl _ | exact Wk.sl _ | refine And.intro ?_ ?_ | refine Wk.tupP ?_ | refine Wk.aggP ?_)⟩)
            | (rw [send_ok (by first | exact late_nil (by omega) | (rw [late_at (by omega)]; exact decide_eq_false (by first | assumption | omega))) (by omega)]
               exact ⟨Or.inr rfl, [_, _], ⟨.cell rfl ti27 (.whole rfl rfl rfl rfl rfl rfl) (Res.aggP (xs := [_, _]) ⟨Res.ownT (xs := (t.sent ++ [f]).map encF) rfl rfl rfl (by simp), .t _, trivial⟩), .tmp (.t _), trivial⟩, .refl _⟩)
        · try simp only [cl] at h4
          refine awj_skip ?_
          refine awj_seq ?_
          refine awj_rd [(some 46, []), (some 47, []), (some 48, []), (some 49, []), (some 50, [50]), (some 51, [51]), (some 52, [51, 56]), (some 53, []), (some 54, []), (some 55, []), (none, [4]), (some 5, [])] [[], [0], [0, 1], [], [3], [0, 1, 2, 3, 4], [0, 1, 2, 3, 4, 5], [], [0, 1, 2, 3, 4, 5, 6, 7], [0, 1, 2, 3, 4, 5, 6, 7, 8], [0, 1, 2, 3, 4, 5, 6, 7, 8, 9], [0, 1, 2, 3, 4, 5, 6, 7, 8, 9, 10]] tm rfl rfl rfl rfl ?_
          refine RD.op rfl rfl rfl (eff_fieldAddr rfl rfl tf27_0 (by decide) rfl rfl rfl (Nat.le_of_ble_eq_true rfl)) ?_
          refine RD.op rfl rfl rfl (eff_load (y := .t _) rfl rfl ti24 rfl (.one rfl rfl rfl rfl)) ?_
          refine RD.op rfl rfl rfl (eff_callT (clip_ret t.sent) co25 rfl rfl rfl rfl) ?_
          refine RD.op rfl rfl rfl (eff_load rfl rfl ti41 rfl (.whole rfl rfl rfl rfl rfl rfl)) ?_
          refine RD.new rfl rfl rfl (eff_buildSliceL (id := 50) (els := [.t (.agg [_, _, _, _, _])]) rfl rfl te24 tz41 rfl (by decide) (by decide) rfl rfl rfl rfl) ?_
          refine RD.new rfl rfl rfl (eff_appendNew (id := 51) (ys := [_]) rfl rfl ta24 rfl rfl (fun z hz => by obtain ⟨q, _, rfl⟩ := List.mem_map.1 hz; rfl) (srcOwn rfl rfl rfl rfl rfl rfl) (Nat.le_of_ble_eq_true rfl) (by simp; omega) (by simp; omega)) ?_
          refine RD.new2 rfl rfl rfl (eff_callG (ownO (t.sent ++ [f]) 0 _ _ (by simp) (by simp; rfl) (by simp; omega) (by simp) (by intro q hq; rcases List.mem_append.1 hq with h | h; exact hb q h; rw [List.mem_singleton.1 h]; exact hbf)) co23 (fun id => id + 51) rfl rfl rfl ⟨.own _ _ _ _ rfl rfl, trivial⟩ (.own _ _ _ _ rfl rfl) rfl ⟨⟨rfl, treeEls_app, ⟨_, rfl, Nat.lt_succ_self _⟩⟩, trivial⟩ ⟨⟨treeEls_app, .inl rfl⟩, ⟨treeEls_t, .inr rfl⟩, trivial⟩) ?_
          refine mvD ?_
          refine RD.op rfl rfl rfl (eff_callT (sorted_ret _ (srt_stepF hs) (by omega)) co26 rfl rfl rfl rfl) ?_
          refine RD.op rfl rfl rfl (eff_buildA (ys := [_, _]) rfl rfl tz27 tg27 rfl rfl) ?_
          refine RD.store rfl rfl rfl (eff_storeW (v := .agg _) (els := [_]) (els' := [_]) rfl rfl ti27 rfl rfl rfl rfl rfl rfl rfl rfl rfl) ?_
          refine RD.op rfl rfl rfl (eff_assign (v := .t _) rfl rfl rfl) ?_
          refine RD.nil ?_
          refine awj_ret ?_
          first
            | (rw [send_late (by first | (rw [late_at (by omega)]; exact decide_eq_true (by first | assumption | omega)) | (exfalso; omega))]
               exact ⟨Or.inr rfl, [_, _], ⟨.cell rfl ti27 (.whole rfl rfl rfl rfl rfl rfl) (.t _), .tmp (.t _), trivial⟩, (by repeat' first | exact trivial | exact Wk.refl _ | exact Wk.sl _ | refine And.intro ?_ ?_ | refine Wk.tupP ?_ | refine Wk.aggP ?_)⟩)
            | (rw [send_many (by first | exact late_nil (by omega) | (rw [late_at (by omega)]; exact decide_eq_false (by first | assumption | omega))) (by omega)]
               exact ⟨Or.inr rfl, [_, _], ⟨.cell rfl ti27 (.whole rfl rfl rfl rfl rfl rfl) (.t _), .tmp (.t _), trivial⟩, (by repeat' first | exact trivial | exact Wk.refl _ | exact Wk.sl _ | refine And.intro ?_ ?_ | refine Wk.tupP ?_ | refine Wk.aggP ?_)⟩)
            | (rw [send_ok (by first | exact late_nil (by omega) | (rw [late_at (by omega)]; exact decide_eq_false (by first | assumption | omega))) (by omega)]
               exact ⟨Or.inr rfl, [_, _], ⟨.cell rfl ti27 (.whole rfl rfl rfl rfl rfl rfl) (Res.aggP (xs := [_, _]) ⟨Res.ownT (xs := (t.sent ++ [f]).map encF) rfl rfl rfl (by simp), .t _, trivial⟩), .tmp (.t _), trivial⟩, .refl _⟩)
  · refine awj_rd [(some 13, []), (some 14, []), (some 15, []), (some 16, []), (some 17, []), (some 18, []), (some 19, []), (some 20, []), (some 21, []), (some 22, []), (some 23, []), (some 24, []), (some 25, []), (some 26, [])] [[], [0], [0, 1], [0, 1, 2], [0, 1, 2, 3], [0, 1, 2], [0, 1, 2, 5], [0, 1, 2, 3, 4, 5, 6], [0, 1, 2, 3, 4, 5, 6, 7], [0, 1, 2, 3, 4, 5, 6, 7, 8], [0, 1, 2], [0, 1, 2, 10], [0, 1, 2, 3, 4, 5, 6, 7, 8, 9, 10, 11], [0, 1, 2, 3, 4, 5, 6, 7, 8, 9, 10, 11, 12]] tm rfl rfl rfl rfl ?_
    refine mvD ?_
    refine RD.op rfl rfl rfl (eff_iop (r := .bool false) rfl rfl rfl rfl (by show some (Tr.bool (decide _)) = _; rw [decide_eq_false (by omega)])) ?_
    refine mvD ?_
    refine gkD ?_
    refine gkD ?_
    refine gkD ?_
    refine gkD ?_
    refine gkD ?_
    refine gkD ?_
    refine gkD ?_
    refine gkD ?_
    refine gkD ?_
    refine gkD ?_
    refine RD.op rfl rfl rfl (eff_pick (v := .t _) rfl rfl rfl rfl) ?_
    refine RD.nil ?_
    refine awj_cond rfl (fun h => nomatch h) (fun _ => ?_)
    refine awj_skip ?_
    refine awj_seq ?_
    refine awj_rj rfl ?_
    refine RJ.sMake rfl rfl rfl rfl (fun rO hrO => ?_)
    refine RJ.op rfl rfl (eff_assign (v := .t _) rfl rfl rfl) ?_
    refine RJ.nil ?_
    refine awj_seq ?_
    refine awj_seq ?_
    refine awj_rj rfl ?_
    refine RJ.op rfl rfl (eff_fieldAddr rfl rfl tf27_1 (by decide) rfl rfl rfl (Nat.le_of_ble_eq_true rfl)) ?_
    refine RJ.op rfl rfl (eff_load (y := .t _) rfl rfl ti25 rfl (.one rfl rfl rfl rfl)) ?_
    refine RJ.op rfl rfl (eff_lenM rfl rfl te25 rfl) ?_
    refine RJ.op rfl rfl (eff_move (v := .t _) rfl rfl rfl) ?_
    refine RJ.nil ?_
    refine awj_block ?_
    refine awj_loopW (fun m s g => ∃ (i : Nat), (i ≤ t.poss.length) ∧ (gget g rO = some (mapO KR XU (setL (t.poss.take i)))) ∧ m = t.poss.length - i ∧ s = ⟨56, [(2, .ptr 2 0 0 0), (3, .ptr 3 0 0 0), (4, .ptr 4 0 0 0), (7, .t (.mp rO)), (30, .t (.sl (t.poss.map encR) false)), (31, .t (encI t.poss.length)), (32, .t (encI (i : Nat))), (57, .t deT)], [(2, some ⟨2, 27, 0, [.t (encT t)]⟩), (3, some ⟨5, 41, 0, [.t (encF f)]⟩), (4, some ⟨2, 27, 0, [.t z27]⟩)]⟩) (_) (⟨_, weak_keep (n := 56) (fr' := [(2, .ptr 2 0 0 0), (3, .ptr 3 0 0 0), (4, .ptr 4 0 0 0), (7, .t (.mp rO)), (30, .t (.sl (t.poss.map encR) false)), (31, .t (encI t.poss.length)), (32, .t (encI (0 : Nat))), (57, .t deT)]) (st' := [(2, some ⟨2, 27, 0, [.t (encT t)]⟩), (3, some ⟨5, 41, 0, [.t (encF f)]⟩), (4, some ⟨2, 27, 0, [.t z27]⟩)]) ⟨rfl, rfl, rfl, rfl, rfl, rfl, rfl, rfl, rfl, rfl, rfl, rfl, rfl, rfl, rfl, rfl, trivial⟩ ⟨rfl, okE_one rfl, rfl, okE_one rfl, rfl, okE_one rfl, trivial⟩, 0, (by omega), (by exact gget_same _ _ _), rfl, rfl⟩) ?_
    rintro m s g ⟨i, hi, hgO, rfl, rfl⟩
    refine awj_seq ?_
    refine awj_rj rfl ?_
    refine RJ.op rfl rfl (eff_iop rfl rfl rfl rfl rfl) ?_
    refine RJ.nil ?_
    refine awj_seq ?_
    refine awj_cond rfl (fun h5 => ?_) (fun h5 => ?_)
    · try simp only [cl] at h5
      refine awj_skip ?_
      refine awj_seq ?_
      refine awj_block ?_
      refine awj_seq ?_
      refine awj_rj rfl ?_
      refine RJ.op rfl rfl (eff_indexM rfl rfl te25 rfl rfl rfl (by first | assumption | exact List.getElem?_eq_getElem (by omega)) rfl (by decide)) ?_
      refine RJ.op rfl rfl (eff_loadW rfl rfl ti33 rfl rfl rfl) ?_
      refine RJ.new rfl rfl (eff_allocK (k := 4) (id := 9) rfl rfl tz33 rfl rfl) ?_
      refine RJ.store rfl rfl (eff_storeW (v := .t _) (els := [_]) (els' := [_]) rfl rfl ti33 rfl rfl rfl rfl rfl rfl rfl rfl rfl) ?_
      refine RJ.nil ?_
      refine awj_rj rfl ?_
      refine RJ.op rfl rfl (eff_move (v := .t _) rfl rfl rfl) ?_
      refine RJ.op rfl rfl (eff_load rfl rfl ti33 rfl (.whole rfl rfl rfl rfl rfl rfl)) ?_
      refine RJ.sPut (t.poss[i]'(by omega)) (t.poss.take i) rfl rfl (.inl rfl) Tryz.underlying62 rfl rfl rfl hgO ?_
      refine RJ.nil ?_
      refine awj_rj rfl ?_
      refine RJ.op rfl rfl (eff_iop rfl rfl rfl rfl (iadd (by omega))) ?_
      refine RJ.op rfl rfl (eff_move (v := .t _) rfl rfl rfl) ?_
      refine RJ.nil ?_
      refine ⟨_, ?_, _, weak_keep (n := 56) (fr' := [(2, .ptr 2 0 0 0), (3, .ptr 3 0 0 0), (4, .ptr 4 0 0 0), (7, .t (.mp rO)), (30, .t (.sl (t.poss.map encR) false)), (31, .t (encI t.poss.length)), (32, .t (encI ((i + 1) : Nat))), (57, .t deT)]) (st' := [(2, some ⟨2, 27, 0, [.t (encT t)]⟩), (3, some ⟨5, 41, 0, [.t (encF f)]⟩), (4, some ⟨2, 27, 0, [.t z27]⟩)]) ⟨rfl, rfl, rfl, rfl, rfl, rfl, rfl, rfl, rfl, rfl, rfl, rfl, rfl, rfl, rfl, rfl, trivial⟩ ⟨rfl, okE_one rfl, rfl, okE_one rfl, rfl, okE_one rfl, trivial⟩, i + 1, (by omega), (by rw [gget_same, ins_take (srt_nodup hs) (by omega)]), rfl, rfl⟩
      omega
    · try simp only [cl] at h5
      refine awj_exit ?_
      refine awj_seq ?_
      have hi2 : i = t.poss.length := by omega
      subst hi2
      rw [List.take_length] at hgO
      refine awj_freezeS 7 (l0 := t.poss) t.poss rfl hgO (.refl _) ?_
      have hfl := stepF_len t.poss f
      refine awj_rj rfl ?_
      refine RJ.op rfl rfl (eff_move (v := .t _) rfl rfl rfl) ?_
      refine RJ.op rfl rfl (eff_load rfl rfl ti41 rfl (.whole rfl rfl rfl rfl rfl rfl)) ?_
      refine RJ.op rfl rfl (eff_callXT (spread_ret t.poss f hs hp) co24 rfl rfl rfl ⟨rfl, trivial⟩ rfl) ?_
      refine RJ.op rfl rfl (eff_assign (v := .t _) rfl rfl rfl) ?_
      refine RJ.nil ?_
      refine awj_seq ?_
      refine awj_seq ?_
      refine awj_rj rfl ?_
      refine RJ.op rfl rfl (eff_move (v := .t _) rfl rfl rfl) ?_
      refine RJ.op rfl rfl (eff_lenS rfl rfl Tryz.underlying62 rfl) ?_
      refine RJ.op rfl rfl (eff_iop rfl rfl rfl rfl rfl) ?_
      refine RJ.nil ?_
      refine awj_cond rfl (fun h6 => ?_) (fun h6 => ?_)
      · try simp only [cl] at h6
        refine awj_seq ?_
        refine awj_rj rfl ?_
        refine RJ.op rfl rfl (eff_buildT (ys := [_, _]) rfl rfl tz27 tg27 rfl) ?_
        refine RJ.store rfl rfl (eff_storeW (v := .t _) (els := [_]) (els' := [_]) rfl rfl ti27 rfl rfl rfl rfl rfl rfl rfl rfl rfl) ?_
        refine RJ.op rfl rfl (eff_assign (v := .t _) rfl rfl rfl) ?_
        refine RJ.nil ?_
        refine awj_ret ?_
        first
          | (rw [send_late (by first | (rw [late_at (by omega)]; exact decide_eq_true (by first | assumption | omega)) | (exfalso; omega))]
             exact ⟨Or.inr rfl, [_, _], ⟨.cell rfl ti27 (.whole rfl rfl rfl rfl rfl rfl) (.t _), .tmp (.t _), trivial⟩, (by repeat' first | exact trivial | exact Wk.refl _ | exact Wk.sl _ | refine And.intro ?_ ?_ | refine Wk.tupP ?_ | refine Wk.aggP ?_)⟩)
          | (rw [send_many (by first | exact late_nil (by omega) | (rw [late_at (by omega)]; exact decide_eq_false (by first | assumption | omega))) (by omega)]
             exact ⟨Or.inr rfl, [_, _], ⟨.cell rfl ti27 (.whole rfl rfl rfl rfl rfl rfl) (.t _), .tmp (.t _), trivial⟩, (by repeat' first | exact trivial | exact Wk.refl _ | exact Wk.sl _ | refine And.intro ?_ ?_ | refine Wk.tupP ?_ | refine Wk.aggP ?_)⟩)
          | (rw [send_ok (by first | exact late_nil (by omega) | (rw [late_at (by omega)]; exact decide_eq_false (by first | assumption | omega))) (by omega)]
             exact ⟨Or.inr rfl, [_, _], ⟨.cell rfl ti27 (.whole rfl rfl rfl rfl rfl rfl) (Res.aggP (xs := [_, _]) ⟨Res.ownT (xs := (t.sent ++ [f]).map encF) rfl rfl rfl (by simp), .t _, trivial⟩), .tmp (.t _), trivial⟩, .refl _⟩)
      · try simp only [cl] at h6
        refine awj_skip ?_
        refine awj_seq ?_
        refine awj_rd [(some 46, []), (some 47, []), (some 48, []), (some 49, []), (some 50, [50]), (some 51, [51]), (some 52, [51, 56]), (some 53, []), (some 54, []), (some 55, []), (none, [4]), (some 5, [])] [[], [0], [0, 1], [], [3], [0, 1, 2, 3, 4], [0, 1, 2, 3, 4, 5], [], [0, 1, 2, 3, 4, 5, 6, 7], [0, 1, 2, 3, 4, 5, 6, 7, 8], [0, 1, 2, 3, 4, 5, 6, 7, 8, 9], [0, 1, 2, 3, 4, 5, 6, 7, 8, 9, 10]] tm rfl rfl rfl rfl ?_
        refine RD.op rfl rfl rfl (eff_fieldAddr rfl rfl tf27_0 (by decide) rfl rfl rfl (Nat.le_of_ble_eq_true rfl)) ?_
        refine RD.op rfl rfl rfl (eff_load (y := .t _) rfl rfl ti24 rfl (.one rfl rfl rfl rfl)) ?_
        refine RD.op rfl rfl rfl (eff_callT (clip_ret t.sent) co25 rfl rfl rfl rfl) ?_
        refine RD.op rfl rfl rfl (eff_load rfl rfl ti41 rfl (.whole rfl rfl rfl rfl rfl rfl)) ?_
        refine RD.new rfl rfl rfl (eff_buildSliceL (id := 50) (els := [.t (.agg [_, _, _, _, _])]) rfl rfl te24 tz41 rfl (by decide) (by decide) rfl rfl rfl rfl) ?_
        refine RD.new rfl rfl rfl (eff_appendNew (id := 51) (ys := [_]) rfl rfl ta24 rfl rfl (fun z hz => by obtain ⟨q, _, rfl⟩ := List.mem_map.1 hz; rfl) (srcOwn rfl rfl rfl rfl rfl rfl) (Nat.le_of_ble_eq_true rfl) (by simp; omega) (by simp; omega)) ?_
        refine RD.new2 rfl rfl rfl (eff_callG (ownO (t.sent ++ [f]) 0 _ _ (by simp) (by simp; rfl) (by simp; omega) (by simp) (by intro q hq; rcases List.mem_append.1 hq with h | h; exact hb q h; rw [List.mem_singleton.1 h]; exact hbf)) co23 (fun id => id + 51) rfl rfl rfl ⟨.own _ _ _ _ rfl rfl, trivial⟩ (.own _ _ _ _ rfl rfl) rfl ⟨⟨rfl, treeEls_app, ⟨_, rfl, Nat.lt_succ_self _⟩⟩, trivial⟩ ⟨⟨treeEls_app, .inl rfl⟩, ⟨treeEls_t, .inr rfl⟩, trivial⟩) ?_
        refine mvD ?_
        refine RD.op rfl rfl rfl (eff_callT (sorted_ret _ (srt_stepF hs) (by omega)) co26 rfl rfl rfl rfl) ?_
        refine RD.op rfl rfl rfl (eff_buildA (ys := [_, _]) rfl rfl tz27 tg27 rfl rfl) ?_
        refine RD.store rfl rfl rfl (eff_storeW (v := .agg _) (els := [_]) (els' := [_]) rfl rfl ti27 rfl rfl rfl rfl rfl rfl rfl rfl rfl) ?_
        refine RD.op rfl rfl rfl (eff_assign (v := .t _) rfl rfl rfl) ?_
        refine RD.nil ?_
        refine awj_ret ?_
        first
          | (rw [send_late (by first | (rw [late_at (by omega)]; exact decide_eq_true (by first | assumption | omega)) | (exfalso; omega))]
             exact ⟨Or.inr rfl, [_, _], ⟨.cell rfl ti27 (.whole rfl rfl rfl rfl rfl rfl) (.t _), .tmp (.t _), trivial⟩, (by repeat' first | exact trivial | exact Wk.refl _ | exact Wk.sl _ | refine And.intro ?_ ?_ | refine Wk.tupP ?_ | refine Wk.aggP ?_)⟩)
          | (rw [send_many (by first | exact late_nil (by omega) | (rw [late_at (by omega)]; exact decide_eq_false (by first | assumption | omega))) (by omega)]
             exact ⟨Or.inr rfl, [_, _], ⟨.cell rfl ti27 (.whole rfl rfl rfl rfl rfl rfl) (.t _), .tmp (.t _), trivial⟩, (by repeat' first | exact trivial | exact Wk.refl _ | exact Wk.sl _ | refine And.intro ?_ ?_ | refine Wk.tupP ?_ | refine Wk.aggP ?_)⟩)
          | (rw [send_ok (by first | exact late_nil (by omega) | (rw [late_at (by omega)]; exact decide_eq_false (by first | assumption | omega))) (by omega)]
             exact ⟨Or.inr rfl, [_, _], ⟨.cell rfl ti27 (.whole rfl rfl rfl rfl rfl rfl) (Res.aggP (xs := [_, _]) ⟨Res.ownT (xs := (t.sent ++ [f]).map encF) rfl rfl rfl (by simp), .t _, trivial⟩), .tmp (.t _), trivial⟩, .refl _⟩)

end Go.Tv.C37t

end
section
open Go Go.Tv Go.Tv.C37 Go.Proofs
namespace Go.Tv.C37t
set_option maxRecDepth 20000
set_option maxHeartbeats 2000000
set_option linter.unusedSimpArgs false
set_option linter.unusedVariables false
theorem thear_ret (t : Twn) (r : Rep) (hr : HP r) (hl : t.poss.length ≤ 1000) (hs : t.sent.length ≤ 1000) (hb : ∀ x, x ∈ t.sent → x.body.length ≤ 1000000) : RetT Tryz.prog 7 [(1, deT)] [encT t, encR r] (.tup [encT (hear t r).1, encI (hear t r).2]) := by
  refine retT_of_awp Tryz.func7 rfl (Nat.le_of_ble_eq_true rfl) ?_
  refine awp_seq ?_
  refine awp_rw rfl ?_
  refine RW.new rfl rfl (eff_boxK (v := .t _) (k := 2) (id := 2) rfl rfl rfl rfl rfl rfl) ?_
  refine RW.new rfl rfl (eff_boxK (v := .t _) (k := 4) (id := 3) rfl rfl rfl rfl rfl rfl) ?_
  refine RW.new rfl rfl (eff_allocK (k := 2) (id := 4) rfl rfl tz27 rfl rfl) ?_
  refine asT ?_
  refine RW.nil ?_
  refine awp_seq ?_
  refine awp_rw rfl ?_
  refine asT ?_
  refine RW.nil ?_
  show AWP _ _ _ _
  refine awp_weak (weak_adopt (d := 6) (id := 6) (k := 5) (ty := 41) rfl rfl) ?_
  refine awp_seq ?_
  refine awp_seq ?_
  refine awp_rw rfl ?_
  refine faT tf27_0 ?_
  refine l1T ti24 rfl rfl rfl rfl rfl (.one rfl rfl rfl rfl) ?_
  refine RW.op rfl rfl (eff_lenM rfl rfl te24 rfl) ?_
  refine mvT ?_
  refine RW.nil ?_
  refine awp_block ?_
  refine awp_loopW (fun m s => ∃ (i : Nat) (gn : Nat) (n : Nat) (els : List AV), (i ≤ t.sent.length) ∧ (n = (open_ (t.sent.take i) r).length) ∧ (els = ((open_ (t.sent.take i) r).map encF).map .t) ∧ m = t.sent.length - i ∧ s = ⟨57, [(2, .ptr 2 0 0 0), (3, .ptr 3 0 0 0), (4, .ptr 4 0 0 0), (6, .own 6 gn 0 n), (14, .t (.sl (t.sent.map encF) false)), (15, .t (encI t.sent.length)), (16, .t (encI (i : Nat))), (58, .t deT)], [(2, some ⟨2, 27, 0, [.t (encT t)]⟩), (3, some ⟨4, 33, 0, [.t (encR r)]⟩), (4, some ⟨2, 27, 0, [.t z27]⟩), (6, some ⟨5, 41, gn, els⟩)]⟩) (_) (⟨_, weak_keep (n := 57) (fr' := [(2, .ptr 2 0 0 0), (3, .ptr 3 0 0 0), (4, .ptr 4 0 0 0), (6, .own 6 0 0 0), (14, .t (.sl (t.sent.map encF) false)), (15, .t (encI t.sent.length)), (16, .t (encI (0 : Nat))), (58, .t deT)]) (st' := [(2, some ⟨2, 27, 0, [.t (encT t)]⟩), (3, some ⟨4, 33, 0, [.t (encR r)]⟩), (4, some ⟨2, 27, 0, [.t z27]⟩), (6, some ⟨5, 41, 0, ([])⟩)]) ⟨rfl, rfl, rfl, rfl, rfl, rfl, rfl, rfl, rfl, rfl, rfl, rfl, rfl, rfl, rfl, rfl, trivial⟩ ⟨rfl, okE_one rfl, rfl, okE_one rfl, rfl, okE_one rfl, rfl, (by first | exact okE_nil | (rw [he]; exact okE_t) | (rw [he]; intro x hx; simp only [List.mem_append, List.mem_map, List.mem_singleton] at hx; rcases hx with ⟨y, _, rfl⟩ | rfl <;> rfl)), trivial⟩, 0, 0, 0, [], (by omega), (by rfl), (by rfl), rfl, rfl⟩) ?_
  rintro m s ⟨i, gn, n, els, hi, hnn, he, rfl, rfl⟩
  have hol : (open_ (t.sent.take i) r).length ≤ t.sent.length := open_len _ _ _
  refine awp_seq ?_
  refine awp_rw rfl ?_
  refine ioT ?_
  refine RW.nil ?_
  refine awp_seq ?_
  refine awp_cond rfl (fun h1 => ?_) (fun h1 => ?_)
  · try simp only [cl] at h1
    refine awp_skip ?_
    refine awp_seq ?_
    refine awp_block ?_
    refine awp_seq ?_
    refine awp_rw rfl ?_
    refine RW.op rfl rfl (eff_indexM rfl rfl te24 rfl rfl rfl (by first | assumption | exact List.getElem?_eq_getElem (by omega)) rfl (by decide)) ?_
    refine RW.op rfl rfl (eff_loadW rfl rfl ti41 rfl rfl rfl) ?_
    refine RW.new rfl rfl (eff_allocK (k := 5) (id := 8) rfl rfl tz41 rfl rfl) ?_
    refine RW.store rfl rfl (eff_storeW (v := .t _) (els := [_]) (els' := [_]) rfl rfl ti41 rfl rfl rfl rfl rfl rfl rfl rfl rfl) ?_
    refine RW.nil ?_
    refine awp_seq ?_
    refine awp_rw rfl ?_
    refine faT tf41_1 ?_
    refine l1T ti3 rfl rfl rfl rfl rfl (.one rfl rfl rfl rfl) ?_
    refine faT tf33_2 ?_
    refine l1T ti3 rfl rfl rfl rfl rfl (.one rfl rfl rfl rfl) ?_
    refine ioT ?_
    refine RW.nil ?_
    refine awp_cond rfl (fun h2 => ?_) (fun h2 => ?_)
    · try simp only [cl] at h2
      refine awp_rw rfl ?_
      refine mvO ?_
      refine RW.op rfl rfl (eff_load rfl rfl ti41 rfl (.whole rfl rfl rfl rfl rfl rfl)) ?_
      refine RW.new rfl rfl (eff_buildSliceL (id := 27) (els := [.t (.agg [_, _, _, _, _])]) rfl rfl te24 tz41 rfl (by decide) (by decide) rfl rfl rfl rfl) ?_
      refine RW.new rfl rfl (eff_append (id := 6) (ys := [_]) rfl rfl ta24 rfl rfl rfl (by rw [he, hnn]; simp) rfl rfl (srcOwn rfl rfl rfl rfl rfl rfl) (by simp) (by simp; omega) (by simp; omega)) ?_
      refine asO ?_
      refine RW.nil ?_
      refine awp_rw rfl ?_
      refine RW.op rfl rfl (eff_iop rfl rfl rfl rfl (iadd (by omega))) ?_
      refine mvT ?_
      refine RW.nil ?_
      have hil : i < t.sent.length := by omega
      have ho : open_ (t.sent.take (i + 1)) r = (open_ (t.sent.take i) r) ++ [t.sent[i]'hil] := open_take hil (by omega)
      refine ⟨_, ?_, _, weak_keep (n := 57) (fr' := [(2, .ptr 2 0 0 0), (3, .ptr 3 0 0 0), (4, .ptr 4 0 0 0), (6, .own 6 _ 0 _), (14, .t (.sl (t.sent.map encF) false)), (15, .t (encI t.sent.length)), (16, .t (encI ((i + 1) : Nat))), (58, .t deT)]) (st' := [(2, some ⟨2, 27, 0, [.t (encT t)]⟩), (3, some ⟨4, 33, 0, [.t (encR r)]⟩), (4, some ⟨2, 27, 0, [.t z27]⟩), (6, some ⟨5, 41, _, _⟩)]) ⟨rfl, rfl, rfl, rfl, rfl, rfl, rfl, rfl, rfl, rfl, rfl, rfl, rfl, rfl, rfl, rfl, trivial⟩ ⟨rfl, okE_one rfl, rfl, okE_one rfl, rfl, okE_one rfl, rfl, (by first | exact okE_nil | (rw [he]; exact okE_t) | (rw [he]; intro x hx; simp only [List.mem_append, List.mem_map, List.mem_singleton] at hx; rcases hx with ⟨y, _, rfl⟩ | rfl <;> rfl)), trivial⟩, i + 1, _, _, _, (by omega), (by rw [ho]; simp [hnn]), (by rw [ho]; simp [he] <;> rfl), rfl, rfl⟩
      omega
    · try simp only [cl] at h2
      refine awp_skip ?_
      refine awp_rw rfl ?_
      refine RW.op rfl rfl (eff_iop rfl rfl rfl rfl (iadd (by omega))) ?_
      refine mvT ?_
      refine RW.nil ?_
      have hil : i < t.sent.length := by omega
      have ho : open_ (t.sent.take (i + 1)) r = (open_ (t.sent.take i) r) := open_skip hil (by omega)
      refine ⟨_, ?_, _, weak_keep (n := 57) (fr' := [(2, .ptr 2 0 0 0), (3, .ptr 3 0 0 0), (4, .ptr 4 0 0 0), (6, .own 6 _ 0 _), (14, .t (.sl (t.sent.map encF) false)), (15, .t (encI t.sent.length)), (16, .t (encI ((i + 1) : Nat))), (58, .t deT)]) (st' := [(2, some ⟨2, 27, 0, [.t (encT t)]⟩), (3, some ⟨4, 33, 0, [.t (encR r)]⟩), (4, some ⟨2, 27, 0, [.t z27]⟩), (6, some ⟨5, 41, _, _⟩)]) ⟨rfl, rfl, rfl, rfl, rfl, rfl, rfl, rfl, rfl, rfl, rfl, rfl, rfl, rfl, rfl, rfl, trivial⟩ ⟨rfl, okE_one rfl, rfl, okE_one rfl, rfl, okE_one rfl, rfl, (by first | exact okE_nil | (rw [he]; exact okE_t) | (rw [he]; intro x hx; simp only [List.mem_append, List.mem_map, List.mem_singleton] at hx; rcases hx with ⟨y, _, rfl⟩ | rfl <;> rfl)), trivial⟩, i + 1, _, _, _, (by omega), (by rw [ho]; simp [hnn]), (by rw [ho]; simp [he] <;> rfl), rfl, rfl⟩
      omega
  · try simp only [cl] at h1
    refine awp_exit ?_
    refine awp_seq ?_
    have hi2 : i = t.sent.length := by omega
    subst hi2
    rw [List.take_length] at hnn he
    refine awp_weak (weak_frz (n := 57) (fr' := [(2, .ptr 2 0 0 0), (3, .ptr 3 0 0 0), (4, .ptr 4 0 0 0), (6, .t (.sl ((open_ t.sent r).map encF) false)), (58, .t deT)]) (st' := [(2, some ⟨2, 27, 0, [.t (encT t)]⟩), (3, some ⟨4, 33, 0, [.t (encR r)]⟩), (4, some ⟨2, 27, 0, [.t z27]⟩)]) [(6, some ⟨5, 41, gn, els⟩)] ⟨rfl, trivial⟩ ⟨rfl, rfl, rfl, trivial⟩ ⟨wa_eq rfl rfl, wa_eq rfl rfl, wa_eq rfl rfl, .res (Res.ownT (xs := (open_ t.sent r).map encF) rfl rfl he (by rw [hnn]; simp)) (.refl _), wa_eq rfl rfl, trivial⟩ ⟨rfl, okE_one rfl, rfl, okE_one rfl, rfl, okE_one rfl, trivial⟩) ?_
    have hol2 : (open_ t.sent r).length ≤ t.sent.length := List.length_filter_le _ _
    refine awp_rw rfl ?_
    refine RW.op rfl rfl (eff_load rfl rfl ti33 rfl (.whole rfl rfl rfl rfl rfl rfl)) ?_
    refine mvT ?_
    refine RW.op rfl rfl (eff_callXT (reach_ret r (open_ t.sent r) hr (by omega)) co22 rfl rfl rfl ⟨rfl, trivial⟩ rfl) ?_
    refine asT ?_
    refine RW.nil ?_
    refine awp_seq ?_
    refine awp_rw rfl ?_
    refine asT ?_
    refine RW.nil ?_
    show AWP _ _ _ _
    refine awp_weak (weak_adopt (d := 10) (id := 10) (k := 4) (ty := 33) rfl rfl) ?_
    refine awp_seq ?_
    refine awp_seq ?_
    refine awp_rw rfl ?_
    refine faT tf27_1 ?_
    refine l1T ti25 rfl rfl rfl rfl rfl (.one rfl rfl rfl rfl) ?_
    refine RW.op rfl rfl (eff_lenM rfl rfl te25 rfl) ?_
    refine mvT ?_
    refine RW.nil ?_
    refine awp_block ?_
    refine awp_loopW (fun m s => ∃ (k : Nat) (gm : Nat) (n2 : Nat) (els2 : List AV), (k ≤ t.poss.length) ∧ (n2 = ((t.poss.take k).filter (fun x => decide (x ∈ reachF r (open_ t.sent r)))).length) ∧ (els2 = (((t.poss.take k).filter (fun x => decide (x ∈ reachF r (open_ t.sent r)))).map encR).map .t) ∧ m = t.poss.length - k ∧ s = ⟨57, [(2, .ptr 2 0 0 0), (4, .ptr 4 0 0 0), (9, .t (mset (reachF r (open_ t.sent r)))), (10, .own 10 gm 0 n2), (34, .t (.sl (t.poss.map encR) false)), (35, .t (encI t.poss.length)), (36, .t (encI (k : Nat))), (58, .t deT)], [(2, some ⟨2, 27, 0, [.t (encT t)]⟩), (4, some ⟨2, 27, 0, [.t z27]⟩), (10, some ⟨4, 33, gm, els2⟩)]⟩) (_) (⟨_, weak_keep (n := 57) (fr' := [(2, .ptr 2 0 0 0), (4, .ptr 4 0 0 0), (9, .t (mset (reachF r (open_ t.sent r)))), (10, .own 10 0 0 0), (34, .t (.sl (t.poss.map encR) false)), (35, .t (encI t.poss.length)), (36, .t (encI (0 : Nat))), (58, .t deT)]) (st' := [(2, some ⟨2, 27, 0, [.t (encT t)]⟩), (4, some ⟨2, 27, 0, [.t z27]⟩), (10, some ⟨4, 33, 0, ([])⟩)]) ⟨rfl, rfl, rfl, rfl, rfl, rfl, rfl, rfl, rfl, rfl, rfl, rfl, rfl, rfl, rfl, rfl, trivial⟩ ⟨rfl, okE_one rfl, rfl, okE_one rfl, rfl, (by first | exact okE_nil | (rw [he2]; exact okE_t) | (rw [he2]; intro x hx; simp only [List.mem_append, List.mem_map, List.mem_singleton] at hx; rcases hx with ⟨y, _, rfl⟩ | rfl <;> rfl)), trivial⟩, 0, 0, 0, [], (by omega), (by simp), (by simp), rfl, rfl⟩) ?_
    rintro m s ⟨k, gm, n2, els2, hk, hnn2, he2, rfl, rfl⟩
    have hfl0 : n2 ≤ k := by rw [hnn2]; exact Nat.le_trans (List.length_filter_le _ _) (by simp; omega)
    refine awp_seq ?_
    refine awp_rw rfl ?_
    refine ioT ?_
    refine RW.nil ?_
    refine awp_seq ?_
    refine awp_cond rfl (fun h3 => ?_) (fun h3 => ?_)
    · try simp only [cl] at h3
      refine awp_skip ?_
      refine awp_seq ?_
      refine awp_block ?_
      refine awp_seq ?_
      refine awp_rw rfl ?_
      refine RW.op rfl rfl (eff_indexM rfl rfl te25 rfl rfl rfl (by first | assumption | exact List.getElem?_eq_getElem (by omega)) rfl (by decide)) ?_
      refine RW.op rfl rfl (eff_loadW rfl rfl ti33 rfl rfl rfl) ?_
      refine RW.new rfl rfl (eff_allocK (k := 4) (id := 12) rfl rfl tz33 rfl rfl) ?_
      refine RW.store rfl rfl (eff_storeW (v := .t _) (els := [_]) (els' := [_]) rfl rfl ti33 rfl rfl rfl rfl rfl rfl rfl rfl rfl) ?_
      refine RW.nil ?_
      refine awp_seq ?_
      refine awp_rw rfl ?_
      refine mvT ?_
      refine RW.op rfl rfl (eff_load rfl rfl ti33 rfl (.whole rfl rfl rfl rfl rfl rfl)) ?_
      refine RW.op rfl rfl (eff_hasS (t.poss[k]'(by omega)) (srt_nodup (srt_reach r _)) Tryz.underlying62 tz4 rfl rfl rfl rfl) ?_
      refine RW.nil ?_
      refine awp_cond rfl (fun h4 => ?_) (fun h4 => ?_)
      · try simp only [cl] at h4
        refine awp_rw rfl ?_
        refine mvO ?_
        refine RW.op rfl rfl (eff_load rfl rfl ti33 rfl (.whole rfl rfl rfl rfl rfl rfl)) ?_
        refine RW.new rfl rfl (eff_buildSliceL (id := 45) (els := [.t (.agg [_, _, _, _])]) rfl rfl te25 tz33 rfl (by decide) (by decide) rfl rfl rfl rfl) ?_
        refine RW.new rfl rfl (eff_append (id := 10) (ys := [_]) rfl rfl ta25 rfl rfl rfl (by rw [he2, hnn2]; simp) rfl rfl (srcOwn rfl rfl rfl rfl rfl rfl) (by simp) (by simp; omega) (by simp; omega)) ?_
        refine asO ?_
        refine RW.nil ?_
        refine awp_rw rfl ?_
        refine RW.op rfl rfl (eff_iop rfl rfl rfl rfl (iadd (by omega))) ?_
        refine mvT ?_
        refine RW.nil ?_
        have hft : (t.poss.take (k + 1)).filter (fun x => decide (x ∈ reachF r (open_ t.sent r))) = _ := (left_take (by omega)).trans (congrArg _ (by first | exact if_pos (by assumption) | exact if_neg (by assumption)))
        refine ⟨_, ?_, _, weak_keep (n := 57) (fr' := [(2, .ptr 2 0 0 0), (4, .ptr 4 0 0 0), (9, .t (mset (reachF r (open_ t.sent r)))), (10, .own 10 _ 0 _), (34, .t (.sl (t.poss.map encR) false)), (35, .t (encI t.poss.length)), (36, .t (encI ((k + 1) : Nat))), (58, .t deT)]) (st' := [(2, some ⟨2, 27, 0, [.t (encT t)]⟩), (4, some ⟨2, 27, 0, [.t z27]⟩), (10, some ⟨4, 33, _, _⟩)]) ⟨rfl, rfl, rfl, rfl, rfl, rfl, rfl, rfl, rfl, rfl, rfl, rfl, rfl, rfl, rfl, rfl, trivial⟩ ⟨rfl, okE_one rfl, rfl, okE_one rfl, rfl, (by first | exact okE_nil | (rw [he2]; exact okE_t) | (rw [he2]; intro x hx; simp only [List.mem_append, List.mem_map, List.mem_singleton] at hx; rcases hx with ⟨y, _, rfl⟩ | rfl <;> rfl)), trivial⟩, k + 1, _, _, _, (by omega), (by rw [hft, hnn2]; simp), (by rw [hft, he2]; simp <;> rfl), rfl, rfl⟩
        omega
      · try simp only [cl] at h4
        refine awp_skip ?_
        refine awp_rw rfl ?_
        refine RW.op rfl rfl (eff_iop rfl rfl rfl rfl (iadd (by omega))) ?_
        refine mvT ?_
        refine RW.nil ?_
        have hft : (t.poss.take (k + 1)).filter (fun x => decide (x ∈ reachF r (open_ t.sent r))) = _ := (left_take (by omega)).trans (congrArg _ (by first | exact if_pos (by assumption) | exact if_neg (by assumption)))
        refine ⟨_, ?_, _, weak_keep (n := 57) (fr' := [(2, .ptr 2 0 0 0), (4, .ptr 4 0 0 0), (9, .t (mset (reachF r (open_ t.sent r)))), (10, .own 10 _ 0 _), (34, .t (.sl (t.poss.map encR) false)), (35, .t (encI t.poss.length)), (36, .t (encI ((k + 1) : Nat))), (58, .t deT)]) (st' := [(2, some ⟨2, 27, 0, [.t (encT t)]⟩), (4, some ⟨2, 27, 0, [.t z27]⟩), (10, some ⟨4, 33, _, _⟩)]) ⟨rfl, rfl, rfl, rfl, rfl, rfl, rfl, rfl, rfl, rfl, rfl, rfl, rfl, rfl, rfl, rfl, trivial⟩ ⟨rfl, okE_one rfl, rfl, okE_one rfl, rfl, (by first | exact okE_nil | (rw [he2]; exact okE_t) | (rw [he2]; intro x hx; simp only [List.mem_append, List.mem_map, List.mem_singleton] at hx; rcases hx with ⟨y, _, rfl⟩ | rfl <;> rfl)), trivial⟩, k + 1, _, _, _, (by omega), (by rw [hft, hnn2]; simp), (by rw [hft, he2]; simp <;> rfl), rfl, rfl⟩
        omega
    · try simp only [cl] at h3
      refine awp_exit ?_
      refine awp_seq ?_
      refine awp_seq ?_
      refine awp_rw rfl ?_
      refine mvO ?_
      refine RW.op rfl rfl (eff_len rfl rfl te25 rfl rfl rfl) ?_
      refine ioT ?_
      refine RW.nil ?_
      refine awp_cond rfl (fun h5 => ?_) (fun h5 => ?_)
      · try simp only [cl] at h5
        refine awp_seq ?_
        refine awp_rw rfl ?_
        refine RW.op rfl rfl (eff_buildT (ys := [_, _]) rfl rfl tz27 tg27 rfl) ?_
        refine RW.store rfl rfl (eff_storeW (v := .t _) (els := [_]) (els' := [_]) rfl rfl ti27 rfl rfl rfl rfl rfl rfl rfl rfl rfl) ?_
        refine asT ?_
        refine RW.nil ?_
        refine awp_ret ?_
        have hk2 : k = t.poss.length := by omega
        subst hk2
        have htl : t.poss.take t.poss.length = t.poss := List.take_length
        have hlf : left_ t r = (t.poss.take t.poss.length).filter (fun x => decide (x ∈ reachF r (open_ t.sent r))) := by rw [htl]; rfl
        first
          | (rw [hear_no (by rw [hlf]; omega)]
             exact ⟨Or.inr rfl, [_, _], ⟨.cell rfl ti27 (.whole rfl rfl rfl rfl rfl rfl) (.t _), .tmp (.t _), trivial⟩, (by repeat' first | exact trivial | exact Wk.refl _ | exact Wk.sl _ | refine And.intro ?_ ?_ | refine Wk.tupP ?_ | refine Wk.aggP ?_)⟩)
          | (rw [hear_ok (by rw [hlf]; omega), hlf]
             exact ⟨Or.inr rfl, [_, _], ⟨.cell rfl ti27 (.whole rfl rfl rfl rfl rfl rfl) (Res.aggP (xs := [_, _]) ⟨.t _, Res.ownT (xs := ((t.poss.take t.poss.length).filter (fun x => decide (x ∈ reachF r (open_ t.sent r)))).map encR) rfl rfl he2 (by rw [hnn2]; simp), trivial⟩), .tmp (.t _), trivial⟩, .refl _⟩)
      · try simp only [cl] at h5
        refine awp_skip ?_
        refine awp_seq ?_
        refine awp_rw rfl ?_
        refine faT tf27_0 ?_
        refine l1T ti24 rfl rfl rfl rfl rfl (.one rfl rfl rfl rfl) ?_
        refine RW.op rfl rfl (eff_callT (own_ret t.sent (by omega) hb) co23 rfl rfl rfl rfl) ?_
        refine mvO ?_
        refine RW.op rfl rfl (eff_buildA (ys := [_, _]) rfl rfl tz27 tg27 rfl rfl) ?_
        refine RW.store rfl rfl (eff_storeW (v := .agg _) (els := [_]) (els' := [_]) rfl rfl ti27 rfl rfl rfl rfl rfl rfl rfl rfl rfl) ?_
        refine asT ?_
        refine RW.nil ?_
        refine awp_ret ?_
        have hk2 : k = t.poss.length := by omega
        subst hk2
        have htl : t.poss.take t.poss.length = t.poss := List.take_length
        have hlf : left_ t r = (t.poss.take t.poss.length).filter (fun x => decide (x ∈ reachF r (open_ t.sent r))) := by rw [htl]; rfl
        first
          | (rw [hear_no (by rw [hlf]; omega)]
             exact ⟨Or.inr rfl, [_, _], ⟨.cell rfl ti27 (.whole rfl rfl rfl rfl rfl rfl) (.t _), .tmp (.t _), trivial⟩, (by repeat' first | exact trivial | exact Wk.refl _ | exact Wk.sl _ | refine And.intro ?_ ?_ | refine Wk.tupP ?_ | refine Wk.aggP ?_)⟩)
          | (rw [hear_ok (by rw [hlf]; omega), hlf]
             exact ⟨Or.inr rfl, [_, _], ⟨.cell rfl ti27 (.whole rfl rfl rfl rfl rfl rfl) (Res.aggP (xs := [_, _]) ⟨.t _, Res.ownT (xs := ((t.poss.take t.poss.length).filter (fun x => decide (x ∈ reachF r (open_ t.sent r)))).map encR) rfl rfl he2 (by rw [hnn2]; simp), trivial⟩), .tmp (.t _), trivial⟩, .refl _⟩)

end Go.Tv.C37t

end
section
namespace Go.Tv.C37p
set_option linter.unusedVariables false

structure Bid where
  craft : Int
  station : Int
  frm : Int
  til : Int
  val : Int
  deriving DecidableEq, Inhabited

def confl (a b : Bid) : Bool := decide (a.frm < b.til) && decide (b.frm < a.til)
theorem confl_comm (a b : Bid) : confl a b = confl b a := Bool.and_comm _ _
def Ok (b : Bid) : Prop := b.frm < b.til ∧ 1 ≤ b.val
theorem confl_self {b : Bid} (h : Ok b) : confl b b = true := by
  have := h.1
  unfold confl
  rw [decide_eq_true this]; rfl
def Comp (l : List Bid) : Prop := l.Pairwise fun a b => confl a b = false
def sumV : List Bid → Int
  | [] => 0
  | b :: l => b.val + sumV l
theorem sumV_append : ∀ (l m : List Bid), sumV (l ++ m) = sumV l + sumV m
  | [], m => by simp [sumV]
  | b :: l, m => by simp only [List.cons_append, sumV, sumV_append l m]; omega
theorem sumV_perm {l m : List Bid} (h : l.Perm m) : sumV l = sumV m := by
  induction h with
  | nil => rfl
  | cons x _ ih => simp only [sumV, ih]
  | swap x y l => simp only [sumV]; omega
  | trans _ _ h1 h2 => exact h1.trans h2
theorem comp_perm {l m : List Bid} (h : l.Perm m) (hc : Comp l) : Comp m :=
  (h.pairwise_iff (R := fun a b => confl a b = false) (fun {a b} hab => by rw [confl_comm]; exact hab)).1 hc
theorem sub_perm {l m s : List Bid} (h : l.Perm m) (hs : s.Sublist l) : ∃ t : List Bid, t.Perm s ∧ t.Sublist m := by
  induction h generalizing s with
  | nil => exact ⟨s, .refl _, hs⟩
  | cons x _ ih =>
    cases hs with
    | cons _ h1 =>
      obtain ⟨t, h2, h3⟩ := ih h1
      exact ⟨t, h2, .cons _ h3⟩
    | cons_cons _ h1 =>
      obtain ⟨t, h2, h3⟩ := ih h1
      exact ⟨x :: t, h2.cons x, .cons_cons _ h3⟩
  | swap x y l =>
    cases hs with
    | cons _ h1 =>
      cases h1 with
      | cons _ h2 => exact ⟨s, .refl _, .cons _ (.cons _ h2)⟩
      | cons_cons _ h2 => exact ⟨_, .refl _, .cons_cons _ (.cons _ h2)⟩
    | cons_cons _ h1 =>
      cases h1 with
      | cons _ h2 => exact ⟨_, .refl _, .cons _ (.cons_cons _ h2)⟩
      | @cons_cons s' _ _ h2 => exact ⟨x :: y :: s', .swap _ _ _, .cons_cons _ (.cons_cons _ h2)⟩
  | trans _ _ h1 h2 =>
    obtain ⟨t, a, b⟩ := h1 hs
    obtain ⟨u, c, d⟩ := h2 b
    exact ⟨u, c.trans a, d⟩

/-- n is the greatest value of some bids of l that do not conflict. -/
def IsOpt (l : List Bid) (n : Int) : Prop := (∃ s, s.Sublist l ∧ Comp s ∧ sumV s = n) ∧ ∀ s, s.Sublist l → Comp s → sumV s ≤ n
theorem IsOpt.uniq {l : List Bid} {n m : Int} (h : IsOpt l n) (h' : IsOpt l m) : n = m := by
  obtain ⟨⟨s, a, b, c⟩, h1⟩ := h
  obtain ⟨⟨t, d, e, f⟩, h2⟩ := h'
  have := h2 s a b
  have := h1 t d e
  omega
theorem IsOpt.perm {l m : List Bid} {n : Int} (h : IsOpt l n) (hp : l.Perm m) : IsOpt m n := by
  obtain ⟨⟨s, a, b, c⟩, h1⟩ := h
  constructor
  · obtain ⟨t, h2, h3⟩ := sub_perm hp a
    exact ⟨t, h3, comp_perm h2.symm b, by rw [sumV_perm h2]; exact c⟩
  · intro s hs hc
    obtain ⟨t, h2, h3⟩ := sub_perm hp.symm hs
    rw [← sumV_perm h2]
    exact h1 t h3 (comp_perm h2.symm hc)
theorem isOpt_nil : IsOpt [] 0 := ⟨⟨[], .slnil, List.Pairwise.nil, rfl⟩, fun s hs _ => by
  cases hs; exact Int.le_refl _⟩

/-! ### The table -/
/-- How many bids of a list sorted by their ends end by t. -/
def endBy (l : List Bid) (t : Int) : Nat := (l.takeWhile fun x => decide (x.til ≤ t)).length
theorem endBy_le (l : List Bid) (t : Int) : endBy l t ≤ l.length := (List.takeWhile_prefix _).length_le
theorem endBy_take : ∀ (l : List Bid) (t : Int), ∀ x, x ∈ l.take (endBy l t) → x.til ≤ t
  | [], t, x, h => by simp at h
  | y :: l, t, x, h => by
    unfold endBy at h
    by_cases hy : y.til ≤ t
    · rw [List.takeWhile_cons_of_pos (by simpa using hy)] at h
      simp only [List.length_cons, List.take_succ_cons, List.mem_cons] at h
      rcases h with rfl | h
      · exact hy
      · exact endBy_take l t x h
    · rw [List.takeWhile_cons_of_neg (by simpa using hy)] at h
      simp at h
def SortedT (l : List Bid) : Prop := l.Pairwise fun a b => a.til ≤ b.til
theorem endBy_drop : ∀ (l : List Bid) (t : Int), SortedT l → ∀ x, x ∈ l.drop (endBy l t) → t < x.til
  | [], t, _, x, h => by simp at h
  | y :: l, t, hs, x, h => by
    obtain ⟨h1, h2⟩ := List.pairwise_cons.1 hs
    unfold endBy at h
    by_cases hy : y.til ≤ t
    · rw [List.takeWhile_cons_of_pos (by simpa using hy)] at h
      simp only [List.length_cons, List.drop_succ_cons] at h
      exact endBy_drop l t h2 x h
    · rw [List.takeWhile_cons_of_neg (by simpa using hy)] at h
      simp only [List.length_nil, List.drop_zero, List.mem_cons] at h
      rcases h with rfl | h
      · omega
      · have := h1 x h; omega

/-- The table: the optimum of the first k bids of a list sorted by their ends. -/
def dp (l : List Bid) : Nat → Int
  | 0 => 0
  | k + 1 => if h : k < l.length then max (dp l k) (l[k].val + dp l (min k (endBy l l[k].frm))) else dp l k
termination_by k => k
decreasing_by all_goals omega

theorem endBy_lt {l : List Bid} {k : Nat} (hs : SortedT l) (h : k < l.length) (ho : Ok l[k]) : endBy l l[k].frm ≤ k := by
  refine Nat.le_of_not_lt fun hlt => ?_
  have := endBy_take l l[k].frm l[k] (List.mem_take_iff_getElem.2 ⟨k, by omega, rfl⟩)
  have := ho.1
  omega
theorem sublist_snoc {s l : List Bid} {b : Bid} (h : s.Sublist (l ++ [b])) : s.Sublist l ∨ ∃ t, s = t ++ [b] ∧ t.Sublist l := by
  obtain ⟨s1, s2, rfl, h1, h2⟩ := List.sublist_append_iff.1 h
  cases h2 with
  | cons _ h3 => cases h3; rw [List.append_nil]; exact .inl h1
  | cons_cons _ h3 => cases h3; exact .inr ⟨s1, rfl, h1⟩
/-- What may stand beside the last bid is what ends by its start. -/
theorem sub_before {l t : List Bid} {k : Nat} (hs : SortedT l) (ho : ∀ b, b ∈ l → Ok b) (h : k < l.length) (ht : t.Sublist (l.take k)) (hc : ∀ x, x ∈ t → confl x l[k] = false) : t.Sublist (l.take (endBy l l[k].frm)) := by
  have hle := endBy_lt hs h (ho _ (List.getElem_mem h))
  have e : l.take k = l.take (endBy l l[k].frm) ++ (l.take k).drop (endBy l l[k].frm) := by
    conv => lhs; rw [← List.take_append_drop (endBy l l[k].frm) (l.take k)]
    rw [List.take_take, Nat.min_eq_left hle]
  rw [e] at ht
  obtain ⟨s1, s2, rfl, h1, h2⟩ := List.sublist_append_iff.1 ht
  have : s2 = [] := by
    rcases s2 with _ | ⟨x, s2⟩
    · rfl
    · exfalso
      have hx := h2.subset (List.mem_cons_self (a := x) (l := s2))
      have hx2 := hc x (List.mem_append_right _ List.mem_cons_self)
      have hxl : x ∈ l := List.mem_of_mem_take (List.mem_of_mem_drop hx)
      rw [List.drop_take] at hx
      have hlt := endBy_drop l l[k].frm hs x (List.mem_of_mem_take hx)
      obtain ⟨j, hj, rfl⟩ := List.mem_iff_getElem.1 (List.mem_of_mem_drop (List.mem_of_mem_take hx))
      have hok := (ho _ hxl).1
      have htk : ∃ i, ∃ hi : i < l.length, i < k ∧ l[i] = l[j] := by
        have hm : l[j] ∈ l.take k := by
          rw [e]; refine List.mem_append_right _ ?_
          rw [List.drop_take]; exact hx
        obtain ⟨i, hi, e2⟩ := List.mem_iff_getElem.1 hm
        rw [List.length_take] at hi
        exact ⟨i, by omega, by omega, by rw [← e2, List.getElem_take]⟩
      obtain ⟨i, hi, hik, e2⟩ := htk
      have hord : l[i].til ≤ l[k].til := List.pairwise_iff_getElem.1 hs i k hi h hik
      rw [e2] at hord
      unfold confl at hx2
      rw [decide_eq_true (show l[j].frm < l[k].til by omega), decide_eq_true (show l[k].frm < l[j].til by omega)] at hx2
      cases hx2
  subst this
  rw [List.append_nil]; exact h1
theorem dp_opt {l : List Bid} (hs : SortedT l) (ho : ∀ b, b ∈ l → Ok b) : ∀ k, k ≤ l.length → IsOpt (l.take k) (dp l k) := by
  intro k
  induction k using Nat.strongRecOn with
  | _ k ih =>
    intro hk
    match k, ih, hk with
    | 0, _, _ => rw [List.take_zero, dp]; exact isOpt_nil
    | k + 1, ih, hk =>
      have hkl : k < l.length := by omega
      have hle := endBy_lt hs hkl (ho _ (List.getElem_mem hkl))
      rw [dp, dif_pos hkl, Nat.min_eq_right hle]
      obtain ⟨⟨s, a1, a2, a3⟩, a4⟩ := ih k (by omega) (by omega)
      obtain ⟨⟨t, b1, b2, b3⟩, b4⟩ := ih (endBy l l[k].frm) (by omega) (by omega)
      have et : l.take (k + 1) = l.take k ++ [l[k]] := by rw [List.take_add_one, List.getElem?_eq_getElem hkl]; rfl
      rw [et]
      constructor
      · rcases Int.le_total (dp l k) (l[k].val + dp l (endBy l l[k].frm)) with h | h
        · refine ⟨t ++ [l[k]], ?_, ?_, ?_⟩
          · refine List.Sublist.append (b1.trans ?_) (List.Sublist.refl _)
            have := (List.take_prefix (endBy l l[k].frm) (l.take k)).sublist
            rwa [List.take_take, Nat.min_eq_left hle] at this
          · refine List.pairwise_append.2 ⟨b2, List.pairwise_singleton _ _, fun x hx y hy => ?_⟩
            rw [List.mem_singleton.1 hy]
            have := endBy_take l l[k].frm x (b1.subset hx)
            unfold confl
            rw [decide_eq_false (show ¬ l[k].frm < x.til by omega), Bool.and_false]
          · rw [sumV_append, b3, Int.max_eq_right h]; simp only [sumV]; omega
        · exact ⟨s, a1.trans (List.sublist_append_left _ _), a2, by rw [Int.max_eq_left h]; exact a3⟩
      · intro u hu hc
        rcases sublist_snoc hu with h | ⟨v, rfl, hv⟩
        · exact Int.le_trans (a4 u h hc) (Int.le_max_left _ _)
        · obtain ⟨c1, _, c3⟩ := List.pairwise_append.1 hc
          have := b4 v (sub_before hs ho hkl hv (fun x hx => c3 x hx _ (List.mem_singleton.2 rfl))) c1
          rw [sumV_append]
          simp only [sumV]
          have := Int.le_max_right (dp l k) (l[k].val + dp l (endBy l l[k].frm))
          omega
end Go.Tv.C37p

end
section
namespace Go.Tv.C37p
set_option linter.unusedVariables false

noncomputable def optOf (l : List Bid) : Int := open Classical in if h : ∃ n, IsOpt l n then h.choose else 0
theorem opt_ex : ∀ (l : List Bid), ∃ n, IsOpt l n := by
  intro l
  have key : ∀ (c : List (List Bid)), c ≠ [] → ∃ s, s ∈ c ∧ ∀ t, t ∈ c → sumV t ≤ sumV s := by
    intro c
    induction c with
    | nil => intro h; exact absurd rfl h
    | cons a c ih =>
      intro _
      rcases c with _ | ⟨b, c⟩
      · exact ⟨a, List.mem_cons_self, fun t ht => by rw [List.mem_singleton.1 ht]; exact Int.le_refl _⟩
      · obtain ⟨s, h1, h2⟩ := ih (List.cons_ne_nil _ _)
        rcases Int.le_total (sumV s) (sumV a) with h | h
        · exact ⟨a, List.mem_cons_self, fun t ht => by
            rcases List.mem_cons.1 ht with rfl | ht
            · exact Int.le_refl _
            · exact Int.le_trans (h2 t ht) h⟩
        · exact ⟨s, List.mem_cons_of_mem _ h1, fun t ht => by
            rcases List.mem_cons.1 ht with rfl | ht
            · exact h
            · exact h2 t ht⟩
  have subs : ∀ l : List Bid, ∃ c : List (List Bid), ∀ s, s ∈ c ↔ s.Sublist l := by
    intro l
    induction l with
    | nil => exact ⟨[[]], fun s => by simp⟩
    | cons a l ih =>
      obtain ⟨c, hc⟩ := ih
      refine ⟨c ++ c.map (a :: ·), fun s => ?_⟩
      rw [List.mem_append, List.mem_map]
      constructor
      · rintro (h | ⟨t, h, rfl⟩)
        · exact .cons _ ((hc s).1 h)
        · exact .cons_cons _ ((hc t).1 h)
      · intro h
        cases h with
        | cons _ h => exact .inl ((hc s).2 h)
        | cons_cons _ h => exact .inr ⟨_, (hc _).2 h, rfl⟩
  obtain ⟨c, hc⟩ := subs l
  classical
  have hcd : ∀ s, s ∈ c.filter (fun s => decide (Comp s)) ↔ s.Sublist l ∧ Comp s := fun s => by
    rw [List.mem_filter, hc, decide_eq_true_eq]
  obtain ⟨s, h1, h2⟩ := key (c.filter fun s => decide (Comp s)) (fun e => by
    have := (hcd []).2 ⟨List.nil_sublist _, List.Pairwise.nil⟩
    rw [e] at this; cases this)
  exact ⟨sumV s, ⟨s, ((hcd s).1 h1).1, ((hcd s).1 h1).2, rfl⟩, fun t ht hc => h2 t ((hcd t).2 ⟨ht, hc⟩)⟩
theorem opt_is (l : List Bid) : IsOpt l (optOf l) := by
  unfold optOf
  rw [dif_pos (opt_ex l)]
  exact (opt_ex l).choose_spec
theorem opt_eq {l : List Bid} {n : Int} (h : IsOpt l n) : optOf l = n := (opt_is l).uniq h
theorem opt_nonneg (l : List Bid) : 0 ≤ optOf l := (opt_is l).2 [] (List.nil_sublist _) List.Pairwise.nil
end Go.Tv.C37p

end
section
namespace Go.Tv.C37p
set_option linter.unusedVariables false

abbrev zb : Bid := ⟨0, 0, 0, 0, 0⟩
theorem comp_nodup {t : List Bid} (ho : ∀ x, x ∈ t → Ok x) (h : Comp t) : t.Nodup := by
  induction t with
  | nil => exact List.nodup_nil
  | cons a t ih =>
    obtain ⟨h1, h2⟩ := List.pairwise_cons.1 h
    refine List.nodup_cons.2 ⟨fun hm => ?_, ih (fun x hx => ho x (List.mem_cons_of_mem _ hx)) h2⟩
    have := h1 a hm
    rw [confl_self (ho a List.mem_cons_self)] at this; cases this
theorem sub_of_mem : ∀ (op t : List Bid), t.Nodup → (∀ x, x ∈ t → x ∈ op) → ∃ t' : List Bid, t'.Perm t ∧ t'.Sublist op
  | [], t, _, h => by
    rcases t with _ | ⟨x, t⟩
    · exact ⟨[], .refl _, .slnil⟩
    · have := h x List.mem_cons_self; cases this
  | a :: op, t, hn, h => by
    by_cases ha : a ∈ t
    · have hp := List.perm_cons_erase ha
      obtain ⟨t', h1, h2⟩ := sub_of_mem op (t.erase a) (hn.erase a) (fun x hx => by
        have hx2 : x ≠ a ∧ x ∈ t := (List.Nodup.mem_erase_iff hn).1 hx
        rcases List.mem_cons.1 (h x hx2.2) with e | hm
        · exact absurd e hx2.1
        · exact hm)
      exact ⟨a :: t', (h1.cons a).trans hp.symm, .cons_cons _ h2⟩
    · obtain ⟨t', h1, h2⟩ := sub_of_mem op t hn (fun x hx => by
        rcases List.mem_cons.1 (h x hx) with e | hm
        · rw [e] at hx; exact absurd hx ha
        · exact hm)
      exact ⟨t', h1, .cons _ h2⟩
theorem opt_mem {op t : List Bid} (ho : ∀ x, x ∈ op → Ok x) (hc : Comp t) (hm : ∀ x, x ∈ t → x ∈ op) : sumV t ≤ optOf op := by
  obtain ⟨t', h1, h2⟩ := sub_of_mem op t (comp_nodup (fun x hx => ho x (hm x hx)) hc) hm
  rw [← sumV_perm h1]
  exact (opt_is op).2 t' h2 (comp_perm h1.symm hc)
def leftOf (op : List Bid) (b : Bid) : List Bid := op.filter fun x => !confl x b
theorem left_mem {op : List Bid} {b x : Bid} : x ∈ leftOf op b ↔ x ∈ op ∧ confl x b = false := by
  unfold leftOf; rw [List.mem_filter]; simp
theorem left_le {op : List Bid} {b : Bid} (ho : ∀ x, x ∈ op → Ok x) (hb : b ∈ op) : b.val + optOf (leftOf op b) ≤ optOf op := by
  obtain ⟨⟨s, a1, a2, a3⟩, _⟩ := opt_is (leftOf op b)
  have := opt_mem (t := b :: s) ho (List.pairwise_cons.2 ⟨fun x hx => by rw [confl_comm]; exact (left_mem.1 (a1.subset hx)).2, a2⟩) (fun x hx => by
    rcases List.mem_cons.1 hx with rfl | hx
    · exact hb
    · exact (left_mem.1 (a1.subset hx)).1)
  simp only [sumV] at this
  omega

def bidsOf (B : List Bid) (d : List Nat) : List Bid := d.map fun i => B.getD i zb
/-- Bids of op, by their numbers, that do not conflict. -/
structure IC (B op : List Bid) (d : List Nat) : Prop where
  lt : ∀ i, i ∈ d → i < B.length
  mem : ∀ i, i ∈ d → B.getD i zb ∈ op
  comp : Comp (bidsOf B d)
inductive LexLE : List Nat → List Nat → Prop
  | nil : LexLE [] []
  | lt {a b : Nat} {l m : List Nat} (h : a < b) : LexLE (a :: l) (b :: m)
  | cons {a : Nat} {l m : List Nat} (h : LexLE l m) : LexLE (a :: l) (a :: m)
theorem IC.le {B op : List Bid} {d : List Nat} (ho : ∀ x, x ∈ op → Ok x) (h : IC B op d) : sumV (bidsOf B d) ≤ optOf op :=
  opt_mem ho h.comp (fun x hx => by obtain ⟨i, hi, rfl⟩ := List.mem_map.1 hx; exact h.mem i hi)
theorem IC.tail {B op : List Bid} {i : Nat} {d : List Nat} (h : IC B op (i :: d)) : IC B (leftOf op (B.getD i zb)) d := by
  obtain ⟨h1, h2⟩ := List.pairwise_cons.1 h.comp
  exact ⟨fun j hj => h.lt j (List.mem_cons_of_mem _ hj), fun j hj => left_mem.2 ⟨h.mem j (List.mem_cons_of_mem _ hj), by
    rw [confl_comm]; exact h1 _ (List.mem_map.2 ⟨j, hj, rfl⟩)⟩, h2⟩
theorem IC.perm {B op : List Bid} {d e : List Nat} (h : IC B op d) (hp : d.Perm e) : IC B op e :=
  ⟨fun i hi => h.lt i (hp.mem_iff.2 hi), fun i hi => h.mem i (hp.mem_iff.2 hi), comp_perm (hp.map _) h.comp⟩
theorem IC.add {B op : List Bid} {i : Nat} {d : List Nat} (hi : i < B.length) (hb : B.getD i zb ∈ op) (h : IC B (leftOf op (B.getD i zb)) d) : IC B op (i :: d) :=
  ⟨fun j hj => by rcases List.mem_cons.1 hj with rfl | hj; exact hi; exact h.lt j hj, fun j hj => by
    rcases List.mem_cons.1 hj with rfl | hj
    · exact hb
    · exact (left_mem.1 (h.mem j hj)).1, List.pairwise_cons.2 ⟨fun x hx => by
      obtain ⟨j, hj, rfl⟩ := List.mem_map.1 hx
      rw [confl_comm]; exact (left_mem.1 (h.mem j hj)).2, h.comp⟩⟩

noncomputable def bestGo (B : List Bid) (s : Int) (i : Nat) (op : List Bid) (rest : Int) : List Nat :=
  if h : i < B.length then
    if (B.getD i zb).station ≠ s ∨ B.getD i zb ∉ op then bestGo B s (i + 1) op rest
    else if (B.getD i zb).val + optOf (leftOf op (B.getD i zb)) = rest then i :: bestGo B s (i + 1) (leftOf op (B.getD i zb)) (rest - (B.getD i zb).val)
    else bestGo B s (i + 1) op rest
  else []
termination_by B.length - i
def atS (B : List Bid) (s : Int) : List Bid := B.filter fun b => decide (b.station = s)
noncomputable def bestF (B : List Bid) (s : Int) : List Nat := bestGo B s 0 (atS B s) (optOf (atS B s))

/-- What is right of a list of numbers from i on. -/
structure Lead (B op : List Bid) (i : Nat) (r : List Nat) : Prop where
  ic : IC B op r
  inc : r.Pairwise (· < ·)
  low : ∀ j, j ∈ r → i ≤ j
  val : sumV (bidsOf B r) = optOf op
  lex : ∀ d, IC B op d → d.Pairwise (· < ·) → sumV (bidsOf B d) = optOf op → LexLE r d

theorem sub_idx : ∀ (B t : List Bid) (k : Nat) (C : List Bid), (∀ j, j < B.length → C.getD (k + j) zb = B.getD j zb) → t.Sublist B → ∃ d : List Nat, (∀ i, i ∈ d → k ≤ i ∧ i < k + B.length) ∧ bidsOf C d = t
  | [], t, k, C, _, h => by
    cases h; exact ⟨[], fun i hi => by simp at hi, rfl⟩
  | b :: B, t, k, C, hC, h => by
    have hC' : ∀ j, j < B.length → C.getD (k + 1 + j) zb = B.getD j zb := fun j hj => by
      have := hC (j + 1) (by simp; omega)
      rw [show k + 1 + j = k + (j + 1) by omega, this]; simp
    cases h with
    | cons _ h1 =>
      obtain ⟨d, h2, h3⟩ := sub_idx B t (k + 1) C hC' h1
      exact ⟨d, fun i hi => by have := h2 i hi; simp; omega, h3⟩
    | @cons_cons t' _ _ h1 =>
      obtain ⟨d, h2, h3⟩ := sub_idx B t' (k + 1) C hC' h1
      refine ⟨k :: d, fun i hi => ?_, ?_⟩
      · rcases List.mem_cons.1 hi with rfl | hi
        · simp
        · have := h2 i hi; simp; omega
      · show C.getD k zb :: bidsOf C d = _
        have := hC 0 (by simp)
        rw [h3, Nat.add_zero] at *
        rw [this]; simp

theorem bestGo_lead {B : List Bid} {s : Int} (hst : ∀ (op : List Bid), op.Sublist (atS B s) → ∀ x, x ∈ op → x.station = s ∧ Ok x) :
    ∀ (n i : Nat) (op : List Bid), B.length - i = n → op.Sublist (atS B s) → (∀ d, IC B op d → sumV (bidsOf B d) = optOf op → ∀ j, j ∈ d → i ≤ j) → Lead B op i (bestGo B s i op (optOf op)) := by
  intro n
  induction n with
  | zero =>
    intro i op hn hsub hG
    rw [bestGo, dif_neg (by omega)]
    have hB : (atS B s).Sublist B := List.filter_sublist
    have none : ∀ d, IC B op d → sumV (bidsOf B d) = optOf op → d = [] := fun d hd hv => by
      rcases d with _ | ⟨j, d⟩
      · rfl
      · have h1 := hG _ hd hv j List.mem_cons_self
        have h2 := hd.lt j List.mem_cons_self
        omega
    obtain ⟨⟨t, a1, a2, a3⟩, _⟩ := opt_is op
    obtain ⟨d, h2, h3⟩ := sub_idx B t 0 B (fun j hj => by rw [Nat.zero_add]) ((a1.trans hsub).trans hB)
    have hd : IC B op d := ⟨fun j hj => by have := h2 j hj; omega, fun j hj => a1.subset (by rw [← h3]; exact List.mem_map.2 ⟨j, hj, rfl⟩), by rw [h3]; exact a2⟩
    have e := none d hd (by rw [h3]; exact a3)
    subst e
    have e0 : optOf op = 0 := by rw [← a3, ← h3]; rfl
    exact ⟨⟨fun j hj => by simp at hj, fun j hj => by simp at hj, List.Pairwise.nil⟩, List.Pairwise.nil, fun j hj => by simp at hj, e0.symm, fun d hd _ hv => by rw [none d hd hv]; exact .nil⟩
  | succ n ih =>
    intro i op hn hsub hG
    have hi : i < B.length := by omega
    have hok : ∀ x, x ∈ op → Ok x := fun x hx => (hst op hsub x hx).2
    rw [bestGo, dif_pos hi]
    -- where i takes part in no best list
    have skip : (∀ d, IC B op d → sumV (bidsOf B d) = optOf op → i ∉ d) → Lead B op i (bestGo B s (i + 1) op (optOf op)) := fun hno => by
      have h := ih (i + 1) op (by omega) hsub (fun d hd hv j hj => by
        have h1 := hG d hd hv j hj
        rcases Nat.lt_or_ge i j with h2 | h2
        · exact h2
        · have e : j = i := by omega
          rw [e] at hj; exact absurd hj (hno d hd hv))
      exact ⟨h.ic, h.inc, fun j hj => by have := h.low j hj; omega, h.val, h.lex⟩
    split
    · rename_i h
      refine skip (fun d hd hv hid => ?_)
      have hm := hd.mem i hid
      rcases h with h | h
      · exact h (hst op hsub _ hm).1
      · exact h hm
    · rename_i h
      have hb : B.getD i zb ∈ op := Classical.byContradiction fun hn => h (.inr hn)
      have hle := left_le hok hb
      split
      · rename_i he
        have hsub' : (leftOf op (B.getD i zb)).Sublist (atS B s) := List.filter_sublist.trans hsub
        have hrest : optOf op - (B.getD i zb).val = optOf (leftOf op (B.getD i zb)) := by omega
        rw [hrest]
        have hr := ih (i + 1) (leftOf op (B.getD i zb)) (by omega) hsub' (fun d hd hv j hj => by
          have had := hd.add hi hb
          have h1 := hG _ had (by show (B.getD i zb).val + sumV (bidsOf B d) = _; rw [hv]; exact he) j (List.mem_cons_of_mem _ hj)
          rcases Nat.lt_or_ge i j with h2 | h2
          · exact h2
          · have e : j = i := by omega
            subst e
            have := (left_mem.1 (hd.mem j hj)).2
            rw [confl_self (hok _ hb)] at this; cases this)
        refine ⟨hr.ic.add hi hb, List.pairwise_cons.2 ⟨fun j hj => by have := hr.low j hj; omega, hr.inc⟩, fun j hj => ?_, ?_, fun d hd hinc hv => ?_⟩
        · rcases List.mem_cons.1 hj with rfl | hj
          · exact Nat.le_refl _
          · have := hr.low j hj; omega
        · show (B.getD i zb).val + sumV (bidsOf B _) = _
          rw [hr.val]; exact he
        · rcases d with _ | ⟨j, d⟩
          · exfalso
            have h1 := opt_nonneg (leftOf op (B.getD i zb))
            have h2 := (hok _ hb).2
            have h3 : (0 : Int) = optOf op := hv
            omega
          · have hij := hG _ hd hv j List.mem_cons_self
            rcases Nat.lt_or_ge i j with h2 | h2
            · exact .lt h2
            · have e : j = i := by omega
              subst e
              refine .cons (hr.lex d hd.tail (List.pairwise_cons.1 hinc).2 ?_)
              have hv2 : (B.getD j zb).val + sumV (bidsOf B d) = optOf op := hv
              omega
      · rename_i he
        refine skip (fun d hd hv hid => he ?_)
        have hp := List.perm_cons_erase hid
        have hd2 := (hd.perm hp).tail
        have hle2 := hd2.le (fun x hx => hok x (left_mem.1 hx).1)
        have hv2 : sumV (bidsOf B d) = (B.getD i zb).val + sumV (bidsOf B (d.erase i)) := by
          have := sumV_perm (hp.map fun i => B.getD i zb)
          exact this
        omega
theorem at_mem {B : List Bid} {s : Int} {x : Bid} : x ∈ atS B s ↔ x ∈ B ∧ x.station = s := by unfold atS; rw [List.mem_filter, decide_eq_true_eq]
theorem best_lead {B : List Bid} {s : Int} (ho : ∀ b, b ∈ B → Ok b) : Lead B (atS B s) 0 (bestF B s) :=
  bestGo_lead (fun op hs x hx => ⟨(at_mem.1 (hs.subset hx)).2, ho x (at_mem.1 (hs.subset hx)).1⟩) _ 0 _ rfl (List.Sublist.refl _) (fun _ _ _ _ _ => Nat.zero_le _)
theorem lex_anti : ∀ {l m : List Nat}, LexLE l m → LexLE m l → l = m
  | _, _, .nil, _ => rfl
  | _, _, .lt h, h2 => by
    cases h2 with
    | lt h3 => omega
    | cons _ => omega
  | _, _, .cons h, h2 => by
    cases h2 with
    | lt h3 => omega
    | cons h3 => rw [lex_anti h h3]
end Go.Tv.C37p

end
section
namespace Go.Tv.C37p
set_option linter.unusedVariables false

theorem dp_optOf {B l : List Bid} (hp : l.Perm B) (hs : SortedT l) (ho : ∀ b, b ∈ B → Ok b) : dp l l.length = optOf B := by
  have h := dp_opt hs (fun b hb => ho b (hp.mem_iff.1 hb)) l.length (Nat.le_refl _)
  rw [List.take_length] at h
  exact (opt_eq (h.perm hp)).symm

/-- Numbers that are compatible at a station, as the specification has it. -/
def compI (B : List Bid) (s : Int) (l : List Nat) : Prop := (∀ i, i ∈ l → i < B.length ∧ (B.getD i zb).station = s) ∧ l.Nodup ∧ Comp (bidsOf B l)
instance (B : List Bid) (s : Int) (l : List Nat) : Decidable (compI B s l) := by unfold compI Comp; exact inferInstance
theorem compI_ic {B : List Bid} {s : Int} {l : List Nat} (h : compI B s l) : IC B (atS B s) l :=
  ⟨fun i hi => (h.1 i hi).1, fun i hi => at_mem.2 ⟨by rw [List.getD_eq_getElem?_getD, List.getElem?_eq_getElem (h.1 i hi).1]; exact List.getElem_mem _, (h.1 i hi).2⟩, h.2.2⟩
theorem ic_compI {B : List Bid} {s : Int} {l : List Nat} (ho : ∀ b, b ∈ B → Ok b) (h : IC B (atS B s) l) : compI B s l :=
  ⟨fun i hi => ⟨h.lt i hi, (at_mem.1 (h.mem i hi)).2⟩, by
    have hn := comp_nodup (fun x hx => by obtain ⟨i, hi, rfl⟩ := List.mem_map.1 hx; exact ho _ (at_mem.1 (h.mem i hi)).1) h.comp
    unfold bidsOf at hn
    exact List.Pairwise.of_map _ (fun a b hab e => hab (by rw [e])) hn, h.comp⟩
theorem compI_head {B : List Bid} {s : Int} {l m : List Nat} (h : compI B s (l ++ m)) : compI B s l := by
  obtain ⟨h1, h2, h3⟩ := h
  refine ⟨fun i hi => h1 i (List.mem_append_left _ hi), (List.nodup_append.1 h2).1, ?_⟩
  unfold bidsOf at h3 ⊢
  rw [List.map_append] at h3
  exact (List.pairwise_append.1 h3).1

/-- The lists that begin with head and go on with at least one number from i on. -/
def tailsF (B : List Bid) (s : Int) (head : List Nat) (i : Nat) : List (List Nat) :=
  if h : i < B.length then (if compI B s (head ++ [i]) then (head ++ [i]) :: tailsF B s (head ++ [i]) (i + 1) else []) ++ tailsF B s head (i + 1) else []
termination_by B.length - i
def listsF (B : List Bid) (s : Int) (head : List Nat) (i : Nat) : List (List Nat) := head :: tailsF B s head i

/-- Before, in the order in which a list stands before what goes on from it. -/
inductive PLex : List Nat → List Nat → Prop
  | nil {b : Nat} {m : List Nat} : PLex [] (b :: m)
  | lt {a b : Nat} {l m : List Nat} (h : a < b) : PLex (a :: l) (b :: m)
  | cons {a : Nat} {l m : List Nat} (h : PLex l m) : PLex (a :: l) (a :: m)
theorem plex_pre : ∀ {c : List Nat} {l m : List Nat}, PLex l m → PLex (c ++ l) (c ++ m)
  | [], _, _, h => h
  | _ :: c, _, _, h => .cons (plex_pre (c := c) h)
theorem tails_mem {B : List Bid} {s : Int} : ∀ (n i : Nat) (head x : List Nat), B.length - i = n → x ∈ tailsF B s head i →
    ∃ j t, i ≤ j ∧ x = head ++ j :: t ∧ (j :: t).Pairwise (· < ·) ∧ compI B s x := by
  intro n
  induction n with
  | zero => intro i head x hn hx; rw [tailsF, dif_neg (by omega)] at hx; cases hx
  | succ n ih =>
    intro i head x hn hx
    have hi : i < B.length := by omega
    rw [tailsF, dif_pos hi] at hx
    rcases List.mem_append.1 hx with hx | hx
    · split at hx
      · rename_i hc
        rcases List.mem_cons.1 hx with rfl | hx
        · exact ⟨i, [], Nat.le_refl _, rfl, List.pairwise_singleton _ _, hc⟩
        · obtain ⟨j, t, h1, rfl, h3, h4⟩ := ih (i + 1) (head ++ [i]) x (by omega) hx
          refine ⟨i, j :: t, Nat.le_refl _, by simp, List.pairwise_cons.2 ⟨fun y hy => ?_, h3⟩, h4⟩
          rcases List.mem_cons.1 hy with rfl | hy
          · omega
          · have := (List.pairwise_cons.1 h3).1 y hy; omega
      · cases hx
    · obtain ⟨j, t, h1, h2, h3, h4⟩ := ih (i + 1) head x (by omega) hx
      exact ⟨j, t, by omega, h2, h3, h4⟩
theorem tails_all {B : List Bid} {s : Int} : ∀ (n i : Nat) (head t : List Nat) (j : Nat), B.length - i = n → i ≤ j → (j :: t).Pairwise (· < ·) → compI B s (head ++ j :: t) → head ++ j :: t ∈ tailsF B s head i := by
  intro n
  induction n with
  | zero =>
    intro i head t j hn hij _ hc
    have := (hc.1 j (List.mem_append_right _ List.mem_cons_self)).1
    omega
  | succ n ih =>
    intro i head t j hn hij hp hc
    rw [tailsF, dif_pos (by omega)]
    rcases Nat.lt_or_ge i j with h | h
    · exact List.mem_append_right _ (ih (i + 1) head t j (by omega) (by omega) hp hc)
    · obtain rfl : i = j := by omega
      have e : head ++ i :: t = (head ++ [i]) ++ t := by simp
      rw [if_pos (compI_head (m := t) (by rw [← e]; exact hc))]
      refine List.mem_append_left _ ?_
      rcases t with _ | ⟨k, t⟩
      · exact List.mem_cons_self
      · obtain ⟨h1, h2⟩ := List.pairwise_cons.1 hp
        rw [e]
        exact List.mem_cons_of_mem _ (ih (i + 1) (head ++ [i]) t k (by omega) (by have := h1 k List.mem_cons_self; omega) h2 (by rw [← e]; exact hc))
theorem tails_plex {B : List Bid} {s : Int} : ∀ (n i : Nat) (head : List Nat), B.length - i = n → (tailsF B s head i).Pairwise PLex := by
  intro n
  induction n with
  | zero => intro i head hn; rw [tailsF, dif_neg (by omega)]; exact List.Pairwise.nil
  | succ n ih =>
    intro i head hn
    rw [tailsF, dif_pos (by omega)]
    refine List.pairwise_append.2 ⟨?_, ih _ _ (by omega), fun x hx y hy => ?_⟩
    · split
      · refine List.pairwise_cons.2 ⟨fun y hy => ?_, ih _ _ (by omega)⟩
        obtain ⟨j, t, _, rfl, _, _⟩ := tails_mem n (i + 1) _ y (by omega) hy
        have := plex_pre (c := head ++ [i]) (PLex.nil (b := j) (m := t))
        rwa [List.append_nil] at this
      · exact List.Pairwise.nil
    · obtain ⟨j, t, h1, rfl, _, _⟩ := tails_mem n (i + 1) head y (by omega) hy
      split at hx
      · rcases List.mem_cons.1 hx with rfl | hx
        · exact plex_pre (.lt (by omega))
        · obtain ⟨k, u, h2, rfl, _, _⟩ := tails_mem n (i + 1) _ x (by omega) hx
          rw [List.append_assoc]
          exact plex_pre (.lt (by omega))
      · cases hx
theorem lists_plex (B : List Bid) (s : Int) : (listsF B s [] 0).Pairwise PLex := by
  refine List.pairwise_cons.2 ⟨fun y hy => ?_, tails_plex _ _ _ rfl⟩
  obtain ⟨j, t, _, rfl, _, _⟩ := tails_mem _ _ _ y rfl hy
  exact .nil
theorem lists_mem {B : List Bid} {s : Int} {x : List Nat} : x ∈ listsF B s [] 0 ↔ compI B s x ∧ x.Pairwise (· < ·) := by
  constructor
  · intro h
    rcases List.mem_cons.1 h with rfl | h
    · exact ⟨⟨fun i hi => (by simp at hi), List.nodup_nil, List.Pairwise.nil⟩, List.Pairwise.nil⟩
    · obtain ⟨j, t, _, rfl, h1, h2⟩ := tails_mem _ _ _ x rfl h
      exact ⟨h2, h1⟩
  · rintro ⟨h1, h2⟩
    rcases x with _ | ⟨j, t⟩
    · exact List.mem_cons_self
    · exact List.mem_cons_of_mem _ (tails_all _ 0 [] t j rfl (Nat.zero_le _) h2 h1)

/-- The first of greatest value. -/
def pick (B : List Bid) (best : List Nat) : List (List Nat) → List Nat
  | [] => best
  | x :: l => pick B (if sumV (bidsOf B x) > sumV (bidsOf B best) then x else best) l
def vI (B : List Bid) (x : List Nat) : Int := sumV (bidsOf B x)
theorem pick_spec {B : List Bid} : ∀ (l : List (List Nat)) (best : List Nat), (pick B best l = best ∧ ∀ x, x ∈ l → vI B x ≤ vI B best) ∨
    (∃ a b, l = a ++ pick B best l :: b ∧ vI B best < vI B (pick B best l) ∧ (∀ x, x ∈ a → vI B x < vI B (pick B best l)) ∧ ∀ x, x ∈ b → vI B x ≤ vI B (pick B best l))
  | [], best => .inl ⟨rfl, fun x hx => (by cases hx)⟩
  | y :: l, best => by
    by_cases hgt : sumV (bidsOf B y) > sumV (bidsOf B best)
    · have e : pick B best (y :: l) = pick B y l := by
        show pick B (if _ then y else best) l = _
        rw [if_pos hgt]
      rw [e]
      rcases pick_spec (B := B) l y with ⟨h1, h2⟩ | ⟨a, b, h1, h2, h3, h4⟩
      · rw [h1]
        exact .inr ⟨[], l, rfl, hgt, fun x hx => (by cases hx), h2⟩
      · refine .inr ⟨y :: a, b, by rw [List.cons_append, ← h1], ?_, fun x hx => ?_, h4⟩
        · unfold vI at *; omega
        · rcases List.mem_cons.1 hx with rfl | hx
          · exact h2
          · exact h3 x hx
    · have e : pick B best (y :: l) = pick B best l := by
        show pick B (if _ then y else best) l = _
        rw [if_neg hgt]
      rw [e]
      rcases pick_spec (B := B) l best with ⟨h1, h2⟩ | ⟨a, b, h1, h2, h3, h4⟩
      · refine .inl ⟨h1, fun x hx => ?_⟩
        rcases List.mem_cons.1 hx with rfl | hx
        · unfold vI; omega
        · exact h2 x hx
      · refine .inr ⟨y :: a, b, by rw [List.cons_append, ← h1], h2, fun x hx => ?_, h4⟩
        rcases List.mem_cons.1 hx with rfl | hx
        · unfold vI at *; omega
        · exact h3 x hx
theorem plex_lex {B : List Bid} {s : Int} (ho : ∀ b, b ∈ B → Ok b) : ∀ {l m : List Nat}, PLex l m → (∀ i, i ∈ m → i < B.length) → vI B l = vI B m → LexLE l m
  | [], b :: m, .nil, hm, he => by
    exfalso
    have pos : ∀ m : List Nat, (∀ i, i ∈ m → i < B.length) → 0 ≤ vI B m := by
      intro m
      induction m with
      | nil => intro _; exact Int.le_refl _
      | cons c m ih =>
        intro hm
        have h1 := ih (fun i hi => hm i (List.mem_cons_of_mem _ hi))
        have hc := hm c List.mem_cons_self
        have h2 := (ho (B.getD c zb) (by rw [List.getD_eq_getElem?_getD, List.getElem?_eq_getElem hc]; exact List.getElem_mem _)).2
        show 0 ≤ (B.getD c zb).val + vI B m
        omega
    have hb := hm b List.mem_cons_self
    have h2 := (ho (B.getD b zb) (by rw [List.getD_eq_getElem?_getD, List.getElem?_eq_getElem hb]; exact List.getElem_mem _)).2
    have h1 := pos m (fun i hi => hm i (List.mem_cons_of_mem _ hi))
    have h3 : vI B (b :: m) = (B.getD b zb).val + vI B m := rfl
    have h4 : vI B [] = 0 := rfl
    omega
  | a :: l, b :: m, .lt h, _, _ => .lt h
  | a :: l, _ :: m, .cons h, hm, he => .cons (plex_lex (s := s) ho h (fun i hi => hm i (List.mem_cons_of_mem _ hi)) (by
    have h1 : vI B (a :: l) = (B.getD a zb).val + vI B l := rfl
    have h2 : vI B (a :: m) = (B.getD a zb).val + vI B m := rfl
    omega))
/-- What the specification picks is what Best accepts. -/
theorem pick_best {B : List Bid} {s : Int} (ho : ∀ b, b ∈ B → Ok b) : pick B [] (listsF B s [] 0) = bestF B s := by
  have hL := best_lead (s := s) ho
  have hbm : bestF B s ∈ listsF B s [] 0 := lists_mem.2 ⟨ic_compI ho hL.ic, hL.inc⟩
  have hop : ∀ x, x ∈ atS B s → Ok x := fun x hx => ho x (at_mem.1 hx).1
  have hmax : ∀ x, x ∈ listsF B s [] 0 → vI B x ≤ vI B (bestF B s) := fun x hx => by
    have := (compI_ic (lists_mem.1 hx).1).le hop
    have h2 := hL.val
    unfold vI; omega
  have fin : ∀ x, x ∈ listsF B s [] 0 → vI B x = vI B (bestF B s) → (x = bestF B s ∨ PLex x (bestF B s)) → x = bestF B s := fun x hx hv h => by
    rcases h with h | h
    · exact h
    · obtain ⟨h1, h2⟩ := lists_mem.1 hx
      have h3 := hL.lex x (compI_ic h1) h2 (by have := hL.val; unfold vI at hv; omega)
      exact lex_anti (plex_lex (s := s) ho h hL.ic.lt hv) h3
  rcases pick_spec (B := B) (listsF B s [] 0) [] with ⟨h1, h2⟩ | ⟨a, b, h1, h2, h3, h4⟩
  · rw [h1]
    have h5 := h2 _ hbm
    have hn : ([] : List Nat) ∈ listsF B s [] 0 := List.mem_cons_self
    have h6 := hmax _ hn
    refine fin [] hn (by omega) ?_
    rcases e : bestF B s with _ | ⟨c, m⟩
    · exact .inl rfl
    · exact .inr .nil
  · have hp : pick B [] (listsF B s [] 0) ∈ listsF B s [] 0 := by
      have h7 : pick B [] (listsF B s [] 0) ∈ a ++ pick B [] (listsF B s [] 0) :: b := List.mem_append_right _ List.mem_cons_self
      rwa [← h1] at h7
    have h5 := hmax _ hp
    have hpl := lists_plex B s
    generalize hq : pick B [] (listsF B s [] 0) = q at h1 h2 h3 h4 h5 hp ⊢
    have hfin := fin q
    rw [h1] at hbm hpl
    rcases List.mem_append.1 hbm with hm | hm
    · have := h3 _ hm; omega
    · rcases List.mem_cons.1 hm with e | hm
      · exact e.symm
      · have h6 := h4 _ hm
        exact hfin hp (by omega) (.inr ((List.pairwise_cons.1 (List.pairwise_append.1 hpl).2.1).1 _ hm))
end Go.Tv.C37p

end
section
open Go Go.Tv Go.Tv.C37 Go.Proofs
namespace Go.Tv.C37p
set_option linter.unusedVariables false
def encI (n : Int) : Tr := .int .i64 n
def encBy (n : Int) : Tr := .int .u8 n
def encB (b : Bid) : Tr := .agg [encI b.craft, encI b.station, encI b.frm, encI b.til, encI b.val]

theorem take_succ_get {α : Type} {l : List α} {i : Nat} (h : i < l.length) : l.take (i + 1) = l.take i ++ [l[i]] := by
  rw [List.take_add_one, List.getElem?_eq_getElem h]; rfl
theorem mem_take_succ {α : Type} {l : List α} {i : Nat} (h : i < l.length) {x : α} : x ∈ l.take (i + 1) ↔ x ∈ l.take i ∨ x = l[i] := by
  rw [take_succ_get h, List.mem_append, List.mem_singleton]
def around (n m : Int) : Int := (if n < 0 then -(n + 1) else n) % m
def cmpI (a b : Int) : Int := if a < b then -1 else if b < a then 1 else 0
def flag (b : Bool) : Int := if b then 1 else 0
theorem w8 (n : Int) : IntKind.u8.wrap n = n % 256 := by simp [IntKind.wrap, IntKind.bits, IntKind.signed]
theorem wu64 (n : Int) : IntKind.u64.wrap n = n % 18446744073709551616 := by simp [IntKind.wrap, IntKind.bits, IntKind.signed]
theorem wi64 (n : Int) : IntKind.i64.wrap n = (n + 9223372036854775808) % 18446744073709551616 - 9223372036854775808 := by
  show (if (true && decide (n % 2 ^ 64 ≥ 2 ^ (64 - 1))) = true then n % 2 ^ 64 - 2 ^ 64 else n % 2 ^ 64) = _
  simp only [Bool.true_and, decide_eq_true_eq, ge_iff_le]
  split <;> omega
def fIx {α : Type} (p : α → Bool) (l : List α) : Int := match l.findIdx? p with
  | some i => (i : Int)
  | none => -1
theorem fIx_hit {α : Type} {p : α → Bool} {l : List α} {i : Nat} (hi : i < l.length) (h : ∀ b, b ∈ l.take i → p b = false) (he : p l[i] = true) : fIx p l = (i : Int) := by
  unfold fIx
  have : l.findIdx? p = some i := by
    rw [List.findIdx?_eq_some_iff_getElem]
    refine ⟨hi, he, fun j hj => ?_⟩
    have := h l[j] (by
      rw [List.mem_iff_getElem]
      exact ⟨j, by simp; omega, by simp⟩)
    simp [this]
  rw [this]
theorem fIx_none {α : Type} {p : α → Bool} {l : List α} (h : ∀ b, b ∈ l → p b = false) : fIx p l = -1 := by
  unfold fIx
  have : l.findIdx? p = none := by
    rw [List.findIdx?_eq_none_iff]
    intro b hb
    exact h b hb
  rw [this]
theorem fIx_neg {α : Type} {p : α → Bool} {l : List α} : fIx p l < 0 ↔ ∀ b, b ∈ l → p b = false := by
  constructor
  · intro h b hb
    cases hp : p b with
    | false => rfl
    | true =>
      exfalso
      unfold fIx at h
      cases hf : l.findIdx? p with
      | none => rw [List.findIdx?_eq_none_iff] at hf; rw [hf b hb] at hp; cases hp
      | some i => rw [hf] at h; simp only at h; omega
  · intro h
    rw [fIx_none h]; decide
theorem weak_raise {n : Nat} {fr : Fra} {st : Sto} {id g k : Nat} {ty : TypeId} {els : List AV} (g' : Nat) (hs : sget st id = some ⟨k, ty, g, els⟩) (hg : g < g') :
    Weak ⟨n, fr, st⟩ ⟨n, fr, (id, some ⟨k, ty, g', els⟩) :: st⟩ := by
  intro F β a w hr
  obtain ⟨q1, _, q3⟩ := hr.bump (g' := g') (ob := ⟨k, ty, g, els⟩) hs hg
  refine ⟨β, ⟨q1.defers, q1.size, fun i => q1.fr i, q1.ob, q1.inj, q1.notF, q1.ltF⟩, fun b hb => ?_⟩
  obtain ⟨m, ob, hm, hb⟩ := hb
  change sget (sput st id (some ⟨k, ty, g', els⟩)) m = some ob at hm
  rw [sget_sput] at hm
  split at hm
  · rename_i e; rw [e] at hb; exact ⟨id, _, hs, hb⟩
  · exact ⟨m, ob, hm, hb⟩
theorem fIx_nat {α : Type} {p : α → Bool} {l : List α} (h : ¬ fIx p l < 0) : ∃ i, ∃ hi : i < l.length, fIx p l = (i : Int) ∧ (∀ y, y ∈ l.take i → p y = false) ∧ p l[i] = true := by
  unfold fIx at *
  cases h2 : l.findIdx? p with
  | none => rw [h2] at h; simp at h
  | some i =>
    rw [List.findIdx?_eq_some_iff_getElem] at h2
    obtain ⟨hi, h1, h3⟩ := h2
    refine ⟨i, hi, rfl, fun y hy => ?_, h1⟩
    obtain ⟨j, hj, rfl⟩ := List.mem_iff_getElem.1 hy
    rw [List.length_take] at hj
    rw [List.getElem_take]
    simpa using h3 j (by omega)
def encN (n : Nat) : Tr := encI n
end Go.Tv.C37p

end
section
open Go Go.Tv Go.Tv.C37 Go.Proofs
namespace Go.Tv.C37p
set_option maxRecDepth 20000
set_option maxHeartbeats 2000000
set_option linter.unusedSimpArgs false
set_option linter.unusedVariables false
theorem nan_ret (n : Int) : Ret Tryz.prog 46 [encI n] (.bool false) := by
  refine ret_of_awp Tryz.func46 rfl (Nat.le_of_ble_eq_true rfl) ?_
  refine awp_seq ?_
  refine awp_rw rfl ?_
  refine asT ?_
  refine RW.nil ?_
  refine awp_seq ?_
  refine awp_rw rfl ?_
  refine mvT ?_
  refine mvT ?_
  refine RW.op rfl rfl (eff_iop (r := .bool false) rfl rfl rfl rfl (by simp [iop])) ?_
  refine asT ?_
  refine RW.nil ?_
  refine awp_ret ?_
  exact ⟨Or.inr rfl, [_], ⟨.tmp (.t _), trivial⟩, .refl _⟩

theorem cmp_ret (a b : Int) : Ret Tryz.prog 21 [encI a, encI b] (encI (cmpI a b)) := by
  refine ret_of_awp Tryz.func21 rfl (Nat.le_of_ble_eq_true rfl) ?_
  refine awp_seq ?_
  refine awp_rw rfl ?_
  refine asT ?_
  refine RW.nil ?_
  refine awp_seq ?_
  refine awp_rw rfl ?_
  refine mvT ?_
  refine RW.op rfl rfl (eff_callT (nan_ret _) co46 rfl rfl rfl rfl) ?_
  refine asT ?_
  refine RW.nil ?_
  refine awp_seq ?_
  refine awp_rw rfl ?_
  refine mvT ?_
  refine RW.op rfl rfl (eff_callT (nan_ret _) co46 rfl rfl rfl rfl) ?_
  refine asT ?_
  refine RW.nil ?_
  refine awp_seq ?_
  refine awp_seq ?_
  refine awp_rw rfl ?_
  refine mvT ?_
  refine RW.nil ?_
  refine awp_cond rfl (fun h => nomatch h) (fun _ => ?_)
  refine awp_skip ?_
  refine awp_seq ?_
  refine awp_seq ?_
  refine awp_rw rfl ?_
  refine mvT ?_
  refine RW.nil ?_
  refine awp_cond rfl (fun h => nomatch h) (fun _ => ?_)
  refine awp_skip ?_
  refine awp_seq ?_
  refine awp_seq ?_
  refine awp_rw rfl ?_
  refine mvT ?_
  refine mvT ?_
  refine ioT ?_
  refine RW.nil ?_
  refine awp_cond rfl (fun h1 => ?_) (fun h1 => ?_)
  · try simp only [cl] at h1
    refine awp_seq ?_
    refine awp_rw rfl ?_
    refine asT ?_
    refine RW.nil ?_
    refine awp_ret ?_
    (rw [show cmpI a b = -1 from by unfold cmpI; rw [if_pos (by omega)]]; exact ⟨Or.inr rfl, [_], ⟨.tmp (.t _), trivial⟩, .refl _⟩)
  · try simp only [cl] at h1
    refine awp_skip ?_
    refine awp_seq ?_
    refine awp_seq ?_
    refine awp_rw rfl ?_
    refine mvT ?_
    refine mvT ?_
    refine ioT ?_
    refine RW.nil ?_
    refine awp_cond rfl (fun h2 => ?_) (fun h2 => ?_)
    · try simp only [cl] at h2
      refine awp_seq ?_
      refine awp_rw rfl ?_
      refine asT ?_
      refine RW.nil ?_
      refine awp_ret ?_
      (rw [show cmpI a b = 1 from by unfold cmpI; rw [if_neg (by omega), if_pos (by omega)]]; exact ⟨Or.inr rfl, [_], ⟨.tmp (.t _), trivial⟩, .refl _⟩)
    · try simp only [cl] at h2
      refine awp_skip ?_
      refine awp_seq ?_
      refine awp_rw rfl ?_
      refine asT ?_
      refine RW.nil ?_
      refine awp_ret ?_
      (rw [show cmpI a b = 0 from by unfold cmpI; rw [if_neg (by omega), if_neg (by omega)]]; exact ⟨Or.inr rfl, [_], ⟨.tmp (.t _), trivial⟩, .refl _⟩)

theorem conflict_ret (a b : Bid) : Ret Tryz.prog 35 [encB a, encB b] (.bool (confl a b)) := by
  refine ret_of_awp Tryz.func35 rfl (Nat.le_of_ble_eq_true rfl) ?_
  refine awp_seq ?_
  refine awp_rw rfl ?_
  refine RW.new rfl rfl (eff_boxK (v := .t _) (k := 5) (id := 2) rfl rfl rfl rfl rfl rfl) ?_
  refine RW.new rfl rfl (eff_boxK (v := .t _) (k := 5) (id := 3) rfl rfl rfl rfl rfl rfl) ?_
  refine asT ?_
  refine RW.nil ?_
  refine awp_seq ?_
  refine awp_rw rfl ?_
  refine faT tf68_2 ?_
  refine l1T ti3 rfl rfl rfl rfl rfl (.one rfl rfl rfl rfl) ?_
  refine faT tf68_3 ?_
  refine l1T ti3 rfl rfl rfl rfl rfl (.one rfl rfl rfl rfl) ?_
  refine ioT ?_
  refine mvT ?_
  refine RW.split 10 rfl (fun h1 => ?_) (fun h1 => ?_)
  · try simp only [cl] at h1
    refine RW.gop rfl rfl rfl rfl rfl rfl (eff_fieldAddr rfl rfl tf68_2 (by decide) rfl rfl rfl (Nat.le_of_ble_eq_true rfl)) ?_
    refine RW.gop rfl rfl rfl rfl rfl rfl (eff_load (y := .t _) rfl rfl ti3 rfl (.one rfl rfl rfl rfl)) ?_
    refine RW.gop rfl rfl rfl rfl rfl rfl (eff_fieldAddr rfl rfl tf68_3 (by decide) rfl rfl rfl (Nat.le_of_ble_eq_true rfl)) ?_
    refine RW.gop rfl rfl rfl rfl rfl rfl (eff_load (y := .t _) rfl rfl ti3 rfl (.one rfl rfl rfl rfl)) ?_
    refine RW.gop rfl rfl rfl rfl rfl rfl (eff_iop rfl rfl rfl rfl rfl) ?_
    refine pkT ?_
    refine asT ?_
    refine RW.nil ?_
    refine awp_ret ?_
    (rw [show confl a b = _ from by unfold confl; first | rw [decide_eq_false (show ¬ a.frm < b.til by assumption), Bool.false_and] | rw [decide_eq_true (show a.frm < b.til by assumption), Bool.true_and]]; exact ⟨Or.inr rfl, [_], ⟨.tmp (.t _), trivial⟩, .refl _⟩)
  · try simp only [cl] at h1
    refine gkT ?_
    refine gkT ?_
    refine gkT ?_
    refine gkT ?_
    refine gkT ?_
    refine pkT ?_
    refine asT ?_
    refine RW.nil ?_
    refine awp_ret ?_
    (rw [show confl a b = _ from by unfold confl; first | rw [decide_eq_false (show ¬ a.frm < b.til by assumption), Bool.false_and] | rw [decide_eq_true (show a.frm < b.til by assumption), Bool.true_and]]; exact ⟨Or.inr rfl, [_], ⟨.tmp (.t _), trivial⟩, .refl _⟩)

theorem order_ret (a b : Bid) : Ret Tryz.prog 56 [encB a, encB b] (encI (cmpI a.til b.til)) := by
  refine ret_of_awp Tryz.func56 rfl (Nat.le_of_ble_eq_true rfl) ?_
  refine awp_seq ?_
  refine awp_rw rfl ?_
  refine RW.new rfl rfl (eff_boxK (v := .t _) (k := 5) (id := 2) rfl rfl rfl rfl rfl rfl) ?_
  refine RW.new rfl rfl (eff_boxK (v := .t _) (k := 5) (id := 3) rfl rfl rfl rfl rfl rfl) ?_
  refine asT ?_
  refine RW.nil ?_
  refine awp_seq ?_
  refine awp_rw rfl ?_
  refine faT tf68_3 ?_
  refine l1T ti3 rfl rfl rfl rfl rfl (.one rfl rfl rfl rfl) ?_
  refine faT tf68_3 ?_
  refine l1T ti3 rfl rfl rfl rfl rfl (.one rfl rfl rfl rfl) ?_
  refine RW.op rfl rfl (eff_callT (cmp_ret _ _) co21 rfl rfl rfl rfl) ?_
  refine asT ?_
  refine RW.nil ?_
  refine awp_ret ?_
  exact ⟨Or.inr rfl, [_], ⟨.tmp (.t _), trivial⟩, .refl _⟩

theorem tick_ret (a : Bid) (t : Int) : Ret Tryz.prog 59 [encB a, encI t] (encI (cmpI a.til t)) := by
  refine ret_of_awp Tryz.func59 rfl (Nat.le_of_ble_eq_true rfl) ?_
  refine awp_seq ?_
  refine awp_rw rfl ?_
  refine RW.new rfl rfl (eff_boxK (v := .t _) (k := 5) (id := 2) rfl rfl rfl rfl rfl rfl) ?_
  refine asT ?_
  refine RW.nil ?_
  refine awp_seq ?_
  refine awp_rw rfl ?_
  refine faT tf68_3 ?_
  refine l1T ti3 rfl rfl rfl rfl rfl (.one rfl rfl rfl rfl) ?_
  refine mvT ?_
  refine RW.op rfl rfl (eff_callT (cmp_ret _ _) co21 rfl rfl rfl rfl) ?_
  refine asT ?_
  refine RW.nil ?_
  refine awp_ret ?_
  exact ⟨Or.inr rfl, [_], ⟨.tmp (.t _), trivial⟩, .refl _⟩

theorem clash_ret (x b : Bid) : Ret Tryz.prog 34 [encB x, .ptr (encB b).cells] (.bool (confl x b)) := by
  refine ret_of_awp Tryz.func34 rfl (Nat.le_of_ble_eq_true rfl) ?_
  refine awp_seq ?_
  refine awp_rw rfl ?_
  refine RW.new rfl rfl (eff_boxK (v := .t _) (k := 5) (id := 2) rfl rfl rfl rfl rfl rfl) ?_
  refine asT ?_
  refine RW.nil ?_
  refine awp_seq ?_
  refine awp_rw rfl ?_
  refine RW.op rfl rfl (eff_load rfl rfl ti68 rfl (.whole rfl rfl rfl rfl rfl rfl)) ?_
  refine RW.op rfl rfl (eff_loadW rfl rfl ti68 rfl rfl rfl) ?_
  refine RW.op rfl rfl (eff_callT (conflict_ret _ _) co35 rfl rfl rfl rfl) ?_
  refine asT ?_
  refine RW.nil ?_
  refine awp_ret ?_
  exact ⟨Or.inr rfl, [_], ⟨.tmp (.t _), trivial⟩, .refl _⟩

end Go.Tv.C37p

end
section
open Go Go.Tv Go.Tv.C37 Go.Proofs
namespace Go.Tv.C37p
set_option maxRecDepth 20000
set_option maxHeartbeats 2000000
set_option linter.unusedSimpArgs false
set_option linter.unusedVariables false
theorem at_yes {B : List Bid} {s : Int} {i : Nat} (h : i < B.length) (e : B[i].station = s) : atS (B.take (i + 1)) s = atS (B.take i) s ++ [B[i]] := by
  unfold atS; rw [take_succ_get h, List.filter_append, List.filter_cons, if_pos (decide_eq_true e)]; rfl
theorem at_no {B : List Bid} {s : Int} {i : Nat} (h : i < B.length) (e : ¬ B[i].station = s) : atS (B.take (i + 1)) s = atS (B.take i) s := by
  unfold atS; rw [take_succ_get h, List.filter_append, List.filter_cons, if_neg (by simpa using e)]; simp
theorem at_len (B : List Bid) (s : Int) : (atS B s).length ≤ B.length := List.length_filter_le _ _

theorem at_ret (B : List Bid) (sn : Int) (hB : B.length ≤ 100000) : Ret Tryz.prog 29 [.sl (B.map encB) false, encI sn] (.sl ((atS B sn).map encB) false) := by
  refine ret_of_awp Tryz.func29 rfl (Nat.le_of_ble_eq_true rfl) ?_
  refine awp_seq ?_
  refine awp_rw rfl ?_
  refine asT ?_
  refine RW.nil ?_
  refine awp_seq ?_
  refine awp_rw rfl ?_
  refine asT ?_
  refine RW.nil ?_
  show AWP _ _ _ _
  refine awp_weak (weak_adopt (d := 5) (id := 5) (k := 5) (ty := 68) rfl rfl) ?_
  refine awp_seq ?_
  refine awp_seq ?_
  refine awp_rw rfl ?_
  refine mvT ?_
  refine RW.op rfl rfl (eff_lenM rfl rfl te45 rfl) ?_
  refine mvT ?_
  refine RW.nil ?_
  refine awp_block ?_
  refine awp_loopW (fun m s => ∃ (i : Nat) (gn : Nat) (n : Nat) (els : List AV), (i ≤ B.length) ∧ (n = (atS (B.take i) sn).length) ∧ (els = ((atS (B.take i) sn).map encB).map .t) ∧ m = B.length - i ∧ s = ⟨24, [(1, .t (encI sn)), (5, .own 5 gn 0 n), (8, .t (.sl (B.map encB) false)), (9, .t (encI B.length)), (10, .t (encI (i : Nat)))], [(5, some ⟨5, 68, gn, els⟩)]⟩) (_) (⟨_, weak_keep (n := 24) (fr' := [(1, .t (encI sn)), (5, .own 5 0 0 0), (8, .t (.sl (B.map encB) false)), (9, .t (encI B.length)), (10, .t (encI (0 : Nat)))]) (st' := [(5, some ⟨5, 68, 0, ([])⟩)]) ⟨rfl, rfl, rfl, rfl, rfl, rfl, rfl, rfl, rfl, rfl, trivial⟩ ⟨rfl, (by first | exact okE_nil | (rw [he]; exact okE_t) | (rw [he]; intro x hx; simp only [List.mem_append, List.mem_map, List.mem_singleton] at hx; rcases hx with ⟨y, _, rfl⟩ | rfl <;> rfl)), trivial⟩, 0, 0, 0, [], (by omega), (by rfl), (by rfl), rfl, rfl⟩) ?_
  rintro m s ⟨i, gn, n, els, hi, hnn, he, rfl, rfl⟩
  have hal := at_len (B.take i) sn
  rw [List.length_take] at hal
  refine awp_seq ?_
  refine awp_rw rfl ?_
  refine ioT ?_
  refine RW.nil ?_
  refine awp_seq ?_
  refine awp_cond rfl (fun h1 => ?_) (fun h1 => ?_)
  · try simp only [cl] at h1
    refine awp_skip ?_
    refine awp_seq ?_
    refine awp_block ?_
    refine awp_seq ?_
    refine awp_rw rfl ?_
    have hil : i < B.length := by omega
    refine RW.op rfl rfl (eff_indexM rfl rfl te45 rfl rfl rfl (by first | assumption | exact List.getElem?_eq_getElem (by omega)) rfl (by decide)) ?_
    refine RW.op rfl rfl (eff_loadW rfl rfl ti68 rfl rfl rfl) ?_
    refine RW.new rfl rfl (eff_allocK (k := 5) (id := 7) rfl rfl tz68 rfl rfl) ?_
    refine RW.store rfl rfl (eff_storeW (v := .t _) (els := [_]) (els' := [_]) rfl rfl ti68 rfl rfl rfl rfl rfl rfl rfl rfl rfl) ?_
    refine RW.nil ?_
    refine awp_seq ?_
    refine awp_rw rfl ?_
    refine faT tf68_1 ?_
    refine l1T ti3 rfl rfl rfl rfl rfl (.one rfl rfl rfl rfl) ?_
    refine mvT ?_
    refine ioT ?_
    refine RW.nil ?_
    refine awp_cond rfl (fun h2 => ?_) (fun h2 => ?_)
    · try simp only [cl] at h2
      refine awp_rw rfl ?_
      refine mvO ?_
      refine RW.op rfl rfl (eff_load rfl rfl ti68 rfl (.whole rfl rfl rfl rfl rfl rfl)) ?_
      refine RW.new rfl rfl (eff_buildSliceL (id := 20) (els := [.t (.agg [_, _, _, _, _])]) rfl rfl te45 tz68 rfl (by decide) (by decide) rfl rfl rfl rfl) ?_
      refine RW.new rfl rfl (eff_append (id := 5) (ys := [_]) rfl rfl ta45 rfl rfl rfl (by rw [he, hnn]; simp) rfl rfl (srcOwn rfl rfl rfl rfl rfl rfl) (by simp) (by simp; omega) (by simp; omega)) ?_
      refine asO ?_
      refine RW.nil ?_
      refine awp_rw rfl ?_
      refine RW.op rfl rfl (eff_iop rfl rfl rfl rfl (iadd (by omega))) ?_
      refine mvT ?_
      refine RW.nil ?_
      refine ⟨_, ?_, _, weak_keep (n := 24) (fr' := [(1, .t (encI sn)), (5, .own 5 _ 0 _), (8, .t (.sl (B.map encB) false)), (9, .t (encI B.length)), (10, .t (encI ((i + 1) : Nat)))]) (st' := [(5, some ⟨5, 68, _, _⟩)]) ⟨rfl, rfl, rfl, rfl, rfl, rfl, rfl, rfl, rfl, rfl, trivial⟩ ⟨rfl, (by first | exact okE_nil | (rw [he]; exact okE_t) | (rw [he]; intro x hx; simp only [List.mem_append, List.mem_map, List.mem_singleton] at hx; rcases hx with ⟨y, _, rfl⟩ | rfl <;> rfl)), trivial⟩, i + 1, _, _, _, (by omega), (by first | (rw [at_yes hil (by assumption), hnn]; simp; done) | (rw [at_no hil (by assumption)]; exact hnn)), (by first | (rw [at_no hil (by assumption)]; exact he) | (rw [at_yes hil (by assumption), he]; simp <;> rfl)), rfl, rfl⟩
      omega
    · try simp only [cl] at h2
      refine awp_skip ?_
      refine awp_rw rfl ?_
      refine RW.op rfl rfl (eff_iop rfl rfl rfl rfl (iadd (by omega))) ?_
      refine mvT ?_
      refine RW.nil ?_
      refine ⟨_, ?_, _, weak_keep (n := 24) (fr' := [(1, .t (encI sn)), (5, .own 5 _ 0 _), (8, .t (.sl (B.map encB) false)), (9, .t (encI B.length)), (10, .t (encI ((i + 1) : Nat)))]) (st' := [(5, some ⟨5, 68, _, _⟩)]) ⟨rfl, rfl, rfl, rfl, rfl, rfl, rfl, rfl, rfl, rfl, trivial⟩ ⟨rfl, (by first | exact okE_nil | (rw [he]; exact okE_t) | (rw [he]; intro x hx; simp only [List.mem_append, List.mem_map, List.mem_singleton] at hx; rcases hx with ⟨y, _, rfl⟩ | rfl <;> rfl)), trivial⟩, i + 1, _, _, _, (by omega), (by first | (rw [at_yes hil (by assumption), hnn]; simp; done) | (rw [at_no hil (by assumption)]; exact hnn)), (by first | (rw [at_no hil (by assumption)]; exact he) | (rw [at_yes hil (by assumption), he]; simp <;> rfl)), rfl, rfl⟩
      omega
  · try simp only [cl] at h1
    refine awp_exit ?_
    refine awp_seq ?_
    refine awp_rw rfl ?_
    refine mvO ?_
    refine asO ?_
    refine RW.nil ?_
    refine awp_ret ?_
    obtain rfl : i = B.length := by omega
    exact ⟨Or.inr rfl, [_], ⟨.tmp (Res.ownT (xs := (atS B sn).map encB) rfl rfl (by rw [he, List.take_length]) (by rw [hnn, List.take_length]; simp)), trivial⟩, .refl _⟩

end Go.Tv.C37p

end
section
open Go Go.Tv Go.Tv.C37 Go.Proofs
namespace Go.Tv.C37p
set_option maxRecDepth 20000
set_option maxHeartbeats 2000000
set_option linter.unusedSimpArgs false
set_option linter.unusedVariables false
theorem cmpI_neg {a b : Int} : cmpI a b < 0 ↔ a < b := by
  unfold cmpI
  split
  · omega
  · split <;> omega
def posT (l : List Bid) (t : Int) : Nat := endBy l (t - 1)
def hitT (l : List Bid) (t : Int) : Bool := match l[posT l t]? with
  | some b => cmpI b.til t == 0
  | none => false
theorem posT_eq {l : List Bid} {t : Int} {i : Nat} (hs : SortedT l) (hi : i ≤ l.length) (h1 : ∀ h : 0 < i, (l[i - 1]'(by omega)).til < t) (h2 : ∀ h : i < l.length, ¬ l[i].til < t) : posT l t = i := by
  have hle := endBy_le l (t - 1)
  unfold posT
  rcases Nat.lt_trichotomy (endBy l (t - 1)) i with h | h | h
  · exfalso
    have hlt : endBy l (t - 1) < l.length := by omega
    have h3 := endBy_drop l (t - 1) hs l[endBy l (t - 1)] (by rw [List.drop_eq_getElem_cons hlt]; exact List.mem_cons_self)
    have h4 := h1 (by omega)
    rcases Nat.lt_or_ge (endBy l (t - 1)) (i - 1) with h5 | h5
    · have := List.pairwise_iff_getElem.1 hs (endBy l (t - 1)) (i - 1) hlt (by omega) h5
      omega
    · have e : endBy l (t - 1) = i - 1 := by omega
      have e2 : l[endBy l (t - 1)] = l[i - 1]'(by omega) := by congr 1
      rw [e2] at h3; omega
  · exact h
  · exfalso
    have h3 := endBy_take l (t - 1) (l[i]'(by omega)) (List.mem_take_iff_getElem.2 ⟨i, by omega, rfl⟩)
    exact h2 (by omega) (by omega)

theorem search_ret (l : List Bid) (t : Int) (hl : l.length ≤ 1000000) (hs : SortedT l) : Ret Tryz.prog 58 [.sl (l.map encB) false, encI t, .fn 59 []] (.tup [encI (posT l t : Nat), .bool (hitT l t)]) := by
  refine ret_of_awp Tryz.func58 rfl (Nat.le_of_ble_eq_true rfl) ?_
  refine awp_seq ?_
  refine awp_rw rfl ?_
  refine asT ?_
  refine asT ?_
  refine RW.nil ?_
  refine awp_seq ?_
  refine awp_rw rfl ?_
  refine mvT ?_
  refine RW.op rfl rfl (eff_lenM rfl rfl te45 rfl) ?_
  refine asT ?_
  refine RW.nil ?_
  refine awp_seq ?_
  refine awp_rw rfl ?_
  refine mvT ?_
  refine asT ?_
  refine asT ?_
  refine RW.nil ?_
  refine awp_seq ?_
  refine awp_block ?_
  refine awp_loopW (fun m s => ∃ (lo : Nat) (hi : Nat), (lo ≤ hi) ∧ (hi ≤ l.length) ∧ (∀ (h : 0 < lo) (h2 : lo - 1 < l.length), (l[lo - 1]'h2).til < t) ∧ (∀ h : hi < l.length, ¬ l[hi].til < t) ∧ m = hi - lo ∧ s = ⟨49, [(0, .t (.sl (l.map encB) false)), (1, .t (encI t)), (2, .t (.fn 59 [])), (8, .t (encI (l.length : Nat))), (9, .t (encI (lo : Nat))), (10, .t (encI (hi : Nat)))], []⟩) (_) (⟨_, weak_keep (n := 49) (fr' := [(0, .t (.sl (l.map encB) false)), (1, .t (encI t)), (2, .t (.fn 59 [])), (8, .t (encI (l.length : Nat))), (9, .t (encI (0 : Nat))), (10, .t (encI ((l.length) : Nat)))]) (st' := []) ⟨rfl, rfl, rfl, rfl, rfl, rfl, rfl, rfl, rfl, rfl, rfl, rfl, trivial⟩ trivial, 0, l.length, (by omega), (by omega), (by intro h; omega), (by intro h; omega), rfl, rfl⟩) ?_
  rintro m s ⟨lo, hi, hlh, hhi, hy, hz, rfl, rfl⟩
  refine awp_seq ?_
  refine awp_seq ?_
  refine awp_rw rfl ?_
  refine mvT ?_
  refine mvT ?_
  refine ioT ?_
  refine RW.nil ?_
  refine awp_cond rfl (fun h1 => ?_) (fun h1 => ?_)
  · try simp only [cl] at h1
    refine awp_skip ?_
    refine awp_block ?_
    refine awp_seq ?_
    refine awp_rw rfl ?_
    refine mvT ?_
    refine mvT ?_
    refine RW.op rfl rfl (eff_iop rfl rfl rfl rfl (iadd (by omega))) ?_
    refine RW.op rfl rfl (eff_convIntE (m := ((lo + hi : Nat) : Int)) rfl rfl (by rw [tu3]; rfl) tu112 rfl (wrapU64 (by omega) (by omega))) ?_
    refine RW.op rfl rfl (eff_shrE (r := ((((lo + hi) / 2) : Nat) : Int)) rfl rfl rfl rfl (by decide) (shr1 _)) ?_
    refine RW.op rfl rfl (eff_convIntE (m := ((((lo + hi) / 2) : Nat) : Int)) rfl rfl (by rw [tu112]; rfl) tu3 rfl (wrap64 (by omega) (by omega))) ?_
    refine asT ?_
    refine RW.nil ?_
    refine awp_seq ?_
    refine awp_rw rfl ?_
    refine mvT ?_
    refine mvT ?_
    refine mvT ?_
    refine RW.op rfl rfl (eff_indexM (i := ((lo + hi) / 2)) rfl rfl te45 rfl rfl (by first | rfl | omega) (by exact List.getElem?_eq_getElem (by omega)) rfl (by decide)) ?_
    refine RW.op rfl rfl (eff_loadW rfl rfl ti68 rfl rfl rfl) ?_
    refine mvT ?_
    refine RW.op rfl rfl (eff_callT (tick_ret (l[((lo + hi) / 2)]'(by omega)) t) co59 rfl rfl rfl rfl) ?_
    refine ioT ?_
    refine RW.nil ?_
    refine awp_cond rfl (fun h2 => ?_) (fun h2 => ?_)
    · try simp only [cl] at h2
      refine awp_rw rfl ?_
      refine mvT ?_
      refine RW.op rfl rfl (eff_iop rfl rfl rfl rfl (iadd (by omega))) ?_
      refine asT ?_
      refine RW.nil ?_
      exact ⟨_, (by omega : hi - (((lo + hi) / 2) + 1) < hi - lo), _, weak_keep (n := 49) (fr' := [(0, .t (.sl (l.map encB) false)), (1, .t (encI t)), (2, .t (.fn 59 [])), (8, .t (encI (l.length : Nat))), (9, .t (encI (((((lo + hi) / 2) + 1) : Nat) : Int))), (10, .t (encI ((hi : Nat) : Int)))]) (st' := []) ⟨rfl, rfl, rfl, rfl, rfl, rfl, rfl, rfl, rfl, rfl, rfl, rfl, trivial⟩ trivial, (((lo + hi) / 2) + 1), hi, by omega, by omega, (fun _ _ => cmpI_neg.1 (by assumption)), hz, rfl, rfl⟩
    · try simp only [cl] at h2
      refine awp_rw rfl ?_
      refine mvT ?_
      refine asT ?_
      refine RW.nil ?_
      exact ⟨_, (by omega : ((lo + hi) / 2) - lo < hi - lo), _, weak_keep (n := 49) (fr' := [(0, .t (.sl (l.map encB) false)), (1, .t (encI t)), (2, .t (.fn 59 [])), (8, .t (encI (l.length : Nat))), (9, .t (encI ((lo : Nat) : Int))), (10, .t (encI ((((lo + hi) / 2) : Nat) : Int)))]) (st' := []) ⟨rfl, rfl, rfl, rfl, rfl, rfl, rfl, rfl, rfl, rfl, rfl, rfl, trivial⟩ trivial, lo, ((lo + hi) / 2), by omega, by omega, hy, (fun _ h => (by assumption : ¬ _) (cmpI_neg.2 h)), rfl, rfl⟩
  · try simp only [cl] at h1
    refine awp_exit ?_
    refine awp_seq ?_
    by_cases hc3 : lo < l.length
    · refine awp_rw rfl ?_
      refine mvT ?_
      refine mvT ?_
      refine mvT ?_
      refine RW.op rfl rfl (eff_iop (r := .bool true) rfl rfl rfl rfl (by exact iop_lss_t (by omega))) ?_
      refine mvT ?_
      refine RW.gop rfl rfl rfl rfl rfl rfl (eff_move (v := .t _) rfl rfl rfl) ?_
      refine RW.gop rfl rfl rfl rfl rfl rfl (eff_move (v := .t _) rfl rfl rfl) ?_
      refine RW.gop rfl rfl rfl rfl rfl rfl (eff_move (v := .t _) rfl rfl rfl) ?_
      refine RW.gop rfl rfl rfl rfl rfl rfl (eff_indexM (i := lo) rfl rfl te45 rfl rfl (by first | rfl | omega) (by exact List.getElem?_eq_getElem (by omega)) rfl (by decide)) ?_
      refine RW.gop rfl rfl rfl rfl rfl rfl (eff_loadW rfl rfl ti68 rfl rfl rfl) ?_
      refine RW.gop rfl rfl rfl rfl rfl rfl (eff_move (v := .t _) rfl rfl rfl) ?_
      refine RW.gop rfl rfl rfl rfl rfl rfl (eff_callT (tick_ret (l[lo]'(by omega)) t) co59 rfl rfl rfl rfl) ?_
      refine RW.gop rfl rfl rfl rfl rfl rfl (eff_iop rfl rfl rfl rfl rfl) ?_
      refine pkT ?_
      refine asT ?_
      refine asT ?_
      refine RW.nil ?_
      refine awp_ret ?_
      obtain rfl : lo = hi := by omega
      have hpos : posT l t = lo := posT_eq hs hhi (fun h => hy h (by omega)) hz
      (rw [show hitT l t = (cmpI (l[lo]'(by assumption)).til t == 0) from by unfold hitT; rw [hpos, List.getElem?_eq_getElem (by assumption)], hpos]; exact ⟨Or.inr rfl, [_, _], ⟨.tmp (.t _), .tmp (.t _), trivial⟩, .refl _⟩)
    · refine awp_rw rfl ?_
      refine mvT ?_
      refine mvT ?_
      refine mvT ?_
      refine RW.op rfl rfl (eff_iop (r := .bool false) rfl rfl rfl rfl (by exact iop_lss_f (by omega))) ?_
      refine mvT ?_
      refine gkT ?_
      refine gkT ?_
      refine gkT ?_
      refine gkT ?_
      refine gkT ?_
      refine gkT ?_
      refine gkT ?_
      refine gkT ?_
      refine pkT ?_
      refine asT ?_
      refine asT ?_
      refine RW.nil ?_
      refine awp_ret ?_
      obtain rfl : lo = hi := by omega
      have hpos : posT l t = lo := posT_eq hs hhi (fun h => hy h (by omega)) hz
      (rw [show hitT l t = false from by unfold hitT; rw [hpos, List.getElem?_eq_none (by omega)], hpos]; exact ⟨Or.inr rfl, [_, _], ⟨.tmp (.t _), .tmp (.t _), trivial⟩, .refl _⟩)

end Go.Tv.C37p

end
section
open Go Go.Tv Go.Tv.C37 Go.Proofs
namespace Go.Tv.C37p
set_option maxRecDepth 20000
set_option maxHeartbeats 2000000
set_option linter.unusedSimpArgs false
set_option linter.unusedVariables false
theorem values_iter (B : List Bid) (hB : B.length ≤ 100000) : Iter Tryz.prog 75 [.ptr [.sl (B.map encB) false]] (B.map encB) := by
  refine iter_of_awj Tryz.func75 rfl (Nat.le_of_ble_eq_true rfl) rfl ?_
  intro γ X hds At Stop yl hy g0 hAt
  refine awj_seq ?_
  refine awj_rj rfl ?_
  refine RJ.op rfl rfl (eff_loadT1 rfl rfl ti45 rfl rfl) ?_
  refine RJ.op rfl rfl (eff_lenM rfl rfl te45 rfl) ?_
  refine RJ.op rfl rfl (eff_move (v := .t _) rfl rfl rfl) ?_
  refine RJ.nil ?_
  refine awj_block ?_
  refine awj_loopW (fun m s g => ∃ (i : Nat), (i ≤ B.length) ∧ (At i g) ∧ m = B.length - i ∧ s = ⟨16, [(0, .t (.yld yl)), (1, .t (.ptr [.sl (B.map encB) false])), (5, .t (.sl (B.map encB) false)), (6, .t (encI B.length)), (7, .t (encI (i : Nat)))], []⟩) (_) (⟨_, weak_keep (n := 16) (fr' := [(0, .t (.yld yl)), (1, .t (.ptr [.sl (B.map encB) false])), (5, .t (.sl (B.map encB) false)), (6, .t (encI B.length)), (7, .t (encI (0 : Nat)))]) (st' := []) ⟨rfl, rfl, rfl, rfl, rfl, rfl, rfl, rfl, rfl, rfl, trivial⟩ trivial, 0, (by omega), (by exact hAt), rfl, rfl⟩) ?_
  rintro m s g ⟨i, hi, hA, rfl, rfl⟩
  refine awj_seq ?_
  refine awj_rj rfl ?_
  refine RJ.op rfl rfl (eff_iop rfl rfl rfl rfl rfl) ?_
  refine RJ.nil ?_
  refine awj_seq ?_
  refine awj_cond rfl (fun h1 => ?_) (fun h1 => ?_)
  · try simp only [cl] at h1
    refine awj_skip ?_
    refine awj_seq ?_
    refine awj_block ?_
    refine awj_seq ?_
    refine awj_rj rfl ?_
    have hil : i < B.length := by omega
    refine RJ.op rfl rfl (eff_indexM rfl rfl te45 rfl rfl rfl (by first | assumption | exact List.getElem?_eq_getElem (by omega)) rfl (by decide)) ?_
    refine RJ.op rfl rfl (eff_loadW rfl rfl ti68 rfl rfl rfl) ?_
    refine RJ.new rfl rfl (eff_allocK (k := 5) (id := 4) rfl rfl tz68 rfl rfl) ?_
    refine RJ.store rfl rfl (eff_storeW (v := .t _) (els := [_]) (els' := [_]) rfl rfl ti68 rfl rfl rfl rfl rfl rfl rfl rfl rfl) ?_
    refine RJ.nil ?_
    refine awj_seq ?_
    refine awj_rj rfl ?_
    refine RJ.op rfl rfl (eff_move (v := .t _) rfl rfl rfl) ?_
    refine RJ.op rfl rfl (eff_load rfl rfl ti68 rfl (.whole rfl rfl rfl rfl rfl rfl)) ?_
    have hpos : (B.map encB)[i]? = some (encB (B[i]'hil)) := by rw [List.getElem?_map, List.getElem?_eq_getElem hil]; rfl
    refine RJ.many (.inl rfl) (eff_yield rfl rfl rfl rfl hds (hy _ _ _ hpos hA)) ?_
    rintro e g2 ⟨yb, rfl, hyb⟩
    show RJ _ _ _ _ _ ⟨_, (13, .t (.bool yb)) :: _, _⟩ _ _
    refine RJ.op rfl rfl (eff_unop rfl rfl rfl rfl) ?_
    refine RJ.nil ?_
    refine awj_cond rfl (fun h2 => ?_) (fun h2 => ?_)
    · try simp only [cl] at h2
      refine awj_ret ?_
      rcases hyb with ⟨h, _⟩ | ⟨_, h⟩
      · rw [h] at h2; simp at h2
      · exact ⟨Or.inr rfl, Or.inr h⟩
    · try simp only [cl] at h2
      refine awj_skip ?_
      refine awj_rj rfl ?_
      refine RJ.op rfl rfl (eff_iop rfl rfl rfl rfl (iadd (by omega))) ?_
      refine RJ.op rfl rfl (eff_move (v := .t _) rfl rfl rfl) ?_
      refine RJ.nil ?_
      refine ⟨_, ?_, _, weak_keep (n := 16) (fr' := [(0, .t (.yld yl)), (1, .t (.ptr [.sl (B.map encB) false])), (5, .t (.sl (B.map encB) false)), (6, .t (encI B.length)), (7, .t (encI ((i + 1) : Nat)))]) (st' := []) ⟨rfl, rfl, rfl, rfl, rfl, rfl, rfl, rfl, rfl, rfl, trivial⟩ trivial, i + 1, (by omega), (by rcases hyb with ⟨_, h⟩ | ⟨h, _⟩ <;> first | exact h | (rw [h] at h2; simp at h2)), rfl, rfl⟩
      omega
  · try simp only [cl] at h1
    refine awj_exit ?_
    have hi2 : i = B.length := by omega
    subst hi2
    exact ⟨Or.inl rfl, Or.inl (by rw [List.length_map]; exact hA)⟩

theorem values_ret (B : List Bid) : Ret Tryz.prog 55 [.sl (B.map encB) false] (.fn 75 [.ptr [.sl (B.map encB) false]]) := by
  refine ret_of_awp Tryz.func55 rfl (Nat.le_of_ble_eq_true rfl) ?_
  refine awp_seq ?_
  refine awp_rw rfl ?_
  refine RW.new rfl rfl (eff_boxK (v := .t _) (k := 1) (id := 1) rfl rfl rfl rfl rfl rfl) ?_
  refine asT ?_
  refine RW.nil ?_
  refine awp_seq ?_
  refine awp_rw rfl ?_
  refine RW.op rfl rfl (eff_makeFunc rfl rfl rfl rfl) ?_
  refine RW.op rfl rfl (eff_assign (v := .fn _ _) rfl rfl rfl) ?_
  refine RW.nil ?_
  refine awp_ret ?_
  exact ⟨Or.inr rfl, [_], ⟨.tmp (Res.fnP (xs := [.ptr [.sl (B.map encB) false]]) ⟨Res.ptrT (x := .sl (B.map encB) false) rfl rfl rfl, trivial⟩), trivial⟩, .refl _⟩

end Go.Tv.C37p

end
section
open Go Go.Tv Go.Tv.C37 Go.Proofs
namespace Go.Tv.C37p
set_option maxRecDepth 20000
set_option maxHeartbeats 2000000
set_option linter.unusedSimpArgs false
set_option linter.unusedVariables false
theorem bmap_succ {B : List Bid} {i : Nat} (h : i < B.length) : ((B.take (i + 1)).map encB).map AV.t = ((B.take i).map encB).map AV.t ++ [.t (encB B[i])] := by
  rw [take_succ_get h, List.map_append, List.map_append]; rfl

end Go.Tv.C37p

end
section
open Go Go.Tv Go.Tv.C37 Go.Proofs
namespace Go.Tv.C37p
set_option maxRecDepth 20000
set_option maxHeartbeats 2000000
set_option linter.unusedSimpArgs false
set_option linter.unusedVariables false
theorem lookA_putA (a : Int) (b : Int) (c : Int) : ∀ l : List (Int × Int), lookA c (putA a b l) = if c = a then some b else lookA c l
  | [] => by
    unfold putA lookA lookA
    rfl
  | e :: l => by
    unfold putA
    by_cases h : a = e.1
    · rw [if_pos h]
      by_cases h2 : c = a
      · rw [if_pos h2]; unfold lookA; rw [if_pos h2]
      · rw [if_neg h2]; unfold lookA; rw [if_neg h2, if_neg (fun e => h2 (e.trans h.symm))]
    · rw [if_neg h]
      unfold lookA
      by_cases h3 : c = e.1
      · rw [if_pos h3, if_pos h3, if_neg (fun h2 => h (h2.symm.trans h3))]
      · rw [if_neg h3, if_neg h3]; exact lookA_putA a b c l
noncomputable def KI : MapK Tryz.prog 3 Int := MapK.int tu3
/-- The memo tells the table. -/
def GoodL (l : List Bid) (lm : List (Int × Int)) : Prop := lookA 0 lm = some 0 ∧ ∀ k v, lookA k lm = some v → ∃ n : Nat, k = n ∧ n ≤ l.length ∧ v = dp l n
def GoodM (l : List Bid) (o : Obj) : Prop := ∃ lm, o = mapO KI MapX.int lm ∧ GoodL l lm
theorem imax_max (a b : Int) : imax a b = max a b := by
  unfold imax
  split <;> omega
theorem dp_zero (l : List Bid) : dp l 0 = 0 := by rw [dp]
theorem good_put {l : List Bid} {lm : List (Int × Int)} (h : GoodL l lm) {k : Nat} (h0 : k ≠ 0) (hk : k ≤ l.length) : GoodL l (putA (k : Int) (dp l k) lm) := by
  refine ⟨?_, fun c v hc => ?_⟩
  · rw [lookA_putA, if_neg (by omega)]; exact h.1
  · rw [lookA_putA] at hc
    split at hc
    · cases hc; exact ⟨k, by assumption, hk, rfl⟩
    · exact h.2 c v hc
def capsF (r : Nat) (l : List Bid) : Nat → List Tr
  | 0 => [.ptr [.mp r], .ptr [.sl (l.map encB) false], .ptr []]
  | d + 1 => [.ptr [.mp r], .ptr [.sl (l.map encB) false], .ptr [.fn 57 (capsF r l d)]]
/-- A list that the table is made of. -/
structure TabL (l : List Bid) : Prop where
  srt : SortedT l
  ok : ∀ b, b ∈ l → Ok b
  len : l.length ≤ 1000
  lim : ∀ b, b ∈ l → b.val ≤ 1000000 ∧ 0 ≤ b.frm ∧ b.frm ≤ 1000000
theorem sumV_le {s : List Bid} (h : ∀ b, b ∈ s → b.val ≤ 1000000) : sumV s ≤ 1000000 * s.length := by
  induction s with
  | nil => simp [sumV]
  | cons b s ih =>
    have h1 := h b List.mem_cons_self
    have h2 := ih (fun c hc => h c (List.mem_cons_of_mem _ hc))
    simp only [sumV, List.length_cons]
    omega
theorem TabL.dp_range {l : List Bid} (h : TabL l) {k : Nat} (hk : k ≤ l.length) : 0 ≤ dp l k ∧ dp l k ≤ 1000000000 := by
  have ho := dp_opt h.srt h.ok k hk
  refine ⟨ho.2 [] (List.nil_sublist _) List.Pairwise.nil, ?_⟩
  obtain ⟨⟨s, h1, _, h3⟩, _⟩ := ho
  have h4 := sumV_le (s := s) (fun b hb => (h.lim b (List.mem_of_mem_take (h1.subset hb))).1)
  have h5 := h1.length_le
  have h6 := h.len
  rw [List.length_take] at h5
  omega
theorem dp_succ {l : List Bid} (h : TabL l) {k : Nat} (hk : k < l.length) : dp l (k + 1) = max (dp l k) (l[k].val + dp l (endBy l l[k].frm)) := by
  have := endBy_lt h.srt hk (h.ok _ (List.getElem_mem _))
  rw [dp, dif_pos hk, Nat.min_eq_right this]

theorem first_step (r : Nat) (l : List Bid) (hl : TabL l) (k d : Nat) (hk : k < l.length) (hkd : k ≤ d) (ih : ∀ k1, k1 ≤ k → ∀ d1, k1 ≤ d1 → k1 ≤ l.length → ∀ lm, GoodL l lm → RetR Tryz.prog 57 ([encI (k1 : Nat)] ++ capsF r l d1) [(r, mapO KI MapX.int lm)] (fun r' g' => r' = encI (dp l k1) ∧ ∃ o', GoodM l o' ∧ g' = [(r, o')])) (lm : List (Int × Int)) (hgl : GoodL l lm) (hno : lookA ((k + 1 : Nat) : Int) lm = none) : RetR Tryz.prog 57 [encI (k + 1 : Nat), .ptr [.mp r], .ptr [.sl (l.map encB) false], .ptr [.fn 57 (capsF r l d)]] [(r, mapO KI MapX.int lm)] (fun r' g' => r' = encI (dp l (k + 1)) ∧ ∃ o', GoodM l o' ∧ g' = [(r, o')]) := by
  have hlen : l.length ≤ 1000000 := by have := hl.len; omega
  have hlim := hl.lim l[k] (List.getElem_mem _)
  have hdk := hl.dp_range (k := k) (by omega)
  have heb := endBy_lt hl.srt hk (hl.ok _ (List.getElem_mem _))
  have hde := hl.dp_range (k := endBy l l[k].frm) (by omega)
  have hv1 := (hl.ok l[k] (List.getElem_mem _)).2
  have hds := dp_succ hl hk
  have hpos : posT l (l[k].frm + 1) = endBy l l[k].frm := by unfold posT; rw [show l[k].frm + 1 - 1 = l[k].frm by omega]
  refine retR_of_awj Tryz.func57 rfl (Nat.le_of_ble_eq_true rfl) ?_
  intro F0 w0
  refine awj_seq ?_
  refine awj_rj rfl ?_
  refine RJ.op rfl rfl (eff_assign (v := .t _) rfl rfl rfl) ?_
  refine RJ.nil ?_
  refine awj_seq ?_
  refine awj_seq ?_
  refine awj_rj rfl ?_
  refine RJ.op rfl rfl (eff_loadT1 rfl rfl ti100 rfl rfl) ?_
  refine RJ.op rfl rfl (eff_move (v := .t _) rfl rfl rfl) ?_
  refine RJ.rGet KI MapX.int (a := ((k + 1 : Nat) : Int)) (lm := lm) rfl rfl rfl rfl Tryz.underlying100 tz3 (solid_int _ _) rfl rfl (gget_same _ _ _) (by rw [hno]) ?_
  rw [hno]
  refine RJ.op rfl rfl (eff_move (v := .t _) rfl rfl rfl) ?_
  refine RJ.op rfl rfl (eff_extract rfl rfl rfl rfl) ?_
  refine RJ.op rfl rfl (eff_extract rfl rfl rfl rfl) ?_
  refine RJ.op rfl rfl (eff_assign (v := .t _) rfl rfl rfl) ?_
  refine RJ.op rfl rfl (eff_assign (v := .t _) rfl rfl rfl) ?_
  refine RJ.nil ?_
  refine awj_seq ?_
  refine awj_rj rfl ?_
  refine RJ.op rfl rfl (eff_move (v := .t _) rfl rfl rfl) ?_
  refine RJ.nil ?_
  refine awj_cond rfl (fun h => nomatch h) (fun _ => ?_)
  refine awj_skip ?_
  refine awj_seq ?_
  refine awj_rj rfl ?_
  refine RJ.op rfl rfl (eff_loadT1 rfl rfl ti45 rfl rfl) ?_
  refine RJ.op rfl rfl (eff_move (v := .t _) rfl rfl rfl) ?_
  refine RJ.op rfl rfl (eff_iop rfl rfl rfl rfl (isub (by omega))) ?_
  refine RJ.op rfl rfl (eff_indexM (i := k) rfl rfl te45 rfl rfl (by first | rfl | omega) (by exact List.getElem?_eq_getElem hk) rfl (by decide)) ?_
  refine RJ.op rfl rfl (eff_loadW rfl rfl ti68 rfl rfl rfl) ?_
  refine RJ.new rfl rfl (eff_allocK (k := 5) (id := 8) rfl rfl tz68 rfl rfl) ?_
  refine RJ.store rfl rfl (eff_storeW (v := .t _) (els := [_]) (els' := [_]) rfl rfl ti68 rfl rfl rfl rfl rfl rfl rfl rfl rfl) ?_
  refine RJ.nil ?_
  refine awj_seq ?_
  refine awj_rj rfl ?_
  refine RJ.op rfl rfl (eff_loadT1 rfl rfl ti45 rfl rfl) ?_
  refine RJ.op rfl rfl (eff_fieldAddr rfl rfl tf68_2 (by decide) rfl rfl rfl (Nat.le_of_ble_eq_true rfl)) ?_
  refine RJ.op rfl rfl (eff_load (y := .t _) rfl rfl ti3 rfl (.one rfl rfl rfl rfl)) ?_
  refine RJ.op rfl rfl (eff_iop rfl rfl rfl rfl (iadd (by omega))) ?_
  refine RJ.op rfl rfl (eff_callT (search_ret l (l[k].frm + 1) hlen hl.srt) co58 rfl rfl rfl rfl) ?_
  refine RJ.op rfl rfl (eff_move (v := .t _) rfl rfl rfl) ?_
  refine RJ.op rfl rfl (eff_extract rfl rfl rfl rfl) ?_
  refine RJ.op rfl rfl (eff_extract rfl rfl rfl rfl) ?_
  refine RJ.op rfl rfl (eff_assign (v := .t _) rfl rfl rfl) ?_
  refine RJ.op rfl rfl (eff_assign (v := .t _) rfl rfl rfl) ?_
  refine RJ.nil ?_
  refine awj_seq ?_
  show AWJ _ _ _ _ _ _ _ _
  refine awj_I (Good := GoodM l) ⟨lm, rfl, hgl⟩ ?_
  refine awj_rdX [(some 33, []), (some 34, []), (some 35, []), (some 36, []), (some 37, []), (some 38, []), (some 39, []), (some 40, []), (some 41, []), (some 42, []), (some 43, []), (some 11, [])] [[], [], [1], [0, 1, 2], [], [4], [], [], [0, 1, 2, 3, 6, 7], [0, 1, 2, 3, 4, 5, 6, 7, 8], [0, 1, 2, 3, 4, 5, 6, 7, 8, 9], [0, 1, 2, 3, 4, 5, 6, 7, 8, 9, 10]] tm rfl rfl rfl rfl ?_
  refine RX.op rfl rfl rfl (eff_loadT1 rfl rfl ti101 rfl rfl) ?_
  refine RX.op rfl rfl rfl (eff_move (v := .t _) rfl rfl rfl) ?_
  refine RX.op rfl rfl rfl (eff_iop rfl rfl rfl rfl (isub (by omega))) ?_
  refine RX.x rfl rfl rfl (EffX_callI (caps := capsF r l d) (res := encI (dp l k)) (fun ob hob => by
    obtain ⟨lm1, rfl, hg1⟩ := hob
    exact ih k (by omega) d (by omega) (by omega) lm1 hg1) co57 rfl rfl rfl (by exact congrArg (fun n => [AV.t (Tr.int .i64 n)]) (show ((k + 1 : Nat) : Int) - 1 = (k : Int) by omega))) ?_
  refine RX.op rfl rfl rfl (eff_fieldAddr rfl rfl tf68_4 (by decide) rfl rfl rfl (Nat.le_of_ble_eq_true rfl)) ?_
  refine RX.op rfl rfl rfl (eff_load (y := .t _) rfl rfl ti3 rfl (.one rfl rfl rfl rfl)) ?_
  refine RX.op rfl rfl rfl (eff_loadT1 rfl rfl ti101 rfl rfl) ?_
  refine RX.op rfl rfl rfl (eff_move (v := .t _) rfl rfl rfl) ?_
  refine RX.x rfl rfl rfl (EffX_callI (caps := capsF r l d) (res := encI (dp l (endBy l l[k].frm))) (fun ob hob => by
    obtain ⟨lm1, rfl, hg1⟩ := hob
    exact ih (endBy l l[k].frm) (by omega) d (by omega) (by omega) lm1 hg1) co57 rfl rfl rfl (by exact congrArg (fun n : Nat => [AV.t (encI n)]) hpos)) ?_
  refine RX.op rfl rfl rfl (eff_iop rfl rfl rfl rfl (iadd (by omega))) ?_
  refine RX.op rfl rfl rfl (eff_max rfl rfl rfl rfl) ?_
  refine RX.op rfl rfl rfl (eff_assign (v := .t _) rfl rfl rfl) ?_
  refine RX.nil ?_
  rintro o' ⟨lm2, rfl, hgl2⟩
  show AWJ _ _ _ _ _ _ _ _
  rw [show imax (dp l k) (l[k].val + dp l (endBy l l[k].frm)) = dp l (k + 1) from by rw [hds, imax_max]]
  refine awj_seq ?_
  refine awj_rj rfl ?_
  refine RJ.op rfl rfl (eff_loadT1 rfl rfl ti100 rfl rfl) ?_
  refine RJ.op rfl rfl (eff_move (v := .t _) rfl rfl rfl) ?_
  refine RJ.op rfl rfl (eff_move (v := .t _) rfl rfl rfl) ?_
  refine RJ.rPut KI MapX.int (a := ((k + 1 : Nat) : Int)) (b := dp l (k + 1)) (lm := lm2) rfl rfl (.inl rfl) Tryz.underlying100 rfl rfl rfl (gget_same _ _ _) ?_
  refine RJ.nil ?_
  refine awj_seq ?_
  refine awj_rj rfl ?_
  refine RJ.op rfl rfl (eff_move (v := .t _) rfl rfl rfl) ?_
  refine RJ.op rfl rfl (eff_assign (v := .t _) rfl rfl rfl) ?_
  refine RJ.nil ?_
  refine awj_ret ?_
  exact ⟨Or.inr rfl, [_], _, _, ⟨.tmp (.t _), trivial⟩, .refl _, ⟨rfl, _, ⟨_, rfl, good_put (k := k + 1) hgl2 (Nat.succ_ne_zero k) hk⟩, rfl⟩, fun b q hq => by
    change (if r = b then _ else none) = _ at hq
    split at hq
    · rename_i e; subst e; rw [gget_same]; exact hq
    · cases hq⟩

theorem first_hit (r : Nat) (l : List Bid) (c1 c2 : Tr) (k n : Nat) (lm : List (Int × Int)) (hgl : GoodL l lm) (hno : lookA (k : Int) lm = some (dp l k)) : RetR Tryz.prog 57 [encI (k : Nat), .ptr [.mp r], c1, c2] [(r, mapO KI MapX.int lm)] (fun r' g' => r' = encI (dp l k) ∧ ∃ o', GoodM l o' ∧ g' = [(r, o')]) := by
  refine retR_of_awj Tryz.func57 rfl (Nat.le_of_ble_eq_true rfl) ?_
  intro F0 w0
  refine awj_seq ?_
  refine awj_rj rfl ?_
  refine RJ.op rfl rfl (eff_assign (v := .t _) rfl rfl rfl) ?_
  refine RJ.nil ?_
  refine awj_seq ?_
  refine awj_seq ?_
  refine awj_rj rfl ?_
  refine RJ.op rfl rfl (eff_loadT1 rfl rfl ti100 rfl rfl) ?_
  refine RJ.op rfl rfl (eff_move (v := .t _) rfl rfl rfl) ?_
  refine RJ.rGet KI MapX.int (a := (k : Int)) (lm := lm) (u := encI (dp l k)) rfl rfl rfl rfl Tryz.underlying100 tz3 (solid_int _ _) rfl rfl (gget_same _ _ _) (by rw [hno]; rfl) ?_
  rw [hno]
  refine RJ.op rfl rfl (eff_move (v := .t _) rfl rfl rfl) ?_
  refine RJ.op rfl rfl (eff_extract rfl rfl rfl rfl) ?_
  refine RJ.op rfl rfl (eff_extract rfl rfl rfl rfl) ?_
  refine RJ.op rfl rfl (eff_assign (v := .t _) rfl rfl rfl) ?_
  refine RJ.op rfl rfl (eff_assign (v := .t _) rfl rfl rfl) ?_
  refine RJ.nil ?_
  refine awj_seq ?_
  refine awj_rj rfl ?_
  refine RJ.op rfl rfl (eff_move (v := .t _) rfl rfl rfl) ?_
  refine RJ.nil ?_
  refine awj_cond rfl (fun _ => ?_) (fun h => nomatch h)
  refine awj_seq ?_
  refine awj_rj rfl ?_
  refine RJ.op rfl rfl (eff_move (v := .t _) rfl rfl rfl) ?_
  refine RJ.op rfl rfl (eff_assign (v := .t _) rfl rfl rfl) ?_
  refine RJ.nil ?_
  refine awj_ret ?_
  exact ⟨Or.inr rfl, [_], _, _, ⟨.tmp (.t _), trivial⟩, .refl _, ⟨rfl, _, ⟨_, rfl, hgl⟩, rfl⟩, fun b q hq => hq⟩

theorem first_ret (r : Nat) (l : List Bid) (hl : TabL l) : ∀ (k d : Nat), k ≤ d → k ≤ l.length → ∀ lm, GoodL l lm →
    RetR Tryz.prog 57 ([encI (k : Nat)] ++ capsF r l d) [(r, mapO KI MapX.int lm)] (fun r' g' => r' = encI (dp l k) ∧ ∃ o', GoodM l o' ∧ g' = [(r, o')]) := by
  intro k
  induction k using Nat.strongRecOn with
  | _ k ih =>
    intro d hkd hkl lm hgl
    cases hno : lookA (k : Int) lm with
    | some v =>
      obtain ⟨n, h1, _, h3⟩ := hgl.2 _ _ hno
      obtain rfl : k = n := by omega
      subst h3
      cases d with
      | zero => exact first_hit r l _ _ k k lm hgl hno
      | succ d => exact first_hit r l _ _ k k lm hgl hno
    | none =>
      cases k with
      | zero => rw [show ((0 : Nat) : Int) = 0 from rfl, hgl.1] at hno; cases hno
      | succ k =>
        cases d with
        | zero => omega
        | succ d => exact first_step r l hl k d (by omega) (by omega) (fun k1 h1 d1 h2 h3 lm1 h4 => ih k1 (by omega) d1 h2 h3 lm1 h4) lm hgl hno

end Go.Tv.C37p

end
section
namespace Go.Proofs
open Go.Shelf
def Tryz.sortIv_ren : Go.Shelf.Ren := ⟨fun | 6 => 74 | 15 => 66 | 14 => 99 | 28 => 85 | 29 => 86 | 20 => 109 | 21 => 110 | 22 => 111 | 23 => 112 | 24 => 113 | 25 => 114 | 26 => 115 | 27 => 116 | 46 => 119 | 47 => 101 | 48 => 102 | 49 => 120 | 50 => 121 | 57 => 122 | n => n, fun | 22 => 45 | 24 => 68 | 25 => 99 | 3 => 3 | 39 => 112 | 0 => 0 | 53 => 128 | 55 => 39 | 4 => 4 | 46 => 121 | 45 => 120 | 50 => 102 | 5 => 5 | 9 => 9 | 66 => 138 | 70 => 142 | 76 => 153 | 77 => 42 | n => n, fun | n => n⟩
theorem Tryz.sortIv : Go.Proofs.SlLaysF0.n6 Tryz.prog Tryz.sortIv_ren := {
  mixed := by kernel_rfl
  f6 := ⟨Tryz.f74.name, by decide, Tryz.func74.trans (congrArg some (by kernel_rfl))⟩
  f14 := ⟨Tryz.f99.name, by decide, Tryz.func99.trans (congrArg some (by kernel_rfl))⟩
  f15 := Tryz.func66.trans (congrArg some (by kernel_rfl))
  f20 := ⟨Tryz.f109.name, by decide, Tryz.func109.trans (congrArg some (by kernel_rfl))⟩
  f21 := ⟨Tryz.f110.name, by decide, Tryz.func110.trans (congrArg some (by kernel_rfl))⟩
  f22 := ⟨Tryz.f111.name, by decide, Tryz.func111.trans (congrArg some (by kernel_rfl))⟩
  f23 := ⟨Tryz.f112.name, by decide, Tryz.func112.trans (congrArg some (by kernel_rfl))⟩
  f24 := ⟨Tryz.f113.name, by decide, Tryz.func113.trans (congrArg some (by kernel_rfl))⟩
  f25 := ⟨Tryz.f114.name, by decide, Tryz.func114.trans (congrArg some (by kernel_rfl))⟩
  f26 := ⟨Tryz.f115.name, by decide, Tryz.func115.trans (congrArg some (by kernel_rfl))⟩
  f27 := ⟨Tryz.f116.name, by decide, Tryz.func116.trans (congrArg some (by kernel_rfl))⟩
  f28 := Tryz.func85.trans (congrArg some (by kernel_rfl))
  f29 := Tryz.func86.trans (congrArg some (by kernel_rfl))
  f46 := ⟨Tryz.f119.name, by decide, Tryz.func119.trans (congrArg some (by kernel_rfl))⟩
  f47 := Tryz.func101.trans (congrArg some (by kernel_rfl))
  f48 := Tryz.func102.trans (congrArg some (by kernel_rfl))
  f49 := ⟨Tryz.f120.name, by decide, Tryz.func120.trans (congrArg some (by kernel_rfl))⟩
  f50 := ⟨Tryz.f121.name, by decide, Tryz.func121.trans (congrArg some (by kernel_rfl))⟩
  f57 := ⟨Tryz.f122.name, by decide, Tryz.func122.trans (congrArg some (by kernel_rfl))⟩
  t0 := Tryz.underlying0
  a0 := Tryz.isAgg0
  z0 := Tryz.sizeOf0
  v0 := Tryz.zeroValue0
  t3 := Tryz.underlying3
  a3 := Tryz.isAgg3
  z3 := Tryz.sizeOf3
  v3 := Tryz.zeroValue3
  t4 := Tryz.underlying4
  a4 := Tryz.isAgg4
  z4 := Tryz.sizeOf4
  v4 := Tryz.zeroValue4
  t5 := Tryz.underlying5
  a5 := Tryz.isAgg5
  z5 := Tryz.sizeOf5
  v5 := Tryz.zeroValue5
  t9 := Tryz.underlying9
  a9 := Tryz.isAgg9
  z9 := Tryz.sizeOf9
  v9 := Tryz.zeroValue9
  t22 := Tryz.underlying45
  a22 := Tryz.isAgg45
  z22 := Tryz.sizeOf45
  v22 := Tryz.zeroValue45
  t25 := Tryz.underlying99
  a25 := Tryz.isAgg99
  z25 := Tryz.sizeOf99
  v25 := Tryz.zeroValue99
  t39 := Tryz.underlying112
  a39 := Tryz.isAgg112
  z39 := Tryz.sizeOf112
  v39 := Tryz.zeroValue112
  t45 := Tryz.underlying120
  a45 := Tryz.isAgg120
  z45 := Tryz.sizeOf120
  v45 := Tryz.zeroValue120
  t46 := Tryz.underlying121
  a46 := Tryz.isAgg121
  z46 := Tryz.sizeOf121
  v46 := Tryz.zeroValue121
  t50 := Tryz.underlying102
  a50 := Tryz.isAgg102
  z50 := Tryz.sizeOf102
  v50 := Tryz.zeroValue102
  t53 := Tryz.underlying128
  a53 := Tryz.isAgg128
  z53 := Tryz.sizeOf128
  v53 := Tryz.zeroValue128
  t55 := Tryz.underlying39
  a55 := Tryz.isAgg39
  z55 := Tryz.sizeOf39
  v55 := Tryz.zeroValue39
  t66 := Tryz.underlying138
  a66 := Tryz.isAgg138
  z66 := Tryz.sizeOf138
  v66 := Tryz.zeroValue138
  t70 := Tryz.underlying142
  a70 := Tryz.isAgg142
  z70 := Tryz.sizeOf142
  v70 := Tryz.zeroValue142
  t76 := Tryz.underlying153
  a76 := Tryz.isAgg153
  z76 := Tryz.sizeOf153
  v76 := Tryz.zeroValue153
  t77 := Tryz.underlying42
  a77 := Tryz.isAgg42
  z77 := Tryz.sizeOf42
  v77 := Tryz.zeroValue42 }
end Go.Proofs

end
section
open Go Go.Tv Go.Tv.C37 Go.Proofs
namespace Go.Tv.C37p
set_option maxRecDepth 20000
set_option maxHeartbeats 2000000
set_option linter.unusedSimpArgs false
set_option linter.unusedVariables false
def cellsB (b : Bid) : List Sc := [.int .i64 b.craft, .int .i64 b.station, .int .i64 b.frm, .int .i64 b.til, .int .i64 b.val]
def cmpB (a b : Bid) : Int := cmpI a.til b.til
theorem tz100 : zeroOf Tryz.prog 100 = some .mpn := by kernel_rfl
theorem good_nil (l : List Bid) : GoodL l [(0, 0)] := ⟨rfl, fun k v h => by
  unfold lookA at h
  split at h
  · cases h; exact ⟨0, by assumption, Nat.zero_le _, (dp_zero l).symm⟩
  · cases h⟩
theorem cmpB_swo : Sort.SWO (ltOf cmpB) where
  irrefl x := by unfold ltOf cmpB; rw [decide_eq_false]; rw [cmpI_neg]; omega
  trans x y z h1 h2 := by
    unfold ltOf cmpB at *
    rw [decide_eq_true_eq] at *
    rw [cmpI_neg] at *
    omega
  ntrans x y z h1 h2 := by
    unfold ltOf cmpB at *
    rw [decide_eq_false_iff_not] at *
    rw [cmpI_neg] at *
    omega
theorem sortEls_eq (l : List Bid) : sortEls cellsB l = (l.map encB).map .t := by
  unfold sortEls; rw [List.map_map]; rfl
noncomputable def srtB (B : List Bid) : List Bid := sortA cmpB B
theorem srtB_perm (B : List Bid) : (srtB B).Perm B := sortA_perm cmpB_swo B
theorem srtB_len (B : List Bid) : (srtB B).length = B.length := (srtB_perm B).length_eq
theorem srtB_sorted (B : List Bid) : SortedT (srtB B) := by
  have h := sortA_sorted cmpB_swo B
  refine List.Pairwise.imp (fun {a b} hab => ?_) h
  unfold cmpB at hab
  rw [cmpI_neg] at hab
  omega
/-- Bids whose optimum the program finds. -/
structure OkL (B : List Bid) : Prop where
  ok : ∀ b, b ∈ B → Ok b
  len : B.length ≤ 1000
  lim : ∀ b, b ∈ B → b.val ≤ 1000000 ∧ 0 ≤ b.frm ∧ b.frm ≤ 1000000
theorem OkL.tab {B : List Bid} (h : OkL B) : TabL (srtB B) :=
  ⟨srtB_sorted B, fun b hb => h.ok b ((srtB_perm B).mem_iff.1 hb), by rw [srtB_len]; exact h.len, fun b hb => h.lim b ((srtB_perm B).mem_iff.1 hb)⟩
theorem OkL.dp {B : List Bid} (h : OkL B) : dp (srtB B) (srtB B).length = optOf B := dp_optOf (srtB_perm B) (srtB_sorted B) h.ok
theorem OkL.opt_range {B : List Bid} (h : OkL B) : 0 ≤ optOf B ∧ optOf B ≤ 1000000000 := by
  rw [← h.dp]; exact h.tab.dp_range (Nat.le_refl _)

theorem appendSeq_retG (B : List Bid) (hB : B.length ≤ 100000) : RetG Tryz.prog 98 [] ([.sl [] true, .fn 75 [.ptr [.sl (B.map encB) false]]].map .t) [(1010, some ⟨5, 68, B.length, (B.map encB).map .t⟩)] (.own 1010 B.length 0 B.length) := by
  refine retG_of_awjC Tryz.func98 rfl (Nat.le_of_ble_eq_true rfl) ?_
  intro F0 w0
  refine awj_seq ?_
  refine awj_rj rfl ?_
  refine RJ.new rfl rfl (eff_boxK (v := .t _) (k := 1) (id := 2) rfl rfl rfl rfl rfl rfl) ?_
  refine RJ.op rfl rfl (eff_assign (v := .t _) rfl rfl rfl) ?_
  refine RJ.nil ?_
  refine awj_seq ?_
  refine awj_seq ?_
  refine awj_rj rfl ?_
  refine RJ.op rfl rfl (eff_move (v := .t _) rfl rfl rfl) ?_
  refine RJ.nil ?_
  show AWJ _ _ _ _ _ _ _ _
  refine awj_weak (weak_adopt1 (id0 := 2) 1010 5 68 rfl rfl) ?_
  refine awj_block ?_
  refine awj_rangeFunc (kp' := fun j => [2].elem j) (f := 75) rfl co75 (values_iter B hB) rfl rfl rfl (fun i s1 => i ≤ B.length ∧ s1 = ⟨13, [(2, .ptr 2 0 0 0)], [(2, some ⟨1, 45, 0, [.own 1010 (i) 0 (i)]⟩), (1010, some ⟨5, 68, (i), ((B.take (i)).map encB).map .t⟩)]⟩) (fun c s => False) (⟨_, weak_keep (n := 13) (fr' := [(2, .ptr 2 0 0 0)]) (st' := [(2, some ⟨1, 45, 0, [.own 1010 (0) 0 (0)]⟩), (1010, some ⟨5, 68, (0), ((B.take (0)).map encB).map .t⟩)]) ⟨rfl, rfl, trivial⟩ ⟨rfl, okE_one rfl, rfl, okE_t, trivial⟩, Nat.zero_le _, rfl⟩) (fun i s1 hI => by obtain ⟨_, rfl⟩ := hI; exact ⟨rfl, kept_of rfl⟩) (fun c s1 hI => hI.elim) ?_ ?_ ?_
  · intro rl i x s1 hI hx F1 w1
    obtain ⟨hiB, rfl⟩ := hI
    rw [List.getElem?_map] at hx
    obtain ⟨b, hb, rfl⟩ := Option.map_eq_some_iff.1 hx
    obtain ⟨hil, hbe⟩ := List.getElem?_eq_some_iff.1 hb
    have hsc := bmap_succ hil
    show AWJ _ _ _ _ _ ⟨13, _, _⟩ _ _
    refine awj_rj rfl ?_
    refine RJ.new rfl rfl (eff_allocK (k := 5) (id := 5) rfl rfl tz68 rfl rfl) ?_
    refine RJ.store rfl rfl (eff_storeW (v := .t _) (els := [_]) (els' := [_]) rfl rfl ti68 rfl rfl rfl rfl rfl rfl rfl rfl rfl) ?_
    refine RJ.nil ?_
    refine ⟨rfl, rfl, fun F2 w2 => ?_⟩
    refine awj_block ?_
    refine awj_rj rfl ?_
    refine RJ.op rfl rfl (eff_load (y := .own _ _ _ _) rfl rfl ti45 rfl (.one rfl rfl rfl rfl)) ?_
    refine RJ.op rfl rfl (eff_load rfl rfl ti68 rfl (.whole rfl rfl rfl rfl rfl rfl)) ?_
    refine RJ.new rfl rfl (eff_buildSliceL (id := 10) (els := [.t (.agg [_, _, _, _, _])]) rfl rfl te45 tz68 rfl (by decide) (by decide) rfl rfl rfl rfl) ?_
    refine RJ.new rfl rfl (eff_append (id := 1010) (ys := [_]) rfl rfl ta45 rfl rfl rfl (by simp; omega) rfl rfl (srcOwn rfl rfl rfl rfl rfl rfl) (by simp) (by simp; omega) (by simp; omega)) ?_
    refine RJ.store rfl rfl (eff_storeW (v := .own _ _ _ _) (els := [_]) (els' := [_]) rfl rfl ti45 rfl rfl rfl rfl rfl rfl rfl rfl rfl) ?_
    refine RJ.nil ?_
    refine ⟨rfl, _, weak_keep (n := 13) (fr' := [(2, .ptr 2 0 0 0)]) (st' := [(2, some ⟨1, 45, 0, [.own 1010 (i + 1) 0 (i + 1)]⟩), (1010, some ⟨5, 68, (i + 1), ((B.take (i + 1)).map encB).map .t⟩)]) ⟨rfl, rfl, trivial⟩ ⟨rfl, okE_one rfl, by rw [hsc, hbe]; rfl, okE_t, trivial⟩, by omega, rfl⟩
  · intro D s1 hI
    obtain ⟨_, rfl⟩ := hI
    simp only [List.length_map, List.take_length]
    refine awj_seq ?_
    refine awj_rj rfl ?_
    refine RJ.op rfl rfl (eff_load (y := .own _ _ _ _) rfl rfl ti45 rfl (.one rfl rfl rfl rfl)) ?_
    refine RJ.op rfl rfl (eff_assign (v := .own _ _ _ _) rfl rfl rfl) ?_
    refine RJ.nil ?_
    refine awj_ret ?_
    exact ⟨Or.inr rfl, [_], [.own 1010 B.length 0 B.length], ⟨.tmp rfl, trivial⟩, rfl, weak_keep ⟨rfl, rfl, trivial⟩ ⟨rfl, okE_t, trivial⟩, rfl⟩
  · intro D c s1 hI
    exact hI.elim

theorem collect_retG (B : List Bid) (hB : B.length ≤ 100000) : RetG Tryz.prog 73 [] [.t (.fn 75 [.ptr [.sl (B.map encB) false]])] [(4, some ⟨5, 68, B.length, (B.map encB).map .t⟩)] (.own 4 B.length 0 B.length) := by
  refine retG_of_awp Tryz.func73 rfl (Nat.le_of_ble_eq_true rfl) ?_
  refine awp_seq ?_
  refine awp_rw rfl ?_
  refine asT ?_
  refine RW.nil ?_
  refine awp_seq ?_
  refine awp_rw rfl ?_
  refine mvT ?_
  refine RW.new rfl rfl (eff_callG (appendSeq_retG B hB) co98 (fun _ => 4) rfl rfl rfl ⟨.t _, .t _, trivial⟩ (.own _ _ _ _ rfl rfl) rfl trivial ⟨⟨treeEls_t, .inr rfl⟩, trivial⟩) ?_
  refine asO ?_
  refine RW.nil ?_
  refine awp_ret ?_
  exact ⟨Or.inr rfl, [_], [_], ⟨.tmp rfl, trivial⟩, rfl, weak_keep ⟨rfl, rfl, trivial⟩ ⟨rfl, okE_t, trivial⟩, rfl⟩

theorem sorted_ret (B : List Bid) (hB : B.length ≤ 100000) : Ret Tryz.prog 54 [.fn 75 [.ptr [.sl (B.map encB) false]], .fn 56 []] (.sl ((srtB B).map encB) false) := by
  refine ret_of_awp Tryz.func54 rfl (Nat.le_of_ble_eq_true rfl) ?_
  refine awp_seq ?_
  refine awp_rw rfl ?_
  refine asT ?_
  refine RW.nil ?_
  refine awp_seq ?_
  refine awp_rw rfl ?_
  refine mvT ?_
  refine RW.new rfl rfl (eff_callG (collect_retG B hB) co73 (fun _ => 7) rfl rfl rfl ⟨.t _, trivial⟩ (.own _ _ _ _ rfl rfl) rfl trivial ⟨⟨treeEls_t, .inr rfl⟩, trivial⟩) ?_
  refine asO ?_
  refine RW.nil ?_
  refine awp_seq ?_
  refine awp_rw rfl ?_
  refine mvO ?_
  refine mvT ?_
  refine RW.new rfl rfl (eff_sortFunc Tryz.sortIv (cells := cellsB) (k := 5) (fun _ => rfl) (by decide) (cf := cmpB) cmpB_swo (g := 56) order_ret co56 ti68 (id := 7) (gen := B.length) B (by omega) rfl co74 rfl rfl rfl rfl rfl rfl (sortEls_eq _).symm rfl (sortEls_eq _)) ?_
  refine RW.nil ?_
  refine awp_seq ?_
  refine awp_rw rfl ?_
  refine mvO ?_
  refine asO ?_
  refine RW.nil ?_
  refine awp_ret ?_
  exact ⟨Or.inr rfl, [_], ⟨.tmp (Res.ownT (xs := (srtB B).map encB) rfl rfl rfl (by rw [List.length_map, srtB_len])), trivial⟩, .refl _⟩

theorem clo_res {σ : Sto} {B : List Bid} {r : Nat} (h3 : sget σ 3 = some ⟨1, 45, 0, [.t (.sl ((srtB B).map encB) false)]⟩) (h4 : sget σ 4 = some ⟨1, 100, 0, [.t (.mp r)]⟩)
    (h5 : sget σ 5 = some ⟨1, 101, 0, [.fn 57 [.ptr 4 0 0 0, .ptr 3 0 0 0, .ptr 5 0 0 0]]⟩) : ∀ d : Nat, Res σ (.fn 57 [.ptr 4 0 0 0, .ptr 3 0 0 0, .ptr 5 0 0 0]) (.fn 57 (capsF r (srtB B) d)) := by
  have e3 : Res σ (.ptr 3 0 0 0) (.ptr [.sl ((srtB B).map encB) false]) := Res.ptrT (x := .sl ((srtB B).map encB) false) h3 rfl rfl
  have e4 : Res σ (.ptr 4 0 0 0) (.ptr [.mp r]) := Res.ptrT (x := .mp r) h4 rfl rfl
  intro d
  induction d with
  | zero => exact Res.fnP ⟨e4, e3, .ptr 5 0 0 0 _ _ [] h5 rfl rfl (by simp) (fun n e x _ hx => by simp at hx), trivial⟩
  | succ d ih => exact Res.fnP ⟨e4, e3, .ptr 5 0 0 0 _ _ [.fn 57 (capsF r (srtB B) d)] h5 rfl rfl (by simp [AV.cells]) (fun n e x he hx => by
      match n with
      | 0 => simp [AV.cells] at he hx; subst he; subst hx; exact ih
      | n + 1 => simp at hx), trivial⟩

theorem optimum_ret (B : List Bid) (hB : OkL B) : Ret Tryz.prog 30 [.sl (B.map encB) false] (encI (optOf B)) := by
  refine ret_of_awr Tryz.func30 rfl (Nat.le_of_ble_eq_true rfl) ?_
  intro F0 w0
  refine awj_seq ?_
  refine awj_rj rfl ?_
  refine RJ.op rfl rfl (eff_assign (v := .t _) rfl rfl rfl) ?_
  refine RJ.nil ?_
  refine awj_seq ?_
  refine awj_rj rfl ?_
  refine RJ.op rfl rfl (eff_move (v := .t _) rfl rfl rfl) ?_
  refine RJ.op rfl rfl (eff_callT (values_ret B) co55 rfl rfl rfl rfl) ?_
  refine RJ.op rfl rfl (eff_callT (sorted_ret B (by have := hB.len; omega)) co54 rfl rfl rfl rfl) ?_
  refine RJ.new rfl rfl (eff_allocK (k := 1) (id := 3) rfl rfl tz45 rfl rfl) ?_
  refine RJ.store rfl rfl (eff_storeW (v := .t _) (els := [_]) (els' := [_]) rfl rfl ti45 rfl rfl rfl rfl rfl rfl rfl rfl rfl) ?_
  refine RJ.nil ?_
  refine awj_seq ?_
  refine awj_rj rfl ?_
  refine RJ.rMake rfl rfl rfl rfl (fun rO hrO => ?_)
  refine RJ.rPut KI MapX.int (a := 0) (b := 0) (lm := []) rfl rfl (.inr rfl) Tryz.underlying100 rfl rfl rfl (gget_same _ _ _) ?_
  refine RJ.op rfl rfl (eff_move (v := .t _) rfl rfl rfl) ?_
  refine RJ.new rfl rfl (eff_allocK (k := 1) (id := 4) rfl rfl tz100 rfl rfl) ?_
  refine RJ.store rfl rfl (eff_storeW (v := .t _) (els := [_]) (els' := [_]) rfl rfl ti100 rfl rfl rfl rfl rfl rfl rfl rfl rfl) ?_
  refine RJ.nil ?_
  refine awj_seq ?_
  refine awj_rj rfl ?_
  refine RJ.new rfl rfl (eff_allocK (k := 1) (id := 5) rfl rfl tz101 rfl rfl) ?_
  refine RJ.nil ?_
  refine awj_seq ?_
  refine awj_rj rfl ?_
  refine RJ.op rfl rfl (eff_makeFunc rfl rfl rfl rfl) ?_
  refine RJ.store rfl rfl (eff_storeW (v := .fn _ _) (els := [_]) (els' := [_]) rfl rfl ti101 rfl rfl rfl rfl rfl rfl rfl rfl rfl) ?_
  refine RJ.nil ?_
  show AWJ _ _ _ _ _ _ _ _
  refine awj_weak (weak_frz (n := 16) (fr' := [(2, .t (encI 0)), (3, .t (.ptr [.sl ((srtB B).map encB) false])), (5, .t (.ptr [.fn 57 (capsF rO (srtB B) (srtB B).length)]))]) (st' := []) [(3, some ⟨1, 45, 0, [.t (.sl ((srtB B).map encB) false)]⟩), (4, some ⟨1, 100, 0, [.t (.mp rO)]⟩), (5, some ⟨1, 101, 0, [.fn 57 [.ptr 4 0 0 0, .ptr 3 0 0 0, .ptr 5 0 0 0]]⟩)] ⟨rfl, rfl, rfl, trivial⟩ trivial ⟨wa_eq rfl rfl, .res (Res.ptrT (x := .sl ((srtB B).map encB) false) rfl rfl rfl) (.refl _), .res (.ptr 5 0 0 0 _ _ [.fn 57 (capsF rO (srtB B) (srtB B).length)] rfl rfl rfl (Nat.le_refl 1) (fun n e x he hx => by
    match n with
    | 0 => simp [AV.cells] at he hx; subst he; subst hx; exact clo_res rfl rfl rfl _
    | n + 1 => simp at hx)) (.refl _), trivial⟩ trivial) ?_
  refine awj_seq ?_
  refine awj_rj rfl ?_
  refine RJ.op rfl rfl (eff_loadT1 rfl rfl ti101 rfl rfl) ?_
  refine RJ.op rfl rfl (eff_loadT1 rfl rfl ti45 rfl rfl) ?_
  refine RJ.op rfl rfl (eff_lenM rfl rfl te45 rfl) ?_
  refine RJ.rCall (xs := [encI ((srtB B).length : Nat)]) (caps := capsF rO (srtB B) (srtB B).length) (g := _) (by
    exact (first_ret rO (srtB B) hB.tab (srtB B).length (srtB B).length (Nat.le_refl _) (Nat.le_refl _) [(0, 0)] (good_nil _)).ext (fun b => by
      show (if rO = b then _ else if rO = b then _ else none) = (if rO = b then _ else none)
      split <;> rfl)) co57 rfl rfl rfl rfl rfl rfl ?_
  rintro r' g' ⟨rfl, hg'⟩
  rw [hB.dp]
  refine RJ.op rfl rfl (eff_assign (v := .t _) rfl rfl rfl) ?_
  refine RJ.nil ?_
  refine awj_ret ?_
  exact ⟨Or.inr rfl, [_], ⟨.tmp (.t _), trivial⟩, .refl _⟩

end Go.Tv.C37p

end
section
namespace Go.Tv.C37p
set_option linter.unusedVariables false

theorem best_val {B : List Bid} {s : Int} (ho : ∀ b, b ∈ B → Ok b) : vI B (bestF B s) = optOf (atS B s) := (best_lead ho).val
theorem best_comp {B : List Bid} {s : Int} (ho : ∀ b, b ∈ B → Ok b) : compI B s (bestF B s) := ic_compI ho (best_lead ho).ic
/-- The other bids. -/
def othersF (B : List Bid) (i : Nat) : List Bid := B.take i ++ B.drop (i + 1)
theorem split_get {B : List Bid} {i : Nat} (hi : i < B.length) : B = B.take i ++ B.getD i zb :: B.drop (i + 1) := by
  have : B.getD i zb = B[i] := by simp [List.getD_eq_getElem?_getD, hi]
  rw [this, ← List.drop_eq_getElem_cons hi, List.take_append_drop]
theorem others_mem {B : List Bid} {i : Nat} {x : Bid} (h : x ∈ othersF B i) : x ∈ B := by
  unfold othersF at h
  rcases List.mem_append.1 h with h | h
  · exact List.mem_of_mem_take h
  · exact List.mem_of_mem_drop h
/-- What the station is worth without bid i; what goes with bid i. -/
noncomputable def oF (B : List Bid) (s : Int) (i : Nat) : Int := optOf (atS (othersF B i) s)
theorem left_append (A C : List Bid) (b : Bid) : leftOf (A ++ C) b = leftOf A b ++ leftOf C b := List.filter_append ..
/-- The price of a bid. -/
noncomputable def priceF (B : List Bid) (s : Int) (i : Nat) : Int := if i ∈ bestF B s then oF B s i - optOf (atS B s) + (B.getD i zb).val else 0
end Go.Tv.C37p

end
section
namespace Go.Tv.C37p
set_option linter.unusedVariables false

def busyF (B : List Bid) (k i : Nat) : Bool := decide ((B.getD k zb).craft = (B.getD i zb).craft) && confl (B.getD k zb) (B.getD i zb)
def away (b : Bid) : Bid := { b with station := -1 }
/-- The bids for station s, those that an accepted one bars moved away (the specification). -/
def blockF (B : List Bid) (out : List Nat) (s : Int) : List Bid := (List.range B.length).map fun i => if (B.getD i zb).station = s ∧ (out.any fun k => busyF B k i) = true then away (B.getD i zb) else B.getD i zb
noncomputable def outF (B : List Bid) : Nat → List Nat
  | 0 => []
  | s + 1 => outF B s ++ bestF (blockF B (outF B s) s) s
/-- One step of the program. -/
def stepB (B O : List Bid) (s : Int) (best : List Nat) (i : Nat) : Bid := if (O.getD i zb).station > s ∧ (best.any fun k => busyF B k i) = true then away (O.getD i zb) else O.getD i zb
def stepF (B O : List Bid) (s : Int) (best : List Nat) : List Bid := (List.range B.length).map (stepB B O s best)
noncomputable def openF (B : List Bid) : Nat → List Bid
  | 0 => B
  | s + 1 => stepF B (openF B s) s (bestF (openF B s) s)
theorem getD_range {α : Type} (n : Nat) (f : Nat → α) (z : α) {i : Nat} (hi : i < n) : ((List.range n).map f).getD i z = f i := by
  simp [List.getD_eq_getElem?_getD, hi]
theorem block_len (B : List Bid) (out : List Nat) (s : Int) : (blockF B out s).length = B.length := by simp [blockF]
theorem open_len (B : List Bid) : ∀ s, (openF B s).length = B.length
  | 0 => rfl
  | s + 1 => by simp [openF, stepF]
theorem at_congr : ∀ {C D : List Bid} {s : Int}, C.length = D.length → (∀ i, i < C.length → C.getD i zb = D.getD i zb ∨ ((C.getD i zb).station ≠ s ∧ (D.getD i zb).station ≠ s)) → atS C s = atS D s
  | [], [], _, _, _ => rfl
  | [], _ :: _, _, h, _ => by simp at h
  | _ :: _, [], _, h, _ => by simp at h
  | c :: C, d :: D, s, h, hh => by
    have h1 := at_congr (C := C) (D := D) (s := s) (by simpa using h) (fun i hi => by have := hh (i + 1) (by simp; omega); simpa using this)
    have h0 := hh 0 (by simp)
    simp only [List.getD_cons_zero] at h0
    unfold atS at h1 ⊢
    rcases h0 with rfl | ⟨h2, h3⟩
    · rw [List.filter_cons, List.filter_cons, h1]
    · rw [List.filter_cons, if_neg (by simpa using h2), List.filter_cons, if_neg (by simpa using h3), h1]
theorem bestGo_congr {C D : List Bid} {s : Int} (hl : C.length = D.length) (hh : ∀ i, i < C.length → C.getD i zb = D.getD i zb ∨ ((C.getD i zb).station ≠ s ∧ (D.getD i zb).station ≠ s)) :
    ∀ (n i : Nat) (op : List Bid) (rest : Int), C.length - i = n → bestGo C s i op rest = bestGo D s i op rest := by
  intro n
  induction n with
  | zero =>
    intro i op rest hn
    rw [bestGo, dif_neg (by omega), bestGo, dif_neg (by omega)]
  | succ n ih =>
    intro i op rest hn
    have hi : i < C.length := by omega
    have e1 := ih (i + 1) op rest (by omega)
    have e2 := ih (i + 1) (leftOf op (C.getD i zb)) (rest - (C.getD i zb).val) (by omega)
    have ex : ∀ E : List Bid, i < E.length → bestGo E s i op rest = if (E.getD i zb).station ≠ s ∨ E.getD i zb ∉ op then bestGo E s (i + 1) op rest
      else if (E.getD i zb).val + optOf (leftOf op (E.getD i zb)) = rest then i :: bestGo E s (i + 1) (leftOf op (E.getD i zb)) (rest - (E.getD i zb).val) else bestGo E s (i + 1) op rest := fun E hE => by
      rw [bestGo, dif_pos hE]
    rw [ex C hi, ex D (by omega), e1, e2]
    rcases hh i hi with h | ⟨h2, h3⟩
    · rw [h]
    · rw [if_pos (Or.inl h2), if_pos (Or.inl h3)]
theorem best_congr {C D : List Bid} {s : Int} (hl : C.length = D.length) (hh : ∀ i, i < C.length → C.getD i zb = D.getD i zb ∨ ((C.getD i zb).station ≠ s ∧ (D.getD i zb).station ≠ s)) : bestF C s = bestF D s := by
  unfold bestF
  rw [at_congr hl hh, bestGo_congr hl hh _ 0 _ _ rfl]
/-- What the program's list of bids is at station s. -/
theorem open_is (B : List Bid) : ∀ (s : Nat), bestF (openF B s) s = bestF (blockF B (outF B s) s) s ∧ ∀ i, i < B.length →
    (((s : Int) ≤ (B.getD i zb).station → (openF B s).getD i zb = if ((outF B s).any fun k => busyF B k i) = true then away (B.getD i zb) else B.getD i zb) ∧
    ((B.getD i zb).station < s → (openF B s).getD i zb = B.getD i zb ∨ (openF B s).getD i zb = away (B.getD i zb))) := by
  have key : ∀ (s : Nat), (∀ i, i < B.length → (((s : Int) ≤ (B.getD i zb).station → (openF B s).getD i zb = if ((outF B s).any fun k => busyF B k i) = true then away (B.getD i zb) else B.getD i zb) ∧
    ((B.getD i zb).station < s → (openF B s).getD i zb = B.getD i zb ∨ (openF B s).getD i zb = away (B.getD i zb)))) → bestF (openF B s) s = bestF (blockF B (outF B s) s) s := by
    intro s h
    refine best_congr (by rw [open_len, block_len]) (fun i hi => ?_)
    rw [open_len] at hi
    obtain ⟨h1, h2⟩ := h i hi
    unfold blockF
    rw [getD_range _ _ _ hi]
    by_cases he : (B.getD i zb).station = s
    · left
      rw [h1 (by omega)]
      by_cases ho : ((outF B s).any fun k => busyF B k i) = true
      · rw [if_pos ho, if_pos ⟨he, ho⟩]
      · rw [if_neg ho, if_neg (fun h => ho h.2)]
    · right
      rw [if_neg (fun h => he h.1)]
      refine ⟨?_, he⟩
      have haw : (away (B.getD i zb)).station ≠ s := by show (-1 : Int) ≠ s; omega
      by_cases hlt : (B.getD i zb).station < s
      · rcases h2 hlt with e | e <;> rw [e]
        · exact he
        · exact haw
      · rw [h1 (by omega)]
        split
        · exact haw
        · exact he
  intro s
  suffices H : ∀ i, i < B.length → (((s : Int) ≤ (B.getD i zb).station → (openF B s).getD i zb = if ((outF B s).any fun k => busyF B k i) = true then away (B.getD i zb) else B.getD i zb) ∧
    ((B.getD i zb).station < s → (openF B s).getD i zb = B.getD i zb ∨ (openF B s).getD i zb = away (B.getD i zb))) from ⟨key s H, H⟩
  induction s with
  | zero =>
    intro i hi
    exact ⟨fun _ => by simp [outF, openF], fun _ => .inl rfl⟩
  | succ s ih =>
    intro i hi
    obtain ⟨h1, h2⟩ := ih i hi
    have hb := key s ih
    have e : (openF B (s + 1)).getD i zb = stepB B (openF B s) s (bestF (openF B s) s) i := by
      show (stepF _ _ _ _).getD i zb = _
      unfold stepF; rw [getD_range _ _ _ hi]
    rw [e]
    have haa : away (away (B.getD i zb)) = away (B.getD i zb) := rfl
    unfold stepB
    refine ⟨fun hle => ?_, fun hlt => ?_⟩
    · have h1' := h1 (by omega)
      rw [h1', hb]
      have e2 : ((outF B (s + 1)).any fun k => busyF B k i) = (((outF B s).any fun k => busyF B k i) || ((bestF (blockF B (outF B s) s) s).any fun k => busyF B k i)) := List.any_append
      have e3 : (if ((outF B (s + 1)).any fun k => busyF B k i) = true then away (B.getD i zb) else B.getD i zb) = if (((outF B s).any fun k => busyF B k i) = true ∨ ((bestF (blockF B (outF B s) s) s).any fun k => busyF B k i) = true) then away (B.getD i zb) else B.getD i zb := by
        rw [e2]; simp only [Bool.or_eq_true]
      rw [e3]
      by_cases ho : ((outF B s).any fun k => busyF B k i) = true
      · rw [if_pos ho, if_pos (Or.inl ho)]
        split <;> rfl
      · rw [if_neg ho]
        by_cases hq : ((bestF (blockF B (outF B s) s) s).any fun k => busyF B k i) = true
        · rw [if_pos ⟨by omega, hq⟩, if_pos (Or.inr hq)]
        · rw [if_neg (fun h => hq h.2), if_neg (fun h => h.elim ho hq)]
    · have h3 : (openF B s).getD i zb = B.getD i zb ∨ (openF B s).getD i zb = away (B.getD i zb) := by
        by_cases hq : (s : Int) ≤ (B.getD i zb).station
        · rw [h1 hq]
          split
          · exact .inr rfl
          · exact .inl rfl
        · exact h2 (by omega)
      rcases h3 with e3 | e3 <;> rw [e3] <;> split
      · exact .inr rfl
      · exact .inl rfl
      · exact .inr rfl
      · exact .inr rfl
theorem block_ok {B : List Bid} {out : List Nat} {s : Int} (ho : ∀ b, b ∈ B → Ok b) : ∀ b, b ∈ blockF B out s → Ok b := by
  intro b hb
  obtain ⟨i, hi, rfl⟩ := List.mem_map.1 hb
  have hi' : i < B.length := by simpa using hi
  have hm : B.getD i zb ∈ B := by rw [List.getD_eq_getElem?_getD, List.getElem?_eq_getElem hi']; exact List.getElem_mem _
  split
  · exact ⟨(ho _ hm).1, (ho _ hm).2⟩
  · exact ho _ hm
end Go.Tv.C37p

end
section
open Go Go.Tv Go.Tv.C37 Go.Proofs
namespace Go.Tv.C37p
set_option maxRecDepth 20000
set_option maxHeartbeats 2000000
set_option linter.unusedSimpArgs false
set_option linter.unusedVariables false
theorem any_fIx {α : Type} {p : α → Bool} {l : List α} : decide (fIx p l ≥ 0) = l.any p := by
  by_cases h : fIx p l < 0
  · rw [decide_eq_false (by omega)]
    symm
    rw [List.any_eq_false]
    intro x hx
    rw [fIx_neg.1 h x hx]; simp
  · rw [decide_eq_true (by omega)]
    symm
    obtain ⟨i, hi, _, _, hp⟩ := fIx_nat h
    exact List.any_eq_true.2 ⟨_, List.getElem_mem hi, hp⟩
theorem cellsB_kind (b : Bid) : (cellsB b).map Sc.kind = [.int .i64, .int .i64, .int .i64, .int .i64, .int .i64] := rfl
theorem cellsB_inj (a b : Bid) (h : cellsB a = cellsB b) : a = b := by
  obtain ⟨a1, a2, a3, a4, a5⟩ := a
  obtain ⟨b1, b2, b3, b4, b5⟩ := b
  simp only [cellsB, List.cons.injEq, Sc.int.injEq, true_and, and_true] at h
  obtain ⟨h1, h2, h3, h4, h5⟩ := h
  subst h1 h2 h3 h4 h5
  rfl
theorem any_mem {α : Type} [DecidableEq α] {b : α} {l : List α} : l.any (fun x => decide (b = x)) = decide (b ∈ l) := by
  by_cases h : b ∈ l
  · rw [decide_eq_true h, List.any_eq_true]; exact ⟨b, h, by simp⟩
  · rw [decide_eq_false h, List.any_eq_false]; intro x hx e; exact h (of_decide_eq_true e ▸ hx)

theorem indexB_ret (l : List Bid) (b : Bid) (hl : l.length ≤ 100000) : Ret Tryz.prog 60 [.sl (l.map encB) false, encB b] (encI (fIx (fun x => decide (b = x)) l)) := by
  refine ret_of_awp Tryz.func60 rfl (Nat.le_of_ble_eq_true rfl) ?_
  refine awp_seq ?_
  refine awp_rw rfl ?_
  refine RW.new rfl rfl (eff_boxK (v := .t _) (k := 5) (id := 3) rfl rfl rfl rfl rfl rfl) ?_
  refine asT ?_
  refine RW.nil ?_
  refine awp_seq ?_
  refine awp_seq ?_
  refine awp_rw rfl ?_
  refine mvT ?_
  refine RW.op rfl rfl (eff_lenM rfl rfl te45 rfl) ?_
  refine mvT ?_
  refine RW.nil ?_
  refine awp_block ?_
  refine awp_loopW (fun m s => ∃ (i : Nat), (i ≤ l.length) ∧ (∀ y, y ∈ l.take i → (fun x => decide (b = x)) y = false) ∧ m = l.length - i ∧ s = ⟨19, [(0, .t (.sl (l.map encB) false)), (3, .ptr 3 0 0 0), (7, .t (encI l.length)), (8, .t (encI (i : Nat)))], [(3, some ⟨5, 68, 0, [.t (encB b)]⟩)]⟩) (_) (⟨_, weak_keep (n := 19) (fr' := [(0, .t (.sl (l.map encB) false)), (3, .ptr 3 0 0 0), (7, .t (encI l.length)), (8, .t (encI (0 : Nat)))]) (st' := [(3, some ⟨5, 68, 0, [.t (encB b)]⟩)]) ⟨rfl, rfl, rfl, rfl, rfl, rfl, rfl, rfl, trivial⟩ ⟨rfl, okE_one rfl, trivial⟩, 0, (by omega), (by simp), rfl, rfl⟩) ?_
  rintro m s ⟨i, hi, ha, rfl, rfl⟩
  refine awp_seq ?_
  refine awp_rw rfl ?_
  refine ioT ?_
  refine RW.nil ?_
  refine awp_seq ?_
  refine awp_cond rfl (fun h1 => ?_) (fun h1 => ?_)
  · try simp only [cl] at h1
    refine awp_skip ?_
    refine awp_seq ?_
    refine awp_block ?_
    refine awp_seq ?_
    refine awp_rw rfl ?_
    refine mvT ?_
    refine asT ?_
    refine RW.nil ?_
    refine awp_seq ?_
    refine awp_rd [(some 11, []), (some 12, []), (some 13, []), (some 14, []), (some 15, []), (some 16, [])] [[], [], [], [1, 2], [1, 2, 3], [0, 1, 2, 3, 4]] tm rfl rfl rfl rfl ?_
    refine RD.op rfl rfl rfl (eff_load rfl rfl ti68 rfl (.whole rfl rfl rfl rfl rfl rfl)) ?_
    refine mvD ?_
    refine mvD ?_
    refine RD.op rfl rfl rfl (eff_indexM rfl rfl te45 rfl rfl rfl (by first | assumption | exact List.getElem?_eq_getElem (by omega)) rfl (by decide)) ?_
    refine RD.op rfl rfl rfl (eff_loadW rfl rfl ti68 rfl rfl rfl) ?_
    refine RD.op rfl rfl rfl (eff_structEqlA (cells := cellsB) (a := b) (b := l[i]'(by omega)) rfl rfl ts68s ti68 th68 cellsB_inj cellsB_kind rfl rfl) ?_
    refine RD.nil ?_
    refine awp_cond rfl (fun h2 => ?_) (fun h2 => ?_)
    · try simp only [cl] at h2
      refine awp_seq ?_
      refine awp_rw rfl ?_
      refine mvT ?_
      refine asT ?_
      refine RW.nil ?_
      refine awp_ret ?_
      rw [fIx_hit (p := fun x => decide (b = x)) (i := i) (by omega) ha (by first | exact h2 | exact decide_eq_true h2 | (simp at h2 ⊢; omega))]
      exact ⟨Or.inr rfl, [_], ⟨.tmp (.t _), trivial⟩, .refl _⟩
    · try simp only [cl] at h2
      refine awp_skip ?_
      refine awp_rw rfl ?_
      refine RW.op rfl rfl (eff_iop rfl rfl rfl rfl (iadd (by omega))) ?_
      refine mvT ?_
      refine RW.nil ?_
      refine ⟨_, ?_, _, weak_keep (n := 19) (fr' := [(0, .t (.sl (l.map encB) false)), (3, .ptr 3 0 0 0), (7, .t (encI l.length)), (8, .t (encI ((i + 1) : Nat)))]) (st' := [(3, some ⟨5, 68, 0, [.t (encB b)]⟩)]) ⟨rfl, rfl, rfl, rfl, rfl, rfl, rfl, rfl, trivial⟩ ⟨rfl, okE_one rfl, trivial⟩, i + 1, (by omega), (by intro y hy; rcases (mem_take_succ (show i < l.length by omega)).1 hy with h | h; exact ha y h; rw [h]; first | exact h2 | exact decide_eq_false h2 | (simp at h2 ⊢; omega)), rfl, rfl⟩
      omega
  · try simp only [cl] at h1
    refine awp_exit ?_
    refine awp_seq ?_
    refine awp_rw rfl ?_
    refine asT ?_
    refine RW.nil ?_
    refine awp_ret ?_
    have hi2 : i = l.length := by omega
    subst hi2
    rw [List.take_length] at ha
    rw [fIx_none (p := fun x => decide (b = x)) ha]
    exact ⟨Or.inr rfl, [_], ⟨.tmp (.t _), trivial⟩, .refl _⟩

theorem containsB_ret (l : List Bid) (b : Bid) (hl : l.length ≤ 100000) : Ret Tryz.prog 31 [.sl (l.map encB) false, encB b] (.bool (decide (b ∈ l))) := by
  refine ret_of_awp Tryz.func31 rfl (Nat.le_of_ble_eq_true rfl) ?_
  refine awp_seq ?_
  refine awp_rw rfl ?_
  refine RW.new rfl rfl (eff_boxK (v := .t _) (k := 5) (id := 3) rfl rfl rfl rfl rfl rfl) ?_
  refine asT ?_
  refine RW.nil ?_
  refine awp_seq ?_
  refine awp_rw rfl ?_
  refine mvT ?_
  refine RW.op rfl rfl (eff_load rfl rfl ti68 rfl (.whole rfl rfl rfl rfl rfl rfl)) ?_
  refine RW.op rfl rfl (eff_callT (indexB_ret l b hl) co60 rfl rfl rfl rfl) ?_
  refine ioT ?_
  refine asT ?_
  refine RW.nil ?_
  refine awp_ret ?_
  rw [← any_mem, ← any_fIx]
  exact ⟨Or.inr rfl, [_], ⟨.tmp (.t _), trivial⟩, .refl _⟩

theorem indexI_ret (l : List Nat) (n : Int) (hl : l.length ≤ 100000) : Ret Tryz.prog 62 [.sl (l.map encN) false, encI n] (encI (fIx (fun x : Nat => decide ((x : Int) = n)) l)) := by
  refine ret_of_awp Tryz.func62 rfl (Nat.le_of_ble_eq_true rfl) ?_
  refine awp_seq ?_
  refine awp_rw rfl ?_
  refine asT ?_
  refine RW.nil ?_
  refine awp_seq ?_
  refine awp_seq ?_
  refine awp_rw rfl ?_
  refine mvT ?_
  refine RW.op rfl rfl (eff_lenM rfl rfl te52 rfl) ?_
  refine mvT ?_
  refine RW.nil ?_
  refine awp_block ?_
  refine awp_loopW (fun m s => ∃ (i : Nat), (i ≤ l.length) ∧ (∀ y, y ∈ l.take i → (fun x : Nat => decide ((x : Int) = n)) y = false) ∧ m = l.length - i ∧ s = ⟨19, [(0, .t (.sl (l.map encN) false)), (1, .t (encI n)), (7, .t (encI l.length)), (8, .t (encI (i : Nat)))], []⟩) (_) (⟨_, weak_keep (n := 19) (fr' := [(0, .t (.sl (l.map encN) false)), (1, .t (encI n)), (7, .t (encI l.length)), (8, .t (encI (0 : Nat)))]) (st' := []) ⟨rfl, rfl, rfl, rfl, rfl, rfl, rfl, rfl, trivial⟩ trivial, 0, (by omega), (by simp), rfl, rfl⟩) ?_
  rintro m s ⟨i, hi, ha, rfl, rfl⟩
  refine awp_seq ?_
  refine awp_rw rfl ?_
  refine ioT ?_
  refine RW.nil ?_
  refine awp_seq ?_
  refine awp_cond rfl (fun h1 => ?_) (fun h1 => ?_)
  · try simp only [cl] at h1
    refine awp_skip ?_
    refine awp_seq ?_
    refine awp_block ?_
    refine awp_seq ?_
    refine awp_rw rfl ?_
    refine mvT ?_
    refine asT ?_
    refine RW.nil ?_
    refine awp_seq ?_
    refine awp_rw rfl ?_
    refine mvT ?_
    refine mvT ?_
    refine mvT ?_
    refine RW.op rfl rfl (eff_indexM rfl rfl te52 rfl rfl rfl (by first | assumption | exact List.getElem?_eq_getElem (by omega)) rfl (by decide)) ?_
    refine RW.op rfl rfl (eff_loadW1 rfl rfl ti3 rfl rfl) ?_
    refine ioT ?_
    refine RW.nil ?_
    refine awp_cond rfl (fun h2 => ?_) (fun h2 => ?_)
    · try simp only [cl] at h2
      refine awp_seq ?_
      refine awp_rw rfl ?_
      refine mvT ?_
      refine asT ?_
      refine RW.nil ?_
      refine awp_ret ?_
      rw [fIx_hit (p := fun x : Nat => decide ((x : Int) = n)) (i := i) (by omega) ha (by first | exact h2 | exact decide_eq_true h2 | (simp at h2 ⊢; omega))]
      exact ⟨Or.inr rfl, [_], ⟨.tmp (.t _), trivial⟩, .refl _⟩
    · try simp only [cl] at h2
      refine awp_skip ?_
      refine awp_rw rfl ?_
      refine RW.op rfl rfl (eff_iop rfl rfl rfl rfl (iadd (by omega))) ?_
      refine mvT ?_
      refine RW.nil ?_
      refine ⟨_, ?_, _, weak_keep (n := 19) (fr' := [(0, .t (.sl (l.map encN) false)), (1, .t (encI n)), (7, .t (encI l.length)), (8, .t (encI ((i + 1) : Nat)))]) (st' := []) ⟨rfl, rfl, rfl, rfl, rfl, rfl, rfl, rfl, trivial⟩ trivial, i + 1, (by omega), (by intro y hy; rcases (mem_take_succ (show i < l.length by omega)).1 hy with h | h; exact ha y h; rw [h]; first | exact h2 | exact decide_eq_false h2 | (simp at h2 ⊢; omega)), rfl, rfl⟩
      omega
  · try simp only [cl] at h1
    refine awp_exit ?_
    refine awp_seq ?_
    refine awp_rw rfl ?_
    refine asT ?_
    refine RW.nil ?_
    refine awp_ret ?_
    have hi2 : i = l.length := by omega
    subst hi2
    rw [List.take_length] at ha
    rw [fIx_none (p := fun x : Nat => decide ((x : Int) = n)) ha]
    exact ⟨Or.inr rfl, [_], ⟨.tmp (.t _), trivial⟩, .refl _⟩

theorem containsI_ret (l : List Nat) (n : Int) (hl : l.length ≤ 100000) : Ret Tryz.prog 36 [.sl (l.map encN) false, encI n] (.bool (l.any fun x : Nat => decide ((x : Int) = n))) := by
  refine ret_of_awp Tryz.func36 rfl (Nat.le_of_ble_eq_true rfl) ?_
  refine awp_seq ?_
  refine awp_rw rfl ?_
  refine asT ?_
  refine RW.nil ?_
  refine awp_seq ?_
  refine awp_rw rfl ?_
  refine mvT ?_
  refine mvT ?_
  refine RW.op rfl rfl (eff_callT (indexI_ret l n hl) co62 rfl rfl rfl rfl) ?_
  refine ioT ?_
  refine asT ?_
  refine RW.nil ?_
  refine awp_ret ?_
  rw [← any_fIx]
  exact ⟨Or.inr rfl, [_], ⟨.tmp (.t _), trivial⟩, .refl _⟩

theorem ixfB_ret (l : List Bid) (fn : Nat) (caps : List Tr) (p : Bid → Bool) (hl : l.length ≤ 100000) (hco : callOK Tryz.prog fn = true) (hp : ∀ x, x ∈ l → Ret Tryz.prog fn (encB x :: caps) (.bool (p x))) : Ret Tryz.prog 61 [.sl (l.map encB) false, .fn fn caps] (encI (fIx p l)) := by
  refine ret_of_awp Tryz.func61 rfl (Nat.le_of_ble_eq_true rfl) ?_
  refine awp_seq ?_
  refine awp_rw rfl ?_
  refine asT ?_
  refine RW.nil ?_
  refine awp_seq ?_
  refine awp_seq ?_
  refine awp_rw rfl ?_
  refine mvT ?_
  refine RW.op rfl rfl (eff_lenM rfl rfl te45 rfl) ?_
  refine mvT ?_
  refine RW.nil ?_
  refine awp_block ?_
  refine awp_loopW (fun m s => ∃ (i : Nat), (i ≤ l.length) ∧ (∀ b, b ∈ l.take i → p b = false) ∧ m = l.length - i ∧ s = ⟨19, [(0, .t (.sl (l.map encB) false)), (1, .t (.fn fn caps)), (7, .t (encI l.length)), (8, .t (encI (i : Nat)))], []⟩) (_) (⟨_, weak_keep (n := 19) (fr' := [(0, .t (.sl (l.map encB) false)), (1, .t (.fn fn caps)), (7, .t (encI l.length)), (8, .t (encI (0 : Nat)))]) (st' := []) ⟨rfl, rfl, rfl, rfl, rfl, rfl, rfl, rfl, trivial⟩ trivial, 0, (by omega), (by simp), rfl, rfl⟩) ?_
  rintro m s ⟨i, hi, ha, rfl, rfl⟩
  refine awp_seq ?_
  refine awp_rw rfl ?_
  refine ioT ?_
  refine RW.nil ?_
  refine awp_seq ?_
  refine awp_cond rfl (fun h1 => ?_) (fun h1 => ?_)
  · try simp only [cl] at h1
    refine awp_skip ?_
    refine awp_seq ?_
    refine awp_block ?_
    refine awp_seq ?_
    refine awp_rw rfl ?_
    refine mvT ?_
    refine asT ?_
    refine RW.nil ?_
    refine awp_seq ?_
    refine awp_rw rfl ?_
    refine mvT ?_
    refine mvT ?_
    refine mvT ?_
    refine RW.op rfl rfl (eff_indexM rfl rfl te45 rfl rfl rfl (by first | assumption | exact List.getElem?_eq_getElem (by omega)) rfl (by decide)) ?_
    refine RW.op rfl rfl (eff_loadW rfl rfl ti68 rfl rfl rfl) ?_
    refine RW.op rfl rfl (eff_call (f := fn) (xs := [_]) (ys := [_]) (caps := caps) rfl rfl rfl hco rfl (WkL.cons (.refl _) .nil) (hp _ (List.getElem_mem (show i < l.length by omega)))) ?_
    refine RW.nil ?_
    refine awp_cond rfl (fun h2 => ?_) (fun h2 => ?_)
    · try simp only [cl] at h2
      refine awp_seq ?_
      refine awp_rw rfl ?_
      refine mvT ?_
      refine asT ?_
      refine RW.nil ?_
      refine awp_ret ?_
      rw [fIx_hit (by omega) ha h2]
      exact ⟨Or.inr rfl, [_], ⟨.tmp (.t _), trivial⟩, .refl _⟩
    · try simp only [cl] at h2
      refine awp_skip ?_
      refine awp_rw rfl ?_
      refine RW.op rfl rfl (eff_iop rfl rfl rfl rfl (iadd (by omega))) ?_
      refine mvT ?_
      refine RW.nil ?_
      refine ⟨_, ?_, _, weak_keep (n := 19) (fr' := [(0, .t (.sl (l.map encB) false)), (1, .t (.fn fn caps)), (7, .t (encI l.length)), (8, .t (encI ((i + 1) : Nat)))]) (st' := []) ⟨rfl, rfl, rfl, rfl, rfl, rfl, rfl, rfl, trivial⟩ trivial, i + 1, (by omega), (by intro b hb; rcases (mem_take_succ (by omega)).1 hb with h | h; exact ha b h; rw [h]; exact h2), rfl, rfl⟩
      omega
  · try simp only [cl] at h1
    refine awp_exit ?_
    refine awp_seq ?_
    refine awp_rw rfl ?_
    refine asT ?_
    refine RW.nil ?_
    refine awp_ret ?_
    have hi2 : i = l.length := by omega
    subst hi2
    rw [List.take_length] at ha
    rw [fIx_none ha]
    exact ⟨Or.inr rfl, [_], ⟨.tmp (.t _), trivial⟩, .refl _⟩

theorem ixfI_ret (l : List Nat) (fn : Nat) (caps : List Tr) (p : Nat → Bool) (hl : l.length ≤ 100000) (hco : callOK Tryz.prog fn = true) (hp : ∀ x, x ∈ l → Ret Tryz.prog fn (encN x :: caps) (.bool (p x))) : Ret Tryz.prog 64 [.sl (l.map encN) false, .fn fn caps] (encI (fIx p l)) := by
  refine ret_of_awp Tryz.func64 rfl (Nat.le_of_ble_eq_true rfl) ?_
  refine awp_seq ?_
  refine awp_rw rfl ?_
  refine asT ?_
  refine RW.nil ?_
  refine awp_seq ?_
  refine awp_seq ?_
  refine awp_rw rfl ?_
  refine mvT ?_
  refine RW.op rfl rfl (eff_lenM rfl rfl te52 rfl) ?_
  refine mvT ?_
  refine RW.nil ?_
  refine awp_block ?_
  refine awp_loopW (fun m s => ∃ (i : Nat), (i ≤ l.length) ∧ (∀ b, b ∈ l.take i → p b = false) ∧ m = l.length - i ∧ s = ⟨19, [(0, .t (.sl (l.map encN) false)), (1, .t (.fn fn caps)), (7, .t (encI l.length)), (8, .t (encI (i : Nat)))], []⟩) (_) (⟨_, weak_keep (n := 19) (fr' := [(0, .t (.sl (l.map encN) false)), (1, .t (.fn fn caps)), (7, .t (encI l.length)), (8, .t (encI (0 : Nat)))]) (st' := []) ⟨rfl, rfl, rfl, rfl, rfl, rfl, rfl, rfl, trivial⟩ trivial, 0, (by omega), (by simp), rfl, rfl⟩) ?_
  rintro m s ⟨i, hi, ha, rfl, rfl⟩
  refine awp_seq ?_
  refine awp_rw rfl ?_
  refine ioT ?_
  refine RW.nil ?_
  refine awp_seq ?_
  refine awp_cond rfl (fun h1 => ?_) (fun h1 => ?_)
  · try simp only [cl] at h1
    refine awp_skip ?_
    refine awp_seq ?_
    refine awp_block ?_
    refine awp_seq ?_
    refine awp_rw rfl ?_
    refine mvT ?_
    refine asT ?_
    refine RW.nil ?_
    refine awp_seq ?_
    refine awp_rw rfl ?_
    refine mvT ?_
    refine mvT ?_
    refine mvT ?_
    refine RW.op rfl rfl (eff_indexM rfl rfl te52 rfl rfl rfl (by first | assumption | exact List.getElem?_eq_getElem (by omega)) rfl (by decide)) ?_
    refine RW.op rfl rfl (eff_loadW1 rfl rfl ti3 rfl rfl) ?_
    refine RW.op rfl rfl (eff_call (f := fn) (xs := [_]) (ys := [_]) (caps := caps) rfl rfl rfl hco rfl (WkL.cons (.refl _) .nil) (hp _ (List.getElem_mem (show i < l.length by omega)))) ?_
    refine RW.nil ?_
    refine awp_cond rfl (fun h2 => ?_) (fun h2 => ?_)
    · try simp only [cl] at h2
      refine awp_seq ?_
      refine awp_rw rfl ?_
      refine mvT ?_
      refine asT ?_
      refine RW.nil ?_
      refine awp_ret ?_
      rw [fIx_hit (by omega) ha h2]
      exact ⟨Or.inr rfl, [_], ⟨.tmp (.t _), trivial⟩, .refl _⟩
    · try simp only [cl] at h2
      refine awp_skip ?_
      refine awp_rw rfl ?_
      refine RW.op rfl rfl (eff_iop rfl rfl rfl rfl (iadd (by omega))) ?_
      refine mvT ?_
      refine RW.nil ?_
      refine ⟨_, ?_, _, weak_keep (n := 19) (fr' := [(0, .t (.sl (l.map encN) false)), (1, .t (.fn fn caps)), (7, .t (encI l.length)), (8, .t (encI ((i + 1) : Nat)))]) (st' := []) ⟨rfl, rfl, rfl, rfl, rfl, rfl, rfl, rfl, trivial⟩ trivial, i + 1, (by omega), (by intro b hb; rcases (mem_take_succ (by omega)).1 hb with h | h; exact ha b h; rw [h]; exact h2), rfl, rfl⟩
      omega
  · try simp only [cl] at h1
    refine awp_exit ?_
    refine awp_seq ?_
    refine awp_rw rfl ?_
    refine asT ?_
    refine RW.nil ?_
    refine awp_ret ?_
    have hi2 : i = l.length := by omega
    subst hi2
    rw [List.take_length] at ha
    rw [fIx_none ha]
    exact ⟨Or.inr rfl, [_], ⟨.tmp (.t _), trivial⟩, .refl _⟩

theorem anyI_ret (l : List Nat) (fn : Nat) (caps : List Tr) (p : Nat → Bool) (hl : l.length ≤ 100000) (hco : callOK Tryz.prog fn = true) (hp : ∀ x, x ∈ l → Ret Tryz.prog fn (encN x :: caps) (.bool (p x))) : Ret Tryz.prog 39 [.sl (l.map encN) false, .fn fn caps] (.bool (l.any p)) := by
  refine ret_of_awp Tryz.func39 rfl (Nat.le_of_ble_eq_true rfl) ?_
  refine awp_seq ?_
  refine awp_rw rfl ?_
  refine asT ?_
  refine RW.nil ?_
  refine awp_seq ?_
  refine awp_rw rfl ?_
  refine mvT ?_
  refine mvT ?_
  refine RW.op rfl rfl (eff_callT (ixfI_ret l fn caps p hl hco hp) co64 rfl rfl rfl rfl) ?_
  refine ioT ?_
  refine asT ?_
  refine RW.nil ?_
  refine awp_ret ?_
  rw [← any_fIx]
  exact ⟨Or.inr rfl, [_], ⟨.tmp (.t _), trivial⟩, .refl _⟩

theorem clone_retG (l : List Bid) (hl : l.length ≤ 1000000) : RetG Tryz.prog 33 [] [.t (.sl (l.map encB) false)] [(5, some ⟨5, 68, 1, (l.map encB).map .t⟩)] (.own 5 1 0 l.length) := by
  refine retG_of_awp Tryz.func33 rfl (Nat.le_of_ble_eq_true rfl) ?_
  refine awp_seq ?_
  refine awp_rw rfl ?_
  refine asT ?_
  refine RW.nil ?_
  refine awp_seq ?_
  refine awp_seq ?_
  refine awp_rw rfl ?_
  refine mvT ?_
  refine RW.nilEq rfl rfl rfl rfl te45 rfl (fun b1 hb1 => ?_)
  refine RW.nil ?_
  refine awp_cond rfl (fun h2 => ?_) (fun h2 => ?_)
  · try simp only [cl] at h2
    refine awp_seq ?_
    refine awp_rw rfl ?_
    refine asT ?_
    refine RW.nil ?_
    show AWP _ _ _ _
    refine awp_weak (weak_adopt (d := 2) (id := 5) (k := 5) (ty := 68) rfl rfl) ?_
    refine awp_weak (weak_bumpS (d := 2) (id := 5) (off := 0) (len := 0) 1 rfl rfl (by decide)) ?_
    refine awp_ret ?_
    have hl0 : l = [] := by simpa using hb1 h2
    subst hl0
    exact ⟨Or.inr rfl, [_], [.own 5 1 0 0], ⟨.tmp rfl, trivial⟩, rfl, weak_keep ⟨rfl, rfl, trivial⟩ ⟨rfl, okE_nil, trivial⟩, rfl⟩
  · try simp only [cl] at h2
    refine awp_skip ?_
    refine awp_seq ?_
    refine awp_rw rfl ?_
    refine RW.new rfl rfl (eff_buildSliceL (id := 5) (els := []) rfl rfl te45 tz68 rfl (by decide) (by decide) rfl rfl rfl rfl) ?_
    refine mvT ?_
    refine RW.new rfl rfl (eff_appendAny (id := 5) rfl rfl ta45 rfl rfl rfl rfl rfl rfl (srcM rfl (fun _ => rfl)) (by simp; omega) (by simp; omega)) ?_
    refine asO ?_
    refine RW.nil ?_
    refine awp_ret ?_
    exact ⟨Or.inr rfl, [_], [.own 5 1 0 l.length], ⟨.tmp rfl, trivial⟩, rfl, weak_keep ⟨(by show AV.own 5 _ 0 _ = AV.own 5 1 0 l.length; congr 1; simp), rfl, trivial⟩ ⟨rfl, okE_t, trivial⟩, rfl⟩

theorem left_take {l : List Bid} {b : Bid} {j : Nat} (h : j < l.length) : leftOf (l.take (j + 1)) b = leftOf (l.take j) b ++ (if confl l[j] b then [] else [l[j]]) := by
  rw [take_succ_get h, left_append]
  congr 1
  unfold leftOf
  cases hc : confl l[j] b <;> simp [hc]
theorem left_none {l : List Bid} {b : Bid} (h : ∀ x, x ∈ l → confl x b = false) : leftOf l b = l := by
  unfold leftOf
  rw [List.filter_eq_self]
  intro x hx; rw [h x hx]; rfl
/-- How far the deleting has come: L: what lies in memory. -/
structure DelL (l : List Bid) (b : Bid) (i j : Nat) (L : List Bid) : Prop where
  len : L.length = l.length
  hj : j ≤ l.length
  hij : i < j
  cnt : i = (leftOf (l.take j) b).length
  pre : L.take i = leftOf (l.take j) b
  suf : L.drop j = l.drop j
theorem DelL.get {l : List Bid} {b : Bid} {i j : Nat} {L : List Bid} (h : DelL l b i j L) (hj : j < l.length) : L[j]? = some l[j] := by
  have h1 : (L.drop j)[0]? = (l.drop j)[0]? := by rw [h.suf]
  rw [List.getElem?_drop, List.getElem?_drop, Nat.add_zero] at h1
  rw [h1, List.getElem?_eq_getElem hj]
theorem DelL.skip {l : List Bid} {b : Bid} {i j : Nat} {L : List Bid} (h : DelL l b i j L) (hj : j < l.length) (hc : confl l[j] b = true) : DelL l b i (j + 1) L := by
  refine ⟨h.len, hj, Nat.lt_succ_of_lt h.hij, ?_, ?_, ?_⟩
  · rw [left_take hj, hc]; simpa using h.cnt
  · rw [left_take hj, hc]; simpa using h.pre
  · have := congrArg (List.drop 1) h.suf
    rw [List.drop_drop, List.drop_drop] at this
    rw [show j + 1 = 1 + j by omega, Nat.add_comm 1 j]; exact this
theorem DelL.keep {l : List Bid} {b : Bid} {i j : Nat} {L : List Bid} (h : DelL l b i j L) (hj : j < l.length) (hc : confl l[j] b = false) : DelL l b (i + 1) (j + 1) (L.set i l[j]) := by
  have hi : i < L.length := by have := h.len; have := h.hij; omega
  refine ⟨by rw [List.length_set]; exact h.len, hj, Nat.succ_lt_succ h.hij, ?_, ?_, ?_⟩
  · rw [left_take hj, hc]; simpa using h.cnt
  · rw [left_take hj, hc, List.take_add_one, List.getElem?_set_self hi, List.take_set_of_le (Nat.le_refl _), h.pre]; rfl
  · rw [List.drop_set_of_lt (by have := h.hij; omega)]
    have := congrArg (List.drop 1) h.suf
    rw [List.drop_drop, List.drop_drop] at this
    rw [show j + 1 = 1 + j by omega, Nat.add_comm 1 j]; exact this
theorem DelL.start {l : List Bid} {b : Bid} {i : Nat} (hi : i < l.length) (h : ∀ y, y ∈ l.take i → confl y b = false) (hc : confl l[i] b = true) : DelL l b i (i + 1) l := by
  have h1 : leftOf (l.take (i + 1)) b = l.take i := by rw [left_take hi, hc, left_none h]; simp
  exact ⟨rfl, hi, Nat.lt_succ_self _, by rw [h1, List.length_take]; omega, h1.symm, rfl⟩
theorem DelL.fin {l : List Bid} {b : Bid} {i : Nat} {L : List Bid} (h : DelL l b i l.length L) : i = (leftOf l b).length ∧ L.take i = leftOf l b := by
  have h1 := h.cnt; have h2 := h.pre
  rw [List.take_length] at h1 h2
  exact ⟨h1, h2⟩

theorem del_retG (l : List Bid) (g : Nat) (b : Bid) (hl : l.length ≤ 100000) : RetG Tryz.prog 32 [(0, some ⟨5, 68, g, (l.map encB).map .t⟩)] [.own 0 g 0 l.length, .t (.fn 34 [.ptr (encB b).cells])] [(0, some ⟨5, 68, g + 1, (((leftOf l b).map encB) ++ List.replicate (l.length - (leftOf l b).length) z68).map .t⟩)] (.own 0 (g + 1) 0 (leftOf l b).length) := by
  refine retG_of_awp Tryz.func32 rfl (Nat.le_of_ble_eq_true rfl) ?_
  refine awp_seq ?_
  refine awp_rw rfl ?_
  refine asT ?_
  refine RW.nil ?_
  refine awp_seq ?_
  refine awp_rw rfl ?_
  refine mvO ?_
  refine mvT ?_
  refine RW.op rfl rfl (eff_callB (ys := [.sl (l.map encB) false, .fn 34 [.ptr (encB b).cells]]) (caps := []) rfl rfl rfl (.t _) co61 (ResL.cons (Res.ownM (xs := l.map encB) rfl (by simp)) (.refl _) (ResL.cons (.t _) (.refl _) .nil)) (by rw [List.append_nil]; exact ixfB_ret l 34 [.ptr (encB b).cells] (fun x => confl x b) hl co34 (fun x _ => clash_ret x b)) rfl) ?_
  refine asT ?_
  refine RW.nil ?_
  refine awp_seq ?_
  refine awp_seq ?_
  by_cases hc1 : fIx (fun x => confl x b) l = -1
  · refine awp_rw rfl ?_
    refine mvT ?_
    refine RW.op rfl rfl (eff_iop (r := .bool true) rfl rfl rfl rfl (by rw [hc1]; rfl)) ?_
    refine RW.nil ?_
    refine awp_cond rfl (fun _ => ?_) (fun h => nomatch h)
    refine awp_seq ?_
    refine awp_rw rfl ?_
    refine mvO ?_
    refine asO ?_
    refine RW.nil ?_
    refine awp_ret ?_
    have hln := left_none (fIx_neg.1 (by omega : fIx (fun x => confl x b) l < 0))
    rw [hln]
    refine ⟨Or.inr rfl, [_], [.own 0 (g + 1) 0 l.length], ⟨.tmp rfl, trivial⟩, rfl, Weak.trans (s1 := ⟨1, [(0, .own 0 g 0 l.length)], [(0, some ⟨5, 68, g, (l.map encB ++ List.replicate (l.length - l.length) z68).map .t⟩)]⟩) ?_ weak_bump, rfl⟩
    exact weak_keep ⟨rfl, rfl, trivial⟩ ⟨by simp [sget], okE_t, trivial⟩
  · refine awp_rw rfl ?_
    refine mvT ?_
    refine RW.op rfl rfl (eff_iop (r := .bool false) rfl rfl rfl rfl (by exact congrArg (fun x => some (Tr.bool x)) (decide_eq_false hc1))) ?_
    refine RW.nil ?_
    refine awp_cond rfl (fun h => nomatch h) (fun _ => ?_)
    refine awp_skip ?_
    refine awp_seq ?_
    refine awp_seq ?_
    refine awp_rw rfl ?_
    have hne : ¬ fIx (fun x => confl x b) l < 0 := fun h => by have := fIx_none (fIx_neg.1 h); omega
    obtain ⟨i0, hi0, he0, hy0, hp0⟩ := fIx_nat hne
    rw [he0]
    refine mvT ?_
    refine RW.op rfl rfl (eff_iop rfl rfl rfl rfl (iadd (by omega))) ?_
    refine asT ?_
    refine RW.nil ?_
    refine awp_block ?_
    refine awp_loopW (fun m s => ∃ (i : Nat) (j : Nat) (L : List Bid), (DelL l b i j L) ∧ m = l.length - j ∧ s = ⟨42, [(0, .own 0 g 0 l.length), (1, .t (.fn 34 [.ptr (encB b).cells])), (5, .t (encI (i : Nat))), (6, .t (encI (j : Nat)))], [(0, some ⟨5, 68, g, (L.map encB).map .t⟩)]⟩) (_) (⟨_, weak_keep (n := 42) (fr' := [(0, .own 0 g 0 l.length), (1, .t (.fn 34 [.ptr (encB b).cells])), (5, .t (encI (i0 : Nat))), (6, .t (encI ((i0 + 1) : Nat)))]) (st' := [(0, some ⟨5, 68, g, (l.map encB).map .t⟩)]) ⟨rfl, rfl, rfl, rfl, rfl, rfl, rfl, rfl, trivial⟩ ⟨rfl, okE_t, trivial⟩, i0, i0 + 1, l, (by exact DelL.start hi0 hy0 hp0), rfl, rfl⟩) ?_
    rintro m s ⟨i, j, L, hD, rfl, rfl⟩
    have hDl := hD.len
    have hDj := hD.hj
    have hDi := hD.hij
    refine awp_seq ?_
    refine awp_seq ?_
    refine awp_rw rfl ?_
    refine mvT ?_
    refine mvO ?_
    refine RW.op rfl rfl (eff_len rfl rfl te45 rfl rfl rfl) ?_
    refine ioT ?_
    refine RW.nil ?_
    refine awp_cond rfl (fun h2 => ?_) (fun h2 => ?_)
    · try simp only [cl] at h2
      refine awp_skip ?_
      refine awp_seq ?_
      refine awp_block ?_
      refine awp_seq ?_
      refine awp_rw rfl ?_
      have hjl : j < l.length := by omega
      have hgj := hD.get hjl
      refine mvO ?_
      refine mvT ?_
      refine RW.op rfl rfl (eff_indexAddr (i := j) rfl rfl te45 rfl rfl (by first | rfl | omega) rfl rfl rfl (by omega)) ?_
      refine RW.op rfl rfl (eff_load (y := .t (encB (l[j]'hjl))) rfl rfl ti68 rfl (.whole rfl rfl (by rw [List.getElem?_map, List.getElem?_map, Nat.zero_add, hgj]; rfl) rfl rfl rfl)) ?_
      refine RW.new rfl rfl (eff_allocK (k := 5) (id := 7) rfl rfl tz68 rfl rfl) ?_
      refine RW.store rfl rfl (eff_storeW (v := .t _) (els := [_]) (els' := [_]) rfl rfl ti68 rfl rfl rfl rfl rfl rfl rfl rfl rfl) ?_
      refine RW.nil ?_
      refine awp_seq ?_
      refine awp_rw rfl ?_
      refine mvT ?_
      refine RW.op rfl rfl (eff_load rfl rfl ti68 rfl (.whole rfl rfl rfl rfl rfl rfl)) ?_
      refine RW.op rfl rfl (eff_call (f := 34) (xs := [_]) (ys := [_]) (caps := [.ptr (encB b).cells]) rfl rfl rfl co34 rfl (WkL.cons (.refl _) .nil) (clash_ret _ b)) ?_
      refine RW.op rfl rfl (eff_unop rfl rfl rfl rfl) ?_
      refine RW.nil ?_
      refine awp_cond rfl (fun h3 => ?_) (fun h3 => ?_)
      · try simp only [cl] at h3
        refine awp_seq ?_
        refine awp_rw rfl ?_
        refine mvO ?_
        refine mvT ?_
        refine RW.op rfl rfl (eff_load rfl rfl ti68 rfl (.whole rfl rfl rfl rfl rfl rfl)) ?_
        refine RW.op rfl rfl (eff_indexAddr rfl rfl te45 rfl rfl rfl rfl rfl rfl (by omega)) ?_
        refine RW.store rfl rfl (eff_storeW (v := .t (encB (l[j]'(by omega)))) (els' := ((L.set i (l[j]'(by omega))).map encB).map .t) rfl rfl ti68 rfl rfl rfl rfl rfl rfl (List.getElem?_eq_getElem (by simp; omega)) (by simp [encB, AV.cells, Tr.cells]) (by simp [List.map_set])) ?_
        refine RW.nil ?_
        refine awp_rw rfl ?_
        refine mvT ?_
        refine RW.op rfl rfl (eff_iop rfl rfl rfl rfl (iadd (by omega))) ?_
        refine asT ?_
        refine RW.nil ?_
        refine awp_rw rfl ?_
        refine mvT ?_
        refine RW.op rfl rfl (eff_iop rfl rfl rfl rfl (iadd (by omega))) ?_
        refine asT ?_
        refine RW.nil ?_
        exact ⟨_, (by omega : l.length - (j + 1) < l.length - j), _, weak_keep (n := 42) (fr' := [(0, .own 0 g 0 l.length), (1, .t (.fn 34 [.ptr (encB b).cells])), (5, .t (encI ((i + 1) : Nat))), (6, .t (encI ((j + 1 : Nat) : Nat)))]) (st' := [(0, some ⟨5, 68, g, ((L.set i (l[j]'(by omega))).map encB).map .t⟩)]) ⟨rfl, rfl, rfl, rfl, rfl, rfl, rfl, rfl, trivial⟩ ⟨rfl, okE_t, trivial⟩, (i + 1), j + 1, L.set i (l[j]'(by omega)), hD.keep (by omega) (by simpa using h3), rfl, rfl⟩
      · try simp only [cl] at h3
        refine awp_skip ?_
        refine awp_rw rfl ?_
        refine mvT ?_
        refine RW.op rfl rfl (eff_iop rfl rfl rfl rfl (iadd (by omega))) ?_
        refine asT ?_
        refine RW.nil ?_
        exact ⟨_, (by omega : l.length - (j + 1) < l.length - j), _, weak_keep (n := 42) (fr' := [(0, .own 0 g 0 l.length), (1, .t (.fn 34 [.ptr (encB b).cells])), (5, .t (encI (i : Nat))), (6, .t (encI ((j + 1 : Nat) : Nat)))]) (st' := [(0, some ⟨5, 68, g, ((L).map encB).map .t⟩)]) ⟨rfl, rfl, rfl, rfl, rfl, rfl, rfl, rfl, trivial⟩ ⟨rfl, okE_t, trivial⟩, i, j + 1, L, hD.skip (by omega) (by simpa using h3), rfl, rfl⟩
    · try simp only [cl] at h2
      refine awp_exit ?_
      refine awp_seq ?_
      refine awp_rw rfl ?_
      have hDl := hD.len
      have hDj := hD.hj
      have hDi := hD.hij
      obtain rfl : j = l.length := by omega
      obtain ⟨hie, hpe⟩ := hD.fin
      refine mvO ?_
      refine mvT ?_
      refine RW.op rfl rfl (eff_slice (l := some i) (h := none) rfl rfl te45 rfl rfl rfl rfl (.yes rfl rfl) .no (by simp; omega) (by simp; omega)) ?_
      refine RW.store rfl rfl (eff_clear (id := 0) rfl rfl te45 tz68 rfl (by decide) rfl rfl rfl rfl (by simp; omega)) ?_
      refine RW.nil ?_
      refine awp_seq ?_
      refine awp_rw rfl ?_
      refine mvO ?_
      refine mvT ?_
      refine RW.op rfl rfl (eff_slice (l := none) (h := some i) rfl rfl te45 rfl rfl rfl rfl .no (.yes rfl rfl) (Nat.zero_le _) (by simp; omega)) ?_
      refine asO ?_
      refine RW.nil ?_
      refine awp_ret ?_
      refine ⟨Or.inr rfl, [_], [.own 0 (g + 1) 0 (leftOf l b).length], ⟨.tmp rfl, trivial⟩, rfl, Weak.trans (s1 := ⟨1, [(0, .own 0 g 0 (leftOf l b).length)], [(0, some ⟨5, 68, g, ((leftOf l b).map encB ++ List.replicate (l.length - (leftOf l b).length) z68).map .t⟩)]⟩) ?_ weak_bump, rfl⟩
      refine weak_keep ⟨(by show AV.own 0 g 0 _ = AV.own 0 g 0 (leftOf l b).length; rw [hie.symm]; rfl), rfl, trivial⟩ ⟨?_, okE_t, trivial⟩
      rw [hie.symm, ← hpe]
      simp [sget, List.map_take, hDl]
      omega

end Go.Tv.C37p

end
section
open Go Go.Tv Go.Tv.C37 Go.Proofs
namespace Go.Tv.C37p
set_option maxRecDepth 20000
set_option maxHeartbeats 2000000
set_option linter.unusedSimpArgs false
set_option linter.unusedVariables false
theorem OkL.sub {B C : List Bid} (h : OkL B) (hs : C.Sublist B) : OkL C := ⟨fun b hb => h.ok b (hs.subset hb), Nat.le_trans hs.length_le h.len, fun b hb => h.lim b (hs.subset hb)⟩
theorem OkL.at {B : List Bid} (h : OkL B) (s : Int) : OkL (atS B s) := h.sub List.filter_sublist
theorem OkL.left {B : List Bid} (h : OkL B) (b : Bid) : OkL (leftOf B b) := h.sub List.filter_sublist
theorem getD_zb {B : List Bid} {i : Nat} (hi : i < B.length) : B.getD i zb = B[i] := by simp [List.getD_eq_getElem?_getD, hi]
theorem go_skip {B op : List Bid} {s r : Int} {i : Nat} (hi : i < B.length) (h : B[i].station ≠ s ∨ B[i] ∉ op) : bestGo B s i op r = bestGo B s (i + 1) op r := by
  rw [bestGo, dif_pos hi, getD_zb hi, if_pos h]
theorem go_take {B op : List Bid} {s r : Int} {i : Nat} (hi : i < B.length) (h1 : B[i].station = s) (h2 : B[i] ∈ op) (h3 : B[i].val + optOf (leftOf op B[i]) = r) :
    bestGo B s i op r = i :: bestGo B s (i + 1) (leftOf op B[i]) (optOf (leftOf op B[i])) := by
  rw [bestGo, dif_pos hi, getD_zb hi, if_neg (fun h => h.elim (fun h => h h1) (fun h => h h2)), if_pos h3, show r - B[i].val = optOf (leftOf op B[i]) by omega]
theorem go_drop {B op : List Bid} {s r : Int} {i : Nat} (hi : i < B.length) (h1 : B[i].station = s) (h2 : B[i] ∈ op) (h3 : ¬ B[i].val + optOf (leftOf op B[i]) = r) :
    bestGo B s i op r = bestGo B s (i + 1) op r := by
  rw [bestGo, dif_pos hi, getD_zb hi, if_neg (fun h => h.elim (fun h => h h1) (fun h => h h2)), if_neg h3]
theorem go_end {B op : List Bid} {s r : Int} {i : Nat} (hi : ¬ i < B.length) : bestGo B s i op r = [] := by
  rw [bestGo, dif_neg hi]

theorem best_ret (B : List Bid) (sn : Int) (hB : OkL B) : Ret Tryz.prog 13 [.sl (B.map encB) false, encI sn] (.sl ((bestF B sn).map encN) false) := by
  have hBL : B.length ≤ 100000 := by have := hB.len; omega
  refine ret_of_awp Tryz.func13 rfl (Nat.le_of_ble_eq_true rfl) ?_
  refine awp_seq ?_
  refine awp_rw rfl ?_
  refine asT ?_
  refine RW.nil ?_
  refine awp_seq ?_
  refine awp_rw rfl ?_
  refine asT ?_
  refine RW.nil ?_
  show AWP _ _ _ _
  refine awp_weak (weak_adopt (d := 5) (id := 5) (k := 1) (ty := 3) rfl rfl) ?_
  refine awp_seq ?_
  refine awp_rw rfl ?_
  refine mvT ?_
  refine mvT ?_
  refine RW.op rfl rfl (eff_callT (at_ret B sn hBL) co29 rfl rfl rfl rfl) ?_
  refine asT ?_
  refine RW.nil ?_
  refine awp_seq ?_
  refine awp_rw rfl ?_
  refine mvT ?_
  refine RW.op rfl rfl (eff_callT (optimum_ret (atS B sn) (hB.at sn)) co30 rfl rfl rfl rfl) ?_
  refine asT ?_
  refine RW.nil ?_
  refine awp_seq ?_
  refine awp_seq ?_
  refine awp_rw rfl ?_
  refine mvT ?_
  refine RW.op rfl rfl (eff_lenM rfl rfl te45 rfl) ?_
  refine mvT ?_
  refine RW.nil ?_
  refine awp_block ?_
  refine awp_loopW (fun m s => ∃ (i : Nat) (op : List Bid) (out : List Nat) (gn : Nat) (n : Nat) (els : List AV), (i ≤ B.length) ∧ (OkL op) ∧ (out.length ≤ i) ∧ (bestF B sn = out ++ bestGo B sn i op (optOf op)) ∧ (n = out.length) ∧ (els = (out.map encN).map .t) ∧ m = B.length - i ∧ s = ⟨55, [(0, .t (.sl (B.map encB) false)), (1, .t (encI sn)), (5, .own 5 gn 0 n), (6, .t (.sl (op.map encB) false)), (7, .t (encI (optOf op))), (16, .t (.sl (B.map encB) false)), (17, .t (encI B.length)), (18, .t (encI (i : Nat)))], [(5, some ⟨1, 3, gn, els⟩)]⟩) (_) (⟨_, weak_keep (n := 55) (fr' := [(0, .t (.sl (B.map encB) false)), (1, .t (encI sn)), (5, .own 5 0 0 0), (6, .t (.sl ((atS B sn).map encB) false)), (7, .t (encI (optOf (atS B sn)))), (16, .t (.sl (B.map encB) false)), (17, .t (encI B.length)), (18, .t (encI (0 : Nat)))]) (st' := [(5, some ⟨1, 3, 0, ([])⟩)]) ⟨rfl, rfl, rfl, rfl, rfl, rfl, rfl, rfl, rfl, rfl, rfl, rfl, rfl, rfl, rfl, rfl, trivial⟩ ⟨rfl, (by first | exact okE_nil | (rw [he]; exact okE_t) | (rw [he]; intro x hx; simp only [List.mem_append, List.mem_map, List.mem_singleton] at hx; rcases hx with ⟨y, _, rfl⟩ | rfl <;> rfl)), trivial⟩, 0, atS B sn, [], 0, 0, [], (by omega), (by exact hB.at sn), (by exact Nat.le_refl _), (by rfl), (by rfl), (by rfl), rfl, rfl⟩) ?_
  rintro m s ⟨i, op, out, gn, n, els, hi, hop, hol, hF, hnn, he, rfl, rfl⟩
  have hBl := hB.len
  have hor := hop.opt_range
  refine awp_seq ?_
  refine awp_rw rfl ?_
  refine ioT ?_
  refine RW.nil ?_
  refine awp_seq ?_
  refine awp_cond rfl (fun h1 => ?_) (fun h1 => ?_)
  · try simp only [cl] at h1
    refine awp_skip ?_
    refine awp_seq ?_
    refine awp_block ?_
    refine awp_seq ?_
    refine awp_rw rfl ?_
    have hil : i < B.length := by omega
    have hok := hop.left (B[i]'hil)
    have hlr := hok.opt_range
    have hvb := hB.lim _ (List.getElem_mem hil)
    have hvo := (hB.ok _ (List.getElem_mem hil)).2
    refine mvT ?_
    refine RW.op rfl rfl (eff_indexAddrT (i := i) rfl rfl te45 rfl rfl (by first | rfl | omega) (by rw [List.getElem?_map, List.getElem?_eq_getElem hil]; rfl) rfl (by decide)) ?_
    refine RW.op rfl rfl (eff_loadW rfl rfl ti68 rfl rfl rfl) ?_
    refine RW.new rfl rfl (eff_allocK (k := 5) (id := 9) rfl rfl tz68 rfl rfl) ?_
    refine asT ?_
    refine RW.store rfl rfl (eff_storeW (v := .t _) (els := [_]) (els' := [_]) rfl rfl ti68 rfl rfl rfl rfl rfl rfl rfl rfl rfl) ?_
    refine RW.nil ?_
    show AWP _ _ _ _
    refine awp_weak (weak_frz (n := 55) (fr' := [(0, .t (.sl (B.map encB) false)), (1, .t (encI sn)), (5, .own 5 gn 0 n), (6, .t (.sl (op.map encB) false)), (7, .t (encI (optOf op))), (16, .t (.sl (B.map encB) false)), (17, .t (encI B.length)), (18, .t (encI (i : Nat))), (8, .t (encI (i : Nat))), (9, (.t (.ptr (encB (B[i]'hil)).cells)))]) (st' := [(5, some ⟨1, 3, gn, els⟩)]) [(9, some ⟨5, 68, 0, [.t (encB (B[i]'hil))]⟩)] ⟨rfl, trivial⟩ ⟨rfl, trivial⟩ ⟨wa_eq rfl rfl, wa_eq rfl rfl, wa_eq rfl rfl, wa_eq rfl rfl, wa_eq rfl rfl, wa_eq rfl rfl, wa_eq rfl rfl, wa_eq rfl rfl, wa_eq rfl rfl, .res (Res.ptrT (x := encB (B[i]'hil)) rfl rfl rfl) (.refl _), trivial⟩ ⟨rfl, (by first | exact okE_nil | (rw [he]; exact okE_t) | (rw [he]; intro x hx; simp only [List.mem_append, List.mem_map, List.mem_singleton] at hx; rcases hx with ⟨y, _, rfl⟩ | rfl <;> rfl)), trivial⟩) ?_
    refine awp_seq ?_
    refine awp_seq ?_
    refine awp_rw rfl ?_
    refine RW.op rfl rfl (eff_fieldAddrT rfl rfl tf68_1 (by decide) rfl) ?_
    refine RW.op rfl rfl (eff_loadT1 rfl rfl ti3 rfl rfl) ?_
    refine mvT ?_
    refine ioT ?_
    refine mvT ?_
    refine RW.split 27 rfl (fun h2 => ?_) (fun h2 => ?_)
    · try simp only [cl] at h2
      refine gkT ?_
      refine gkT ?_
      refine gkT ?_
      refine gkT ?_
      refine pkT ?_
      refine RW.nil ?_
      refine awp_cond rfl (fun _ => ?_) (fun h => nomatch h)
      refine awp_exit ?_
      refine awp_rw rfl ?_
      refine RW.op rfl rfl (eff_iop rfl rfl rfl rfl (iadd (by omega))) ?_
      refine mvT ?_
      refine RW.nil ?_
      (refine ⟨_, ?_, _, weak_keep (n := 55) (fr' := [(0, .t (.sl (B.map encB) false)), (1, .t (encI sn)), (5, .own 5 _ 0 _), (6, .t (.sl (op.map encB) false)), (7, .t (encI (optOf op))), (16, .t (.sl (B.map encB) false)), (17, .t (encI B.length)), (18, .t (encI ((i + 1) : Nat)))]) (st' := [(5, some ⟨1, 3, _, _⟩)]) ⟨rfl, rfl, rfl, rfl, rfl, rfl, rfl, rfl, rfl, rfl, rfl, rfl, rfl, rfl, rfl, rfl, trivial⟩ ⟨rfl, (by first | exact okE_nil | (rw [he]; exact okE_t) | (rw [he]; intro x hx; simp only [List.mem_append, List.mem_map, List.mem_singleton] at hx; rcases hx with ⟨y, _, rfl⟩ | rfl <;> rfl)), trivial⟩, i + 1, op, out, _, _, _, (by omega), (by exact hop), (by omega), (by rw [hF, go_skip hil (by first | exact .inl (by assumption) | exact .inr (by assumption))]), (by exact hnn), (by exact he), rfl, rfl⟩; omega)
    · try simp only [cl] at h2
      refine RW.gop rfl rfl rfl rfl rfl rfl (eff_move (v := .t _) rfl rfl rfl) ?_
      refine RW.gop rfl rfl rfl rfl rfl rfl (eff_loadW rfl rfl ti68 rfl rfl rfl) ?_
      refine RW.gop rfl rfl rfl rfl rfl rfl (eff_callT (containsB_ret op (B[i]'hil) (by have := hop.len; omega)) co31 rfl rfl rfl rfl) ?_
      refine RW.gop rfl rfl rfl rfl rfl rfl (eff_unop rfl rfl rfl rfl) ?_
      refine pkT ?_
      refine RW.nil ?_
      refine awp_cond rfl (fun h3 => ?_) (fun h3 => ?_)
      · try simp only [cl] at h3
        refine awp_exit ?_
        refine awp_rw rfl ?_
        refine RW.op rfl rfl (eff_iop rfl rfl rfl rfl (iadd (by omega))) ?_
        refine mvT ?_
        refine RW.nil ?_
        (refine ⟨_, ?_, _, weak_keep (n := 55) (fr' := [(0, .t (.sl (B.map encB) false)), (1, .t (encI sn)), (5, .own 5 _ 0 _), (6, .t (.sl (op.map encB) false)), (7, .t (encI (optOf op))), (16, .t (.sl (B.map encB) false)), (17, .t (encI B.length)), (18, .t (encI ((i + 1) : Nat)))]) (st' := [(5, some ⟨1, 3, _, _⟩)]) ⟨rfl, rfl, rfl, rfl, rfl, rfl, rfl, rfl, rfl, rfl, rfl, rfl, rfl, rfl, rfl, rfl, trivial⟩ ⟨rfl, (by first | exact okE_nil | (rw [he]; exact okE_t) | (rw [he]; intro x hx; simp only [List.mem_append, List.mem_map, List.mem_singleton] at hx; rcases hx with ⟨y, _, rfl⟩ | rfl <;> rfl)), trivial⟩, i + 1, op, out, _, _, _, (by omega), (by exact hop), (by omega), (by rw [hF, go_skip hil (by first | exact .inl (by assumption) | exact .inr (by assumption))]), (by exact hnn), (by exact he), rfl, rfl⟩; omega)
      · try simp only [cl] at h3
        refine awp_skip ?_
        refine awp_seq ?_
        refine awp_rw rfl ?_
        refine mvT ?_
        refine RW.new rfl rfl (eff_callG (clone_retG op (by have := hop.len; omega)) co33 (fun id => id + 29) rfl rfl rfl ⟨.t _, trivial⟩ (.own _ _ _ _ rfl rfl) rfl trivial ⟨⟨treeEls_t, .inr rfl⟩, trivial⟩) ?_
        refine RW.op rfl rfl (eff_makeFunc rfl rfl rfl rfl) ?_
        refine RW.new rfl rfl (eff_callG (del_retG op 1 (B[i]'hil) (by have := hop.len; omega)) co32 (fun id => id + 34) rfl rfl rfl ⟨.own _ _ _ _ rfl rfl, .t _, trivial⟩ (.own _ _ _ _ rfl rfl) rfl ⟨⟨rfl, treeEls_t, ⟨_, rfl, Nat.lt_succ_self _⟩⟩, trivial⟩ ⟨⟨treeEls_t, .inl rfl⟩, trivial⟩) ?_
        refine asO ?_
        refine RW.nil ?_
        show AWP _ _ _ _
        refine awp_weak (weak_frz (n := 55) (fr' := [(0, .t (.sl (B.map encB) false)), (1, .t (encI sn)), (5, .own 5 gn 0 n), (6, .t (.sl (op.map encB) false)), (7, .t (encI (optOf op))), (16, .t (.sl (B.map encB) false)), (17, .t (encI B.length)), (18, .t (encI (i : Nat))), (8, .t (encI (i : Nat))), (9, (.t (.ptr (encB (B[i]'hil)).cells))), (10, (.t (.sl ((leftOf op (B[i]'hil)).map encB) false)))]) (st' := [(5, some ⟨1, 3, gn, els⟩)]) [(34, some ⟨5, 68, 2, ((leftOf op (B[i]'hil)).map encB ++ List.replicate (op.length - (leftOf op (B[i]'hil)).length) z68).map .t⟩)] ⟨rfl, trivial⟩ ⟨rfl, trivial⟩ ⟨wa_eq rfl rfl, wa_eq rfl rfl, wa_eq rfl rfl, wa_eq rfl rfl, wa_eq rfl rfl, wa_eq rfl rfl, wa_eq rfl rfl, wa_eq rfl rfl, wa_eq rfl rfl, wa_eq rfl rfl, (.res (Res.ownPre (xs := (leftOf op (B[i]'hil)).map encB) ((List.replicate (op.length - (leftOf op (B[i]'hil)).length) z68).map .t) rfl rfl (List.map_append ..) (by simp)) (.refl _)), trivial⟩ ⟨rfl, (by first | exact okE_nil | (rw [he]; exact okE_t) | (rw [he]; intro x hx; simp only [List.mem_append, List.mem_map, List.mem_singleton] at hx; rcases hx with ⟨y, _, rfl⟩ | rfl <;> rfl)), trivial⟩) ?_
        refine awp_seq ?_
        refine awp_rd [(some 37, []), (some 38, []), (some 39, []), (some 40, []), (some 41, []), (some 42, []), (some 43, [])] [[], [0], [], [2], [0, 1, 2, 3], [], [0, 1, 2, 3, 4, 5]] tm rfl rfl rfl rfl ?_
        refine RD.op rfl rfl rfl (eff_fieldAddrT rfl rfl tf68_4 (by decide) rfl) ?_
        refine RD.op rfl rfl rfl (eff_loadT1 rfl rfl ti3 rfl rfl) ?_
        refine mvD ?_
        refine RD.op rfl rfl rfl (eff_callT (optimum_ret (leftOf op (B[i]'hil)) hok) co30 rfl rfl rfl rfl) ?_
        refine RD.op rfl rfl rfl (eff_iop rfl rfl rfl rfl (iadd (by omega))) ?_
        refine mvD ?_
        refine RD.op rfl rfl rfl (eff_iop rfl rfl rfl rfl rfl) ?_
        refine RD.nil ?_
        refine awp_cond rfl (fun h4 => ?_) (fun h4 => ?_)
        · try simp only [cl] at h4
          refine awp_seq ?_
          refine awp_rw rfl ?_
          refine mvO ?_
          refine mvT ?_
          refine RW.new rfl rfl (eff_buildSlice1 (id := 46) (els := [_]) rfl rfl te52 tz3 rfl (by decide) rfl rfl rfl rfl) ?_
          refine RW.new rfl rfl (eff_append (id := 5) (ys := [_]) rfl rfl ta52 rfl rfl rfl (by rw [he, hnn]; simp) rfl rfl (srcOwn rfl rfl rfl rfl rfl rfl) (by simp) (by simp; omega) (by simp; omega)) ?_
          refine asO ?_
          refine RW.nil ?_
          refine awp_seq ?_
          refine awp_rw rfl ?_
          refine mvT ?_
          refine RW.op rfl rfl (eff_fieldAddrT rfl rfl tf68_4 (by decide) rfl) ?_
          refine RW.op rfl rfl (eff_loadT1 rfl rfl ti3 rfl rfl) ?_
          refine RW.op rfl rfl (eff_iop (r := encI (optOf (leftOf op (B[i]'hil)))) rfl rfl rfl rfl ((isub (by omega)).trans (congrArg (fun n => some (Tr.int .i64 n)) (by omega)))) ?_
          refine asT ?_
          refine RW.nil ?_
          refine awp_rw rfl ?_
          refine mvT ?_
          refine asT ?_
          refine RW.nil ?_
          refine awp_rw rfl ?_
          refine RW.op rfl rfl (eff_iop rfl rfl rfl rfl (iadd (by omega))) ?_
          refine mvT ?_
          refine RW.nil ?_
          (refine ⟨_, ?_, _, weak_keep (n := 55) (fr' := [(0, .t (.sl (B.map encB) false)), (1, .t (encI sn)), (5, .own 5 _ 0 _), (6, .t (.sl (((leftOf op (B[i]'hil))).map encB) false)), (7, .t (encI (optOf ((leftOf op (B[i]'hil)))))), (16, .t (.sl (B.map encB) false)), (17, .t (encI B.length)), (18, .t (encI ((i + 1) : Nat)))]) (st' := [(5, some ⟨1, 3, _, _⟩)]) ⟨rfl, rfl, rfl, rfl, rfl, rfl, rfl, rfl, rfl, rfl, rfl, rfl, rfl, rfl, rfl, rfl, trivial⟩ ⟨rfl, (by first | exact okE_nil | (rw [he]; exact okE_t) | (rw [he]; intro x hx; simp only [List.mem_append, List.mem_map, List.mem_singleton] at hx; rcases hx with ⟨y, _, rfl⟩ | rfl <;> rfl)), trivial⟩, i + 1, (leftOf op (B[i]'hil)), (out ++ [i]), _, _, _, (by omega), (by exact hok), (by rw [List.length_append]; simp; omega), (by rw [hF, go_take hil (by first | assumption | (simp only [Classical.not_not] at *; assumption)) (by assumption) (by assumption)]; simp), (by rw [hnn]; simp; done), (by rw [he]; simp <;> rfl), rfl, rfl⟩; omega)
        · try simp only [cl] at h4
          refine awp_skip ?_
          refine awp_rw rfl ?_
          refine RW.op rfl rfl (eff_iop rfl rfl rfl rfl (iadd (by omega))) ?_
          refine mvT ?_
          refine RW.nil ?_
          (refine ⟨_, ?_, _, weak_keep (n := 55) (fr' := [(0, .t (.sl (B.map encB) false)), (1, .t (encI sn)), (5, .own 5 _ 0 _), (6, .t (.sl (op.map encB) false)), (7, .t (encI (optOf op))), (16, .t (.sl (B.map encB) false)), (17, .t (encI B.length)), (18, .t (encI ((i + 1) : Nat)))]) (st' := [(5, some ⟨1, 3, _, _⟩)]) ⟨rfl, rfl, rfl, rfl, rfl, rfl, rfl, rfl, rfl, rfl, rfl, rfl, rfl, rfl, rfl, rfl, trivial⟩ ⟨rfl, (by first | exact okE_nil | (rw [he]; exact okE_t) | (rw [he]; intro x hx; simp only [List.mem_append, List.mem_map, List.mem_singleton] at hx; rcases hx with ⟨y, _, rfl⟩ | rfl <;> rfl)), trivial⟩, i + 1, op, out, _, _, _, (by omega), (by exact hop), (by omega), (by rw [hF, go_drop hil (by first | assumption | (simp only [Classical.not_not] at *; assumption)) (by assumption) (by assumption)]), (by exact hnn), (by exact he), rfl, rfl⟩; omega)
  · try simp only [cl] at h1
    refine awp_exit ?_
    refine awp_seq ?_
    refine awp_rw rfl ?_
    refine mvO ?_
    refine asO ?_
    refine RW.nil ?_
    refine awp_ret ?_
    have hFe := hF
    rw [go_end (by omega), List.append_nil] at hFe
    rw [hFe]
    exact ⟨Or.inr rfl, [_], ⟨.tmp (Res.ownT (xs := out.map encN) rfl rfl he (by rw [hnn]; simp)), trivial⟩, .refl _⟩

end Go.Tv.C37p

end
section
open Go Go.Tv Go.Tv.C37 Go.Proofs
namespace Go.Tv.C37p
set_option maxRecDepth 20000
set_option maxHeartbeats 2000000
set_option linter.unusedSimpArgs false
set_option linter.unusedVariables false
def toI (l : List Nat) : List Int := l.map fun n : Nat => (n : Int)
theorem encN_map (l : List Nat) : l.map encN = (toI l).map encI := by unfold toI; rw [List.map_map]; rfl
theorem toI_len (l : List Nat) : (toI l).length = l.length := by simp [toI]
theorem best_reti (B : List Bid) (sn : Int) (hB : OkL B) : Ret Tryz.prog 13 [.sl (B.map encB) false, encI sn] (.sl ((toI (bestF B sn)).map encI) false) := by
  have h := best_ret B sn hB
  rw [encN_map] at h
  exact h
def at1 (B : List Bid) (i : Int) : Int := if 0 ≤ i ∧ i < B.length then (B.getD i.toNat zb).val else 0
/-- The value of some indices. -/
def valZ (B : List Bid) : List Int → Int
  | [] => 0
  | i :: l => at1 B i + valZ B l
theorem valZ_append (B : List Bid) : ∀ (l m : List Int), valZ B (l ++ m) = valZ B l + valZ B m
  | [], m => by simp [valZ]
  | i :: l, m => by simp only [List.cons_append, valZ, valZ_append B l m]; omega
theorem valZ_take {B : List Bid} {l : List Int} {i : Nat} (h : i < l.length) : valZ B (l.take (i + 1)) = valZ B (l.take i) + at1 B l[i] := by
  rw [take_succ_get h, valZ_append]; simp [valZ]
theorem at1_range {B : List Bid} (h : ∀ b, b ∈ B → 0 ≤ b.val ∧ b.val ≤ 1000000) (i : Int) : 0 ≤ at1 B i ∧ at1 B i ≤ 1000000 := by
  unfold at1
  split
  · rename_i hi
    have hl : i.toNat < B.length := by omega
    rw [getD_zb hl]
    exact h _ (List.getElem_mem hl)
  · omega
theorem valZ_range {B : List Bid} (h : ∀ b, b ∈ B → 0 ≤ b.val ∧ b.val ≤ 1000000) : ∀ l : List Int, 0 ≤ valZ B l ∧ valZ B l ≤ 1000000 * l.length
  | [] => by simp [valZ]
  | i :: l => by
    have h1 := at1_range h i
    have h2 := valZ_range h l
    simp only [valZ, List.length_cons]
    omega
/-- Compatible indices (the specification). -/
def compZ (B : List Bid) (s : Int) (l : List Int) : Prop := (∀ i, i ∈ l → 0 ≤ i ∧ i < B.length ∧ (B.getD i.toNat zb).station = s) ∧ l.Pairwise fun a b => a ≠ b ∧ confl (B.getD a.toNat zb) (B.getD b.toNat zb) = false
instance (B : List Bid) (s : Int) (l : List Int) : Decidable (compZ B s l) := by unfold compZ; exact inferInstance
theorem value_ret (B : List Bid) (l : List Int) (hB : ∀ b, b ∈ B → 0 ≤ b.val ∧ b.val ≤ 1000000) (hBl : B.length ≤ 100000) (hl : l.length ≤ 100000) : Ret Tryz.prog 14 [.sl (B.map encB) false, .sl (l.map encI) false] (encI (valZ B l)) := by
  refine ret_of_awp Tryz.func14 rfl (Nat.le_of_ble_eq_true rfl) ?_
  refine awp_seq ?_
  refine awp_rw rfl ?_
  refine asT ?_
  refine RW.nil ?_
  refine awp_seq ?_
  refine awp_rw rfl ?_
  refine asT ?_
  refine RW.nil ?_
  refine awp_seq ?_
  refine awp_seq ?_
  refine awp_rw rfl ?_
  refine mvT ?_
  refine RW.op rfl rfl (eff_lenM rfl rfl te52 rfl) ?_
  refine mvT ?_
  refine RW.nil ?_
  refine awp_block ?_
  refine awp_loopW (fun m s => ∃ (i : Nat), (i ≤ l.length) ∧ m = l.length - i ∧ s = ⟨31, [(0, .t (.sl (B.map encB) false)), (8, .t (.sl (l.map encI) false)), (9, .t (encI l.length)), (10, .t (encI (i : Nat))), (5, .t (encI (valZ B (l.take i))))], []⟩) (_) (⟨_, weak_keep (n := 31) (fr' := [(0, .t (.sl (B.map encB) false)), (8, .t (.sl (l.map encI) false)), (9, .t (encI l.length)), (10, .t (encI (0 : Nat))), (5, .t (encI (valZ B (l.take 0))))]) (st' := []) ⟨rfl, rfl, rfl, rfl, rfl, rfl, rfl, rfl, rfl, rfl, trivial⟩ trivial, 0, (by omega), rfl, rfl⟩) ?_
  rintro m s ⟨i, hi, rfl, rfl⟩
  have hvr := valZ_range hB (l.take i)
  rw [List.length_take] at hvr
  refine awp_seq ?_
  refine awp_rw rfl ?_
  refine ioT ?_
  refine RW.nil ?_
  refine awp_seq ?_
  refine awp_cond rfl (fun h1 => ?_) (fun h1 => ?_)
  · try simp only [cl] at h1
    refine awp_skip ?_
    refine awp_seq ?_
    refine awp_block ?_
    refine awp_seq ?_
    refine awp_rw rfl ?_
    have hil : i < l.length := by omega
    refine RW.op rfl rfl (eff_indexAddrT (i := i) rfl rfl te52 rfl rfl (by first | rfl | omega) (by exact (List.getElem?_map ..).trans (by rw [List.getElem?_eq_getElem hil]; rfl)) rfl (by decide)) ?_
    refine RW.op rfl rfl (eff_loadW1 rfl rfl ti3 rfl rfl) ?_
    refine asT ?_
    refine RW.nil ?_
    refine awp_seq ?_
    refine awp_rw rfl ?_
    refine mvT ?_
    refine ioT ?_
    refine mvT ?_
    refine RW.split 16 rfl (fun h2 => ?_) (fun h2 => ?_)
    · try simp only [cl] at h2
      refine RW.gop rfl rfl rfl rfl rfl rfl (eff_move (v := .t _) rfl rfl rfl) ?_
      refine RW.gop rfl rfl rfl rfl rfl rfl (eff_move (v := .t _) rfl rfl rfl) ?_
      refine RW.gop rfl rfl rfl rfl rfl rfl (eff_lenM rfl rfl te45 rfl) ?_
      refine RW.gop rfl rfl rfl rfl rfl rfl (eff_iop rfl rfl rfl rfl rfl) ?_
      refine pkT ?_
      refine RW.nil ?_
      refine awp_cond rfl (fun h3 => ?_) (fun h3 => ?_)
      · try simp only [cl] at h3
        refine awp_rw rfl ?_
        have hlz : (l[i]'hil).toNat < B.length := by omega
        have hvz := hB _ (List.getElem_mem hlz)
        refine mvT ?_
        refine mvT ?_
        refine mvT ?_
        refine RW.op rfl rfl (eff_indexAddrT (i := (l[i]'hil).toNat) rfl rfl te45 rfl rfl (by first | rfl | omega) (by rw [List.getElem?_map, List.getElem?_eq_getElem (by omega)]; rfl) rfl (by decide)) ?_
        refine RW.op rfl rfl (eff_fieldAddrT rfl rfl tf68_4 (by decide) rfl) ?_
        refine RW.op rfl rfl (eff_loadT1 rfl rfl ti3 rfl rfl) ?_
        refine RW.op rfl rfl (eff_iop rfl rfl rfl rfl (iadd (by omega))) ?_
        refine asT ?_
        refine RW.nil ?_
        refine awp_rw rfl ?_
        refine RW.op rfl rfl (eff_iop rfl rfl rfl rfl (iadd (by omega))) ?_
        refine mvT ?_
        refine RW.nil ?_
        refine ⟨_, ?_, _, weak_keep (n := 31) (fr' := [(0, .t (.sl (B.map encB) false)), (8, .t (.sl (l.map encI) false)), (9, .t (encI l.length)), (10, .t (encI ((i + 1) : Nat))), (5, .t (encI (valZ B (l.take (i + 1)))))]) (st' := []) ⟨rfl, rfl, rfl, rfl, rfl, rfl, rfl, rfl, (by first | rfl | (show AV.t (encI _) = AV.t (encI (valZ B (l.take (i + 1)))); rw [valZ_take (B := B) (l := l) (i := i) hil]; unfold at1; first | (rw [if_pos (show 0 ≤ l[i] ∧ l[i] < B.length from ⟨by omega, by omega⟩), getD_zb hlz]; done) | (rw [if_neg (show ¬ (0 ≤ l[i] ∧ l[i] < B.length) from fun hh => by omega), Int.add_zero]))), rfl, trivial⟩ trivial, i + 1, by omega, rfl, rfl⟩
        omega
      · try simp only [cl] at h3
        refine awp_skip ?_
        refine awp_rw rfl ?_
        refine RW.op rfl rfl (eff_iop rfl rfl rfl rfl (iadd (by omega))) ?_
        refine mvT ?_
        refine RW.nil ?_
        refine ⟨_, ?_, _, weak_keep (n := 31) (fr' := [(0, .t (.sl (B.map encB) false)), (8, .t (.sl (l.map encI) false)), (9, .t (encI l.length)), (10, .t (encI ((i + 1) : Nat))), (5, .t (encI (valZ B (l.take (i + 1)))))]) (st' := []) ⟨rfl, rfl, rfl, rfl, rfl, rfl, rfl, rfl, (by first | rfl | (show AV.t (encI _) = AV.t (encI (valZ B (l.take (i + 1)))); rw [valZ_take (B := B) (l := l) (i := i) hil]; unfold at1; first | (rw [if_pos (show 0 ≤ l[i] ∧ l[i] < B.length from ⟨by omega, by omega⟩), getD_zb hlz]; done) | (rw [if_neg (show ¬ (0 ≤ l[i] ∧ l[i] < B.length) from fun hh => by omega), Int.add_zero]))), rfl, trivial⟩ trivial, i + 1, by omega, rfl, rfl⟩
        omega
    · try simp only [cl] at h2
      refine gkT ?_
      refine gkT ?_
      refine gkT ?_
      refine gkT ?_
      refine pkT ?_
      refine RW.nil ?_
      refine awp_cond rfl (fun h => nomatch h) (fun _ => ?_)
      refine awp_skip ?_
      refine awp_rw rfl ?_
      refine RW.op rfl rfl (eff_iop rfl rfl rfl rfl (iadd (by omega))) ?_
      refine mvT ?_
      refine RW.nil ?_
      refine ⟨_, ?_, _, weak_keep (n := 31) (fr' := [(0, .t (.sl (B.map encB) false)), (8, .t (.sl (l.map encI) false)), (9, .t (encI l.length)), (10, .t (encI ((i + 1) : Nat))), (5, .t (encI (valZ B (l.take (i + 1)))))]) (st' := []) ⟨rfl, rfl, rfl, rfl, rfl, rfl, rfl, rfl, (by first | rfl | (show AV.t (encI _) = AV.t (encI (valZ B (l.take (i + 1)))); rw [valZ_take (B := B) (l := l) (i := i) hil]; unfold at1; first | (rw [if_pos (show 0 ≤ l[i] ∧ l[i] < B.length from ⟨by omega, by omega⟩), getD_zb hlz]; done) | (rw [if_neg (show ¬ (0 ≤ l[i] ∧ l[i] < B.length) from fun hh => by omega), Int.add_zero]))), rfl, trivial⟩ trivial, i + 1, by omega, rfl, rfl⟩
      omega
  · try simp only [cl] at h1
    refine awp_exit ?_
    refine awp_seq ?_
    refine awp_rw rfl ?_
    refine mvT ?_
    refine asT ?_
    refine RW.nil ?_
    refine awp_ret ?_
    obtain rfl : i = l.length := by omega
    rw [List.take_length]
    exact ⟨Or.inr rfl, [_], ⟨.tmp (.t _), trivial⟩, .refl _⟩

theorem sameInts_ret (l q : List Int) (hl : l.length ≤ 1000000) (hm : q.length ≤ 1000000) : Ret Tryz.prog 12 [.sl (l.map encI) false, .sl (q.map encI) false] (.bool (decide (l = q))) := by
  refine ret_of_awp Tryz.func12 rfl (Nat.le_of_ble_eq_true rfl) ?_
  refine awp_seq ?_
  refine awp_rw rfl ?_
  refine asT ?_
  refine RW.nil ?_
  refine awp_seq ?_
  refine awp_seq ?_
  refine awp_rw rfl ?_
  refine mvT ?_
  refine RW.op rfl rfl (eff_lenM rfl rfl te52 rfl) ?_
  refine mvT ?_
  refine RW.op rfl rfl (eff_lenM rfl rfl te52 rfl) ?_
  refine ioT ?_
  refine RW.nil ?_
  refine awp_cond rfl (fun h1 => ?_) (fun h1 => ?_)
  · try simp only [cl] at h1
    refine awp_seq ?_
    refine awp_rw rfl ?_
    refine asT ?_
    refine RW.nil ?_
    refine awp_ret ?_
    rw [decide_eq_false (fun e => h1 (by rw [e]))]
    exact ⟨Or.inr rfl, [_], ⟨.tmp (.t _), trivial⟩, .refl _⟩
  · try simp only [cl] at h1
    refine awp_skip ?_
    refine awp_seq ?_
    refine awp_seq ?_
    refine awp_rw rfl ?_
    have hlm : l.length = q.length := by omega
    refine asT ?_
    refine RW.nil ?_
    refine awp_block ?_
    refine awp_loopW (fun m s => ∃ (i : Nat), (i ≤ l.length) ∧ (l.take i = q.take i) ∧ m = l.length - i ∧ s = ⟨26, [(0, .t (.sl (l.map encI) false)), (1, .t (.sl (q.map encI) false)), (5, .t (encI (i : Nat)))], []⟩) (_) (⟨_, weak_keep (n := 26) (fr' := [(0, .t (.sl (l.map encI) false)), (1, .t (.sl (q.map encI) false)), (5, .t (encI (0 : Nat)))]) (st' := []) ⟨rfl, rfl, rfl, rfl, rfl, rfl, trivial⟩ trivial, 0, (by omega), (by simp), rfl, rfl⟩) ?_
    rintro m s ⟨i, hi, ha, rfl, rfl⟩
    refine awp_seq ?_
    refine awp_seq ?_
    refine awp_rw rfl ?_
    refine mvT ?_
    refine mvT ?_
    refine RW.op rfl rfl (eff_lenM rfl rfl te52 rfl) ?_
    refine ioT ?_
    refine RW.nil ?_
    refine awp_cond rfl (fun h2 => ?_) (fun h2 => ?_)
    · try simp only [cl] at h2
      refine awp_skip ?_
      refine awp_seq ?_
      refine awp_block ?_
      refine awp_seq ?_
      refine awp_rd [(some 17, []), (some 18, []), (some 19, []), (some 20, []), (some 21, []), (some 22, []), (some 23, []), (some 24, []), (some 25, [])] [[], [], [0, 1], [0, 1, 2], [], [], [4, 5], [4, 5, 6], [0, 1, 2, 3, 4, 5, 6, 7]] tm rfl rfl rfl rfl ?_
      refine mvD ?_
      refine mvD ?_
      refine RD.op rfl rfl rfl (eff_indexM rfl rfl te52 rfl rfl rfl (by first | assumption | exact List.getElem?_eq_getElem (by omega)) rfl (by decide)) ?_
      refine RD.op rfl rfl rfl (eff_loadW1 rfl rfl ti3 rfl rfl) ?_
      refine mvD ?_
      refine mvD ?_
      refine RD.op rfl rfl rfl (eff_indexM rfl rfl te52 rfl rfl rfl (by first | assumption | exact List.getElem?_eq_getElem (by omega)) rfl (by decide)) ?_
      refine RD.op rfl rfl rfl (eff_loadW1 rfl rfl ti3 rfl rfl) ?_
      refine RD.op rfl rfl rfl (eff_iop rfl rfl rfl rfl rfl) ?_
      refine RD.nil ?_
      refine awp_cond rfl (fun h3 => ?_) (fun h3 => ?_)
      · try simp only [cl] at h3
        refine awp_seq ?_
        refine awp_rw rfl ?_
        refine asT ?_
        refine RW.nil ?_
        refine awp_ret ?_
        rw [decide_eq_false (fun e => h3 (by simp only [e]))]
        exact ⟨Or.inr rfl, [_], ⟨.tmp (.t _), trivial⟩, .refl _⟩
      · try simp only [cl] at h3
        refine awp_skip ?_
        refine awp_rw rfl ?_
        refine mvT ?_
        refine RW.op rfl rfl (eff_iop rfl rfl rfl rfl (iadd (by omega))) ?_
        refine asT ?_
        refine RW.nil ?_
        refine ⟨_, ?_, _, weak_keep (n := 26) (fr' := [(0, .t (.sl (l.map encI) false)), (1, .t (.sl (q.map encI) false)), (5, .t (encI ((i + 1) : Nat)))]) (st' := []) ⟨rfl, rfl, rfl, rfl, rfl, rfl, trivial⟩ trivial, i + 1, (by omega), (by rw [take_succ_get (show i < l.length by omega), take_succ_get (show i < q.length by omega), ha]; congr 2), rfl, rfl⟩
        omega
    · try simp only [cl] at h2
      refine awp_exit ?_
      refine awp_seq ?_
      refine awp_rw rfl ?_
      refine asT ?_
      refine RW.nil ?_
      refine awp_ret ?_
      obtain rfl : i = l.length := by omega
      rw [List.take_length, hlm, List.take_length] at ha
      rw [decide_eq_true ha]
      exact ⟨Or.inr rfl, [_], ⟨.tmp (.t _), trivial⟩, .refl _⟩

end Go.Tv.C37p

end
section
open Go Go.Tv Go.Tv.C37 Go.Proofs
namespace Go.Tv.C37p
set_option maxRecDepth 20000
set_option maxHeartbeats 2000000
set_option linter.unusedSimpArgs false
set_option linter.unusedVariables false
theorem incr_ge {l : List Nat} (h : l.Pairwise (· < ·)) : ∀ (j : Nat) (hj : j < l.length), j ≤ l[j]
  | 0, _ => Nat.zero_le _
  | j + 1, hj => by
    have h1 := incr_ge h j (by omega)
    have h2 := List.pairwise_iff_getElem.1 h j (j + 1) (by omega) hj (Nat.lt_succ_self _)
    omega
theorem incr_len {l : List Nat} {n : Nat} (h : l.Pairwise (· < ·)) (hl : ∀ j, j ∈ l → j < n) : l.length ≤ n := by
  rcases Nat.eq_zero_or_pos l.length with h0 | h0
  · omega
  · have h1 := incr_ge h (l.length - 1) (by omega)
    have h2 := hl _ (List.getElem_mem (show l.length - 1 < l.length by omega))
    omega
theorem pick_step {B : List Bid} {l : List (List Nat)} {best : List Nat} {i : Nat} (h : i < l.length) : pick B best (l.drop i) = pick B (if vI B l[i] > vI B best then l[i] else best) (l.drop (i + 1)) := by
  rw [List.drop_eq_getElem_cons h]; rfl

end Go.Tv.C37p

end
section
namespace Go.Proofs
open Go.Shelf
def Tryz.sortI_ren : Go.Shelf.Ren := ⟨fun | 5 => 40 | 8 => 66 | 7 => 65 | 19 => 85 | 20 => 86 | 10 => 76 | 11 => 77 | 12 => 78 | 13 => 79 | 14 => 80 | 15 => 81 | 16 => 82 | 17 => 83 | 18 => 84 | 30 => 100 | 31 => 101 | 32 => 102 | 33 => 103 | 34 => 104 | 35 => 46 | 40 => 117 | n => n, fun | 23 => 52 | 25 => 3 | 3 => 3 | 32 => 112 | 22 => 52 | 0 => 0 | 44 => 128 | 46 => 39 | 4 => 4 | 36 => 121 | 35 => 120 | 41 => 102 | 5 => 5 | 9 => 9 | 53 => 138 | 57 => 142 | 63 => 153 | 64 => 42 | n => n, fun | n => n⟩
theorem Tryz.sortI : Go.Proofs.SlLaysM.n5 Tryz.prog Tryz.sortI_ren := {
  mixed := by kernel_rfl
  f5 := ⟨Tryz.f40.name, by decide, Tryz.func40.trans (congrArg some (by kernel_rfl))⟩
  f7 := ⟨Tryz.f65.name, by decide, Tryz.func65.trans (congrArg some (by kernel_rfl))⟩
  f8 := Tryz.func66.trans (congrArg some (by kernel_rfl))
  f10 := ⟨Tryz.f76.name, by decide, Tryz.func76.trans (congrArg some (by kernel_rfl))⟩
  f11 := ⟨Tryz.f77.name, by decide, Tryz.func77.trans (congrArg some (by kernel_rfl))⟩
  f12 := ⟨Tryz.f78.name, by decide, Tryz.func78.trans (congrArg some (by kernel_rfl))⟩
  f13 := ⟨Tryz.f79.name, by decide, Tryz.func79.trans (congrArg some (by kernel_rfl))⟩
  f14 := ⟨Tryz.f80.name, by decide, Tryz.func80.trans (congrArg some (by kernel_rfl))⟩
  f15 := ⟨Tryz.f81.name, by decide, Tryz.func81.trans (congrArg some (by kernel_rfl))⟩
  f16 := ⟨Tryz.f82.name, by decide, Tryz.func82.trans (congrArg some (by kernel_rfl))⟩
  f17 := ⟨Tryz.f83.name, by decide, Tryz.func83.trans (congrArg some (by kernel_rfl))⟩
  f18 := ⟨Tryz.f84.name, by decide, Tryz.func84.trans (congrArg some (by kernel_rfl))⟩
  f19 := Tryz.func85.trans (congrArg some (by kernel_rfl))
  f20 := Tryz.func86.trans (congrArg some (by kernel_rfl))
  f30 := ⟨Tryz.f100.name, by decide, Tryz.func100.trans (congrArg some (by kernel_rfl))⟩
  f31 := Tryz.func101.trans (congrArg some (by kernel_rfl))
  f32 := Tryz.func102.trans (congrArg some (by kernel_rfl))
  f33 := ⟨Tryz.f103.name, by decide, Tryz.func103.trans (congrArg some (by kernel_rfl))⟩
  f34 := ⟨Tryz.f104.name, by decide, Tryz.func104.trans (congrArg some (by kernel_rfl))⟩
  f35 := ⟨Tryz.f46.name, by decide, Tryz.func46.trans (congrArg some (by kernel_rfl))⟩
  f40 := ⟨Tryz.f117.name, by decide, Tryz.func117.trans (congrArg some (by kernel_rfl))⟩
  t0 := Tryz.underlying0
  a0 := Tryz.isAgg0
  z0 := Tryz.sizeOf0
  v0 := Tryz.zeroValue0
  t3 := Tryz.underlying3
  a3 := Tryz.isAgg3
  z3 := Tryz.sizeOf3
  v3 := Tryz.zeroValue3
  t4 := Tryz.underlying4
  a4 := Tryz.isAgg4
  z4 := Tryz.sizeOf4
  v4 := Tryz.zeroValue4
  t5 := Tryz.underlying5
  a5 := Tryz.isAgg5
  z5 := Tryz.sizeOf5
  v5 := Tryz.zeroValue5
  t9 := Tryz.underlying9
  a9 := Tryz.isAgg9
  z9 := Tryz.sizeOf9
  v9 := Tryz.zeroValue9
  t22 := Tryz.underlying52
  a22 := Tryz.isAgg52
  z22 := Tryz.sizeOf52
  v22 := Tryz.zeroValue52
  t23 := Tryz.underlying52
  a23 := Tryz.isAgg52
  z23 := Tryz.sizeOf52
  v23 := Tryz.zeroValue52
  t25 := Tryz.underlying3
  a25 := Tryz.isAgg3
  z25 := Tryz.sizeOf3
  v25 := Tryz.zeroValue3
  t32 := Tryz.underlying112
  a32 := Tryz.isAgg112
  z32 := Tryz.sizeOf112
  v32 := Tryz.zeroValue112
  t35 := Tryz.underlying120
  a35 := Tryz.isAgg120
  z35 := Tryz.sizeOf120
  v35 := Tryz.zeroValue120
  t36 := Tryz.underlying121
  a36 := Tryz.isAgg121
  z36 := Tryz.sizeOf121
  v36 := Tryz.zeroValue121
  t41 := Tryz.underlying102
  a41 := Tryz.isAgg102
  z41 := Tryz.sizeOf102
  v41 := Tryz.zeroValue102
  t44 := Tryz.underlying128
  a44 := Tryz.isAgg128
  z44 := Tryz.sizeOf128
  v44 := Tryz.zeroValue128
  t46 := Tryz.underlying39
  a46 := Tryz.isAgg39
  z46 := Tryz.sizeOf39
  v46 := Tryz.zeroValue39
  t53 := Tryz.underlying138
  a53 := Tryz.isAgg138
  z53 := Tryz.sizeOf138
  v53 := Tryz.zeroValue138
  t57 := Tryz.underlying142
  a57 := Tryz.isAgg142
  z57 := Tryz.sizeOf142
  v57 := Tryz.zeroValue142
  t63 := Tryz.underlying153
  a63 := Tryz.isAgg153
  z63 := Tryz.sizeOf153
  v63 := Tryz.zeroValue153
  t64 := Tryz.underlying42
  a64 := Tryz.isAgg42
  z64 := Tryz.sizeOf42
  v64 := Tryz.zeroValue42 }
end Go.Proofs

end
section
namespace Go.Proofs
open Go.Shelf
def Tryz.growB_ren : Go.Shelf.Ren := ⟨fun | 4 => 63 | n => n, fun | 22 => 45 | 25 => 68 | 3 => 3 | 4 => 4 | 9 => 9 | 20 => 20 | 0 => 0 | n => n, fun | n => n⟩
theorem Tryz.growB : Go.Proofs.Lays8.n4 Tryz.prog Tryz.growB_ren := {
  mixed := by kernel_rfl
  f4 := ⟨Tryz.f63.name, by decide, Tryz.func63.trans (congrArg some (by kernel_rfl))⟩
  t0 := Tryz.underlying0
  a0 := Tryz.isAgg0
  z0 := Tryz.sizeOf0
  v0 := Tryz.zeroValue0
  t3 := Tryz.underlying3
  a3 := Tryz.isAgg3
  z3 := Tryz.sizeOf3
  v3 := Tryz.zeroValue3
  t4 := Tryz.underlying4
  a4 := Tryz.isAgg4
  z4 := Tryz.sizeOf4
  v4 := Tryz.zeroValue4
  t9 := Tryz.underlying9
  a9 := Tryz.isAgg9
  z9 := Tryz.sizeOf9
  v9 := Tryz.zeroValue9
  t20 := Tryz.underlying20
  a20 := Tryz.isAgg20
  z20 := Tryz.sizeOf20
  v20 := Tryz.zeroValue20
  t22 := Tryz.underlying45
  a22 := Tryz.isAgg45
  z22 := Tryz.sizeOf45
  v22 := Tryz.zeroValue45 }
end Go.Proofs

end
section
open Go Go.Tv Go.Tv.C37 Go.Proofs
namespace Go.Tv.C37p
set_option maxRecDepth 20000
set_option maxHeartbeats 2000000
set_option linter.unusedSimpArgs false
set_option linter.unusedVariables false
theorem inf42 : ∃ i0 z, Tryz.prog.info? 68 = some i0 ∧ i0.zero = some z ∧ i0.size = 5 ∧ i0.bytes = 40 ∧ z.cells.size = 5 := by
  have h1 := tb68; have h2 := ti68; have h3 := tz68
  unfold tinf at h2
  unfold zeroOf at h3
  cases hi : Tryz.prog.info? 68 with
  | none => rw [hi] at h1; cases h1
  | some i0 =>
    rw [hi] at h1 h2 h3
    simp only [Option.map_some, Option.some.injEq] at h1
    cases hu : Tryz.prog.underlying 68 with
    | none => rw [hu] at h2; simp at h2
    | some d =>
      rw [hu] at h2
      simp only [Option.some.injEq, Prod.mk.injEq] at h2
      cases hz : i0.zero with
      | none => simp only [hz] at h3; cases h3
      | some z =>
        simp only [hz] at h3
        have hv := (constT_v h3 (default : World) (fun _ => False)).2.2
        refine ⟨i0, z, rfl, hz, h2.1, h1, ?_⟩
        rw [hv]; rfl
theorem sget_one (id : Nat) (ob : Ob) (m : Nat) : sget [(id, some ob)] m = if m = id then some ob else none := by
  have := sget_sput [] id m (some ob)
  simpa [sget, sput] using this
/-- slices.Grow at nil: room for n more, none of them there yet. -/
theorem growB_retG (n : Nat) (hn : n ≤ 1000000) : RetG Tryz.prog 63 [] [.t (.sl [] true), .t (encI (n : Nat))] [(1, some ⟨5, 68, 0, []⟩)] (.own 1 0 0 0) := by
  intro F β w vals hm hl hV
  obtain ⟨i0, z, hi0, hz0, hs0, hb0, hzc⟩ := inf42
  match vals, hl, hV with
  | [v0, v1], _, hV =>
    have h0 := hV 0 _ v0 rfl rfl
    have h1 := hV 1 _ v1 rfl rfl
    have e1 : v1 = .int .i64 (n : Nat) := by
      cases h1 with
      | t h => cases h; rfl
    subst e1
    have hbase : ∃ base, v0 = .slice base 0 0 := by
      cases h0 with
      | t h =>
        generalize hx : (Tr.sl [] true) = x at h
        cases h with
        | nils f => exact ⟨_, rfl⟩
        | nilsE f a => exact ⟨_, rfl⟩
        | sl xs f k b o cap vs hb hF hf hcap hk h1 hc hv => cases hx; have := hf rfl; simp at this; subst this; exact ⟨_, rfl⟩
        | _ => cases hx
    obtain ⟨base, rfl⟩ := hbase
    have hnone : ∀ id ob, sget ([(1, some ⟨5, 68, 0, []⟩)] : Sto) id = some ob → id = 1 ∧ ob = ⟨5, 68, 0, []⟩ := fun id ob h => by
      rw [sget_one] at h
      split at h
      · cases h; exact ⟨by assumption, rfl⟩
      · cases h
    rcases Nat.eq_zero_or_pos n with rfl | hpos
    · refine Calls.mono (Any8.slices_Grow_room Tryz.growB base 0 0 0 w (Nat.le_refl _) (by decide) (by decide) (Nat.le_refl _)) ?_
      rintro e w' ⟨rfl, rfl⟩
      refine ⟨_, fun _ => none, rfl, ?_, ⟨fun id ob h => ?_, fun i j oi oj b _ _ h => (by cases h), fun i oi b _ h => (by cases h), hm.ltF⟩, ?_⟩
      · cases base with
        | none => exact .ownNil (ob := ⟨5, 68, 0, []⟩) (by rw [sget_one]; rfl) rfl rfl rfl
        | some a => exact .ownE (ob := ⟨5, 68, 0, []⟩) (by rw [sget_one]; rfl) rfl rfl rfl
      · obtain ⟨rfl, rfl⟩ := hnone id ob h
        exact .inl ⟨rfl, rfl⟩
      · exact ⟨rfl, .refl _, rfl, Nat.le_refl _, fun b _ _ => rfl, fun b hb => (by obtain ⟨m, ob, _, h⟩ := hb; cases h), fun b c ty h => ⟨c, h, rfl⟩⟩
    · have hg := Any8.slices_Grow_grow Tryz.growB i0 z hi0 hz0 (by omega) base 0 0 n [] w (Nat.le_refl _) (by omega) (by rw [hb0]; omega) (by omega) (by simp) (fun _ => rfl) (fun a _ j v h => by simp at h)
      refine Calls.mono hg ?_
      rintro e w' ⟨rfl, rfl⟩
      generalize hcap : Go.grownCap w (0 + n) 0 (Tryz.growB_ren.t 25) = cap
      generalize hcs : (([] : List Value).toArray ++ Builtin.zeroCells z.cells (0 + n - 0) ++ Builtin.zeroCells z.cells (cap - (0 + n))) = cs
      have hsz : cap * 5 ≤ cs.size := by
        rw [← hcs]
        simp [Builtin.zeroCells, hzc]
        omega
      have hh : (w.drew.alloc (.cells cs (Tryz.growB_ren.t 25))).heap = w.heap.push (.cells cs 68 (0, 0)) := rfl
      have hnew : (w.heap.push (.cells cs 68 (0, 0)))[w.heap.size]? = some (.cells cs 68 (0, 0)) := by simp
      have hold : ∀ b, b < w.heap.size → (w.heap.push (.cells cs 68 (0, 0)))[b]? = w.heap[b]? := fun b hb => by rw [Array.getElem?_push_lt hb, Array.getElem?_eq_getElem hb]
      refine ⟨_, fun _ => some w.heap.size, rfl, ?_, ⟨fun id ob h => ?_, fun i j oi oj b hi hj _ _ => ?_, fun i oi b _ h hF => ?_, fun b hb => ?_⟩, ?_⟩
      · have := VA.own (w := w.drew.alloc (.cells cs (Tryz.growB_ren.t 25))) (H := G F (fun _ => some w.heap.size) [(1, some ⟨5, 68, 0, []⟩)]) (β := fun _ => some w.heap.size) (σ := [(1, some ⟨5, 68, 0, []⟩)]) (id := 1) (g := 0) (off := 0) (len := 0) (b := w.heap.size) (cap := cap) (ob := ⟨5, 68, 0, []⟩) (c := cs) (by rw [sget_one]; rfl) rfl rfl (Nat.le_refl _) (Nat.zero_le _) (by rw [hh]; exact hnew) (by show (0 + cap) * 5 ≤ _; omega)
        simpa using this
      · obtain ⟨rfl, rfl⟩ := hnone id ob h
        exact .inr ⟨w.heap.size, cs, rfl, by rw [hh]; exact hnew, by simp, fun i x hx => by simp at hx, fun i x j y hx => by simp at hx⟩
      · rw [(hnone i oi hi).1, (hnone j oj hj).1]
      · cases h; exact absurd (hm.ltF _ hF) (Nat.lt_irrefl _)
      · rw [hh, Array.size_push]; exact Nat.lt_succ_of_lt (hm.ltF b hb)
      · refine ⟨rfl, ⟨rfl, Nat.le_succ _⟩, rfl, by rw [hh, Array.size_push]; omega, fun b hb _ => by rw [hh]; exact hold b hb, fun b hb => ?_, fun b c ty h => ⟨c, by rw [hh, hold b (lt_of_heap h)]; exact h, rfl⟩⟩
        obtain ⟨m, ob, _, h⟩ := hb
        cases h; exact .inl (Nat.le_refl _)
def encLB (l : List Bid) : Tr := .sl (l.map encB) false
theorem flat_take {LL : List (List Bid)} {i : Nat} (h : i < LL.length) : (LL.take (i + 1)).flatten = (LL.take i).flatten ++ LL[i] := by
  rw [take_succ_get h, List.flatten_append]; simp
theorem flat_le {LL : List (List Bid)} (i : Nat) : (LL.take i).flatten.length ≤ LL.flatten.length := by
  have := congrArg (fun l => l.flatten.length) (List.take_append_drop i LL)
  simp only [List.flatten_append, List.length_append] at this
  omega

theorem concat_ret (LL : List (List Bid)) (hL : LL.length ≤ 1000) (hF : LL.flatten.length ≤ 100000) : Ret Tryz.prog 37 [.sl (LL.map encLB) false] (.sl (LL.flatten.map encB) false) := by
  refine ret_of_awp Tryz.func37 rfl (Nat.le_of_ble_eq_true rfl) ?_
  refine awp_seq ?_
  refine awp_rw rfl ?_
  refine asT ?_
  refine RW.nil ?_
  refine awp_seq ?_
  refine awp_rw rfl ?_
  refine asT ?_
  refine RW.nil ?_
  refine awp_seq ?_
  refine awp_seq ?_
  refine awp_rw rfl ?_
  refine mvT ?_
  refine RW.op rfl rfl (eff_lenM rfl rfl te108 rfl) ?_
  refine mvT ?_
  refine RW.nil ?_
  refine awp_block ?_
  refine awp_loopW (fun m s => ∃ (i : Nat), (i ≤ LL.length) ∧ m = LL.length - i ∧ s = ⟨36, [(0, .t (.sl (LL.map encLB) false)), (3, .t (encI ((LL.take i).flatten.length : Nat))), (9, .t (.sl (LL.map encLB) false)), (10, .t (encI LL.length)), (11, .t (encI (i : Nat)))], []⟩) (_) (⟨_, weak_keep (n := 36) (fr' := [(0, .t (.sl (LL.map encLB) false)), (3, .t (encI ((LL.take 0).flatten.length : Nat))), (9, .t (.sl (LL.map encLB) false)), (10, .t (encI LL.length)), (11, .t (encI (0 : Nat)))]) (st' := []) ⟨rfl, rfl, rfl, rfl, rfl, rfl, rfl, rfl, rfl, rfl, trivial⟩ trivial, 0, (by omega), rfl, rfl⟩) ?_
  rintro m s ⟨i, hi, rfl, rfl⟩
  have hfl := flat_le (LL := LL) i
  have hfl2 := flat_le (LL := LL) (i + 1)
  refine awp_seq ?_
  refine awp_rw rfl ?_
  refine ioT ?_
  refine RW.nil ?_
  refine awp_seq ?_
  refine awp_cond rfl (fun h1 => ?_) (fun h1 => ?_)
  · try simp only [cl] at h1
    refine awp_skip ?_
    refine awp_seq ?_
    refine awp_block ?_
    refine awp_seq ?_
    refine awp_rw rfl ?_
    have hil : i < LL.length := by omega
    have hft : (LL.take (i + 1)).flatten.length = (LL.take i).flatten.length + LL[i].length := by rw [flat_take hil, List.length_append]
    refine RW.op rfl rfl (eff_indexAddrT (i := i) rfl rfl te108 rfl rfl (by first | rfl | omega) (by exact (List.getElem?_map ..).trans (by rw [List.getElem?_eq_getElem hil]; rfl)) rfl (by decide)) ?_
    refine RW.op rfl rfl (eff_loadW1 rfl rfl ti45 rfl rfl) ?_
    refine asT ?_
    refine RW.nil ?_
    refine awp_seq ?_
    refine awp_rw rfl ?_
    refine mvT ?_
    refine mvT ?_
    refine RW.op rfl rfl (eff_lenM (xs := LL[i]'hil) rfl rfl te45 rfl) ?_
    refine RW.op rfl rfl (eff_iop (r := encI (((LL.take i).flatten.length + (LL[i]'hil).length : Nat) : Int)) rfl rfl rfl rfl (iadd (by omega))) ?_
    refine asT ?_
    refine RW.nil ?_
    refine awp_seq ?_
    refine awp_rw rfl ?_
    refine mvT ?_
    refine RW.op rfl rfl (eff_iop (r := .bool false) rfl rfl rfl rfl (by simp [iop]; omega)) ?_
    refine RW.nil ?_
    refine awp_cond rfl (fun h => nomatch h) (fun _ => ?_)
    refine awp_skip ?_
    refine awp_rw rfl ?_
    refine RW.op rfl rfl (eff_iop rfl rfl rfl rfl (iadd (by omega))) ?_
    refine mvT ?_
    refine RW.nil ?_
    refine ⟨_, ?_, _, weak_keep (n := 36) (fr' := [(0, .t (.sl (LL.map encLB) false)), (3, .t (encI ((LL.take (i + 1)).flatten.length : Nat))), (9, .t (.sl (LL.map encLB) false)), (10, .t (encI LL.length)), (11, .t (encI ((i + 1) : Nat)))]) (st' := []) ⟨rfl, rfl, (by rw [hft]; rfl), rfl, rfl, rfl, rfl, rfl, rfl, rfl, trivial⟩ trivial, i + 1, by omega, rfl, rfl⟩
    omega
  · try simp only [cl] at h1
    refine awp_exit ?_
    refine awp_seq ?_
    refine awp_rw rfl ?_
    have hfl := flat_le (LL := LL) i
    refine mvT ?_
    refine RW.new rfl rfl (eff_callG (growB_retG (LL.take i).flatten.length (by omega)) co63 (fun _ => 6) rfl rfl rfl ⟨.t _, .t _, trivial⟩ (.own _ _ _ _ rfl rfl) rfl trivial ⟨⟨(fun x hx => by cases hx), .inr rfl⟩, trivial⟩) ?_
    refine asO ?_
    refine RW.nil ?_
    refine awp_seq ?_
    refine awp_seq ?_
    refine awp_rw rfl ?_
    refine mvT ?_
    refine RW.op rfl rfl (eff_lenM rfl rfl te108 rfl) ?_
    refine mvT ?_
    refine RW.nil ?_
    refine awp_block ?_
    refine awp_loopW (fun m s => ∃ (k : Nat) (els : List AV) (n : Nat), (k ≤ LL.length) ∧ (els = ((LL.take k).flatten.map encB).map .t) ∧ (n = (LL.take k).flatten.length) ∧ m = LL.length - k ∧ s = ⟨36, [(6, .own 6 k 0 n), (25, .t (.sl (LL.map encLB) false)), (26, .t (encI LL.length)), (27, .t (encI (k : Nat)))], [(6, some ⟨5, 68, k, els⟩)]⟩) (_) (⟨_, weak_keep (n := 36) (fr' := [(6, .own 6 0 0 0), (25, .t (.sl (LL.map encLB) false)), (26, .t (encI LL.length)), (27, .t (encI (0 : Nat)))]) (st' := [(6, some ⟨5, 68, 0, ([])⟩)]) ⟨rfl, rfl, rfl, rfl, rfl, rfl, rfl, rfl, trivial⟩ ⟨rfl, (by first | exact okE_nil | (rw [he]; intro x hx; first | (obtain ⟨y, _, rfl⟩ := List.mem_map.1 hx; rfl) | (rcases List.mem_append.1 hx with h | h <;> (obtain ⟨y, _, rfl⟩ := List.mem_map.1 h; rfl)))), trivial⟩, 0, [], 0, (by omega), (by rfl), (by rfl), rfl, rfl⟩) ?_
    rintro m s ⟨k, els, n, hk, he, hnn, rfl, rfl⟩
    have hfl := flat_le (LL := LL) k
    have hfl2 := flat_le (LL := LL) (k + 1)
    refine awp_seq ?_
    refine awp_rw rfl ?_
    refine ioT ?_
    refine RW.nil ?_
    refine awp_seq ?_
    refine awp_cond rfl (fun h2 => ?_) (fun h2 => ?_)
    · try simp only [cl] at h2
      refine awp_skip ?_
      refine awp_seq ?_
      refine awp_block ?_
      refine awp_seq ?_
      refine awp_rw rfl ?_
      have hkl : k < LL.length := by omega
      refine RW.op rfl rfl (eff_indexAddrT (i := k) rfl rfl te108 rfl rfl (by first | rfl | omega) (by exact (List.getElem?_map ..).trans (by rw [List.getElem?_eq_getElem hkl]; rfl)) rfl (by decide)) ?_
      refine RW.op rfl rfl (eff_loadW1 rfl rfl ti45 rfl rfl) ?_
      refine asT ?_
      refine RW.nil ?_
      refine awp_rw rfl ?_
      refine mvO ?_
      refine mvT ?_
      refine RW.new rfl rfl (eff_appendAny (id := 6) rfl rfl ta45 rfl rfl rfl (by rw [he, hnn, List.length_map, List.length_map]) rfl rfl (srcM (l := LL[k]'hkl) (g := encB) rfl (fun _ => rfl)) (by have hg := congrArg List.length (flat_take hkl); simp only [List.length_append] at hg; simp only [List.length_map]; omega) (by have hg := congrArg List.length (flat_take hkl); simp only [List.length_append] at hg; simp only [List.length_map]; omega)) ?_
      refine asO ?_
      refine RW.nil ?_
      refine awp_rw rfl ?_
      refine RW.op rfl rfl (eff_iop rfl rfl rfl rfl (iadd (by omega))) ?_
      refine mvT ?_
      refine RW.nil ?_
      refine ⟨_, ?_, _, weak_keep (n := 36) (fr' := [(6, .own 6 (k + 1) 0 _), (25, .t (.sl (LL.map encLB) false)), (26, .t (encI LL.length)), (27, .t (encI ((k + 1) : Nat)))]) (st' := [(6, some ⟨5, 68, (k + 1), _⟩)]) ⟨rfl, rfl, rfl, rfl, rfl, rfl, rfl, rfl, trivial⟩ ⟨rfl, (by first | exact okE_nil | (rw [he]; intro x hx; first | (obtain ⟨y, _, rfl⟩ := List.mem_map.1 hx; rfl) | (rcases List.mem_append.1 hx with h | h <;> (obtain ⟨y, _, rfl⟩ := List.mem_map.1 h; rfl)))), trivial⟩, k + 1, _, _, (by omega), (by rw [flat_take hkl, he]; simp <;> rfl), (by rw [flat_take hkl, hnn]; simp), rfl, rfl⟩
      omega
    · try simp only [cl] at h2
      refine awp_exit ?_
      refine awp_seq ?_
      refine awp_rw rfl ?_
      refine mvO ?_
      refine asO ?_
      refine RW.nil ?_
      refine awp_ret ?_
      obtain rfl : k = LL.length := by omega
      rw [List.take_length] at he hnn
      exact ⟨Or.inr rfl, [_], ⟨.tmp (Res.ownT (xs := LL.flatten.map encB) rfl rfl he (by rw [hnn, List.length_map])), trivial⟩, .refl _⟩

end Go.Tv.C37p

end
section
open Go Go.Tv Go.Tv.C37 Go.Proofs
namespace Go.Tv.C37p
set_option maxRecDepth 20000
set_option maxHeartbeats 2000000
set_option linter.unusedSimpArgs false
set_option linter.unusedVariables false
theorem any_toI (l : List Nat) (n : Int) : (l.any fun x : Nat => decide ((x : Int) = n)) = decide (n ∈ toI l) := by
  by_cases h : n ∈ toI l
  · rw [decide_eq_true h, List.any_eq_true]
    obtain ⟨x, hx, rfl⟩ := List.mem_map.1 h
    exact ⟨x, hx, by simp⟩
  · rw [decide_eq_false h, List.any_eq_false]
    intro x hx e
    exact h (List.mem_map.2 ⟨x, hx, of_decide_eq_true e⟩)
theorem containsT_ret (l : List Nat) (n : Int) (hl : l.length ≤ 100000) : Ret Tryz.prog 36 [.sl ((toI l).map encI) false, encI n] (.bool (decide (n ∈ toI l))) := by
  have h := containsI_ret l n hl
  rw [any_toI, encN_map] at h
  exact h
noncomputable def priceZ (B : List Bid) (s i : Int) : Int := if i ∈ toI (bestF B s) then priceF B s i.toNat else 0
theorem others_len {B : List Bid} {i : Nat} (hi : i < B.length) : (othersF B i).length = B.length - 1 := by
  unfold othersF; rw [List.length_append, List.length_take, List.length_drop]; omega
theorem others_sub {B : List Bid} {i : Nat} (hi : i < B.length) : (othersF B i).Sublist B := by
  unfold othersF
  conv => rhs; rw [split_get hi]
  exact (List.Sublist.refl _).append (List.sublist_cons_self _ _)
theorem best_len {B : List Bid} {s : Int} (hB : OkL B) : (bestF B s).length ≤ B.length :=
  incr_len (best_lead hB.ok).inc (fun j hj => ((best_comp hB.ok).1 j hj).1)

theorem price_ret (B : List Bid) (sn i : Int) (hB : OkL B) : Ret Tryz.prog 15 [.sl (B.map encB) false, encI sn, encI i] (encI (priceZ B sn i)) := by
  refine ret_of_awp Tryz.func15 rfl (Nat.le_of_ble_eq_true rfl) ?_
  refine awp_seq ?_
  refine awp_rw rfl ?_
  refine asT ?_
  refine RW.nil ?_
  refine awp_seq ?_
  refine awp_seq ?_
  refine awp_rw rfl ?_
  refine mvT ?_
  refine mvT ?_
  refine RW.op rfl rfl (eff_callT (best_reti B sn hB) co13 rfl rfl rfl rfl) ?_
  refine mvT ?_
  refine RW.op rfl rfl (eff_callT (containsT_ret (bestF B sn) i (by have := best_len (s := sn) hB; have := hB.len; omega)) co36 rfl rfl rfl rfl) ?_
  refine RW.op rfl rfl (eff_unop rfl rfl rfl rfl) ?_
  refine RW.nil ?_
  refine awp_cond rfl (fun h1 => ?_) (fun h1 => ?_)
  · try simp only [cl] at h1
    refine awp_seq ?_
    refine awp_rw rfl ?_
    refine asT ?_
    refine RW.nil ?_
    refine awp_ret ?_
    rw [show priceZ B sn i = 0 from if_neg (by assumption)]
    exact ⟨Or.inr rfl, [_], ⟨.tmp (.t _), trivial⟩, .refl _⟩
  · try simp only [cl] at h1
    refine awp_skip ?_
    refine awp_seq ?_
    obtain ⟨n, hn, rfl⟩ := List.mem_map.1 (show i ∈ toI (bestF B sn) by first | assumption | exact Classical.not_not.1 (by assumption))
    have hnl := ((best_comp (s := sn) hB.ok).1 n hn).1
    have hBl := hB.len
    have hol := others_len hnl
    have hOo := hB.sub (others_sub hnl)
    have hr1 := (hOo.at sn).opt_range
    have hr2 := (hB.at sn).opt_range
    have hvb := hB.lim _ (List.getElem_mem hnl)
    have hvo := (hB.ok _ (List.getElem_mem hnl)).2
    refine awp_rd [(some 14, []), (some 15, []), (some 16, []), (some 17, []), (some 18, []), (some 19, []), (some 20, []), (some 21, []), (some 22, []), (some 7, [])] [[], [], [0, 1], [], [], [4], [3, 4, 5], [0, 1, 2, 3, 4, 5, 6], [0, 1, 2, 3, 4, 5, 6, 7], [0, 1, 2, 3, 4, 5, 6, 7, 8]] tm rfl rfl rfl rfl ?_
    refine mvD ?_
    refine mvD ?_
    refine RD.op rfl rfl rfl (eff_sliceM (l := none) (h := some n) (r := B.take n) rfl rfl te45 rfl (fun _ => rfl) .no (.yes rfl rfl) (Nat.zero_le _) (by show n ≤ B.length; omega) (by simp)) ?_
    refine mvD ?_
    refine mvD ?_
    refine RD.op rfl rfl rfl (eff_iop rfl rfl rfl rfl (iadd (by omega))) ?_
    refine RD.op rfl rfl rfl (eff_sliceM (l := some (n + 1)) (h := none) (r := B.drop (n + 1)) rfl rfl te45 rfl (fun _ => rfl) (.yes rfl (by first | rfl | omega)) .no (by show n + 1 ≤ B.length; omega) (Nat.le_refl _) (by simp)) ?_
    refine RD.op rfl rfl rfl (eff_buildSliceT (xs := [.sl ((B.take n).map encB) false, .sl ((B.drop (n + 1)).map encB) false]) rfl rfl te108 tz45 rfl (by decide) rfl rfl rfl (by decide)) ?_
    refine RD.op rfl rfl rfl (eff_callW (xs := [_]) (concat_ret [B.take n, B.drop (n + 1)] (by simp) (by simp; omega)) co37 rfl rfl rfl rfl (by repeat' first | exact trivial | exact Wk.refl _ | exact Wk.sl _ | refine And.intro ?_ ?_ | refine Wk.aggP ?_)) ?_
    refine RD.op rfl rfl rfl (eff_assign (v := .t _) rfl rfl rfl) ?_
    refine RD.nil ?_
    show AWP _ _ _ _
    rw [show ([B.take n, B.drop (n + 1)] : List (List Bid)).flatten = othersF B n from by simp [othersF]]
    refine awp_seq ?_
    refine awp_rd [(some 23, []), (some 24, []), (some 25, []), (some 26, []), (some 27, []), (some 28, []), (some 29, []), (some 30, []), (some 31, []), (some 32, []), (some 33, []), (some 34, []), (some 35, []), (some 36, []), (some 37, []), (some 6, [])] [[], [], [0, 1], [0, 1, 2], [], [], [0, 1, 2, 3, 4, 5], [0, 1, 2, 3, 4, 5, 6], [0, 1, 2, 3, 4, 5, 6, 7], [], [], [9, 10], [9, 10, 11], [9, 10, 11, 12], [0, 1, 2, 3, 4, 5, 6, 7, 8, 9, 10, 11, 12, 13], [0, 1, 2, 3, 4, 5, 6, 7, 8, 9, 10, 11, 12, 13, 14]] tm rfl rfl rfl rfl ?_
    refine mvD ?_
    refine mvD ?_
    refine RD.op rfl rfl rfl (eff_callT (at_ret (othersF B n) sn (by omega)) co29 rfl rfl rfl rfl) ?_
    refine RD.op rfl rfl rfl (eff_callT (optimum_ret (atS (othersF B n) sn) (hOo.at sn)) co30 rfl rfl rfl rfl) ?_
    refine mvD ?_
    refine mvD ?_
    refine RD.op rfl rfl rfl (eff_callT (at_ret B sn (by omega)) co29 rfl rfl rfl rfl) ?_
    refine RD.op rfl rfl rfl (eff_callT (optimum_ret (atS B sn) (hB.at sn)) co30 rfl rfl rfl rfl) ?_
    refine RD.op rfl rfl rfl (eff_iop rfl rfl rfl rfl (isub (by omega))) ?_
    refine mvD ?_
    refine mvD ?_
    refine RD.op rfl rfl rfl (eff_indexAddrT (i := n) rfl rfl te45 rfl rfl (by first | rfl | omega) (by rw [List.getElem?_map, List.getElem?_eq_getElem hnl]; rfl) rfl (by decide)) ?_
    refine RD.op rfl rfl rfl (eff_fieldAddrT rfl rfl tf68_4 (by decide) rfl) ?_
    refine RD.op rfl rfl rfl (eff_loadT1 rfl rfl ti3 rfl rfl) ?_
    refine RD.op rfl rfl rfl (eff_iop rfl rfl rfl rfl (iadd (by omega))) ?_
    refine RD.op rfl rfl rfl (eff_assign (v := .t _) rfl rfl rfl) ?_
    refine RD.nil ?_
    refine awp_ret ?_
    rw [show priceZ B sn (n : Int) = oF B sn n - optOf (atS B sn) + (B[n]'hnl).val from by unfold priceZ priceF; rw [if_pos (show (n : Int) ∈ toI (bestF B sn) from List.mem_map.2 ⟨n, hn, rfl⟩), Int.toNat_natCast, if_pos hn, getD_zb hnl]]
    exact ⟨Or.inr rfl, [_], ⟨.tmp (.t _), trivial⟩, .refl _⟩

end Go.Tv.C37p

end
section
open Go Go.Tv Go.Tv.C37 Go.Proofs
namespace Go.Tv.C37p
set_option maxRecDepth 20000
set_option maxHeartbeats 2000000
set_option linter.unusedSimpArgs false
set_option linter.unusedVariables false
theorem OkL.vb {B : List Bid} (hB : OkL B) : ∀ b, b ∈ B → 0 ≤ b.val ∧ b.val ≤ 1000000 := fun b hb => ⟨by have := (hB.ok b hb).2; omega, (hB.lim b hb).1⟩
end Go.Tv.C37p

end
