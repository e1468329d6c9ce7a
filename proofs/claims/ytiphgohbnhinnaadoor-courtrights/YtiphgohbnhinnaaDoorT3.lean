/- CourtRights: for every input that reads as data, the call returns true and leaves its arguments as they were. No condition. -/
import Derived.Test.YtiphgohbnhinnaaDoorT2
import Derived.Test.YtiphgohbnhinnaaDoorT1
import Derived.Test.YtiphgohbnhinnaaDoorRows
import Derived.ProofKit
import Derived.Test.YtiphgohbnhinnaaDoorTie
import Derived.Test.YtiphgohbnhinnaaDoorCards
import Derived.SevenTiedAt
set_option linter.unnecessarySimpa false
set_option linter.unusedVariables false
set_option linter.unusedSimpArgs false
section
open Go Go.Tv Go.Proofs
namespace Go.Tv.C36
set_option maxRecDepth 20000
set_option maxHeartbeats 2000000
set_option linter.unusedSimpArgs false
set_option linter.unusedVariables false
theorem spread_ret (l : List Rep) (f : Frm) (hl : Srt l) (hp : ∀ y, y ∈ l → HP y) : RetT Tryd.prog 71 [(1, deT)] [mset l, encF f] (mset (stepF l f)) := by
  refine retT_of_awr Tryd.func71 rfl (Nat.le_of_ble_eq_true rfl) ?_
  intro F0 w0
  refine awj_openS 0 (l := l) rfl (fun b0 lp hperm => ?_)
  refine awj_seq ?_
  refine awj_rj rfl ?_
  refine RJ.new rfl rfl (eff_boxK (v := .t _) (k := 5) (id := 3) rfl rfl rfl rfl rfl rfl) ?_
  refine RJ.op rfl rfl (eff_assign (v := .junk) rfl rfl rfl) ?_
  refine RJ.nil ?_
  refine awj_seq ?_
  refine awj_rj rfl ?_
  refine RJ.sMake rfl rfl rfl rfl (fun rO hrO => ?_)
  refine RJ.op rfl rfl (eff_assign (v := .t _) rfl rfl rfl) ?_
  refine RJ.nil ?_
  refine awj_seq ?_
  refine awj_seq ?_
  refine awj_rj rfl ?_
  refine RJ.op rfl rfl (eff_move (v := .t _) rfl rfl rfl) ?_
  refine RJ.sRange rfl rfl rfl rfl Tryd.underlying98 rfl (fun rI hrI => ?_)
  refine RJ.nil ?_
  show AWJ _ _ _ _ _ _ _ _
  have hne : rO ≠ rI := by intro e; subst e; rw [gget_same] at hrI; cases hrI
  refine awj_block ?_
  refine awj_loopW (fun m s g => ∃ (seen : List Nat) (cur : List Rep), (gget g rO = some (mapO KR XU (setL cur))) ∧ (gget g rI = some (itM b0 lp.length seen)) ∧ (seen.Nodup) ∧ (∀ j, j ∈ seen → j < lp.length) ∧ (cameF lp f seen cur) ∧ m = lp.length - seen.length ∧ s = ⟨21, [(3, .ptr 3 0 0 0), (5, .t (.mp rO)), (8, .t (.mpx b0 (mapL KR XU (setL lp)))), (9, .t (.adr rI 0)), (22, .t deT)], [(3, some ⟨5, 45, 0, [.t (encF f)]⟩)]⟩) (_) (⟨_, weak_keep (n := 21) (fr' := [(3, .ptr 3 0 0 0), (5, .t (.mp rO)), (8, .t (.mpx b0 (mapL KR XU (setL lp)))), (9, .t (.adr rI 0)), (22, .t deT)]) (st' := [(3, some ⟨5, 45, 0, [.t (encF f)]⟩)]) ⟨rfl, rfl, rfl, rfl, rfl, rfl, rfl, rfl, rfl, rfl, trivial⟩ ⟨rfl, okE_one rfl, trivial⟩, [], [], (by rw [gget_ne _ _ (Ne.symm hne)]; exact gget_same _ _ _), (by exact gget_same _ _ _), (by exact List.nodup_nil), (by intro j hj; simp at hj), (by exact cameF_nil _ _), rfl, rfl⟩) ?_
  rintro m s g ⟨seen, cur, hgO, hgI, hsn, hsb, hcm, rfl, rfl⟩
  refine awj_seq ?_
  refine awj_rj rfl ?_
  refine RJ.sNext (.tmp 8) rfl rfl rfl rfl rfl rfl hgI ?_ ?_
  · intro hall
    refine RJ.op rfl rfl (eff_extract rfl rfl rfl rfl) ?_
    refine RJ.nil ?_
    refine awj_seq ?_
    refine awj_cond rfl (fun h => nomatch h) (fun _ => ?_)
    refine awj_exit ?_
    refine awj_seq ?_
    refine awj_rj rfl ?_
    refine RJ.op rfl rfl (eff_move (v := .t _) rfl rfl rfl) ?_
    refine RJ.op rfl rfl (eff_assign (v := .t _) rfl rfl rfl) ?_
    refine RJ.nil ?_
    show AWJ _ _ _ _ _ _ _ _
    refine awj_freezeS 4 (l0 := cur) (stepF l f) rfl hgO (cameF_end hl hperm hcm hall) ?_
    refine awj_ret ?_
    exact ⟨Or.inr rfl, [_], ⟨.tmp (.t _), trivial⟩, .refl _⟩
  · intro q hq hqs
    refine RJ.op rfl rfl (eff_extract rfl rfl rfl rfl) ?_
    refine RJ.nil ?_
    refine awj_seq ?_
    refine awj_cond rfl (fun _ => ?_) (fun h => nomatch h)
    refine awj_skip ?_
    refine awj_block ?_
    refine awj_seq ?_
    refine awj_rj rfl ?_
    refine RJ.sEntry (.tmp 8) (seen := seen) hq rfl rfl rfl rfl rfl rfl (gget_same _ _ _) ?_
    refine RJ.op rfl rfl (eff_extract rfl rfl rfl rfl) ?_
    refine RJ.new rfl rfl (eff_allocK (k := 4) (id := 6) rfl rfl tz23 rfl rfl) ?_
    refine RJ.store rfl rfl (eff_storeW (v := .t _) (els := [_]) (els' := [_]) rfl rfl ti23 rfl rfl rfl rfl rfl rfl rfl rfl rfl) ?_
    refine RJ.nil ?_
    refine awj_seq ?_
    refine awj_rj rfl ?_
    refine RJ.op rfl rfl (eff_move (v := .t _) rfl rfl rfl) ?_
    refine RJ.op rfl rfl (eff_load rfl rfl ti23 rfl (.whole rfl rfl rfl rfl rfl rfl)) ?_
    refine RJ.sPut lp[q] cur rfl rfl (.inl rfl) Tryd.underlying98 rfl rfl rfl (by rw [gget_ne _ _ (Ne.symm hne)]; exact hgO) ?_
    refine RJ.nil ?_
    refine awj_rj rfl ?_
    refine RJ.op rfl rfl (eff_move (v := .t _) rfl rfl rfl) ?_
    refine RJ.op rfl rfl (eff_load rfl rfl ti23 rfl (.whole rfl rfl rfl rfl rfl rfl)) ?_
    refine RJ.op rfl rfl (eff_load rfl rfl ti45 rfl (.whole rfl rfl rfl rfl rfl rfl)) ?_
    refine RJ.op rfl rfl (eff_callXT (apply_ret _ _ (hp _ (hperm.mem_iff.1 (List.getElem_mem _)))) co77 rfl rfl rfl ⟨rfl, trivial⟩ rfl) ?_
    refine RJ.sPut (apply lp[q] f) (ins cur lp[q]) rfl rfl (.inl rfl) Tryd.underlying98 rfl rfl rfl (gget_same _ _ _) ?_
    refine RJ.nil ?_
    refine ⟨_, ?_, _, weak_keep (n := 21) (fr' := [(3, .ptr 3 0 0 0), (5, .t (.mp rO)), (8, .t (.mpx b0 (mapL KR XU (setL lp)))), (9, .t (.adr rI 0)), (22, .t deT)]) (st' := [(3, some ⟨5, 45, 0, [.t (encF f)]⟩)]) ⟨rfl, rfl, rfl, rfl, rfl, rfl, rfl, rfl, rfl, rfl, trivial⟩ ⟨rfl, okE_one rfl, trivial⟩, seen ++ [q], ins (ins cur lp[q]) (apply lp[q] f), (by exact gget_same _ _ _), (by rw [gget_ne _ _ hne, gget_ne _ _ hne]; exact gget_same _ _ _), (by exact seen_nodup hsn hqs), (by exact seen_bound hsb hq), (by exact cameF_step hcm hq), rfl, rfl⟩
    have hsl := seen_lt hsn hsb hq hqs
    simp only [List.length_append, List.length_singleton]
    omega

end Go.Tv.C36

end
section
open Go Go.Tv Go.Proofs
namespace Go.Tv.C36
set_option maxRecDepth 20000
set_option maxHeartbeats 2000000
set_option linter.unusedSimpArgs false
set_option linter.unusedVariables false
theorem sorted_ret (l : List Rep) (hl : Srt l) (hll : l.length ≤ 100000) : Ret Tryd.prog 74 [mset l] (.sl (l.map encR) false) := by
  refine ret_of_awr Tryd.func74 rfl (Nat.le_of_ble_eq_true rfl) ?_
  intro F0 w0
  refine awj_openS 0 (l := l) rfl (fun b0 lp hperm => ?_)
  have hpl := hperm.length_eq
  refine awj_seq ?_
  refine awj_rj rfl ?_
  refine RJ.op rfl rfl (eff_assign (v := .t _) rfl rfl rfl) ?_
  refine RJ.nil ?_
  refine awj_seq ?_
  refine awj_rj rfl ?_
  refine RJ.op rfl rfl (eff_assign (v := .t _) rfl rfl rfl) ?_
  refine RJ.nil ?_
  show AWJ _ _ _ _ _ _ _ _
  refine awj_weak (weak_adopt (d := 3) (id := 3) (k := 4) (ty := 23) rfl rfl) ?_
  refine awj_seq ?_
  refine awj_seq ?_
  refine awj_rj rfl ?_
  refine RJ.op rfl rfl (eff_move (v := .t _) rfl rfl rfl) ?_
  refine RJ.sRange rfl rfl rfl rfl Tryd.underlying98 rfl (fun rI hrI => ?_)
  refine RJ.nil ?_
  refine awj_block ?_
  refine awj_loopW (fun m s g => ∃ (seen : List Nat) (gn : Nat) (n : Nat) (els : List AV), (gget g rI = some (itM b0 lp.length seen)) ∧ (seen.Nodup) ∧ (∀ j, j ∈ seen → j < lp.length) ∧ (n = seen.length) ∧ (els = ((pick lp seen).map encR).map .t) ∧ m = lp.length - seen.length ∧ s = ⟨18, [(3, .own 3 gn 0 n), (5, .t (.mpx b0 (mapL KR XU (setL lp)))), (6, .t (.adr rI 0))], [(3, some ⟨4, 23, gn, els⟩)]⟩) (_) (⟨_, weak_keep (n := 18) (fr' := [(3, .own 3 0 0 0), (5, .t (.mpx b0 (mapL KR XU (setL lp)))), (6, .t (.adr rI 0))]) (st' := [(3, some ⟨4, 23, 0, ([])⟩)]) ⟨rfl, rfl, rfl, rfl, rfl, rfl, trivial⟩ ⟨rfl, (by first | exact okE_nil | (rw [he]; exact okE_t) | (rw [he]; intro x hx; simp only [List.mem_append, List.mem_map, List.mem_singleton] at hx; rcases hx with ⟨y, _, rfl⟩ | rfl <;> rfl)), trivial⟩, [], 0, 0, [], (by exact gget_same _ _ _), (by exact List.nodup_nil), (by intro j hj; simp at hj), (by rfl), (by rfl), rfl, rfl⟩) ?_
  rintro m s g ⟨seen, gn, n, els, hgI, hsn, hsb, hnn, he, rfl, rfl⟩
  refine awj_seq ?_
  refine awj_rj rfl ?_
  refine RJ.sNext (.tmp 5) rfl rfl rfl rfl rfl rfl hgI ?_ ?_
  · intro hall
    refine RJ.op rfl rfl (eff_extract rfl rfl rfl rfl) ?_
    refine RJ.nil ?_
    refine awj_seq ?_
    refine awj_cond rfl (fun h => nomatch h) (fun _ => ?_)
    refine awj_exit ?_
    refine awj_seq ?_
    refine awj_rj rfl ?_
    have hpa := pick_all hsn hsb hall ((hperm.nodup_iff).2 (srt_nodup hl))
    have hso : sortA cmpR (pick lp seen) = l := sort_srt hl (hpa.trans hperm)
    have hpn : (pick lp seen).length = l.length := (hpa.trans hperm).length_eq
    have hnl : n = (pick lp seen).length := by rw [hnn, pick_len hsb]
    refine RJ.op rfl rfl (eff_move (v := .own _ _ _ _) rfl rfl rfl) ?_
    refine RJ.new rfl rfl (eff_sortFunc Tryd.sortIv (cells := cellsR) (k := 4) (fun _ => rfl) (by decide) (cf := cmpR) cmpR_swo (g := 81) compare_ret co81 ti23 (id := 3) (gen := gn) (pick lp seen) (by omega) rfl co80 rfl rfl rfl rfl rfl rfl (he.trans (sortEls_eq _).symm) hnl ((sortEls_eq _).trans (by rw [hso]))) ?_
    refine RJ.nil ?_
    refine awj_seq ?_
    refine awj_rj rfl ?_
    refine RJ.op rfl rfl (eff_move (v := .own _ _ _ _) rfl rfl rfl) ?_
    refine RJ.op rfl rfl (eff_assign (v := .own _ _ _ _) rfl rfl rfl) ?_
    refine RJ.nil ?_
    refine awj_ret ?_
    exact ⟨Or.inr rfl, [_], ⟨.tmp (Res.ownT (xs := l.map encR) rfl rfl rfl (by rw [hnl, hpn]; simp)), trivial⟩, .refl _⟩
  · intro q hq hqs
    refine RJ.op rfl rfl (eff_extract rfl rfl rfl rfl) ?_
    refine RJ.nil ?_
    refine awj_seq ?_
    refine awj_cond rfl (fun _ => ?_) (fun h => nomatch h)
    refine awj_skip ?_
    refine awj_block ?_
    refine awj_seq ?_
    refine awj_rj rfl ?_
    refine RJ.sEntry (.tmp 5) (seen := seen) hq rfl rfl rfl rfl rfl rfl (gget_same _ _ _) ?_
    refine RJ.op rfl rfl (eff_extract rfl rfl rfl rfl) ?_
    refine RJ.new rfl rfl (eff_allocK (k := 4) (id := 4) rfl rfl tz23 rfl rfl) ?_
    refine RJ.store rfl rfl (eff_storeW (v := .t _) (els := [_]) (els' := [_]) rfl rfl ti23 rfl rfl rfl rfl rfl rfl rfl rfl rfl) ?_
    refine RJ.nil ?_
    refine awj_rj rfl ?_
    have hsl2 := seen_lt hsn hsb hq hqs
    refine RJ.op rfl rfl (eff_move (v := .own _ _ _ _) rfl rfl rfl) ?_
    refine RJ.op rfl rfl (eff_load rfl rfl ti23 rfl (.whole rfl rfl rfl rfl rfl rfl)) ?_
    refine RJ.new rfl rfl (eff_buildSliceL (id := 13) (els := [.t (.agg [_, _, _, _])]) rfl rfl te33 tz23 rfl (by decide) (by decide) rfl rfl rfl rfl) ?_
    refine RJ.new rfl rfl (eff_append (id := 3) (ys := [_]) rfl rfl ta33 rfl rfl rfl (by rw [he, hnn]; simp [pick_len hsb]) rfl rfl (srcOwn rfl rfl rfl rfl rfl rfl) (by simp) (by simp; omega) (by simp; omega)) ?_
    refine RJ.op rfl rfl (eff_assign (v := .own _ _ _ _) rfl rfl rfl) ?_
    refine RJ.nil ?_
    refine ⟨_, ?_, _, weak_keep (n := 18) (fr' := [(3, .own 3 _ 0 _), (5, .t (.mpx b0 (mapL KR XU (setL lp)))), (6, .t (.adr rI 0))]) (st' := [(3, some ⟨4, 23, _, _⟩)]) ⟨rfl, rfl, rfl, rfl, rfl, rfl, trivial⟩ ⟨rfl, (by first | exact okE_nil | (rw [he]; exact okE_t) | (rw [he]; intro x hx; simp only [List.mem_append, List.mem_map, List.mem_singleton] at hx; rcases hx with ⟨y, _, rfl⟩ | rfl <;> rfl)), trivial⟩, seen ++ [q], _, _, _, (by exact gget_same _ _ _), (by exact seen_nodup hsn hqs), (by exact seen_bound hsb hq), (by rw [hnn]; simp), (by rw [pick_step hq, he]; simp <;> rfl), rfl, rfl⟩
    have hsl := seen_lt hsn hsb hq hqs
    simp only [List.length_append, List.length_singleton]
    omega

theorem reach_ret (x : Rep) (l : List Frm) (hx : HP x) (hl : l.length ≤ 1000000) : RetT Tryd.prog 75 [(1, deT)] [encR x, .sl (l.map encF) false] (mset (reachF x l)) := by
  refine retT_of_awr Tryd.func75 rfl (Nat.le_of_ble_eq_true rfl) ?_
  intro F0 w0
  refine awj_seq ?_
  refine awj_rj rfl ?_
  refine RJ.new rfl rfl (eff_boxK (v := .t _) (k := 4) (id := 2) rfl rfl rfl rfl rfl rfl) ?_
  refine RJ.op rfl rfl (eff_assign (v := .junk) rfl rfl rfl) ?_
  refine RJ.nil ?_
  refine awj_seq ?_
  refine awj_rj rfl ?_
  refine RJ.sMake rfl rfl rfl rfl (fun rO hrO => ?_)
  refine RJ.op rfl rfl (eff_load rfl rfl ti23 rfl (.whole rfl rfl rfl rfl rfl rfl)) ?_
  refine RJ.sPut x [] rfl rfl (.inr rfl) Tryd.underlying98 rfl rfl rfl (gget_same _ _ _) ?_
  refine RJ.op rfl rfl (eff_move (v := .t _) rfl rfl rfl) ?_
  refine RJ.op rfl rfl (eff_assign (v := .t _) rfl rfl rfl) ?_
  refine RJ.nil ?_
  show AWJ _ _ _ _ _ _ _ _
  refine awj_freezeS 5 (l0 := ins [] x) [x] rfl (gget_same _ _ _) (by simp [ins]) ?_
  refine awj_seq ?_
  refine awj_seq ?_
  refine awj_rj rfl ?_
  refine RJ.op rfl rfl (eff_move (v := .t _) rfl rfl rfl) ?_
  refine RJ.op rfl rfl (eff_lenM rfl rfl te62 rfl) ?_
  refine RJ.op rfl rfl (eff_move (v := .t _) rfl rfl rfl) ?_
  refine RJ.nil ?_
  refine awj_block ?_
  refine awj_loopW (fun m s g => ∃ (i : Nat) (cur : List Rep), (i ≤ l.length) ∧ (cur = reachF x (l.take i)) ∧ m = l.length - i ∧ s = ⟨22, [(5, .t (mset cur)), (11, .t (.sl (l.map encF) false)), (12, .t (encI l.length)), (13, .t (encI (i : Nat))), (23, .t deT)], []⟩) (_) (⟨_, weak_keep (n := 22) (fr' := [(5, .t (mset ([x]))), (11, .t (.sl (l.map encF) false)), (12, .t (encI l.length)), (13, .t (encI (0 : Nat))), (23, .t deT)]) (st' := []) ⟨rfl, rfl, rfl, rfl, rfl, rfl, rfl, rfl, rfl, rfl, trivial⟩ trivial, 0, [x], (by omega), (by rfl), rfl, rfl⟩) ?_
  rintro m s g ⟨i, cur, hi, ho, rfl, rfl⟩
  refine awj_seq ?_
  refine awj_rj rfl ?_
  refine RJ.op rfl rfl (eff_iop rfl rfl rfl rfl rfl) ?_
  refine RJ.nil ?_
  refine awj_seq ?_
  refine awj_cond rfl (fun h1 => ?_) (fun h1 => ?_)
  · try simp only [cl] at h1
    refine awj_skip ?_
    refine awj_seq ?_
    refine awj_block ?_
    refine awj_seq ?_
    refine awj_rj rfl ?_
    refine RJ.op rfl rfl (eff_indexM rfl rfl te62 rfl rfl rfl (by first | assumption | exact List.getElem?_eq_getElem (by omega)) rfl (by decide)) ?_
    refine RJ.op rfl rfl (eff_loadW rfl rfl ti45 rfl rfl rfl) ?_
    refine RJ.new rfl rfl (eff_allocK (k := 5) (id := 7) rfl rfl tz45 rfl rfl) ?_
    refine RJ.store rfl rfl (eff_storeW (v := .t _) (els := [_]) (els' := [_]) rfl rfl ti45 rfl rfl rfl rfl rfl rfl rfl rfl rfl) ?_
    refine RJ.nil ?_
    refine awj_rj rfl ?_
    refine RJ.op rfl rfl (eff_move (v := .t _) rfl rfl rfl) ?_
    refine RJ.op rfl rfl (eff_load rfl rfl ti45 rfl (.whole rfl rfl rfl rfl rfl rfl)) ?_
    refine RJ.op rfl rfl (eff_callXT (spread_ret cur _ (by rw [ho]; exact srt_reach _ _) (by rw [ho]; exact reach_hp hx _)) co71 rfl rfl rfl ⟨rfl, trivial⟩ rfl) ?_
    refine RJ.op rfl rfl (eff_assign (v := .t _) rfl rfl rfl) ?_
    refine RJ.nil ?_
    refine awj_rj rfl ?_
    refine RJ.op rfl rfl (eff_iop rfl rfl rfl rfl (iadd (by omega))) ?_
    refine RJ.op rfl rfl (eff_move (v := .t _) rfl rfl rfl) ?_
    refine RJ.nil ?_
    refine ⟨_, ?_, _, weak_keep (n := 22) (fr' := [(5, .t (mset (stepF cur (l[i]'(by omega))))), (11, .t (.sl (l.map encF) false)), (12, .t (encI l.length)), (13, .t (encI ((i + 1) : Nat))), (23, .t deT)]) (st' := []) ⟨rfl, rfl, rfl, rfl, rfl, rfl, rfl, rfl, rfl, rfl, trivial⟩ trivial, i + 1, stepF cur (l[i]'(by omega)), (by omega), (by rw [reachF_take (by omega), ho]), rfl, rfl⟩
    omega
  · try simp only [cl] at h1
    refine awj_exit ?_
    refine awj_seq ?_
    refine awj_rj rfl ?_
    refine RJ.op rfl rfl (eff_move (v := .t _) rfl rfl rfl) ?_
    refine RJ.op rfl rfl (eff_assign (v := .t _) rfl rfl rfl) ?_
    refine RJ.nil ?_
    refine awj_ret ?_
    have hi2 : i = l.length := by omega
    subst hi2
    rw [List.take_length] at ho
    rw [← ho]
    exact ⟨Or.inr rfl, [_], ⟨.tmp (.t _), trivial⟩, .refl _⟩

end Go.Tv.C36

end
section
open Go Go.Tv Go.Proofs
namespace Go.Tv.C36
set_option maxRecDepth 20000
set_option maxHeartbeats 2000000
set_option linter.unusedSimpArgs false
set_option linter.unusedVariables false
theorem cloneO_retG (l : List Frm) (g : Nat) (hl : l.length ≤ 100000) (h0 : 0 < l.length) : RetG Tryd.prog 78 [(0, some ⟨5, 45, g, (l.map encF).map .t⟩)] [.own 0 g 0 l.length] [(0, some ⟨5, 45, g + 1, (l.map encF).map .t⟩), (5, some ⟨5, 45, 1, (l.map encF).map .t⟩)] (.own 5 1 0 l.length) := by
  refine retG_of_awp Tryd.func78 rfl (Nat.le_of_ble_eq_true rfl) ?_
  refine awp_seq ?_
  refine awp_rw rfl ?_
  refine asT ?_
  refine RW.nil ?_
  refine awp_seq ?_
  refine awp_seq ?_
  refine awp_rw rfl ?_
  refine mvO ?_
  refine RW.op rfl rfl (eff_ownNotNil rfl rfl te62 rfl rfl rfl h0) ?_
  refine RW.nil ?_
  refine awp_cond rfl (fun h => nomatch h) (fun _ => ?_)
  refine awp_skip ?_
  refine awp_seq ?_
  refine awp_rw rfl ?_
  refine RW.new rfl rfl (eff_buildSliceL (id := 5) (els := []) rfl rfl te62 tz45 rfl (by decide) (by decide) rfl rfl rfl rfl) ?_
  refine mvO ?_
  refine RW.new rfl rfl (eff_appendAny (id := 5) rfl rfl ta62 rfl rfl rfl rfl rfl rfl (srcOwn' (ys := (l.map encF).map .t) rfl rfl rfl rfl (by simp) (by rw [List.take_of_length_le (by simp)]; rfl)) (by simp; omega) (by simp; omega)) ?_
  refine asO ?_
  refine RW.nil ?_
  refine awp_ret ?_
  refine ⟨Or.inr rfl, [_], [.own 5 1 0 l.length], ⟨.tmp rfl, trivial⟩, rfl, Weak.trans (weak_raise (id := 0) (g + 1) rfl (by omega)) ?_, rfl⟩
  exact weak_keep ⟨(by show AV.own 5 _ 0 _ = AV.own 5 1 0 l.length; congr 1; simp), rfl, trivial⟩ ⟨rfl, okE_t, rfl, okE_t, trivial⟩

theorem ownO_retG (l : List Frm) (g : Nat) (hl : l.length ≤ 100000) (h0 : 0 < l.length) (hb : ∀ f, f ∈ l → f.body.length ≤ 1000000) : RetG Tryd.prog 72 [(0, some ⟨5, 45, g, (l.map encF).map .t⟩)] [.own 0 g 0 l.length] [(0, some ⟨5, 45, g + 1, (l.map encF).map .t⟩), (5, some ⟨5, 45, 1, (l.map encF).map .t⟩)] (.own 5 1 0 l.length) := by
  refine retG_of_awp Tryd.func72 rfl (Nat.le_of_ble_eq_true rfl) ?_
  refine awp_seq ?_
  refine awp_rw rfl ?_
  refine asT ?_
  refine RW.nil ?_
  refine awp_seq ?_
  refine awp_rw rfl ?_
  refine mvO ?_
  refine RW.new2 rfl rfl (eff_callG (cloneO_retG l g hl h0) co78 (fun id => id) rfl rfl rfl ⟨.own _ _ _ _ rfl rfl, trivial⟩ (.own _ _ _ _ rfl rfl) rfl ⟨⟨rfl, treeEls_t, ⟨_, rfl, Nat.lt_succ_self _⟩⟩, trivial⟩ ⟨⟨treeEls_t, .inl rfl⟩, ⟨treeEls_t, .inr rfl⟩, trivial⟩) ?_
  refine asO ?_
  refine RW.nil ?_
  refine awp_seq ?_
  refine awp_seq ?_
  refine awp_rw rfl ?_
  refine mvO ?_
  refine RW.op rfl rfl (eff_len rfl rfl te62 rfl rfl rfl) ?_
  refine mvT ?_
  refine RW.nil ?_
  refine awp_block ?_
  refine awp_loopW (fun m s => ∃ (i : Nat), (i ≤ l.length) ∧ m = l.length - i ∧ s = ⟨23, [(0, .own 5 1 0 l.length), (7, .own 5 1 0 l.length), (8, .t (encI l.length)), (9, .t (encI (i : Nat)))], [(0, some ⟨5, 45, g + 1, (l.map encF).map .t⟩), (5, some ⟨5, 45, 1, (l.map encF).map .t⟩)]⟩) (_) (⟨_, weak_keep (n := 23) (fr' := [(0, .own 5 1 0 l.length), (7, .own 5 1 0 l.length), (8, .t (encI l.length)), (9, .t (encI (0 : Nat)))]) (st' := [(0, some ⟨5, 45, g + 1, (l.map encF).map .t⟩), (5, some ⟨5, 45, 1, (l.map encF).map .t⟩)]) ⟨rfl, rfl, rfl, rfl, rfl, rfl, rfl, rfl, trivial⟩ ⟨rfl, okE_t, rfl, okE_t, trivial⟩, 0, (by omega), rfl, rfl⟩) ?_
  rintro m s ⟨i, hi, rfl, rfl⟩
  refine awp_seq ?_
  refine awp_rw rfl ?_
  refine ioT ?_
  refine RW.nil ?_
  refine awp_seq ?_
  refine awp_cond rfl (fun h1 => ?_) (fun h1 => ?_)
  · try simp only [cl] at h1
    refine awp_skip ?_
    refine awp_seq ?_
    refine awp_block ?_
    refine awp_seq ?_
    refine awp_rw rfl ?_
    have hil : i < l.length := by omega
    have hbl := hb _ (List.getElem_mem hil)
    refine mvT ?_
    refine RW.op rfl rfl (eff_indexAddr rfl rfl te62 rfl rfl rfl rfl rfl rfl (by omega)) ?_
    refine RW.op rfl rfl (eff_load (y := .t (encF (l[i]'hil))) rfl rfl ti45 rfl (.whole rfl rfl (by rw [Nat.zero_add]; exact elF hil) rfl rfl rfl)) ?_
    refine RW.new rfl rfl (eff_allocK (k := 5) (id := 4) rfl rfl tz45 rfl rfl) ?_
    refine asT ?_
    refine RW.store rfl rfl (eff_storeW (v := .t _) (els := [_]) (els' := [_]) rfl rfl ti45 rfl rfl rfl rfl rfl rfl rfl rfl rfl) ?_
    refine RW.nil ?_
    refine awp_rw rfl ?_
    refine mvO ?_
    refine mvT ?_
    refine faT tf45_3 ?_
    refine l1T ti42 rfl rfl rfl rfl rfl (.one rfl rfl rfl rfl) ?_
    refine RW.op rfl rfl (eff_callT (cloneB_ret _ hbl) co79 rfl rfl rfl rfl) ?_
    refine RW.op rfl rfl (eff_indexAddr rfl rfl te62 rfl rfl rfl rfl rfl rfl (by omega)) ?_
    refine faT tf45_3 ?_
    refine RW.store rfl rfl (eff_storeS (v := .t _) (el := .t (encF (l[i]'hil))) (ys := [encI (l[i]'hil).seq, encI (l[i]'hil).key, .bool (l[i]'hil).unlock, .sl ((l[i]'hil).body.map encBy) false, .int .u64 (l[i]'hil).tag]) (els := (l.map encF).map .t) (els' := (l.map encF).map .t) rfl rfl ti42 rfl rfl rfl rfl rfl rfl (by rw [Nat.zero_add]; exact elF hil) (Nat.le_of_ble_eq_true rfl) rfl (by rw [Nat.zero_add]; exact setF_same hil)) ?_
    refine RW.nil ?_
    refine awp_rw rfl ?_
    refine RW.op rfl rfl (eff_iop rfl rfl rfl rfl (iadd (by omega))) ?_
    refine mvT ?_
    refine RW.nil ?_
    refine ⟨_, ?_, _, weak_keep (n := 23) (fr' := [(0, .own 5 1 0 l.length), (7, .own 5 1 0 l.length), (8, .t (encI l.length)), (9, .t (encI ((i + 1) : Nat)))]) (st' := [(0, some ⟨5, 45, g + 1, (l.map encF).map .t⟩), (5, some ⟨5, 45, 1, (l.map encF).map .t⟩)]) ⟨rfl, rfl, rfl, rfl, rfl, rfl, rfl, rfl, trivial⟩ ⟨rfl, okE_t, rfl, okE_t, trivial⟩, i + 1, (by omega), rfl, rfl⟩
    omega
  · try simp only [cl] at h1
    refine awp_exit ?_
    refine awp_seq ?_
    refine awp_rw rfl ?_
    refine mvO ?_
    refine asO ?_
    refine RW.nil ?_
    refine awp_ret ?_
    exact ⟨Or.inr rfl, [_], [.own 5 1 0 l.length], ⟨.tmp rfl, trivial⟩, rfl, weak_keep ⟨rfl, rfl, trivial⟩ ⟨rfl, okE_t, rfl, okE_t, trivial⟩, rfl⟩

theorem ownO (l : List Frm) (g n : Nat) (E : List AV) (hn : n = l.length) (hE : E = (l.map encF).map .t) (hl : l.length ≤ 100000) (h0 : 0 < l.length) (hb : ∀ f, f ∈ l → f.body.length ≤ 1000000) :
    RetG Tryd.prog 72 [(0, some ⟨5, 45, g, E⟩)] [.own 0 g 0 n] [(0, some ⟨5, 45, g + 1, E⟩), (5, some ⟨5, 45, 1, (l.map encF).map .t⟩)] (.own 5 1 0 l.length) := by
  subst hn hE; exact ownO_retG l g hl h0 hb
theorem treeEls_app {xs : List Tr} {y : Tr} {k g : Nat} {ty : TypeId} : treeEls ⟨k, ty, g, xs.map .t ++ [.t y]⟩ := by
  intro x hx
  rcases List.mem_append.1 hx with h | h
  · obtain ⟨z, _, rfl⟩ := List.mem_map.1 h; exact ⟨z, rfl⟩
  · rw [List.mem_singleton.1 h]; exact ⟨y, rfl⟩

theorem tsend_ret (t : Twn) (f : Frm) (hs : Srt t.poss) (hp : ∀ y, y ∈ t.poss → HP y) (hl : t.poss.length ≤ 1000) (hsl : t.sent.length ≤ 1000) (hb : ∀ x, x ∈ t.sent → x.body.length ≤ 1000000) (hbf : f.body.length ≤ 1000000) : RetT Tryd.prog 63 [(1, deT)] [encT t, encF f] (.tup [encT (send t f).1, encI (send t f).2]) := by
  refine retT_of_awr Tryd.func63 rfl (Nat.le_of_ble_eq_true rfl) ?_
  intro F0 w0
  refine awj_seq ?_
  refine awj_rj rfl ?_
  refine RJ.new rfl rfl (eff_boxK (v := .t _) (k := 2) (id := 2) rfl rfl rfl rfl rfl rfl) ?_
  refine RJ.new rfl rfl (eff_boxK (v := .t _) (k := 5) (id := 3) rfl rfl rfl rfl rfl rfl) ?_
  refine RJ.new rfl rfl (eff_allocK (k := 2) (id := 4) rfl rfl tz64 rfl rfl) ?_
  refine RJ.op rfl rfl (eff_assign (v := .t _) rfl rfl rfl) ?_
  refine RJ.nil ?_
  refine awj_seq ?_
  refine awj_seq ?_
  refine awj_rj rfl ?_
  refine RJ.op rfl rfl (eff_fieldAddr rfl rfl tf64_0 (by decide) rfl rfl rfl (Nat.le_of_ble_eq_true rfl)) ?_
  refine RJ.op rfl rfl (eff_load (y := .t _) rfl rfl ti62 rfl (.one rfl rfl rfl rfl)) ?_
  refine RJ.op rfl rfl (eff_lenM rfl rfl te62 rfl) ?_
  refine RJ.op rfl rfl (eff_assign (v := .t _) rfl rfl rfl) ?_
  refine RJ.nil ?_
  refine awj_seq ?_
  by_cases hc1 : 0 < t.sent.length
  · refine awj_rd [(some 13, []), (some 14, []), (some 15, []), (some 16, []), (some 17, []), (some 18, []), (some 19, []), (some 20, []), (some 21, []), (some 22, []), (some 23, []), (some 24, []), (some 25, []), (some 26, [])] [[], [0], [0, 1], [0, 1, 2], [0, 1, 2, 3], [0, 1, 2], [0, 1, 2, 5], [0, 1, 2, 3, 4, 5, 6], [0, 1, 2, 3, 4, 5, 6, 7], [0, 1, 2, 3, 4, 5, 6, 7, 8], [0, 1, 2], [0, 1, 2, 10], [0, 1, 2, 3, 4, 5, 6, 7, 8, 9, 10, 11], [0, 1, 2, 3, 4, 5, 6, 7, 8, 9, 10, 11, 12]] tm rfl rfl rfl rfl ?_
    refine mvD ?_
    refine RD.op rfl rfl rfl (eff_iop (r := .bool true) rfl rfl rfl rfl (by show some (Tr.bool (decide _)) = _; rw [decide_eq_true (by omega)])) ?_
    refine mvD ?_
    refine RD.gop rfl rfl rfl rfl rfl rfl rfl (eff_fieldAddr rfl rfl tf64_0 (by decide) rfl rfl rfl (Nat.le_of_ble_eq_true rfl)) ?_
    refine RD.gop rfl rfl rfl rfl rfl rfl rfl (eff_load (y := .t _) rfl rfl ti62 rfl (.one rfl rfl rfl rfl)) ?_
    refine RD.gop rfl rfl rfl rfl rfl rfl rfl (eff_move (v := .t _) rfl rfl rfl) ?_
    refine RD.gop rfl rfl rfl rfl rfl rfl rfl (eff_iop rfl rfl rfl rfl (isub (by omega))) ?_
    refine RD.gop rfl rfl rfl rfl rfl rfl rfl (eff_indexM (i := t.sent.length - 1) rfl rfl te62 rfl rfl (by first | rfl | omega) (by exact List.getElem?_eq_getElem (by omega)) rfl (by decide)) ?_
    refine RD.gop rfl rfl rfl rfl rfl rfl rfl (eff_fieldAddrT rfl rfl tf45_1 (by decide) rfl) ?_
    refine RD.gop rfl rfl rfl rfl rfl rfl rfl (eff_loadT1 rfl rfl ti3 rfl rfl) ?_
    refine RD.gop rfl rfl rfl rfl rfl rfl rfl (eff_fieldAddr rfl rfl tf45_1 (by decide) rfl rfl rfl (Nat.le_of_ble_eq_true rfl)) ?_
    refine RD.gop rfl rfl rfl rfl rfl rfl rfl (eff_load (y := .t _) rfl rfl ti3 rfl (.one rfl rfl rfl rfl)) ?_
    refine RD.gop rfl rfl rfl rfl rfl rfl rfl (eff_iop rfl rfl rfl rfl rfl) ?_
    refine RD.op rfl rfl rfl (eff_pick (v := .t _) rfl rfl rfl rfl) ?_
    refine RD.nil ?_
    refine awj_cond rfl (fun h2 => ?_) (fun h2 => ?_)
    · try simp only [cl] at h2
      refine awj_seq ?_
      refine awj_rj rfl ?_
      refine RJ.op rfl rfl (eff_buildT (ys := [_, _]) rfl rfl tz64 tg64 rfl) ?_
      refine RJ.store rfl rfl (eff_storeW (v := .t _) (els := [_]) (els' := [_]) rfl rfl ti64 rfl rfl rfl rfl rfl rfl rfl rfl rfl) ?_
      refine RJ.op rfl rfl (eff_assign (v := .t _) rfl rfl rfl) ?_
      refine RJ.nil ?_
      refine awj_ret ?_
      first
        | (rw [send_late (by first | (rw [late_at (by omega)]; exact decide_eq_true (by first | assumption | omega)) | (exfalso; omega))]
           exact ⟨Or.inr rfl, [_, _], ⟨.cell rfl ti64 (.whole rfl rfl rfl rfl rfl rfl) (.t _), .tmp (.t _), trivial⟩, (by repeat' first | exact trivial | exact Wk.refl _ | exact Wk.sl _ | refine And.intro ?_ ?_ | refine Wk.tupP ?_ | refine Wk.aggP ?_)⟩)
        | (rw [send_many (by first | exact late_nil (by omega) | (rw [late_at (by omega)]; exact decide_eq_false (by first | assumption | omega))) (by omega)]
           exact ⟨Or.inr rfl, [_, _], ⟨.cell rfl ti64 (.whole rfl rfl rfl rfl rfl rfl) (.t _), .tmp (.t _), trivial⟩, (by repeat' first | exact trivial | exact Wk.refl _ | exact Wk.sl _ | refine And.intro ?_ ?_ | refine Wk.tupP ?_ | refine Wk.aggP ?_)⟩)
        | (rw [send_ok (by first | exact late_nil (by omega) | (rw [late_at (by omega)]; exact decide_eq_false (by first | assumption | omega))) (by omega)]
           exact ⟨Or.inr rfl, [_, _], ⟨.cell rfl ti64 (.whole rfl rfl rfl rfl rfl rfl) (Res.aggP (xs := [_, _]) ⟨Res.ownT (xs := (t.sent ++ [f]).map encF) rfl rfl rfl (by simp), .t _, trivial⟩), .tmp (.t _), trivial⟩, .refl _⟩)
    · try simp only [cl] at h2
      refine awj_skip ?_
      refine awj_seq ?_
      refine awj_rj rfl ?_
      refine RJ.sMake rfl rfl rfl rfl (fun rO hrO => ?_)
      refine RJ.op rfl rfl (eff_assign (v := .t _) rfl rfl rfl) ?_
      refine RJ.nil ?_
      refine awj_seq ?_
      refine awj_seq ?_
      refine awj_rj rfl ?_
      refine RJ.op rfl rfl (eff_fieldAddr rfl rfl tf64_1 (by decide) rfl rfl rfl (Nat.le_of_ble_eq_true rfl)) ?_
      refine RJ.op rfl rfl (eff_load (y := .t _) rfl rfl ti33 rfl (.one rfl rfl rfl rfl)) ?_
      refine RJ.op rfl rfl (eff_lenM rfl rfl te33 rfl) ?_
      refine RJ.op rfl rfl (eff_move (v := .t _) rfl rfl rfl) ?_
      refine RJ.nil ?_
      refine awj_block ?_
      refine awj_loopW (fun m s g => ∃ (i : Nat), (i ≤ t.poss.length) ∧ (gget g rO = some (mapO KR XU (setL (t.poss.take i)))) ∧ m = t.poss.length - i ∧ s = ⟨56, [(2, .ptr 2 0 0 0), (3, .ptr 3 0 0 0), (4, .ptr 4 0 0 0), (7, .t (.mp rO)), (30, .t (.sl (t.poss.map encR) false)), (31, .t (encI t.poss.length)), (32, .t (encI (i : Nat))), (57, .t deT)], [(2, some ⟨2, 64, 0, [.t (encT t)]⟩), (3, some ⟨5, 45, 0, [.t (encF f)]⟩), (4, some ⟨2, 64, 0, [.t z64]⟩)]⟩) (_) (⟨_, weak_keep (n := 56) (fr' := [(2, .ptr 2 0 0 0), (3, .ptr 3 0 0 0), (4, .ptr 4 0 0 0), (7, .t (.mp rO)), (30, .t (.sl (t.poss.map encR) false)), (31, .t (encI t.poss.length)), (32, .t (encI (0 : Nat))), (57, .t deT)]) (st' := [(2, some ⟨2, 64, 0, [.t (encT t)]⟩), (3, some ⟨5, 45, 0, [.t (encF f)]⟩), (4, some ⟨2, 64, 0, [.t z64]⟩)]) ⟨rfl, rfl, rfl, rfl, rfl, rfl, rfl, rfl, rfl, rfl, rfl, rfl, rfl, rfl, rfl, rfl, trivial⟩ ⟨rfl, okE_one rfl, rfl, okE_one rfl, rfl, okE_one rfl, trivial⟩, 0, (by omega), (by exact gget_same _ _ _), rfl, rfl⟩) ?_
      rintro m s g ⟨i, hi, hgO, rfl, rfl⟩
      refine awj_seq ?_
      refine awj_rj rfl ?_
      refine RJ.op rfl rfl (eff_iop rfl rfl rfl rfl rfl) ?_
      refine RJ.nil ?_
      refine awj_seq ?_
      refine awj_cond rfl (fun h3 => ?_) (fun h3 => ?_)
      · try simp only [cl] at h3
        refine awj_skip ?_
        refine awj_seq ?_
        refine awj_block ?_
        refine awj_seq ?_
        refine awj_rj rfl ?_
        refine RJ.op rfl rfl (eff_indexM rfl rfl te33 rfl rfl rfl (by first | assumption | exact List.getElem?_eq_getElem (by omega)) rfl (by decide)) ?_
        refine RJ.op rfl rfl (eff_loadW rfl rfl ti23 rfl rfl rfl) ?_
        refine RJ.new rfl rfl (eff_allocK (k := 4) (id := 9) rfl rfl tz23 rfl rfl) ?_
        refine RJ.store rfl rfl (eff_storeW (v := .t _) (els := [_]) (els' := [_]) rfl rfl ti23 rfl rfl rfl rfl rfl rfl rfl rfl rfl) ?_
        refine RJ.nil ?_
        refine awj_rj rfl ?_
        refine RJ.op rfl rfl (eff_move (v := .t _) rfl rfl rfl) ?_
        refine RJ.op rfl rfl (eff_load rfl rfl ti23 rfl (.whole rfl rfl rfl rfl rfl rfl)) ?_
        refine RJ.sPut (t.poss[i]'(by omega)) (t.poss.take i) rfl rfl (.inl rfl) Tryd.underlying98 rfl rfl rfl hgO ?_
        refine RJ.nil ?_
        refine awj_rj rfl ?_
        refine RJ.op rfl rfl (eff_iop rfl rfl rfl rfl (iadd (by omega))) ?_
        refine RJ.op rfl rfl (eff_move (v := .t _) rfl rfl rfl) ?_
        refine RJ.nil ?_
        refine ⟨_, ?_, _, weak_keep (n := 56) (fr' := [(2, .ptr 2 0 0 0), (3, .ptr 3 0 0 0), (4, .ptr 4 0 0 0), (7, .t (.mp rO)), (30, .t (.sl (t.poss.map encR) false)), (31, .t (encI t.poss.length)), (32, .t (encI ((i + 1) : Nat))), (57, .t deT)]) (st' := [(2, some ⟨2, 64, 0, [.t (encT t)]⟩), (3, some ⟨5, 45, 0, [.t (encF f)]⟩), (4, some ⟨2, 64, 0, [.t z64]⟩)]) ⟨rfl, rfl, rfl, rfl, rfl, rfl, rfl, rfl, rfl, rfl, rfl, rfl, rfl, rfl, rfl, rfl, trivial⟩ ⟨rfl, okE_one rfl, rfl, okE_one rfl, rfl, okE_one rfl, trivial⟩, i + 1, (by omega), (by rw [gget_same, ins_take (srt_nodup hs) (by omega)]), rfl, rfl⟩
        omega
      · try simp only [cl] at h3
        refine awj_exit ?_
        refine awj_seq ?_
        have hi2 : i = t.poss.length := by omega
        subst hi2
        rw [List.take_length] at hgO
        refine awj_freezeS 7 (l0 := t.poss) t.poss rfl hgO (.refl _) ?_
        have hfl := stepF_len t.poss f
        refine awj_rj rfl ?_
        refine RJ.op rfl rfl (eff_move (v := .t _) rfl rfl rfl) ?_
        refine RJ.op rfl rfl (eff_load rfl rfl ti45 rfl (.whole rfl rfl rfl rfl rfl rfl)) ?_
        refine RJ.op rfl rfl (eff_callXT (spread_ret t.poss f hs hp) co71 rfl rfl rfl ⟨rfl, trivial⟩ rfl) ?_
        refine RJ.op rfl rfl (eff_assign (v := .t _) rfl rfl rfl) ?_
        refine RJ.nil ?_
        refine awj_seq ?_
        refine awj_seq ?_
        refine awj_rj rfl ?_
        refine RJ.op rfl rfl (eff_move (v := .t _) rfl rfl rfl) ?_
        refine RJ.op rfl rfl (eff_lenS rfl rfl Tryd.underlying98 rfl) ?_
        refine RJ.op rfl rfl (eff_iop rfl rfl rfl rfl rfl) ?_
        refine RJ.nil ?_
        refine awj_cond rfl (fun h4 => ?_) (fun h4 => ?_)
        · try simp only [cl] at h4
          refine awj_seq ?_
          refine awj_rj rfl ?_
          refine RJ.op rfl rfl (eff_buildT (ys := [_, _]) rfl rfl tz64 tg64 rfl) ?_
          refine RJ.store rfl rfl (eff_storeW (v := .t _) (els := [_]) (els' := [_]) rfl rfl ti64 rfl rfl rfl rfl rfl rfl rfl rfl rfl) ?_
          refine RJ.op rfl rfl (eff_assign (v := .t _) rfl rfl rfl) ?_
          refine RJ.nil ?_
          refine awj_ret ?_
          first
            | (rw [send_late (by first | (rw [late_at (by omega)]; exact decide_eq_true (by first | assumption | omega)) | (exfalso; omega))]
               exact ⟨Or.inr rfl, [_, _], ⟨.cell rfl ti64 (.whole rfl rfl rfl rfl rfl rfl) (.t _), .tmp (.t _), trivial⟩, (by repeat' first | exact trivial | exact Wk.refl _ | exact Wk.sl _ | refine And.intro ?_ ?_ | refine Wk.tupP ?_ | refine Wk.aggP ?_)⟩)
            | (rw [send_many (by first | exact late_nil (by omega) | (rw [late_at (by omega)]; exact decide_eq_false (by first | assumption | omega))) (by omega)]
               exact ⟨Or.inr rfl, [_, _], ⟨.cell rfl ti64 (.whole rfl rfl rfl rfl rfl rfl) (.t _), .tmp (.t _), trivial⟩, (by repeat' first | exact trivial | exact Wk.refl _ | exact Wk.sl _ | refine And.intro ?_ ?_ | refine Wk.tupP ?_ | refine Wk.aggP ?_)⟩)
            | (rw [send_ok (by first | exact late_nil (by omega) | (rw [late_at (by omega)]; exact decide_eq_false (by first | assumption | omega))) (by omega)]
               exact ⟨Or.inr rfl, [_, _], ⟨.cell rfl ti64 (.whole rfl rfl rfl rfl rfl rfl) (Res.aggP (xs := [_, _]) ⟨Res.ownT (xs := (t.sent ++ [f]).map encF) rfl rfl rfl (by simp), .t _, trivial⟩), .tmp (.t _), trivial⟩, .refl _⟩)
        · try simp only [cl] at h4
          refine awj_skip ?_
          refine awj_seq ?_
          refine awj_rd [(some 46, []), (some 47, []), (some 48, []), (some 49, []), (some 50, [50]), (some 51, [51]), (some 52, [51, 56]), (some 53, []), (some 54, []), (some 55, []), (none, [4]), (some 5, [])] [[], [0], [0, 1], [], [3], [0, 1, 2, 3, 4], [0, 1, 2, 3, 4, 5], [], [0, 1, 2, 3, 4, 5, 6, 7], [0, 1, 2, 3, 4, 5, 6, 7, 8], [0, 1, 2, 3, 4, 5, 6, 7, 8, 9], [0, 1, 2, 3, 4, 5, 6, 7, 8, 9, 10]] tm rfl rfl rfl rfl ?_
          refine RD.op rfl rfl rfl (eff_fieldAddr rfl rfl tf64_0 (by decide) rfl rfl rfl (Nat.le_of_ble_eq_true rfl)) ?_
          refine RD.op rfl rfl rfl (eff_load (y := .t _) rfl rfl ti62 rfl (.one rfl rfl rfl rfl)) ?_
          refine RD.op rfl rfl rfl (eff_callT (clip_ret t.sent) co73 rfl rfl rfl rfl) ?_
          refine RD.op rfl rfl rfl (eff_load rfl rfl ti45 rfl (.whole rfl rfl rfl rfl rfl rfl)) ?_
          refine RD.new rfl rfl rfl (eff_buildSliceL (id := 50) (els := [.t (.agg [_, _, _, _, _])]) rfl rfl te62 tz45 rfl (by decide) (by decide) rfl rfl rfl rfl) ?_
          refine RD.new rfl rfl rfl (eff_appendNew (id := 51) (ys := [_]) rfl rfl ta62 rfl rfl (fun z hz => by obtain ⟨q, _, rfl⟩ := List.mem_map.1 hz; rfl) (srcOwn rfl rfl rfl rfl rfl rfl) (Nat.le_of_ble_eq_true rfl) (by simp; omega) (by simp; omega)) ?_
          refine RD.new2 rfl rfl rfl (eff_callG (ownO (t.sent ++ [f]) 0 _ _ (by simp) (by simp; rfl) (by simp; omega) (by simp) (by intro q hq; rcases List.mem_append.1 hq with h | h; exact hb q h; rw [List.mem_singleton.1 h]; exact hbf)) co72 (fun id => id + 51) rfl rfl rfl ⟨.own _ _ _ _ rfl rfl, trivial⟩ (.own _ _ _ _ rfl rfl) rfl ⟨⟨rfl, treeEls_app, ⟨_, rfl, Nat.lt_succ_self _⟩⟩, trivial⟩ ⟨⟨treeEls_app, .inl rfl⟩, ⟨treeEls_t, .inr rfl⟩, trivial⟩) ?_
          refine mvD ?_
          refine RD.op rfl rfl rfl (eff_callT (sorted_ret _ (srt_stepF hs) (by omega)) co74 rfl rfl rfl rfl) ?_
          refine RD.op rfl rfl rfl (eff_buildA (ys := [_, _]) rfl rfl tz64 tg64 rfl rfl) ?_
          refine RD.store rfl rfl rfl (eff_storeW (v := .agg _) (els := [_]) (els' := [_]) rfl rfl ti64 rfl rfl rfl rfl rfl rfl rfl rfl rfl) ?_
          refine RD.op rfl rfl rfl (eff_assign (v := .t _) rfl rfl rfl) ?_
          refine RD.nil ?_
          refine awj_ret ?_
          first
            | (rw [send_late (by first | (rw [late_at (by omega)]; exact decide_eq_true (by first | assumption | omega)) | (exfalso; omega))]
               exact ⟨Or.inr rfl, [_, _], ⟨.cell rfl ti64 (.whole rfl rfl rfl rfl rfl rfl) (.t _), .tmp (.t _), trivial⟩, (by repeat' first | exact trivial | exact Wk.refl _ | exact Wk.sl _ | refine And.intro ?_ ?_ | refine Wk.tupP ?_ | refine Wk.aggP ?_)⟩)
            | (rw [send_many (by first | exact late_nil (by omega) | (rw [late_at (by omega)]; exact decide_eq_false (by first | assumption | omega))) (by omega)]
               exact ⟨Or.inr rfl, [_, _], ⟨.cell rfl ti64 (.whole rfl rfl rfl rfl rfl rfl) (.t _), .tmp (.t _), trivial⟩, (by repeat' first | exact trivial | exact Wk.refl _ | exact Wk.sl _ | refine And.intro ?_ ?_ | refine Wk.tupP ?_ | refine Wk.aggP ?_)⟩)
            | (rw [send_ok (by first | exact late_nil (by omega) | (rw [late_at (by omega)]; exact decide_eq_false (by first | assumption | omega))) (by omega)]
               exact ⟨Or.inr rfl, [_, _], ⟨.cell rfl ti64 (.whole rfl rfl rfl rfl rfl rfl) (Res.aggP (xs := [_, _]) ⟨Res.ownT (xs := (t.sent ++ [f]).map encF) rfl rfl rfl (by simp), .t _, trivial⟩), .tmp (.t _), trivial⟩, .refl _⟩)
  · refine awj_rd [(some 13, []), (some 14, []), (some 15, []), (some 16, []), (some 17, []), (some 18, []), (some 19, []), (some 20, []), (some 21, []), (some 22, []), (some 23, []), (some 24, []), (some 25, []), (some 26, [])] [[], [0], [0, 1], [0, 1, 2], [0, 1, 2, 3], [0, 1, 2], [0, 1, 2, 5], [0, 1, 2, 3, 4, 5, 6], [0, 1, 2, 3, 4, 5, 6, 7], [0, 1, 2, 3, 4, 5, 6, 7, 8], [0, 1, 2], [0, 1, 2, 10], [0, 1, 2, 3, 4, 5, 6, 7, 8, 9, 10, 11], [0, 1, 2, 3, 4, 5, 6, 7, 8, 9, 10, 11, 12]] tm rfl rfl rfl rfl ?_
    refine mvD ?_
    refine RD.op rfl rfl rfl (eff_iop (r := .bool false) rfl rfl rfl rfl (by show some (Tr.bool (decide _)) = _; rw [decide_eq_false (by omega)])) ?_
    refine mvD ?_
    refine gkD ?_
    refine gkD ?_
    refine gkD ?_
    refine gkD ?_
    refine gkD ?_
    refine gkD ?_
    refine gkD ?_
    refine gkD ?_
    refine gkD ?_
    refine gkD ?_
    refine RD.op rfl rfl rfl (eff_pick (v := .t _) rfl rfl rfl rfl) ?_
    refine RD.nil ?_
    refine awj_cond rfl (fun h => nomatch h) (fun _ => ?_)
    refine awj_skip ?_
    refine awj_seq ?_
    refine awj_rj rfl ?_
    refine RJ.sMake rfl rfl rfl rfl (fun rO hrO => ?_)
    refine RJ.op rfl rfl (eff_assign (v := .t _) rfl rfl rfl) ?_
    refine RJ.nil ?_
    refine awj_seq ?_
    refine awj_seq ?_
    refine awj_rj rfl ?_
    refine RJ.op rfl rfl (eff_fieldAddr rfl rfl tf64_1 (by decide) rfl rfl rfl (Nat.le_of_ble_eq_true rfl)) ?_
    refine RJ.op rfl rfl (eff_load (y := .t _) rfl rfl ti33 rfl (.one rfl rfl rfl rfl)) ?_
    refine RJ.op rfl rfl (eff_lenM rfl rfl te33 rfl) ?_
    refine RJ.op rfl rfl (eff_move (v := .t _) rfl rfl rfl) ?_
    refine RJ.nil ?_
    refine awj_block ?_
    refine awj_loopW (fun m s g => ∃ (i : Nat), (i ≤ t.poss.length) ∧ (gget g rO = some (mapO KR XU (setL (t.poss.take i)))) ∧ m = t.poss.length - i ∧ s = ⟨56, [(2, .ptr 2 0 0 0), (3, .ptr 3 0 0 0), (4, .ptr 4 0 0 0), (7, .t (.mp rO)), (30, .t (.sl (t.poss.map encR) false)), (31, .t (encI t.poss.length)), (32, .t (encI (i : Nat))), (57, .t deT)], [(2, some ⟨2, 64, 0, [.t (encT t)]⟩), (3, some ⟨5, 45, 0, [.t (encF f)]⟩), (4, some ⟨2, 64, 0, [.t z64]⟩)]⟩) (_) (⟨_, weak_keep (n := 56) (fr' := [(2, .ptr 2 0 0 0), (3, .ptr 3 0 0 0), (4, .ptr 4 0 0 0), (7, .t (.mp rO)), (30, .t (.sl (t.poss.map encR) false)), (31, .t (encI t.poss.length)), (32, .t (encI (0 : Nat))), (57, .t deT)]) (st' := [(2, some ⟨2, 64, 0, [.t (encT t)]⟩), (3, some ⟨5, 45, 0, [.t (encF f)]⟩), (4, some ⟨2, 64, 0, [.t z64]⟩)]) ⟨rfl, rfl, rfl, rfl, rfl, rfl, rfl, rfl, rfl, rfl, rfl, rfl, rfl, rfl, rfl, rfl, trivial⟩ ⟨rfl, okE_one rfl, rfl, okE_one rfl, rfl, okE_one rfl, trivial⟩, 0, (by omega), (by exact gget_same _ _ _), rfl, rfl⟩) ?_
    rintro m s g ⟨i, hi, hgO, rfl, rfl⟩
    refine awj_seq ?_
    refine awj_rj rfl ?_
    refine RJ.op rfl rfl (eff_iop rfl rfl rfl rfl rfl) ?_
    refine RJ.nil ?_
    refine awj_seq ?_
    refine awj_cond rfl (fun h5 => ?_) (fun h5 => ?_)
    · try simp only [cl] at h5
      refine awj_skip ?_
      refine awj_seq ?_
      refine awj_block ?_
      refine awj_seq ?_
      refine awj_rj rfl ?_
      refine RJ.op rfl rfl (eff_indexM rfl rfl te33 rfl rfl rfl (by first | assumption | exact List.getElem?_eq_getElem (by omega)) rfl (by decide)) ?_
      refine RJ.op rfl rfl (eff_loadW rfl rfl ti23 rfl rfl rfl) ?_
      refine RJ.new rfl rfl (eff_allocK (k := 4) (id := 9) rfl rfl tz23 rfl rfl) ?_
      refine RJ.store rfl rfl (eff_storeW (v := .t _) (els := [_]) (els' := [_]) rfl rfl ti23 rfl rfl rfl rfl rfl rfl rfl rfl rfl) ?_
      refine RJ.nil ?_
      refine awj_rj rfl ?_
      refine RJ.op rfl rfl (eff_move (v := .t _) rfl rfl rfl) ?_
      refine RJ.op rfl rfl (eff_load rfl rfl ti23 rfl (.whole rfl rfl rfl rfl rfl rfl)) ?_
      refine RJ.sPut (t.poss[i]'(by omega)) (t.poss.take i) rfl rfl (.inl rfl) Tryd.underlying98 rfl rfl rfl hgO ?_
      refine RJ.nil ?_
      refine awj_rj rfl ?_
      refine RJ.op rfl rfl (eff_iop rfl rfl rfl rfl (iadd (by omega))) ?_
      refine RJ.op rfl rfl (eff_move (v := .t _) rfl rfl rfl) ?_
      refine RJ.nil ?_
      refine ⟨_, ?_, _, weak_keep (n := 56) (fr' := [(2, .ptr 2 0 0 0), (3, .ptr 3 0 0 0), (4, .ptr 4 0 0 0), (7, .t (.mp rO)), (30, .t (.sl (t.poss.map encR) false)), (31, .t (encI t.poss.length)), (32, .t (encI ((i + 1) : Nat))), (57, .t deT)]) (st' := [(2, some ⟨2, 64, 0, [.t (encT t)]⟩), (3, some ⟨5, 45, 0, [.t (encF f)]⟩), (4, some ⟨2, 64, 0, [.t z64]⟩)]) ⟨rfl, rfl, rfl, rfl, rfl, rfl, rfl, rfl, rfl, rfl, rfl, rfl, rfl, rfl, rfl, rfl, trivial⟩ ⟨rfl, okE_one rfl, rfl, okE_one rfl, rfl, okE_one rfl, trivial⟩, i + 1, (by omega), (by rw [gget_same, ins_take (srt_nodup hs) (by omega)]), rfl, rfl⟩
      omega
    · try simp only [cl] at h5
      refine awj_exit ?_
      refine awj_seq ?_
      have hi2 : i = t.poss.length := by omega
      subst hi2
      rw [List.take_length] at hgO
      refine awj_freezeS 7 (l0 := t.poss) t.poss rfl hgO (.refl _) ?_
      have hfl := stepF_len t.poss f
      refine awj_rj rfl ?_
      refine RJ.op rfl rfl (eff_move (v := .t _) rfl rfl rfl) ?_
      refine RJ.op rfl rfl (eff_load rfl rfl ti45 rfl (.whole rfl rfl rfl rfl rfl rfl)) ?_
      refine RJ.op rfl rfl (eff_callXT (spread_ret t.poss f hs hp) co71 rfl rfl rfl ⟨rfl, trivial⟩ rfl) ?_
      refine RJ.op rfl rfl (eff_assign (v := .t _) rfl rfl rfl) ?_
      refine RJ.nil ?_
      refine awj_seq ?_
      refine awj_seq ?_
      refine awj_rj rfl ?_
      refine RJ.op rfl rfl (eff_move (v := .t _) rfl rfl rfl) ?_
      refine RJ.op rfl rfl (eff_lenS rfl rfl Tryd.underlying98 rfl) ?_
      refine RJ.op rfl rfl (eff_iop rfl rfl rfl rfl rfl) ?_
      refine RJ.nil ?_
      refine awj_cond rfl (fun h6 => ?_) (fun h6 => ?_)
      · try simp only [cl] at h6
        refine awj_seq ?_
        refine awj_rj rfl ?_
        refine RJ.op rfl rfl (eff_buildT (ys := [_, _]) rfl rfl tz64 tg64 rfl) ?_
        refine RJ.store rfl rfl (eff_storeW (v := .t _) (els := [_]) (els' := [_]) rfl rfl ti64 rfl rfl rfl rfl rfl rfl rfl rfl rfl) ?_
        refine RJ.op rfl rfl (eff_assign (v := .t _) rfl rfl rfl) ?_
        refine RJ.nil ?_
        refine awj_ret ?_
        first
          | (rw [send_late (by first | (rw [late_at (by omega)]; exact decide_eq_true (by first | assumption | omega)) | (exfalso; omega))]
             exact ⟨Or.inr rfl, [_, _], ⟨.cell rfl ti64 (.whole rfl rfl rfl rfl rfl rfl) (.t _), .tmp (.t _), trivial⟩, (by repeat' first | exact trivial | exact Wk.refl _ | exact Wk.sl _ | refine And.intro ?_ ?_ | refine Wk.tupP ?_ | refine Wk.aggP ?_)⟩)
          | (rw [send_many (by first | exact late_nil (by omega) | (rw [late_at (by omega)]; exact decide_eq_false (by first | assumption | omega))) (by omega)]
             exact ⟨Or.inr rfl, [_, _], ⟨.cell rfl ti64 (.whole rfl rfl rfl rfl rfl rfl) (.t _), .tmp (.t _), trivial⟩, (by repeat' first | exact trivial | exact Wk.refl _ | exact Wk.sl _ | refine And.intro ?_ ?_ | refine Wk.tupP ?_ | refine Wk.aggP ?_)⟩)
          | (rw [send_ok (by first | exact late_nil (by omega) | (rw [late_at (by omega)]; exact decide_eq_false (by first | assumption | omega))) (by omega)]
             exact ⟨Or.inr rfl, [_, _], ⟨.cell rfl ti64 (.whole rfl rfl rfl rfl rfl rfl) (Res.aggP (xs := [_, _]) ⟨Res.ownT (xs := (t.sent ++ [f]).map encF) rfl rfl rfl (by simp), .t _, trivial⟩), .tmp (.t _), trivial⟩, .refl _⟩)
      · try simp only [cl] at h6
        refine awj_skip ?_
        refine awj_seq ?_
        refine awj_rd [(some 46, []), (some 47, []), (some 48, []), (some 49, []), (some 50, [50]), (some 51, [51]), (some 52, [51, 56]), (some 53, []), (some 54, []), (some 55, []), (none, [4]), (some 5, [])] [[], [0], [0, 1], [], [3], [0, 1, 2, 3, 4], [0, 1, 2, 3, 4, 5], [], [0, 1, 2, 3, 4, 5, 6, 7], [0, 1, 2, 3, 4, 5, 6, 7, 8], [0, 1, 2, 3, 4, 5, 6, 7, 8, 9], [0, 1, 2, 3, 4, 5, 6, 7, 8, 9, 10]] tm rfl rfl rfl rfl ?_
        refine RD.op rfl rfl rfl (eff_fieldAddr rfl rfl tf64_0 (by decide) rfl rfl rfl (Nat.le_of_ble_eq_true rfl)) ?_
        refine RD.op rfl rfl rfl (eff_load (y := .t _) rfl rfl ti62 rfl (.one rfl rfl rfl rfl)) ?_
        refine RD.op rfl rfl rfl (eff_callT (clip_ret t.sent) co73 rfl rfl rfl rfl) ?_
        refine RD.op rfl rfl rfl (eff_load rfl rfl ti45 rfl (.whole rfl rfl rfl rfl rfl rfl)) ?_
        refine RD.new rfl rfl rfl (eff_buildSliceL (id := 50) (els := [.t (.agg [_, _, _, _, _])]) rfl rfl te62 tz45 rfl (by decide) (by decide) rfl rfl rfl rfl) ?_
        refine RD.new rfl rfl rfl (eff_appendNew (id := 51) (ys := [_]) rfl rfl ta62 rfl rfl (fun z hz => by obtain ⟨q, _, rfl⟩ := List.mem_map.1 hz; rfl) (srcOwn rfl rfl rfl rfl rfl rfl) (Nat.le_of_ble_eq_true rfl) (by simp; omega) (by simp; omega)) ?_
        refine RD.new2 rfl rfl rfl (eff_callG (ownO (t.sent ++ [f]) 0 _ _ (by simp) (by simp; rfl) (by simp; omega) (by simp) (by intro q hq; rcases List.mem_append.1 hq with h | h; exact hb q h; rw [List.mem_singleton.1 h]; exact hbf)) co72 (fun id => id + 51) rfl rfl rfl ⟨.own _ _ _ _ rfl rfl, trivial⟩ (.own _ _ _ _ rfl rfl) rfl ⟨⟨rfl, treeEls_app, ⟨_, rfl, Nat.lt_succ_self _⟩⟩, trivial⟩ ⟨⟨treeEls_app, .inl rfl⟩, ⟨treeEls_t, .inr rfl⟩, trivial⟩) ?_
        refine mvD ?_
        refine RD.op rfl rfl rfl (eff_callT (sorted_ret _ (srt_stepF hs) (by omega)) co74 rfl rfl rfl rfl) ?_
        refine RD.op rfl rfl rfl (eff_buildA (ys := [_, _]) rfl rfl tz64 tg64 rfl rfl) ?_
        refine RD.store rfl rfl rfl (eff_storeW (v := .agg _) (els := [_]) (els' := [_]) rfl rfl ti64 rfl rfl rfl rfl rfl rfl rfl rfl rfl) ?_
        refine RD.op rfl rfl rfl (eff_assign (v := .t _) rfl rfl rfl) ?_
        refine RD.nil ?_
        refine awj_ret ?_
        first
          | (rw [send_late (by first | (rw [late_at (by omega)]; exact decide_eq_true (by first | assumption | omega)) | (exfalso; omega))]
             exact ⟨Or.inr rfl, [_, _], ⟨.cell rfl ti64 (.whole rfl rfl rfl rfl rfl rfl) (.t _), .tmp (.t _), trivial⟩, (by repeat' first | exact trivial | exact Wk.refl _ | exact Wk.sl _ | refine And.intro ?_ ?_ | refine Wk.tupP ?_ | refine Wk.aggP ?_)⟩)
          | (rw [send_many (by first | exact late_nil (by omega) | (rw [late_at (by omega)]; exact decide_eq_false (by first | assumption | omega))) (by omega)]
             exact ⟨Or.inr rfl, [_, _], ⟨.cell rfl ti64 (.whole rfl rfl rfl rfl rfl rfl) (.t _), .tmp (.t _), trivial⟩, (by repeat' first | exact trivial | exact Wk.refl _ | exact Wk.sl _ | refine And.intro ?_ ?_ | refine Wk.tupP ?_ | refine Wk.aggP ?_)⟩)
          | (rw [send_ok (by first | exact late_nil (by omega) | (rw [late_at (by omega)]; exact decide_eq_false (by first | assumption | omega))) (by omega)]
             exact ⟨Or.inr rfl, [_, _], ⟨.cell rfl ti64 (.whole rfl rfl rfl rfl rfl rfl) (Res.aggP (xs := [_, _]) ⟨Res.ownT (xs := (t.sent ++ [f]).map encF) rfl rfl rfl (by simp), .t _, trivial⟩), .tmp (.t _), trivial⟩, .refl _⟩)

end Go.Tv.C36

end
section
open Go Go.Tv Go.Proofs
namespace Go.Tv.C36
set_option maxRecDepth 20000
set_option maxHeartbeats 2000000
set_option linter.unusedSimpArgs false
set_option linter.unusedVariables false
theorem thear_ret (t : Twn) (r : Rep) (hr : HP r) (hl : t.poss.length ≤ 1000) (hs : t.sent.length ≤ 1000) (hb : ∀ x, x ∈ t.sent → x.body.length ≤ 1000000) : RetT Tryd.prog 64 [(1, deT)] [encT t, encR r] (.tup [encT (hear t r).1, encI (hear t r).2]) := by
  refine retT_of_awp Tryd.func64 rfl (Nat.le_of_ble_eq_true rfl) ?_
  refine awp_seq ?_
  refine awp_rw rfl ?_
  refine RW.new rfl rfl (eff_boxK (v := .t _) (k := 2) (id := 2) rfl rfl rfl rfl rfl rfl) ?_
  refine RW.new rfl rfl (eff_boxK (v := .t _) (k := 4) (id := 3) rfl rfl rfl rfl rfl rfl) ?_
  refine RW.new rfl rfl (eff_allocK (k := 2) (id := 4) rfl rfl tz64 rfl rfl) ?_
  refine asT ?_
  refine RW.nil ?_
  refine awp_seq ?_
  refine awp_rw rfl ?_
  refine asT ?_
  refine RW.nil ?_
  show AWP _ _ _ _
  refine awp_weak (weak_adopt (d := 6) (id := 6) (k := 5) (ty := 45) rfl rfl) ?_
  refine awp_seq ?_
  refine awp_seq ?_
  refine awp_rw rfl ?_
  refine faT tf64_0 ?_
  refine l1T ti62 rfl rfl rfl rfl rfl (.one rfl rfl rfl rfl) ?_
  refine RW.op rfl rfl (eff_lenM rfl rfl te62 rfl) ?_
  refine mvT ?_
  refine RW.nil ?_
  refine awp_block ?_
  refine awp_loopW (fun m s => ∃ (i : Nat) (gn : Nat) (n : Nat) (els : List AV), (i ≤ t.sent.length) ∧ (n = (open_ (t.sent.take i) r).length) ∧ (els = ((open_ (t.sent.take i) r).map encF).map .t) ∧ m = t.sent.length - i ∧ s = ⟨57, [(2, .ptr 2 0 0 0), (3, .ptr 3 0 0 0), (4, .ptr 4 0 0 0), (6, .own 6 gn 0 n), (14, .t (.sl (t.sent.map encF) false)), (15, .t (encI t.sent.length)), (16, .t (encI (i : Nat))), (58, .t deT)], [(2, some ⟨2, 64, 0, [.t (encT t)]⟩), (3, some ⟨4, 23, 0, [.t (encR r)]⟩), (4, some ⟨2, 64, 0, [.t z64]⟩), (6, some ⟨5, 45, gn, els⟩)]⟩) (_) (⟨_, weak_keep (n := 57) (fr' := [(2, .ptr 2 0 0 0), (3, .ptr 3 0 0 0), (4, .ptr 4 0 0 0), (6, .own 6 0 0 0), (14, .t (.sl (t.sent.map encF) false)), (15, .t (encI t.sent.length)), (16, .t (encI (0 : Nat))), (58, .t deT)]) (st' := [(2, some ⟨2, 64, 0, [.t (encT t)]⟩), (3, some ⟨4, 23, 0, [.t (encR r)]⟩), (4, some ⟨2, 64, 0, [.t z64]⟩), (6, some ⟨5, 45, 0, ([])⟩)]) ⟨rfl, rfl, rfl, rfl, rfl, rfl, rfl, rfl, rfl, rfl, rfl, rfl, rfl, rfl, rfl, rfl, trivial⟩ ⟨rfl, okE_one rfl, rfl, okE_one rfl, rfl, okE_one rfl, rfl, (by first | exact okE_nil | (rw [he]; exact okE_t) | (rw [he]; intro x hx; simp only [List.mem_append, List.mem_map, List.mem_singleton] at hx; rcases hx with ⟨y, _, rfl⟩ | rfl <;> rfl)), trivial⟩, 0, 0, 0, [], (by omega), (by rfl), (by rfl), rfl, rfl⟩) ?_
  rintro m s ⟨i, gn, n, els, hi, hnn, he, rfl, rfl⟩
  have hol : (open_ (t.sent.take i) r).length ≤ t.sent.length := open_len _ _ _
  refine awp_seq ?_
  refine awp_rw rfl ?_
  refine ioT ?_
  refine RW.nil ?_
  refine awp_seq ?_
  refine awp_cond rfl (fun h1 => ?_) (fun h1 => ?_)
  · try simp only [cl] at h1
    refine awp_skip ?_
    refine awp_seq ?_
    refine awp_block ?_
    refine awp_seq ?_
    refine awp_rw rfl ?_
    refine RW.op rfl rfl (eff_indexM rfl rfl te62 rfl rfl rfl (by first | assumption | exact List.getElem?_eq_getElem (by omega)) rfl (by decide)) ?_
    refine RW.op rfl rfl (eff_loadW rfl rfl ti45 rfl rfl rfl) ?_
    refine RW.new rfl rfl (eff_allocK (k := 5) (id := 8) rfl rfl tz45 rfl rfl) ?_
    refine RW.store rfl rfl (eff_storeW (v := .t _) (els := [_]) (els' := [_]) rfl rfl ti45 rfl rfl rfl rfl rfl rfl rfl rfl rfl) ?_
    refine RW.nil ?_
    refine awp_seq ?_
    refine awp_rw rfl ?_
    refine faT tf45_1 ?_
    refine l1T ti3 rfl rfl rfl rfl rfl (.one rfl rfl rfl rfl) ?_
    refine faT tf23_2 ?_
    refine l1T ti3 rfl rfl rfl rfl rfl (.one rfl rfl rfl rfl) ?_
    refine ioT ?_
    refine RW.nil ?_
    refine awp_cond rfl (fun h2 => ?_) (fun h2 => ?_)
    · try simp only [cl] at h2
      refine awp_rw rfl ?_
      refine mvO ?_
      refine RW.op rfl rfl (eff_load rfl rfl ti45 rfl (.whole rfl rfl rfl rfl rfl rfl)) ?_
      refine RW.new rfl rfl (eff_buildSliceL (id := 27) (els := [.t (.agg [_, _, _, _, _])]) rfl rfl te62 tz45 rfl (by decide) (by decide) rfl rfl rfl rfl) ?_
      refine RW.new rfl rfl (eff_append (id := 6) (ys := [_]) rfl rfl ta62 rfl rfl rfl (by rw [he, hnn]; simp) rfl rfl (srcOwn rfl rfl rfl rfl rfl rfl) (by simp) (by simp; omega) (by simp; omega)) ?_
      refine asO ?_
      refine RW.nil ?_
      refine awp_rw rfl ?_
      refine RW.op rfl rfl (eff_iop rfl rfl rfl rfl (iadd (by omega))) ?_
      refine mvT ?_
      refine RW.nil ?_
      have hil : i < t.sent.length := by omega
      have ho : open_ (t.sent.take (i + 1)) r = (open_ (t.sent.take i) r) ++ [t.sent[i]'hil] := open_take hil (by omega)
      refine ⟨_, ?_, _, weak_keep (n := 57) (fr' := [(2, .ptr 2 0 0 0), (3, .ptr 3 0 0 0), (4, .ptr 4 0 0 0), (6, .own 6 _ 0 _), (14, .t (.sl (t.sent.map encF) false)), (15, .t (encI t.sent.length)), (16, .t (encI ((i + 1) : Nat))), (58, .t deT)]) (st' := [(2, some ⟨2, 64, 0, [.t (encT t)]⟩), (3, some ⟨4, 23, 0, [.t (encR r)]⟩), (4, some ⟨2, 64, 0, [.t z64]⟩), (6, some ⟨5, 45, _, _⟩)]) ⟨rfl, rfl, rfl, rfl, rfl, rfl, rfl, rfl, rfl, rfl, rfl, rfl, rfl, rfl, rfl, rfl, trivial⟩ ⟨rfl, okE_one rfl, rfl, okE_one rfl, rfl, okE_one rfl, rfl, (by first | exact okE_nil | (rw [he]; exact okE_t) | (rw [he]; intro x hx; simp only [List.mem_append, List.mem_map, List.mem_singleton] at hx; rcases hx with ⟨y, _, rfl⟩ | rfl <;> rfl)), trivial⟩, i + 1, _, _, _, (by omega), (by rw [ho]; simp [hnn]), (by rw [ho]; simp [he] <;> rfl), rfl, rfl⟩
      omega
    · try simp only [cl] at h2
      refine awp_skip ?_
      refine awp_rw rfl ?_
      refine RW.op rfl rfl (eff_iop rfl rfl rfl rfl (iadd (by omega))) ?_
      refine mvT ?_
      refine RW.nil ?_
      have hil : i < t.sent.length := by omega
      have ho : open_ (t.sent.take (i + 1)) r = (open_ (t.sent.take i) r) := open_skip hil (by omega)
      refine ⟨_, ?_, _, weak_keep (n := 57) (fr' := [(2, .ptr 2 0 0 0), (3, .ptr 3 0 0 0), (4, .ptr 4 0 0 0), (6, .own 6 _ 0 _), (14, .t (.sl (t.sent.map encF) false)), (15, .t (encI t.sent.length)), (16, .t (encI ((i + 1) : Nat))), (58, .t deT)]) (st' := [(2, some ⟨2, 64, 0, [.t (encT t)]⟩), (3, some ⟨4, 23, 0, [.t (encR r)]⟩), (4, some ⟨2, 64, 0, [.t z64]⟩), (6, some ⟨5, 45, _, _⟩)]) ⟨rfl, rfl, rfl, rfl, rfl, rfl, rfl, rfl, rfl, rfl, rfl, rfl, rfl, rfl, rfl, rfl, trivial⟩ ⟨rfl, okE_one rfl, rfl, okE_one rfl, rfl, okE_one rfl, rfl, (by first | exact okE_nil | (rw [he]; exact okE_t) | (rw [he]; intro x hx; simp only [List.mem_append, List.mem_map, List.mem_singleton] at hx; rcases hx with ⟨y, _, rfl⟩ | rfl <;> rfl)), trivial⟩, i + 1, _, _, _, (by omega), (by rw [ho]; simp [hnn]), (by rw [ho]; simp [he] <;> rfl), rfl, rfl⟩
      omega
  · try simp only [cl] at h1
    refine awp_exit ?_
    refine awp_seq ?_
    have hi2 : i = t.sent.length := by omega
    subst hi2
    rw [List.take_length] at hnn he
    refine awp_weak (weak_frz (n := 57) (fr' := [(2, .ptr 2 0 0 0), (3, .ptr 3 0 0 0), (4, .ptr 4 0 0 0), (6, .t (.sl ((open_ t.sent r).map encF) false)), (58, .t deT)]) (st' := [(2, some ⟨2, 64, 0, [.t (encT t)]⟩), (3, some ⟨4, 23, 0, [.t (encR r)]⟩), (4, some ⟨2, 64, 0, [.t z64]⟩)]) [(6, some ⟨5, 45, gn, els⟩)] ⟨rfl, trivial⟩ ⟨rfl, rfl, rfl, trivial⟩ ⟨wa_eq rfl rfl, wa_eq rfl rfl, wa_eq rfl rfl, .res (Res.ownT (xs := (open_ t.sent r).map encF) rfl rfl he (by rw [hnn]; simp)) (.refl _), wa_eq rfl rfl, trivial⟩ ⟨rfl, okE_one rfl, rfl, okE_one rfl, rfl, okE_one rfl, trivial⟩) ?_
    have hol2 : (open_ t.sent r).length ≤ t.sent.length := List.length_filter_le _ _
    refine awp_rw rfl ?_
    refine RW.op rfl rfl (eff_load rfl rfl ti23 rfl (.whole rfl rfl rfl rfl rfl rfl)) ?_
    refine mvT ?_
    refine RW.op rfl rfl (eff_callXT (reach_ret r (open_ t.sent r) hr (by omega)) co75 rfl rfl rfl ⟨rfl, trivial⟩ rfl) ?_
    refine asT ?_
    refine RW.nil ?_
    refine awp_seq ?_
    refine awp_rw rfl ?_
    refine asT ?_
    refine RW.nil ?_
    show AWP _ _ _ _
    refine awp_weak (weak_adopt (d := 10) (id := 10) (k := 4) (ty := 23) rfl rfl) ?_
    refine awp_seq ?_
    refine awp_seq ?_
    refine awp_rw rfl ?_
    refine faT tf64_1 ?_
    refine l1T ti33 rfl rfl rfl rfl rfl (.one rfl rfl rfl rfl) ?_
    refine RW.op rfl rfl (eff_lenM rfl rfl te33 rfl) ?_
    refine mvT ?_
    refine RW.nil ?_
    refine awp_block ?_
    refine awp_loopW (fun m s => ∃ (k : Nat) (gm : Nat) (n2 : Nat) (els2 : List AV), (k ≤ t.poss.length) ∧ (n2 = ((t.poss.take k).filter (fun x => decide (x ∈ reachF r (open_ t.sent r)))).length) ∧ (els2 = (((t.poss.take k).filter (fun x => decide (x ∈ reachF r (open_ t.sent r)))).map encR).map .t) ∧ m = t.poss.length - k ∧ s = ⟨57, [(2, .ptr 2 0 0 0), (4, .ptr 4 0 0 0), (9, .t (mset (reachF r (open_ t.sent r)))), (10, .own 10 gm 0 n2), (34, .t (.sl (t.poss.map encR) false)), (35, .t (encI t.poss.length)), (36, .t (encI (k : Nat))), (58, .t deT)], [(2, some ⟨2, 64, 0, [.t (encT t)]⟩), (4, some ⟨2, 64, 0, [.t z64]⟩), (10, some ⟨4, 23, gm, els2⟩)]⟩) (_) (⟨_, weak_keep (n := 57) (fr' := [(2, .ptr 2 0 0 0), (4, .ptr 4 0 0 0), (9, .t (mset (reachF r (open_ t.sent r)))), (10, .own 10 0 0 0), (34, .t (.sl (t.poss.map encR) false)), (35, .t (encI t.poss.length)), (36, .t (encI (0 : Nat))), (58, .t deT)]) (st' := [(2, some ⟨2, 64, 0, [.t (encT t)]⟩), (4, some ⟨2, 64, 0, [.t z64]⟩), (10, some ⟨4, 23, 0, ([])⟩)]) ⟨rfl, rfl, rfl, rfl, rfl, rfl, rfl, rfl, rfl, rfl, rfl, rfl, rfl, rfl, rfl, rfl, trivial⟩ ⟨rfl, okE_one rfl, rfl, okE_one rfl, rfl, (by first | exact okE_nil | (rw [he2]; exact okE_t) | (rw [he2]; intro x hx; simp only [List.mem_append, List.mem_map, List.mem_singleton] at hx; rcases hx with ⟨y, _, rfl⟩ | rfl <;> rfl)), trivial⟩, 0, 0, 0, [], (by omega), (by simp), (by simp), rfl, rfl⟩) ?_
    rintro m s ⟨k, gm, n2, els2, hk, hnn2, he2, rfl, rfl⟩
    have hfl0 : n2 ≤ k := by rw [hnn2]; exact Nat.le_trans (List.length_filter_le _ _) (by simp; omega)
    refine awp_seq ?_
    refine awp_rw rfl ?_
    refine ioT ?_
    refine RW.nil ?_
    refine awp_seq ?_
    refine awp_cond rfl (fun h3 => ?_) (fun h3 => ?_)
    · try simp only [cl] at h3
      refine awp_skip ?_
      refine awp_seq ?_
      refine awp_block ?_
      refine awp_seq ?_
      refine awp_rw rfl ?_
      refine RW.op rfl rfl (eff_indexM rfl rfl te33 rfl rfl rfl (by first | assumption | exact List.getElem?_eq_getElem (by omega)) rfl (by decide)) ?_
      refine RW.op rfl rfl (eff_loadW rfl rfl ti23 rfl rfl rfl) ?_
      refine RW.new rfl rfl (eff_allocK (k := 4) (id := 12) rfl rfl tz23 rfl rfl) ?_
      refine RW.store rfl rfl (eff_storeW (v := .t _) (els := [_]) (els' := [_]) rfl rfl ti23 rfl rfl rfl rfl rfl rfl rfl rfl rfl) ?_
      refine RW.nil ?_
      refine awp_seq ?_
      refine awp_rw rfl ?_
      refine mvT ?_
      refine RW.op rfl rfl (eff_load rfl rfl ti23 rfl (.whole rfl rfl rfl rfl rfl rfl)) ?_
      refine RW.op rfl rfl (eff_hasS (t.poss[k]'(by omega)) (srt_nodup (srt_reach r _)) Tryd.underlying98 tz4 rfl rfl rfl rfl) ?_
      refine RW.nil ?_
      refine awp_cond rfl (fun h4 => ?_) (fun h4 => ?_)
      · try simp only [cl] at h4
        refine awp_rw rfl ?_
        refine mvO ?_
        refine RW.op rfl rfl (eff_load rfl rfl ti23 rfl (.whole rfl rfl rfl rfl rfl rfl)) ?_
        refine RW.new rfl rfl (eff_buildSliceL (id := 45) (els := [.t (.agg [_, _, _, _])]) rfl rfl te33 tz23 rfl (by decide) (by decide) rfl rfl rfl rfl) ?_
        refine RW.new rfl rfl (eff_append (id := 10) (ys := [_]) rfl rfl ta33 rfl rfl rfl (by rw [he2, hnn2]; simp) rfl rfl (srcOwn rfl rfl rfl rfl rfl rfl) (by simp) (by simp; omega) (by simp; omega)) ?_
        refine asO ?_
        refine RW.nil ?_
        refine awp_rw rfl ?_
        refine RW.op rfl rfl (eff_iop rfl rfl rfl rfl (iadd (by omega))) ?_
        refine mvT ?_
        refine RW.nil ?_
        have hft : (t.poss.take (k + 1)).filter (fun x => decide (x ∈ reachF r (open_ t.sent r))) = _ := (left_take (by omega)).trans (congrArg _ (by first | exact if_pos (by assumption) | exact if_neg (by assumption)))
        refine ⟨_, ?_, _, weak_keep (n := 57) (fr' := [(2, .ptr 2 0 0 0), (4, .ptr 4 0 0 0), (9, .t (mset (reachF r (open_ t.sent r)))), (10, .own 10 _ 0 _), (34, .t (.sl (t.poss.map encR) false)), (35, .t (encI t.poss.length)), (36, .t (encI ((k + 1) : Nat))), (58, .t deT)]) (st' := [(2, some ⟨2, 64, 0, [.t (encT t)]⟩), (4, some ⟨2, 64, 0, [.t z64]⟩), (10, some ⟨4, 23, _, _⟩)]) ⟨rfl, rfl, rfl, rfl, rfl, rfl, rfl, rfl, rfl, rfl, rfl, rfl, rfl, rfl, rfl, rfl, trivial⟩ ⟨rfl, okE_one rfl, rfl, okE_one rfl, rfl, (by first | exact okE_nil | (rw [he2]; exact okE_t) | (rw [he2]; intro x hx; simp only [List.mem_append, List.mem_map, List.mem_singleton] at hx; rcases hx with ⟨y, _, rfl⟩ | rfl <;> rfl)), trivial⟩, k + 1, _, _, _, (by omega), (by rw [hft, hnn2]; simp), (by rw [hft, he2]; simp <;> rfl), rfl, rfl⟩
        omega
      · try simp only [cl] at h4
        refine awp_skip ?_
        refine awp_rw rfl ?_
        refine RW.op rfl rfl (eff_iop rfl rfl rfl rfl (iadd (by omega))) ?_
        refine mvT ?_
        refine RW.nil ?_
        have hft : (t.poss.take (k + 1)).filter (fun x => decide (x ∈ reachF r (open_ t.sent r))) = _ := (left_take (by omega)).trans (congrArg _ (by first | exact if_pos (by assumption) | exact if_neg (by assumption)))
        refine ⟨_, ?_, _, weak_keep (n := 57) (fr' := [(2, .ptr 2 0 0 0), (4, .ptr 4 0 0 0), (9, .t (mset (reachF r (open_ t.sent r)))), (10, .own 10 _ 0 _), (34, .t (.sl (t.poss.map encR) false)), (35, .t (encI t.poss.length)), (36, .t (encI ((k + 1) : Nat))), (58, .t deT)]) (st' := [(2, some ⟨2, 64, 0, [.t (encT t)]⟩), (4, some ⟨2, 64, 0, [.t z64]⟩), (10, some ⟨4, 23, _, _⟩)]) ⟨rfl, rfl, rfl, rfl, rfl, rfl, rfl, rfl, rfl, rfl, rfl, rfl, rfl, rfl, rfl, rfl, trivial⟩ ⟨rfl, okE_one rfl, rfl, okE_one rfl, rfl, (by first | exact okE_nil | (rw [he2]; exact okE_t) | (rw [he2]; intro x hx; simp only [List.mem_append, List.mem_map, List.mem_singleton] at hx; rcases hx with ⟨y, _, rfl⟩ | rfl <;> rfl)), trivial⟩, k + 1, _, _, _, (by omega), (by rw [hft, hnn2]; simp), (by rw [hft, he2]; simp <;> rfl), rfl, rfl⟩
        omega
    · try simp only [cl] at h3
      refine awp_exit ?_
      refine awp_seq ?_
      refine awp_seq ?_
      refine awp_rw rfl ?_
      refine mvO ?_
      refine RW.op rfl rfl (eff_len rfl rfl te33 rfl rfl rfl) ?_
      refine ioT ?_
      refine RW.nil ?_
      refine awp_cond rfl (fun h5 => ?_) (fun h5 => ?_)
      · try simp only [cl] at h5
        refine awp_seq ?_
        refine awp_rw rfl ?_
        refine RW.op rfl rfl (eff_buildT (ys := [_, _]) rfl rfl tz64 tg64 rfl) ?_
        refine RW.store rfl rfl (eff_storeW (v := .t _) (els := [_]) (els' := [_]) rfl rfl ti64 rfl rfl rfl rfl rfl rfl rfl rfl rfl) ?_
        refine asT ?_
        refine RW.nil ?_
        refine awp_ret ?_
        have hk2 : k = t.poss.length := by omega
        subst hk2
        have htl : t.poss.take t.poss.length = t.poss := List.take_length
        have hlf : left_ t r = (t.poss.take t.poss.length).filter (fun x => decide (x ∈ reachF r (open_ t.sent r))) := by rw [htl]; rfl
        first
          | (rw [hear_no (by rw [hlf]; omega)]
             exact ⟨Or.inr rfl, [_, _], ⟨.cell rfl ti64 (.whole rfl rfl rfl rfl rfl rfl) (.t _), .tmp (.t _), trivial⟩, (by repeat' first | exact trivial | exact Wk.refl _ | exact Wk.sl _ | refine And.intro ?_ ?_ | refine Wk.tupP ?_ | refine Wk.aggP ?_)⟩)
          | (rw [hear_ok (by rw [hlf]; omega), hlf]
             exact ⟨Or.inr rfl, [_, _], ⟨.cell rfl ti64 (.whole rfl rfl rfl rfl rfl rfl) (Res.aggP (xs := [_, _]) ⟨.t _, Res.ownT (xs := ((t.poss.take t.poss.length).filter (fun x => decide (x ∈ reachF r (open_ t.sent r)))).map encR) rfl rfl he2 (by rw [hnn2]; simp), trivial⟩), .tmp (.t _), trivial⟩, .refl _⟩)
      · try simp only [cl] at h5
        refine awp_skip ?_
        refine awp_seq ?_
        refine awp_rw rfl ?_
        refine faT tf64_0 ?_
        refine l1T ti62 rfl rfl rfl rfl rfl (.one rfl rfl rfl rfl) ?_
        refine RW.op rfl rfl (eff_callT (own_ret t.sent (by omega) hb) co72 rfl rfl rfl rfl) ?_
        refine mvO ?_
        refine RW.op rfl rfl (eff_buildA (ys := [_, _]) rfl rfl tz64 tg64 rfl rfl) ?_
        refine RW.store rfl rfl (eff_storeW (v := .agg _) (els := [_]) (els' := [_]) rfl rfl ti64 rfl rfl rfl rfl rfl rfl rfl rfl rfl) ?_
        refine asT ?_
        refine RW.nil ?_
        refine awp_ret ?_
        have hk2 : k = t.poss.length := by omega
        subst hk2
        have htl : t.poss.take t.poss.length = t.poss := List.take_length
        have hlf : left_ t r = (t.poss.take t.poss.length).filter (fun x => decide (x ∈ reachF r (open_ t.sent r))) := by rw [htl]; rfl
        first
          | (rw [hear_no (by rw [hlf]; omega)]
             exact ⟨Or.inr rfl, [_, _], ⟨.cell rfl ti64 (.whole rfl rfl rfl rfl rfl rfl) (.t _), .tmp (.t _), trivial⟩, (by repeat' first | exact trivial | exact Wk.refl _ | exact Wk.sl _ | refine And.intro ?_ ?_ | refine Wk.tupP ?_ | refine Wk.aggP ?_)⟩)
          | (rw [hear_ok (by rw [hlf]; omega), hlf]
             exact ⟨Or.inr rfl, [_, _], ⟨.cell rfl ti64 (.whole rfl rfl rfl rfl rfl rfl) (Res.aggP (xs := [_, _]) ⟨.t _, Res.ownT (xs := ((t.poss.take t.poss.length).filter (fun x => decide (x ∈ reachF r (open_ t.sent r)))).map encR) rfl rfl he2 (by rw [hnn2]; simp), trivial⟩), .tmp (.t _), trivial⟩, .refl _⟩)

end Go.Tv.C36

end
section
open Go Go.Tv Go.Proofs
namespace Go.Tv.C36
set_option maxRecDepth 20000
set_option maxHeartbeats 2000000
set_option linter.unusedSimpArgs false
set_option linter.unusedVariables false
end Go.Tv.C36

end
section
open Go Go.Tv Go.Proofs
namespace Go.Tv.C36
set_option maxRecDepth 20000
set_option maxHeartbeats 2000000
set_option linter.unusedSimpArgs false
set_option linter.unusedVariables false
theorem sent_ret (l : List Rcd) (hl : l.length ≤ 1000000) (hq : ∀ r, r ∈ l → 0 ≤ r.frame.seq ∧ r.frame.seq ≤ 1000000) : Ret Tryd.prog 41 [.sl (l.map encC) false] (encI (sentN l)) := by
  refine ret_of_awp Tryd.func41 rfl (Nat.le_of_ble_eq_true rfl) ?_
  refine awp_seq ?_
  refine awp_rw rfl ?_
  refine asT ?_
  refine RW.nil ?_
  refine awp_seq ?_
  refine awp_rw rfl ?_
  refine asT ?_
  refine RW.nil ?_
  refine awp_seq ?_
  refine awp_seq ?_
  refine awp_rw rfl ?_
  refine mvT ?_
  refine RW.op rfl rfl (eff_lenM rfl rfl te32 rfl) ?_
  refine mvT ?_
  refine RW.nil ?_
  refine awp_block ?_
  refine awp_loopW (fun m s => ∃ (i : Nat) (v : Int), (i ≤ l.length) ∧ (v = sentN (l.take i)) ∧ m = l.length - i ∧ s = ⟨29, [(3, .t (encI v)), (6, .t (.sl (l.map encC) false)), (7, .t (encI (l.length : Nat))), (8, .t (encI (i : Nat)))], []⟩) (_) (⟨_, weak_keep (n := 29) (fr' := [(3, .t (encI 0)), (6, .t (.sl (l.map encC) false)), (7, .t (encI (l.length : Nat))), (8, .t (encI (0 : Nat)))]) (st' := []) ⟨rfl, rfl, rfl, rfl, rfl, rfl, rfl, rfl, trivial⟩ trivial, 0, 0, (by omega), (by rfl), rfl, rfl⟩) ?_
  rintro m s ⟨i, v, hi, hv, rfl, rfl⟩
  refine awp_seq ?_
  refine awp_rw rfl ?_
  refine ioT ?_
  refine RW.nil ?_
  refine awp_seq ?_
  refine awp_cond rfl (fun h1 => ?_) (fun h1 => ?_)
  · try simp only [cl] at h1
    refine awp_skip ?_
    refine awp_seq ?_
    refine awp_block ?_
    refine awp_seq ?_
    refine awp_rw rfl ?_
    have hil : i < l.length := by omega
    have hvr := sentN_range hq i (by omega)
    rw [← hv] at hvr
    have hqi := hq _ (List.getElem_mem hil)
    refine RW.op rfl rfl (eff_indexM rfl rfl te32 rfl rfl rfl (by first | assumption | exact List.getElem?_eq_getElem (by omega)) rfl (by decide)) ?_
    refine RW.op rfl rfl (eff_loadW rfl rfl ti47 rfl rfl rfl) ?_
    refine RW.new rfl rfl (eff_allocK (k := 15) (id := 5) rfl rfl tz47 rfl rfl) ?_
    refine RW.store rfl rfl (eff_storeW (v := .t _) (els := [_]) (els' := [_]) rfl rfl ti47 rfl rfl rfl rfl rfl rfl rfl rfl rfl) ?_
    refine RW.nil ?_
    refine awp_seq ?_
    refine awp_rw rfl ?_
    refine faT tf47_1 ?_
    refine l1T ti3 rfl rfl rfl rfl rfl (.one rfl rfl rfl rfl) ?_
    refine ioT ?_
    refine mvT ?_
    refine RW.split 15 rfl (fun h2 => ?_) (fun h2 => ?_)
    · try simp only [cl] at h2
      refine RW.gop rfl rfl rfl rfl rfl rfl (eff_fieldAddr rfl rfl tf47_2 (by decide) rfl rfl rfl (Nat.le_of_ble_eq_true rfl)) ?_
      refine RW.gop rfl rfl rfl rfl rfl rfl (eff_fieldAddr rfl rfl tf45_2 (by decide) rfl rfl rfl (Nat.le_of_ble_eq_true rfl)) ?_
      refine RW.gop rfl rfl rfl rfl rfl rfl (eff_load (y := .t _) rfl rfl ti4 rfl (.one rfl rfl rfl rfl)) ?_
      refine RW.gop rfl rfl rfl rfl rfl rfl (eff_unop rfl rfl rfl rfl) ?_
      refine pkT ?_
      refine RW.nil ?_
      refine awp_cond rfl (fun h3 => ?_) (fun h3 => ?_)
      · try simp only [cl] at h3
        refine awp_rw rfl ?_
        refine mvT ?_
        refine faT tf47_2 ?_
        refine faT tf45_0 ?_
        refine l1T ti3 rfl rfl rfl rfl rfl (.one rfl rfl rfl rfl) ?_
        refine RW.op rfl rfl (eff_iop rfl rfl rfl rfl (iadd (by omega))) ?_
        refine RW.op rfl rfl (eff_max rfl rfl rfl rfl) ?_
        refine asT ?_
        refine RW.nil ?_
        refine awp_rw rfl ?_
        refine RW.op rfl rfl (eff_iop rfl rfl rfl rfl (iadd (by omega))) ?_
        refine mvT ?_
        refine RW.nil ?_
        have hst : sentN (l.take (i + 1)) = sentS v l[i] := by rw [sentN_take (by omega), hv]
        refine ⟨_, ?_, _, weak_keep (n := 29) (fr' := [(3, .t (encI _)), (6, .t (.sl (l.map encC) false)), (7, .t (encI (l.length : Nat))), (8, .t (encI ((i + 1) : Nat)))]) (st' := []) ⟨rfl, rfl, rfl, rfl, rfl, rfl, rfl, rfl, trivial⟩ trivial, i + 1, _, (by omega), (by first | exact (hst.trans (by unfold sentS; rw [if_pos ⟨by assumption, by assumption⟩])).symm | exact (hst.trans (by unfold sentS; rw [if_neg (fun hh => by simp_all)])).symm), rfl, rfl⟩
        omega
      · try simp only [cl] at h3
        refine awp_skip ?_
        refine awp_rw rfl ?_
        refine RW.op rfl rfl (eff_iop rfl rfl rfl rfl (iadd (by omega))) ?_
        refine mvT ?_
        refine RW.nil ?_
        have hst : sentN (l.take (i + 1)) = sentS v l[i] := by rw [sentN_take (by omega), hv]
        refine ⟨_, ?_, _, weak_keep (n := 29) (fr' := [(3, .t (encI _)), (6, .t (.sl (l.map encC) false)), (7, .t (encI (l.length : Nat))), (8, .t (encI ((i + 1) : Nat)))]) (st' := []) ⟨rfl, rfl, rfl, rfl, rfl, rfl, rfl, rfl, trivial⟩ trivial, i + 1, _, (by omega), (by first | exact (hst.trans (by unfold sentS; rw [if_pos ⟨by assumption, by assumption⟩])).symm | exact (hst.trans (by unfold sentS; rw [if_neg (fun hh => by simp_all)])).symm), rfl, rfl⟩
        omega
    · try simp only [cl] at h2
      refine gkT ?_
      refine gkT ?_
      refine gkT ?_
      refine gkT ?_
      refine pkT ?_
      refine RW.nil ?_
      refine awp_cond rfl (fun h => nomatch h) (fun _ => ?_)
      refine awp_skip ?_
      refine awp_rw rfl ?_
      refine RW.op rfl rfl (eff_iop rfl rfl rfl rfl (iadd (by omega))) ?_
      refine mvT ?_
      refine RW.nil ?_
      have hst : sentN (l.take (i + 1)) = sentS v l[i] := by rw [sentN_take (by omega), hv]
      refine ⟨_, ?_, _, weak_keep (n := 29) (fr' := [(3, .t (encI _)), (6, .t (.sl (l.map encC) false)), (7, .t (encI (l.length : Nat))), (8, .t (encI ((i + 1) : Nat)))]) (st' := []) ⟨rfl, rfl, rfl, rfl, rfl, rfl, rfl, rfl, trivial⟩ trivial, i + 1, _, (by omega), (by first | exact (hst.trans (by unfold sentS; rw [if_pos ⟨by assumption, by assumption⟩])).symm | exact (hst.trans (by unfold sentS; rw [if_neg (fun hh => by simp_all)])).symm), rfl, rfl⟩
      omega
  · try simp only [cl] at h1
    refine awp_exit ?_
    refine awp_seq ?_
    refine awp_rw rfl ?_
    refine mvT ?_
    refine asT ?_
    refine RW.nil ?_
    refine awp_ret ?_
    have hi2 : i = l.length := by omega
    subst hi2
    rw [List.take_length] at hv
    rw [← hv]
    exact ⟨Or.inr rfl, [_], ⟨.tmp (.t _), trivial⟩, .refl _⟩

theorem rights_ret (T : Twn) (d : Dec) (n : Int) (hp : ∀ y, y ∈ T.poss → HP y) (hx : ∀ y, y ∈ T.poss → NX 1000000 y) (hd : -2000000 ≤ d.seq ∧ d.seq ≤ 2000000) (hl : T.poss.length ≤ 1000) : Ret Tryd.prog 40 [encT T, encD d, encI n] (.sl ((rights T d n).map encR) false) := by
  refine ret_of_awp Tryd.func40 rfl (Nat.le_of_ble_eq_true rfl) ?_
  refine awp_seq ?_
  refine awp_rw rfl ?_
  refine RW.new rfl rfl (eff_boxK (v := .t _) (k := 2) (id := 3) rfl rfl rfl rfl rfl rfl) ?_
  refine RW.new rfl rfl (eff_boxK (v := .t _) (k := 4) (id := 4) rfl rfl rfl rfl rfl rfl) ?_
  refine asT ?_
  refine RW.nil ?_
  refine awp_seq ?_
  refine awp_rw rfl ?_
  refine asT ?_
  refine RW.nil ?_
  show AWP _ _ _ _
  refine awp_weak (weak_adopt (d := 7) (id := 7) (k := 4) (ty := 23) rfl rfl) ?_
  refine awp_seq ?_
  refine awp_seq ?_
  refine awp_rw rfl ?_
  refine faT tf64_1 ?_
  refine l1T ti33 rfl rfl rfl rfl rfl (.one rfl rfl rfl rfl) ?_
  refine RW.op rfl rfl (eff_lenM rfl rfl te33 rfl) ?_
  refine mvT ?_
  refine RW.nil ?_
  refine awp_block ?_
  refine awp_loopW (fun m s => ∃ (i : Nat) (gn : Nat) (m2 : Nat) (els : List AV), (i ≤ T.poss.length) ∧ (m2 = ((T.poss.take i).filter (fun s => rightD d s n)).length) ∧ (els = (((T.poss.take i).filter (fun s => rightD d s n)).map encR).map .t) ∧ m = T.poss.length - i ∧ s = ⟨27, [(2, .t (encI n)), (4, .ptr 4 0 0 0), (7, .own 7 gn 0 m2), (11, .t (.sl (T.poss.map encR) false)), (12, .t (encI (T.poss.length : Nat))), (13, .t (encI (i : Nat)))], [(4, some ⟨4, 28, 0, [.t (encD d)]⟩), (7, some ⟨4, 23, gn, els⟩)]⟩) (_) (⟨_, weak_keep (n := 27) (fr' := [(2, .t (encI n)), (4, .ptr 4 0 0 0), (7, .own 7 0 0 0), (11, .t (.sl (T.poss.map encR) false)), (12, .t (encI (T.poss.length : Nat))), (13, .t (encI (0 : Nat)))]) (st' := [(4, some ⟨4, 28, 0, [.t (encD d)]⟩), (7, some ⟨4, 23, 0, ([])⟩)]) ⟨rfl, rfl, rfl, rfl, rfl, rfl, rfl, rfl, rfl, rfl, rfl, rfl, trivial⟩ ⟨rfl, okE_one rfl, rfl, (by first | exact okE_nil | (rw [he]; exact okE_t) | (rw [he]; intro x hx; simp only [List.mem_append, List.mem_map, List.mem_singleton] at hx; rcases hx with ⟨y, _, rfl⟩ | rfl <;> rfl)), trivial⟩, 0, 0, 0, [], (by omega), (by simp), (by simp), rfl, rfl⟩) ?_
  rintro m s ⟨i, gn, m2, els, hi, hnn, he, rfl, rfl⟩
  have hfl : m2 ≤ i := by rw [hnn]; exact Nat.le_trans (List.length_filter_le _ _) (by simp; omega)
  refine awp_seq ?_
  refine awp_rw rfl ?_
  refine ioT ?_
  refine RW.nil ?_
  refine awp_seq ?_
  refine awp_cond rfl (fun h1 => ?_) (fun h1 => ?_)
  · try simp only [cl] at h1
    refine awp_skip ?_
    refine awp_seq ?_
    refine awp_block ?_
    refine awp_seq ?_
    refine awp_rw rfl ?_
    have hil : i < T.poss.length := by omega
    refine RW.op rfl rfl (eff_indexM rfl rfl te33 rfl rfl rfl (by first | assumption | exact List.getElem?_eq_getElem (by omega)) rfl (by decide)) ?_
    refine RW.op rfl rfl (eff_loadW rfl rfl ti23 rfl rfl rfl) ?_
    refine RW.new rfl rfl (eff_allocK (k := 4) (id := 9) rfl rfl tz23 rfl rfl) ?_
    refine RW.store rfl rfl (eff_storeW (v := .t _) (els := [_]) (els' := [_]) rfl rfl ti23 rfl rfl rfl rfl rfl rfl rfl rfl rfl) ?_
    refine RW.nil ?_
    refine awp_seq ?_
    refine awp_rw rfl ?_
    refine RW.op rfl rfl (eff_load rfl rfl ti28 rfl (.whole rfl rfl rfl rfl rfl rfl)) ?_
    refine RW.op rfl rfl (eff_load rfl rfl ti23 rfl (.whole rfl rfl rfl rfl rfl rfl)) ?_
    refine mvT ?_
    refine RW.op rfl rfl (eff_callT (right_ret d _ n (hp _ (List.getElem_mem _)) (hx _ (List.getElem_mem _)) hd) co14 rfl rfl rfl rfl) ?_
    refine RW.nil ?_
    refine awp_cond rfl (fun h2 => ?_) (fun h2 => ?_)
    · try simp only [cl] at h2
      refine awp_rw rfl ?_
      refine mvO ?_
      refine RW.op rfl rfl (eff_load rfl rfl ti23 rfl (.whole rfl rfl rfl rfl rfl rfl)) ?_
      refine RW.new rfl rfl (eff_buildSliceL (id := 23) (els := [.t (.agg [_, _, _, _])]) rfl rfl te33 tz23 rfl (by decide) (by decide) rfl rfl rfl rfl) ?_
      refine RW.new rfl rfl (eff_append (id := 7) (ys := [_]) rfl rfl ta33 rfl rfl rfl (by rw [he, hnn]; simp) rfl rfl (srcOwn rfl rfl rfl rfl rfl rfl) (by simp) (by simp; omega) (by simp; omega)) ?_
      refine asO ?_
      refine RW.nil ?_
      refine awp_rw rfl ?_
      refine RW.op rfl rfl (eff_iop rfl rfl rfl rfl (iadd (by omega))) ?_
      refine mvT ?_
      refine RW.nil ?_
      have hft : (T.poss.take (i + 1)).filter (fun s => rightD d s n) = _ := (filter_take_succ (by omega)).trans (congrArg _ (by first | exact if_pos (by assumption) | exact if_neg (by simp only [Bool.not_eq_true]; assumption)))
      refine ⟨_, ?_, _, weak_keep (n := 27) (fr' := [(2, .t (encI n)), (4, .ptr 4 0 0 0), (7, .own 7 _ 0 _), (11, .t (.sl (T.poss.map encR) false)), (12, .t (encI (T.poss.length : Nat))), (13, .t (encI ((i + 1) : Nat)))]) (st' := [(4, some ⟨4, 28, 0, [.t (encD d)]⟩), (7, some ⟨4, 23, _, _⟩)]) ⟨rfl, rfl, rfl, rfl, rfl, rfl, rfl, rfl, rfl, rfl, rfl, rfl, trivial⟩ ⟨rfl, okE_one rfl, rfl, (by first | exact okE_nil | (rw [he]; exact okE_t) | (rw [he]; intro x hx; simp only [List.mem_append, List.mem_map, List.mem_singleton] at hx; rcases hx with ⟨y, _, rfl⟩ | rfl <;> rfl)), trivial⟩, i + 1, _, _, _, (by omega), (by rw [hft, hnn]; simp), (by rw [hft, he]; simp <;> rfl), rfl, rfl⟩
      omega
    · try simp only [cl] at h2
      refine awp_skip ?_
      refine awp_rw rfl ?_
      refine RW.op rfl rfl (eff_iop rfl rfl rfl rfl (iadd (by omega))) ?_
      refine mvT ?_
      refine RW.nil ?_
      have hft : (T.poss.take (i + 1)).filter (fun s => rightD d s n) = _ := (filter_take_succ (by omega)).trans (congrArg _ (by first | exact if_pos (by assumption) | exact if_neg (by simp only [Bool.not_eq_true]; assumption)))
      refine ⟨_, ?_, _, weak_keep (n := 27) (fr' := [(2, .t (encI n)), (4, .ptr 4 0 0 0), (7, .own 7 _ 0 _), (11, .t (.sl (T.poss.map encR) false)), (12, .t (encI (T.poss.length : Nat))), (13, .t (encI ((i + 1) : Nat)))]) (st' := [(4, some ⟨4, 28, 0, [.t (encD d)]⟩), (7, some ⟨4, 23, _, _⟩)]) ⟨rfl, rfl, rfl, rfl, rfl, rfl, rfl, rfl, rfl, rfl, rfl, rfl, trivial⟩ ⟨rfl, okE_one rfl, rfl, (by first | exact okE_nil | (rw [he]; exact okE_t) | (rw [he]; intro x hx; simp only [List.mem_append, List.mem_map, List.mem_singleton] at hx; rcases hx with ⟨y, _, rfl⟩ | rfl <;> rfl)), trivial⟩, i + 1, _, _, _, (by omega), (by rw [hft, hnn]; simp), (by rw [hft, he]; simp <;> rfl), rfl, rfl⟩
      omega
  · try simp only [cl] at h1
    refine awp_exit ?_
    refine awp_seq ?_
    refine awp_rw rfl ?_
    refine mvO ?_
    refine asO ?_
    refine RW.nil ?_
    refine awp_ret ?_
    have hi2 : i = T.poss.length := by omega
    subst hi2
    rw [List.take_length] at hnn he
    exact ⟨Or.inr rfl, [_], ⟨.tmp (Res.ownT (xs := (rights T d n).map encR) rfl rfl he (by rw [hnn]; simp [rights])), trivial⟩, .refl _⟩

end Go.Tv.C36

end
section
open Go Go.Tv Go.Proofs
namespace Go.Tv.C36
set_option maxRecDepth 20000
set_option maxHeartbeats 2000000
set_option linter.unusedSimpArgs false
set_option linter.unusedVariables false
end Go.Tv.C36

end
section
open Go Go.Tv Go.Proofs
namespace Go.Tv.C36
set_option maxRecDepth 20000
set_option maxHeartbeats 2000000
set_option linter.unusedSimpArgs false
set_option linter.unusedVariables false
end Go.Tv.C36

end
section
open Go Go.Tv Go.Proofs
namespace Go.Tv.C36
set_option maxRecDepth 20000
set_option maxHeartbeats 2000000
set_option linter.unusedSimpArgs false
set_option linter.unusedVariables false
theorem dvis_t (l : List Rcd) (d : Dec) (i : Nat) (T : Twn) (ys : List Tr) (fl : Bool) (hi : i < l.length) (hl : l.length ≤ 1000000) : RetK Tryd.prog 65 [(1007, some ⟨1, 4, 0, [.t (.bool true)]⟩), (1002, some ⟨1, 32, 0, [.t (.sl (l.map encC) false)]⟩), (1003, some ⟨4, 28, 0, [.t (encD d)]⟩), (1006, some ⟨1, 33, 0, [.t (.sl ys fl)]⟩)] [.t (encI (i : Nat)), .t (encT T), .ptr 1007 0 0 0, .ptr 1002 0 0 0, .ptr 1003 0 0 0, .ptr 1006 0 0 0] [(1007, some ⟨1, 4, 0, [.t (.bool true)]⟩), (1002, some ⟨1, 32, 0, [.t (.sl (l.map encC) false)]⟩), (1003, some ⟨4, 28, 0, [.t (encD d)]⟩), (1006, some ⟨1, 33, 0, [.t (.sl ys fl)]⟩)] (.tup []) [(2, .ptr 1007 0 0 0), (3, .ptr 1002 0 0 0), (4, .ptr 1003 0 0 0), (5, .ptr 1006 0 0 0)] := by
  refine retK_of_awj (kp := fun i => Nat.beq i 2 || Nat.beq i 3 || Nat.beq i 4 || Nat.beq i 5) Tryd.func65 rfl (Nat.le_of_ble_eq_true rfl) (by simp) ?_
  intro F0 w0
  refine awj_seq ?_
  refine awj_rj rfl ?_
  refine RJ.new rfl rfl (eff_boxK (v := .t _) (k := 2) (id := 7) rfl rfl rfl rfl rfl rfl) ?_
  refine RJ.nil ?_
  refine awj_seq ?_
  refine awj_rd [(some 8, []), (some 9, []), (some 10, []), (some 11, []), (some 12, []), (some 13, []), (some 14, []), (some 15, []), (some 16, []), (some 17, []), (some 18, []), (some 19, []), (some 20, []), (some 21, []), (some 22, []), (some 23, []), (some 24, []), (some 25, []), (some 26, [])] [[], [0], [0, 1], [0, 1, 2], [0, 1, 2], [0, 1, 2, 3, 4], [0, 1, 2, 3, 4, 5], [0, 1, 2, 3, 4, 5, 6], [0, 1, 2, 3, 4, 5, 6, 7], [0, 1, 2, 3, 4, 5, 6, 7, 8], [0, 1, 2, 3, 4, 5, 6, 7, 8, 9], [0, 1, 2, 3, 4, 5, 6, 7, 8, 9, 10], [0, 1, 2, 3, 4, 5, 6, 7, 8, 9, 10], [0, 1, 2, 3, 4, 5, 6, 7, 8, 9, 10, 11, 12], [0, 1, 2, 3, 4, 5, 6, 7, 8, 9, 10, 11, 12, 13], [0, 1, 2, 3, 4, 5, 6, 7, 8, 9, 10, 11, 12, 13, 14], [0, 1, 2, 3, 4, 5, 6, 7, 8, 9, 10], [0, 1, 2, 3, 4, 5, 6, 7, 8, 9, 10, 11, 12, 13, 14, 15, 16], [0, 1, 2, 3, 4, 5, 6, 7, 8, 9, 10, 11, 12, 13, 14, 15, 16, 17]] tm rfl rfl rfl rfl ?_
  refine RD.op rfl rfl rfl (eff_load (y := .t _) rfl rfl ti4 rfl (.one rfl rfl rfl rfl)) ?_
  refine RD.op rfl rfl rfl (eff_unop rfl rfl rfl rfl) ?_
  refine mvD ?_
  refine gkD ?_
  refine gkD ?_
  refine gkD ?_
  refine gkD ?_
  refine gkD ?_
  refine gkD ?_
  refine RD.op rfl rfl rfl (eff_pick (v := .t _) rfl rfl rfl rfl) ?_
  refine mvD ?_
  refine gkD ?_
  refine gkD ?_
  refine gkD ?_
  refine gkD ?_
  refine gkD ?_
  refine gkD ?_
  refine gkD ?_
  refine RD.op rfl rfl rfl (eff_pick (v := .t _) rfl rfl rfl rfl) ?_
  refine RD.nil ?_
  refine awj_cond rfl (fun h => nomatch h) (fun _ => ?_)
  refine awj_skip ?_
  exact ⟨Or.inl rfl, [], [], trivial, rfl, weak_keep ⟨rfl, rfl, rfl, rfl, rfl, rfl, rfl, rfl, trivial⟩ ⟨rfl, okE_one rfl, rfl, okE_one rfl, rfl, okE_one rfl, rfl, okE_one rfl, trivial⟩, rfl⟩

theorem dvis_n (l : List Rcd) (d : Dec) (i : Nat) (T : Twn) (ys : List Tr) (fl : Bool) (hi : i < l.length) (hl : l.length ≤ 1000000) (hn : isD l d i = false) : RetK Tryd.prog 65 [(1007, some ⟨1, 4, 0, [.t (.bool false)]⟩), (1002, some ⟨1, 32, 0, [.t (.sl (l.map encC) false)]⟩), (1003, some ⟨4, 28, 0, [.t (encD d)]⟩), (1006, some ⟨1, 33, 0, [.t (.sl ys fl)]⟩)] [.t (encI (i : Nat)), .t (encT T), .ptr 1007 0 0 0, .ptr 1002 0 0 0, .ptr 1003 0 0 0, .ptr 1006 0 0 0] [(1007, some ⟨1, 4, 0, [.t (.bool false)]⟩), (1002, some ⟨1, 32, 0, [.t (.sl (l.map encC) false)]⟩), (1003, some ⟨4, 28, 0, [.t (encD d)]⟩), (1006, some ⟨1, 33, 0, [.t (.sl ys fl)]⟩)] (.tup []) [(2, .ptr 1007 0 0 0), (3, .ptr 1002 0 0 0), (4, .ptr 1003 0 0 0), (5, .ptr 1006 0 0 0)] := by
  refine retK_of_awj (kp := fun i => Nat.beq i 2 || Nat.beq i 3 || Nat.beq i 4 || Nat.beq i 5) Tryd.func65 rfl (Nat.le_of_ble_eq_true rfl) (by simp) ?_
  intro F0 w0
  refine awj_seq ?_
  refine awj_rj rfl ?_
  refine RJ.new rfl rfl (eff_boxK (v := .t _) (k := 2) (id := 7) rfl rfl rfl rfl rfl rfl) ?_
  refine RJ.nil ?_
  refine awj_seq ?_
  by_cases hc1 : (l[i]'hi).kind = 3
  · refine awj_rd [(some 8, []), (some 9, []), (some 10, []), (some 11, []), (some 12, []), (some 13, []), (some 14, []), (some 15, []), (some 16, []), (some 17, []), (some 18, []), (some 19, []), (some 20, []), (some 21, []), (some 22, []), (some 23, []), (some 24, []), (some 25, []), (some 26, [])] [[], [0], [0, 1], [0, 1, 2], [0, 1, 2], [0, 1, 2, 3, 4], [0, 1, 2, 3, 4, 5], [0, 1, 2, 3, 4, 5, 6], [0, 1, 2, 3, 4, 5, 6, 7], [0, 1, 2, 3, 4, 5, 6, 7, 8], [0, 1, 2, 3, 4, 5, 6, 7, 8, 9], [0, 1, 2, 3, 4, 5, 6, 7, 8, 9, 10], [0, 1, 2, 3, 4, 5, 6, 7, 8, 9, 10], [0, 1, 2, 3, 4, 5, 6, 7, 8, 9, 10, 11, 12], [0, 1, 2, 3, 4, 5, 6, 7, 8, 9, 10, 11, 12, 13], [0, 1, 2, 3, 4, 5, 6, 7, 8, 9, 10, 11, 12, 13, 14], [0, 1, 2, 3, 4, 5, 6, 7, 8, 9, 10], [0, 1, 2, 3, 4, 5, 6, 7, 8, 9, 10, 11, 12, 13, 14, 15, 16], [0, 1, 2, 3, 4, 5, 6, 7, 8, 9, 10, 11, 12, 13, 14, 15, 16, 17]] tm rfl rfl rfl rfl ?_
    refine RD.op rfl rfl rfl (eff_load (y := .t _) rfl rfl ti4 rfl (.one rfl rfl rfl rfl)) ?_
    refine RD.op rfl rfl rfl (eff_unop rfl rfl rfl rfl) ?_
    refine mvD ?_
    refine RD.gop rfl rfl rfl rfl rfl rfl rfl (eff_load (y := .t _) rfl rfl ti32 rfl (.one rfl rfl rfl rfl)) ?_
    refine RD.gop rfl rfl rfl rfl rfl rfl rfl (eff_move (v := .t _) rfl rfl rfl) ?_
    refine RD.gop rfl rfl rfl rfl rfl rfl rfl (eff_indexM rfl rfl te32 rfl rfl rfl (by first | assumption | exact List.getElem?_eq_getElem (by omega)) rfl (by decide)) ?_
    refine RD.gop rfl rfl rfl rfl rfl rfl rfl (eff_fieldAddrT rfl rfl tf47_1 (by decide) rfl) ?_
    refine RD.gop rfl rfl rfl rfl rfl rfl rfl (eff_loadT1 rfl rfl ti3 rfl rfl) ?_
    refine RD.gop rfl rfl rfl rfl rfl rfl rfl (eff_iop (r := .bool true) rfl rfl rfl rfl (by simp [iop, hc1])) ?_
    refine RD.op rfl rfl rfl (eff_pick (v := .t _) rfl rfl rfl rfl) ?_
    refine mvD ?_
    refine RD.gop rfl rfl rfl rfl rfl rfl rfl (eff_load (y := .t _) rfl rfl ti32 rfl (.one rfl rfl rfl rfl)) ?_
    refine RD.gop rfl rfl rfl rfl rfl rfl rfl (eff_move (v := .t _) rfl rfl rfl) ?_
    refine RD.gop rfl rfl rfl rfl rfl rfl rfl (eff_indexM (i := i) rfl rfl te32 rfl rfl (by first | rfl | omega) (by first | assumption | exact List.getElem?_eq_getElem (by omega)) rfl (by decide)) ?_
    refine RD.gop rfl rfl rfl rfl rfl rfl rfl (eff_fieldAddrT rfl rfl tf47_4 (by decide) rfl) ?_
    refine RD.gop rfl rfl rfl rfl rfl rfl rfl (eff_loadT (ys := [_, _, _, _]) rfl rfl ti28 rfl rfl rfl) ?_
    refine RD.gop rfl rfl rfl rfl rfl rfl rfl (eff_load rfl rfl ti28 rfl (.whole rfl rfl rfl rfl rfl rfl)) ?_
    refine RD.gop rfl rfl rfl rfl rfl rfl rfl (eff_structEqlAB (cells := cellsD) (a := (l[i]'hi).dec) (b := d) (r := false) rfl rfl ts28s ti28 th28 cellsD_inj cellsD_kind rfl rfl (decide_eq_false (fun hd => by rw [isD_at hi, decide_eq_true ⟨hc1, hd⟩] at hn; cases hn))) ?_
    refine RD.op rfl rfl rfl (eff_pick (v := .t _) rfl rfl rfl rfl) ?_
    refine RD.nil ?_
    refine awj_cond rfl (fun h => nomatch h) (fun _ => ?_)
    refine awj_skip ?_
    exact ⟨Or.inl rfl, [], [], trivial, rfl, weak_keep ⟨rfl, rfl, rfl, rfl, rfl, rfl, rfl, rfl, trivial⟩ ⟨rfl, okE_one rfl, rfl, okE_one rfl, rfl, okE_one rfl, rfl, okE_one rfl, trivial⟩, rfl⟩
  · refine awj_rd [(some 8, []), (some 9, []), (some 10, []), (some 11, []), (some 12, []), (some 13, []), (some 14, []), (some 15, []), (some 16, []), (some 17, []), (some 18, []), (some 19, []), (some 20, []), (some 21, []), (some 22, []), (some 23, []), (some 24, []), (some 25, []), (some 26, [])] [[], [0], [0, 1], [0, 1, 2], [0, 1, 2], [0, 1, 2, 3, 4], [0, 1, 2, 3, 4, 5], [0, 1, 2, 3, 4, 5, 6], [0, 1, 2, 3, 4, 5, 6, 7], [0, 1, 2, 3, 4, 5, 6, 7, 8], [0, 1, 2, 3, 4, 5, 6, 7, 8, 9], [0, 1, 2, 3, 4, 5, 6, 7, 8, 9, 10], [0, 1, 2, 3, 4, 5, 6, 7, 8, 9, 10], [0, 1, 2, 3, 4, 5, 6, 7, 8, 9, 10, 11, 12], [0, 1, 2, 3, 4, 5, 6, 7, 8, 9, 10, 11, 12, 13], [0, 1, 2, 3, 4, 5, 6, 7, 8, 9, 10, 11, 12, 13, 14], [0, 1, 2, 3, 4, 5, 6, 7, 8, 9, 10], [0, 1, 2, 3, 4, 5, 6, 7, 8, 9, 10, 11, 12, 13, 14, 15, 16], [0, 1, 2, 3, 4, 5, 6, 7, 8, 9, 10, 11, 12, 13, 14, 15, 16, 17]] tm rfl rfl rfl rfl ?_
    refine RD.op rfl rfl rfl (eff_load (y := .t _) rfl rfl ti4 rfl (.one rfl rfl rfl rfl)) ?_
    refine RD.op rfl rfl rfl (eff_unop rfl rfl rfl rfl) ?_
    refine mvD ?_
    refine RD.gop rfl rfl rfl rfl rfl rfl rfl (eff_load (y := .t _) rfl rfl ti32 rfl (.one rfl rfl rfl rfl)) ?_
    refine RD.gop rfl rfl rfl rfl rfl rfl rfl (eff_move (v := .t _) rfl rfl rfl) ?_
    refine RD.gop rfl rfl rfl rfl rfl rfl rfl (eff_indexM rfl rfl te32 rfl rfl rfl (by first | assumption | exact List.getElem?_eq_getElem (by omega)) rfl (by decide)) ?_
    refine RD.gop rfl rfl rfl rfl rfl rfl rfl (eff_fieldAddrT rfl rfl tf47_1 (by decide) rfl) ?_
    refine RD.gop rfl rfl rfl rfl rfl rfl rfl (eff_loadT1 rfl rfl ti3 rfl rfl) ?_
    refine RD.gop rfl rfl rfl rfl rfl rfl rfl (eff_iop (r := .bool false) rfl rfl rfl rfl (by simp [iop, hc1])) ?_
    refine RD.op rfl rfl rfl (eff_pick (v := .t _) rfl rfl rfl rfl) ?_
    refine mvD ?_
    refine gkD ?_
    refine gkD ?_
    refine gkD ?_
    refine gkD ?_
    refine gkD ?_
    refine gkD ?_
    refine gkD ?_
    refine RD.op rfl rfl rfl (eff_pick (v := .t _) rfl rfl rfl rfl) ?_
    refine RD.nil ?_
    refine awj_cond rfl (fun h => nomatch h) (fun _ => ?_)
    refine awj_skip ?_
    exact ⟨Or.inl rfl, [], [], trivial, rfl, weak_keep ⟨rfl, rfl, rfl, rfl, rfl, rfl, rfl, rfl, trivial⟩ ⟨rfl, okE_one rfl, rfl, okE_one rfl, rfl, okE_one rfl, rfl, okE_one rfl, trivial⟩, rfl⟩

theorem dvis_y (l : List Rcd) (d : Dec) (i : Nat) (T : Twn) (ys : List Tr) (fl : Bool) (hi : i < l.length) (hl : l.length ≤ 1000000) (hn : isD l d i = true) (hT : T = (runTo l i).1) (hF : Fit 12 T) (hq : ∀ r, r ∈ l → 0 ≤ r.frame.seq ∧ r.frame.seq ≤ 1000000) (hd : -2000000 ≤ d.seq ∧ d.seq ≤ 2000000) : RetK Tryd.prog 65 [(1007, some ⟨1, 4, 0, [.t (.bool false)]⟩), (1002, some ⟨1, 32, 0, [.t (.sl (l.map encC) false)]⟩), (1003, some ⟨4, 28, 0, [.t (encD d)]⟩), (1006, some ⟨1, 33, 0, [.t (.sl ys fl)]⟩)] [.t (encI (i : Nat)), .t (encT T), .ptr 1007 0 0 0, .ptr 1002 0 0 0, .ptr 1003 0 0 0, .ptr 1006 0 0 0] [(1007, some ⟨1, 4, 0, [.t (.bool true)]⟩), (1002, some ⟨1, 32, 0, [.t (.sl (l.map encC) false)]⟩), (1003, some ⟨4, 28, 0, [.t (encD d)]⟩), (1006, some ⟨1, 33, 0, [.t (.sl ((rightsAt l d i).map encR) false)]⟩)] (.tup []) [(2, .ptr 1007 0 0 0), (3, .ptr 1002 0 0 0), (4, .ptr 1003 0 0 0), (5, .ptr 1006 0 0 0)] := by
  have hk3 : (l[i]'hi).kind = 3 ∧ (l[i]'hi).dec = d := by
    rw [isD_at hi] at hn; exact of_decide_eq_true hn
  refine retK_of_awj (kp := fun i => Nat.beq i 2 || Nat.beq i 3 || Nat.beq i 4 || Nat.beq i 5) Tryd.func65 rfl (Nat.le_of_ble_eq_true rfl) (by simp) ?_
  intro F0 w0
  refine awj_seq ?_
  refine awj_rj rfl ?_
  refine RJ.new rfl rfl (eff_boxK (v := .t _) (k := 2) (id := 7) rfl rfl rfl rfl rfl rfl) ?_
  refine RJ.nil ?_
  refine awj_seq ?_
  refine awj_rd [(some 8, []), (some 9, []), (some 10, []), (some 11, []), (some 12, []), (some 13, []), (some 14, []), (some 15, []), (some 16, []), (some 17, []), (some 18, []), (some 19, []), (some 20, []), (some 21, []), (some 22, []), (some 23, []), (some 24, []), (some 25, []), (some 26, [])] [[], [0], [0, 1], [0, 1, 2], [0, 1, 2], [0, 1, 2, 3, 4], [0, 1, 2, 3, 4, 5], [0, 1, 2, 3, 4, 5, 6], [0, 1, 2, 3, 4, 5, 6, 7], [0, 1, 2, 3, 4, 5, 6, 7, 8], [0, 1, 2, 3, 4, 5, 6, 7, 8, 9], [0, 1, 2, 3, 4, 5, 6, 7, 8, 9, 10], [0, 1, 2, 3, 4, 5, 6, 7, 8, 9, 10], [0, 1, 2, 3, 4, 5, 6, 7, 8, 9, 10, 11, 12], [0, 1, 2, 3, 4, 5, 6, 7, 8, 9, 10, 11, 12, 13], [0, 1, 2, 3, 4, 5, 6, 7, 8, 9, 10, 11, 12, 13, 14], [0, 1, 2, 3, 4, 5, 6, 7, 8, 9, 10], [0, 1, 2, 3, 4, 5, 6, 7, 8, 9, 10, 11, 12, 13, 14, 15, 16], [0, 1, 2, 3, 4, 5, 6, 7, 8, 9, 10, 11, 12, 13, 14, 15, 16, 17]] tm rfl rfl rfl rfl ?_
  refine RD.op rfl rfl rfl (eff_load (y := .t _) rfl rfl ti4 rfl (.one rfl rfl rfl rfl)) ?_
  refine RD.op rfl rfl rfl (eff_unop rfl rfl rfl rfl) ?_
  refine mvD ?_
  refine RD.gop rfl rfl rfl rfl rfl rfl rfl (eff_load (y := .t _) rfl rfl ti32 rfl (.one rfl rfl rfl rfl)) ?_
  refine RD.gop rfl rfl rfl rfl rfl rfl rfl (eff_move (v := .t _) rfl rfl rfl) ?_
  refine RD.gop rfl rfl rfl rfl rfl rfl rfl (eff_indexM rfl rfl te32 rfl rfl rfl (by first | assumption | exact List.getElem?_eq_getElem (by omega)) rfl (by decide)) ?_
  refine RD.gop rfl rfl rfl rfl rfl rfl rfl (eff_fieldAddrT rfl rfl tf47_1 (by decide) rfl) ?_
  refine RD.gop rfl rfl rfl rfl rfl rfl rfl (eff_loadT1 rfl rfl ti3 rfl rfl) ?_
  refine RD.gop rfl rfl rfl rfl rfl rfl rfl (eff_iop (r := .bool true) rfl rfl rfl rfl (by simp [iop, hk3.1])) ?_
  refine RD.op rfl rfl rfl (eff_pick (v := .t _) rfl rfl rfl rfl) ?_
  refine mvD ?_
  refine RD.gop rfl rfl rfl rfl rfl rfl rfl (eff_load (y := .t _) rfl rfl ti32 rfl (.one rfl rfl rfl rfl)) ?_
  refine RD.gop rfl rfl rfl rfl rfl rfl rfl (eff_move (v := .t _) rfl rfl rfl) ?_
  refine RD.gop rfl rfl rfl rfl rfl rfl rfl (eff_indexM (i := i) rfl rfl te32 rfl rfl (by first | rfl | omega) (by first | assumption | exact List.getElem?_eq_getElem (by omega)) rfl (by decide)) ?_
  refine RD.gop rfl rfl rfl rfl rfl rfl rfl (eff_fieldAddrT rfl rfl tf47_4 (by decide) rfl) ?_
  refine RD.gop rfl rfl rfl rfl rfl rfl rfl (eff_loadT (ys := [_, _, _, _]) rfl rfl ti28 rfl rfl rfl) ?_
  refine RD.gop rfl rfl rfl rfl rfl rfl rfl (eff_load rfl rfl ti28 rfl (.whole rfl rfl rfl rfl rfl rfl)) ?_
  refine RD.gop rfl rfl rfl rfl rfl rfl rfl (eff_structEqlAB (cells := cellsD) (a := (l[i]'hi).dec) (b := d) (r := true) rfl rfl ts28s ti28 th28 cellsD_inj cellsD_kind rfl rfl (decide_eq_true hk3.2)) ?_
  refine RD.op rfl rfl rfl (eff_pick (v := .t _) rfl rfl rfl rfl) ?_
  refine RD.nil ?_
  refine awj_cond rfl (fun _ => ?_) (fun h => nomatch h)
  refine awj_rd [(some 27, []), (some 28, []), (some 29, []), (some 30, []), (some 31, []), (some 32, []), (some 33, []), (none, [1007]), (none, [1006])] [[], [], [], [], [2, 3], [2, 3, 4], [0, 1, 2, 3, 4, 5], [0, 1, 2, 3, 4, 5, 6], [0, 1, 2, 3, 4, 5, 6, 7]] tm rfl rfl rfl rfl ?_
  refine RD.op rfl rfl rfl (eff_load rfl rfl ti64 rfl (.whole rfl rfl rfl rfl rfl rfl)) ?_
  refine RD.op rfl rfl rfl (eff_load rfl rfl ti28 rfl (.whole rfl rfl rfl rfl rfl rfl)) ?_
  refine RD.op rfl rfl rfl (eff_load (y := .t _) rfl rfl ti32 rfl (.one rfl rfl rfl rfl)) ?_
  refine mvD ?_
  refine RD.op rfl rfl rfl (eff_sliceM (g := encC) (l := none) (h := some i) (r := l.take i) rfl rfl te32 rfl (fun _ => rfl) .no (.yes rfl rfl) (Nat.zero_le _) (by simp; omega) (by simp)) ?_
  refine RD.op rfl rfl rfl (eff_callT (sent_ret (l.take i) (by rw [List.length_take]; omega) (fun r hr => hq r (List.mem_of_mem_take hr))) co41 rfl rfl rfl rfl) ?_
  refine RD.op rfl rfl rfl (eff_callT (rights_ret T d _ hF.hp (fun y hy => (hF.nx y hy).mono (by decide)) hd (by have := hF.len; omega)) co40 rfl rfl rfl rfl) ?_
  refine RD.store rfl rfl rfl (eff_storeW (v := .t _) (els := [_]) (els' := [_]) rfl rfl ti4 rfl rfl rfl rfl rfl rfl rfl rfl rfl) ?_
  refine RD.store rfl rfl rfl (eff_storeW (v := .t _) (els := [_]) (els' := [_]) rfl rfl ti33 rfl rfl rfl rfl rfl rfl rfl rfl rfl) ?_
  refine RD.nil ?_
  rw [show rightsAt l d i = rights T d (sentN (l.take i)) from by rw [hT]; rfl]
  exact ⟨Or.inl rfl, [], [], trivial, rfl, weak_keep ⟨rfl, rfl, rfl, rfl, rfl, rfl, rfl, rfl, trivial⟩ ⟨rfl, okE_one rfl, rfl, okE_one rfl, rfl, okE_one rfl, rfl, okE_one rfl, trivial⟩, rfl⟩

theorem dvis_ret (l : List Rcd) (d : Dec) (i : Nat) (T : Twn) (hi : i < l.length) (hl : l.length ≤ 1000000) (hT : T = (runTo l i).1) (hF : Fit 12 T) (hq : ∀ r, r ∈ l → 0 ≤ r.frame.seq ∧ r.frame.seq ≤ 1000000) (hf : form l i = 0) :
    RetK Tryd.prog 65 [(1007, some ⟨1, 4, 0, [.t (.bool (fdN l d i))]⟩), (1002, some ⟨1, 32, 0, [.t (.sl (l.map encC) false)]⟩), (1003, some ⟨4, 28, 0, [.t (encD d)]⟩), (1006, some ⟨1, 33, 0, [.t (.sl ((outN l d i).map encR) (!fdN l d i))]⟩)] [.t (encI (i : Nat)), .t (encT T), .ptr 1007 0 0 0, .ptr 1002 0 0 0, .ptr 1003 0 0 0, .ptr 1006 0 0 0] [(1007, some ⟨1, 4, 0, [.t (.bool (fdN l d (i + 1)))]⟩), (1002, some ⟨1, 32, 0, [.t (.sl (l.map encC) false)]⟩), (1003, some ⟨4, 28, 0, [.t (encD d)]⟩), (1006, some ⟨1, 33, 0, [.t (.sl ((outN l d (i + 1)).map encR) (!fdN l d (i + 1)))]⟩)] (.tup []) [(2, .ptr 1007 0 0 0), (3, .ptr 1002 0 0 0), (4, .ptr 1003 0 0 0), (5, .ptr 1006 0 0 0)] := by
  cases h : fdN l d i with
  | true =>
    obtain ⟨e1, e2⟩ := fd_old h
    rw [e1, e2]
    exact dvis_t l d i T _ _ hi hl
  | false =>
    cases hn : isD l d i with
    | false =>
      obtain ⟨e1, e2⟩ := fd_no h hn
      rw [e1, e2]
      exact dvis_n l d i T _ _ hi hl hn
    | true =>
      obtain ⟨e1, e2⟩ := fd_yes h hn
      rw [e1, e2]
      have hk3 : (l[i]'hi).kind = 3 ∧ (l[i]'hi).dec = d := by
        rw [isD_at hi] at hn; exact of_decide_eq_true hn
      have := form_dec hi hf hk3.1
      rw [hk3.2] at this
      exact dvis_y l d i T _ _ hi hl hn hT hF hq (by omega)

end Go.Tv.C36

end
section
open Go Go.Tv Go.Proofs
namespace Go.Tv.C36
set_option maxRecDepth 20000
set_option maxHeartbeats 2000000
set_option linter.unusedSimpArgs false
set_option linter.unusedVariables false
theorem replay65_ret (l : List Rcd) (d : Dec) (hO : OKL l) : RetKT Tryd.prog 38 [(1, deT)] [(1007, some ⟨1, 4, 0, [.t (.bool (fdN l d 0))]⟩), (1002, some ⟨1, 32, 0, [.t (.sl (l.map encC) false)]⟩), (1003, some ⟨4, 28, 0, [.t (encD d)]⟩), (1006, some ⟨1, 33, 0, [.t (.sl ((outN l d 0).map encR) (!fdN l d 0))]⟩)] [.t (.sl (l.map encC) false), .fn 65 [.ptr 1007 0 0 0, .ptr 1002 0 0 0, .ptr 1003 0 0 0, .ptr 1006 0 0 0]] [(1007, some ⟨1, 4, 0, [.t (.bool (fdN l d (nvis l)))]⟩), (1002, some ⟨1, 32, 0, [.t (.sl (l.map encC) false)]⟩), (1003, some ⟨4, 28, 0, [.t (encD d)]⟩), (1006, some ⟨1, 33, 0, [.t (.sl ((outN l d (nvis l)).map encR) (!fdN l d (nvis l)))]⟩)] (.tup [.t (encT (allOf l).1), .t (encI (allOf l).2)]) [(1, .fn 65 [.ptr 1007 0 0 0, .ptr 1002 0 0 0, .ptr 1003 0 0 0, .ptr 1006 0 0 0])] := by
  refine retKT_of_awj (kp := fun i => Nat.beq i 1) Tryd.func38 rfl (Nat.le_of_ble_eq_true rfl) (by simp) ?_
  intro F0 w0
  refine awj_seq ?_
  refine awj_rj rfl ?_
  refine RJ.new rfl rfl (eff_allocK (k := 2) (id := 4) rfl rfl tz64 rfl rfl) ?_
  refine RJ.op rfl rfl (eff_assign (v := .t _) rfl rfl rfl) ?_
  refine RJ.nil ?_
  refine awj_seq ?_
  refine awj_seq ?_
  refine awj_rj rfl ?_
  refine RJ.op rfl rfl (eff_move (v := .t _) rfl rfl rfl) ?_
  refine RJ.op rfl rfl (eff_lenM rfl rfl te32 rfl) ?_
  refine RJ.op rfl rfl (eff_iop rfl rfl rfl rfl rfl) ?_
  refine RJ.nil ?_
  refine awj_cond rfl (fun h1 => ?_) (fun h1 => ?_)
  · try simp only [cl] at h1
    refine awj_seq ?_
    refine awj_rj rfl ?_
    refine RJ.op rfl rfl (eff_buildT (ys := [_, _]) rfl rfl tz64 tg64 rfl) ?_
    refine RJ.store rfl rfl (eff_storeW (v := .t _) (els := [_]) (els' := [_]) rfl rfl ti64 rfl rfl rfl rfl rfl rfl rfl rfl rfl) ?_
    refine RJ.op rfl rfl (eff_assign (v := .t _) rfl rfl rfl) ?_
    refine RJ.nil ?_
    refine awj_ret ?_
    rw [all_lim h1, nvis_lim h1]
    exact ⟨Or.inr rfl, [_, _], [.t (encT zt), .t _], ⟨.cell rfl ti64 (.whole rfl rfl rfl rfl rfl rfl), .tmp rfl, trivial⟩, rfl, Weak.trans (weak_slot 0 (y := encT zt) rfl (by repeat' first | exact trivial | exact Wk.refl _ | exact Wk.sl _ | refine And.intro ?_ ?_ | refine Wk.tupP ?_ | refine Wk.aggP ?_)) (weak_keep ⟨rfl, rfl, rfl, rfl, rfl, rfl, trivial⟩ ⟨rfl, okE_one rfl, rfl, okE_one rfl, rfl, okE_one rfl, rfl, okE_one rfl, trivial⟩), rfl⟩
  · try simp only [cl] at h1
    refine awj_skip ?_
    refine awj_seq ?_
    refine awj_rj rfl ?_
    refine RJ.op rfl rfl (eff_callT (new17_ret) co61 rfl rfl rfl rfl) ?_
    refine RJ.new rfl rfl (eff_allocK (k := 2) (id := 6) rfl rfl tz64 rfl rfl) ?_
    refine RJ.store rfl rfl (eff_storeW (v := .t _) (els := [_]) (els' := [_]) rfl rfl ti64 rfl rfl rfl rfl rfl rfl rfl rfl rfl) ?_
    refine RJ.nil ?_
    refine awj_seq ?_
    refine awj_seq ?_
    refine awj_rj rfl ?_
    refine RJ.op rfl rfl (eff_move (v := .t _) rfl rfl rfl) ?_
    refine RJ.op rfl rfl (eff_lenM rfl rfl te32 rfl) ?_
    refine RJ.op rfl rfl (eff_move (v := .t _) rfl rfl rfl) ?_
    refine RJ.nil ?_
    refine awj_block ?_
    refine awj_loopW (fun m s g => ∃ (i : Nat) (T : Twn), (i ≤ l.length) ∧ (T = (runTo l i).1) ∧ ((runTo l i).2 = 0) ∧ m = l.length - i ∧ s = ⟨63, [(0, .t (.sl (l.map encC) false)), (1, .fn 65 [.ptr 1007 0 0 0, .ptr 1002 0 0 0, .ptr 1003 0 0 0, .ptr 1006 0 0 0]), (4, .ptr 4 0 0 0), (6, .ptr 6 0 0 0), (17, .t (.sl (l.map encC) false)), (18, .t (encI (l.length : Nat))), (19, .t (encI (i : Nat))), (64, .t deT)], [(4, some ⟨2, 64, 0, [.t z64]⟩), (6, some ⟨2, 64, 0, [.t (encT T)]⟩), (1007, some ⟨1, 4, 0, [.t (.bool (fdN l d i))]⟩), (1002, some ⟨1, 32, 0, [.t (.sl (l.map encC) false)]⟩), (1003, some ⟨4, 28, 0, [.t (encD d)]⟩), (1006, some ⟨1, 33, 0, [.t (.sl ((outN l d i).map encR) (!fdN l d i))]⟩)]⟩) (_) (⟨_, weak_keep (n := 63) (fr' := [(0, .t (.sl (l.map encC) false)), (1, .fn 65 [.ptr 1007 0 0 0, .ptr 1002 0 0 0, .ptr 1003 0 0 0, .ptr 1006 0 0 0]), (4, .ptr 4 0 0 0), (6, .ptr 6 0 0 0), (17, .t (.sl (l.map encC) false)), (18, .t (encI (l.length : Nat))), (19, .t (encI (0 : Nat))), (64, .t deT)]) (st' := [(4, some ⟨2, 64, 0, [.t z64]⟩), (6, some ⟨2, 64, 0, [.t (encT newT)]⟩), (1007, some ⟨1, 4, 0, [.t (.bool (fdN l d 0))]⟩), (1002, some ⟨1, 32, 0, [.t (.sl (l.map encC) false)]⟩), (1003, some ⟨4, 28, 0, [.t (encD d)]⟩), (1006, some ⟨1, 33, 0, [.t (.sl ((outN l d 0).map encR) (!fdN l d 0))]⟩)]) ⟨rfl, rfl, rfl, rfl, rfl, rfl, rfl, rfl, rfl, rfl, rfl, rfl, rfl, rfl, rfl, rfl, trivial⟩ ⟨rfl, okE_one rfl, rfl, okE_one rfl, rfl, okE_one rfl, rfl, okE_one rfl, rfl, okE_one rfl, rfl, okE_one rfl, trivial⟩, 0, newT, (by omega), (by rfl), (by rfl), rfl, rfl⟩) ?_
    rintro m s g ⟨i, T, hi, hT, hok, rfl, rfl⟩
    refine awj_seq ?_
    refine awj_rj rfl ?_
    refine RJ.op rfl rfl (eff_iop rfl rfl rfl rfl rfl) ?_
    refine RJ.nil ?_
    refine awj_seq ?_
    refine awj_cond rfl (fun h2 => ?_) (fun h2 => ?_)
    · try simp only [cl] at h2
      refine awj_skip ?_
      refine awj_seq ?_
      refine awj_block ?_
      refine awj_seq ?_
      refine awj_rj rfl ?_
      have hil : i < l.length := by omega
      have hFit := runTo_fit12 hO (by omega) hok
      rw [← hT] at hFit
      refine RJ.op rfl rfl (eff_move (v := .t _) rfl rfl rfl) ?_
      refine RJ.op rfl rfl (eff_indexM rfl rfl te32 rfl rfl rfl (by first | assumption | exact List.getElem?_eq_getElem (by omega)) rfl (by decide)) ?_
      refine RJ.op rfl rfl (eff_loadW rfl rfl ti47 rfl rfl rfl) ?_
      refine RJ.new rfl rfl (eff_allocK (k := 15) (id := 8) rfl rfl tz47 rfl rfl) ?_
      refine RJ.op rfl rfl (eff_assign (v := .t _) rfl rfl rfl) ?_
      refine RJ.store rfl rfl (eff_storeW (v := .t _) (els := [_]) (els' := [_]) rfl rfl ti47 rfl rfl rfl rfl rfl rfl rfl rfl rfl) ?_
      refine RJ.nil ?_
      refine awj_seq ?_
      refine awj_seq ?_
      refine awj_rj rfl ?_
      refine RJ.op rfl rfl (eff_move (v := .t _) rfl rfl rfl) ?_
      refine RJ.op rfl rfl (eff_move (v := .t _) rfl rfl rfl) ?_
      refine RJ.op rfl rfl (eff_callT (form_ret l i hil (by have := hO.len; omega)) co62 rfl rfl rfl rfl) ?_
      refine RJ.op rfl rfl (eff_assign (v := .t _) rfl rfl rfl) ?_
      refine RJ.nil ?_
      refine awj_seq ?_
      refine awj_rj rfl ?_
      refine RJ.op rfl rfl (eff_move (v := .t _) rfl rfl rfl) ?_
      refine RJ.op rfl rfl (eff_iop rfl rfl rfl rfl rfl) ?_
      refine RJ.nil ?_
      refine awj_cond rfl (fun h3 => ?_) (fun h3 => ?_)
      · try simp only [cl] at h3
        refine awj_seq ?_
        refine awj_rj rfl ?_
        refine RJ.op rfl rfl (eff_buildT (ys := [_, _]) rfl rfl tz64 tg64 rfl) ?_
        refine RJ.op rfl rfl (eff_move (v := .t _) rfl rfl rfl) ?_
        refine RJ.store rfl rfl (eff_storeW (v := .t _) (els := [_]) (els' := [_]) rfl rfl ti64 rfl rfl rfl rfl rfl rfl rfl rfl rfl) ?_
        refine RJ.op rfl rfl (eff_assign (v := .t _) rfl rfl rfl) ?_
        refine RJ.nil ?_
        refine awj_ret ?_
        have hfx : form l i ≠ 0 := by omega
        rw [all_bad h1 hil (run_form hok hfx) hfx, nvis_form h1 hil hok hfx]
        exact ⟨Or.inr rfl, [_, _], [.t (encT zt), .t _], ⟨.cell rfl ti64 (.whole rfl rfl rfl rfl rfl rfl), .tmp rfl, trivial⟩, rfl, Weak.trans (weak_slot 0 (y := encT zt) rfl (by repeat' first | exact trivial | exact Wk.refl _ | exact Wk.sl _ | refine And.intro ?_ ?_ | refine Wk.tupP ?_ | refine Wk.aggP ?_)) (weak_keep ⟨rfl, rfl, rfl, rfl, rfl, rfl, trivial⟩ ⟨rfl, okE_one rfl, rfl, okE_one rfl, rfl, okE_one rfl, rfl, okE_one rfl, trivial⟩), rfl⟩
      · try simp only [cl] at h3
        refine awj_skip ?_
        refine awj_seq ?_
        refine awj_rj rfl ?_
        have hfo : form l i = 0 := by omega
        refine RJ.op rfl rfl (eff_move (v := .fn _ _) rfl rfl rfl) ?_
        refine RJ.op rfl rfl (eff_move (v := .t _) rfl rfl rfl) ?_
        refine RJ.op rfl rfl (eff_load rfl rfl ti64 rfl (.whole rfl rfl rfl rfl rfl rfl)) ?_
        refine RJ.new4 rfl rfl (eff_callKF (dvis_ret l d i T hil (by have := hO.len; omega) hT hFit hO.seq hfo) co65 (fun id => id) rfl rfl rfl ⟨.t _, .t _, .ptr _ _ _ _ rfl rfl, .ptr _ _ _ _ rfl rfl, .ptr _ _ _ _ rfl rfl, .ptr _ _ _ _ rfl rfl, trivial⟩ (.tup _ _ rfl (fun i c d h _ => by simp at h)) rfl ⟨⟨rfl, self_one, ⟨_, rfl, .inr ⟨rfl, rfl, rfl, rfl, 2, rfl, (by simp)⟩⟩⟩, ⟨rfl, self_one, ⟨_, rfl, .inr ⟨rfl, rfl, rfl, rfl, 3, rfl, (by simp)⟩⟩⟩, ⟨rfl, self_one, ⟨_, rfl, .inr ⟨rfl, rfl, rfl, rfl, 4, rfl, (by simp)⟩⟩⟩, ⟨rfl, self_one, ⟨_, rfl, .inr ⟨rfl, rfl, rfl, rfl, 5, rfl, (by simp)⟩⟩⟩, trivial⟩ ⟨⟨self_one, .inl rfl⟩, ⟨self_one, .inl rfl⟩, ⟨self_one, .inl rfl⟩, ⟨self_one, .inl rfl⟩, trivial⟩) ?_
        refine RJ.nil ?_
        refine awj_seq ?_
        refine awj_rj rfl ?_
        refine RJ.op rfl rfl (eff_assign (v := .t _) rfl rfl rfl) ?_
        refine RJ.nil ?_
        refine awj_seq ?_
        refine awj_rj rfl ?_
        refine RJ.op rfl rfl (eff_load rfl rfl ti64 rfl (.whole rfl rfl rfl rfl rfl rfl)) ?_
        refine RJ.new rfl rfl (eff_allocK (k := 2) (id := 11) rfl rfl tz64 rfl rfl) ?_
        refine RJ.store rfl rfl (eff_storeW (v := .t _) (els := [_]) (els' := [_]) rfl rfl ti64 rfl rfl rfl rfl rfl rfl rfl rfl rfl) ?_
        refine RJ.nil ?_
        refine awj_seq ?_
        refine awj_seq ?_
        refine awj_rj rfl ?_
        refine RJ.op rfl rfl (eff_fieldAddr rfl rfl tf47_1 (by decide) rfl rfl rfl (Nat.le_of_ble_eq_true rfl)) ?_
        refine RJ.op rfl rfl (eff_load (y := .t _) rfl rfl ti3 rfl (.one rfl rfl rfl rfl)) ?_
        refine RJ.nil ?_
        refine awj_block ?_
        refine awj_seq ?_
        refine awj_rj rfl ?_
        refine RJ.op rfl rfl (eff_iop rfl rfl rfl rfl rfl) ?_
        refine RJ.op rfl rfl (eff_assign (v := .t _) rfl rfl rfl) ?_
        refine RJ.nil ?_
        refine awj_cond rfl (fun h4 => ?_) (fun h4 => ?_)
        · try simp only [cl] at h4
          refine awj_rj rfl ?_
          refine RJ.op rfl rfl (eff_load rfl rfl ti64 rfl (.whole rfl rfl rfl rfl rfl rfl)) ?_
          refine RJ.op rfl rfl (eff_fieldAddr rfl rfl tf47_2 (by decide) rfl rfl rfl (Nat.le_of_ble_eq_true rfl)) ?_
          refine RJ.op rfl rfl (eff_loadS (ys := [_, _, _, _, _]) rfl rfl ti45 rfl rfl rfl rfl rfl rfl) ?_
          refine RJ.op rfl rfl (eff_callXT (tsend_ret T _ hFit.srt hFit.hp (by have := hFit.len; omega) (by have := hFit.sl; omega) hFit.bod (hO.bod _ (List.getElem_mem hil))) co63 rfl rfl rfl ⟨rfl, trivial⟩ rfl) ?_
          refine RJ.op rfl rfl (eff_move (v := .t _) rfl rfl rfl) ?_
          refine RJ.op rfl rfl (eff_extract rfl rfl rfl rfl) ?_
          refine RJ.op rfl rfl (eff_extract rfl rfl rfl rfl) ?_
          refine RJ.store rfl rfl (eff_storeW (v := .t _) (els := [_]) (els' := [_]) rfl rfl ti64 rfl rfl rfl rfl rfl rfl rfl rfl rfl) ?_
          refine RJ.op rfl rfl (eff_assign (v := .t _) rfl rfl rfl) ?_
          refine RJ.nil ?_
          refine awj_seq ?_
          refine awj_seq ?_
          refine awj_rj rfl ?_
          refine RJ.op rfl rfl (eff_move (v := .t _) rfl rfl rfl) ?_
          refine RJ.op rfl rfl (eff_iop rfl rfl rfl rfl rfl) ?_
          refine RJ.nil ?_
          refine awj_cond rfl (fun h5 => ?_) (fun h5 => ?_)
          · try simp only [cl] at h5
            refine awj_seq ?_
            refine awj_rj rfl ?_
            refine RJ.op rfl rfl (eff_buildT (ys := [_, _]) rfl rfl tz64 tg64 rfl) ?_
            refine RJ.op rfl rfl (eff_move (v := .t _) rfl rfl rfl) ?_
            refine RJ.store rfl rfl (eff_storeW (v := .t _) (els := [_]) (els' := [_]) rfl rfl ti64 rfl rfl rfl rfl rfl rfl rfl rfl rfl) ?_
            refine RJ.op rfl rfl (eff_assign (v := .t _) rfl rfl rfl) ?_
            refine RJ.nil ?_
            refine awj_ret ?_
            have hrb := bad_send hil hT hok hfo (by omega) (by omega)
            rw [all_bad h1 hil hrb (by omega), nvis_bad h1 hil hok hfo hrb (by omega)]
            exact ⟨Or.inr rfl, [_, _], [.t (encT zt), .t _], ⟨.cell rfl ti64 (.whole rfl rfl rfl rfl rfl rfl), .tmp rfl, trivial⟩, rfl, Weak.trans (weak_slot 0 (y := encT zt) rfl (by repeat' first | exact trivial | exact Wk.refl _ | exact Wk.sl _ | refine And.intro ?_ ?_ | refine Wk.tupP ?_ | refine Wk.aggP ?_)) (weak_keep ⟨rfl, rfl, rfl, rfl, rfl, rfl, trivial⟩ ⟨rfl, okE_one rfl, rfl, okE_one rfl, rfl, okE_one rfl, rfl, okE_one rfl, trivial⟩), rfl⟩
          · try simp only [cl] at h5
            refine awj_skip ?_
            refine awj_rj rfl ?_
            refine RJ.op rfl rfl (eff_load rfl rfl ti64 rfl (.whole rfl rfl rfl rfl rfl rfl)) ?_
            refine RJ.store rfl rfl (eff_storeW (v := .t _) (els := [_]) (els' := [_]) rfl rfl ti64 rfl rfl rfl rfl rfl rfl rfl rfl rfl) ?_
            refine RJ.nil ?_
            refine awj_rj rfl ?_
            refine RJ.op rfl rfl (eff_iop rfl rfl rfl rfl (iadd (by omega))) ?_
            refine RJ.op rfl rfl (eff_move (v := .t _) rfl rfl rfl) ?_
            refine RJ.nil ?_
            refine ⟨_, ?_, _, weak_keep (n := 63) (fr' := [(0, .t (.sl (l.map encC) false)), (1, .fn 65 [.ptr 1007 0 0 0, .ptr 1002 0 0 0, .ptr 1003 0 0 0, .ptr 1006 0 0 0]), (4, .ptr 4 0 0 0), (6, .ptr 6 0 0 0), (17, .t (.sl (l.map encC) false)), (18, .t (encI (l.length : Nat))), (19, .t (encI ((i + 1) : Nat))), (64, .t deT)]) (st' := [(4, some ⟨2, 64, 0, [.t z64]⟩), (6, some ⟨2, 64, 0, [.t (encT _)]⟩), (1007, some ⟨1, 4, 0, [.t (.bool (fdN l d (i + 1)))]⟩), (1002, some ⟨1, 32, 0, [.t (.sl (l.map encC) false)]⟩), (1003, some ⟨4, 28, 0, [.t (encD d)]⟩), (1006, some ⟨1, 33, 0, [.t (.sl ((outN l d (i + 1)).map encR) (!fdN l d (i + 1)))]⟩)]) ⟨rfl, rfl, rfl, rfl, rfl, rfl, rfl, rfl, rfl, rfl, rfl, rfl, rfl, rfl, rfl, rfl, trivial⟩ ⟨rfl, okE_one rfl, rfl, okE_one rfl, rfl, okE_one rfl, rfl, okE_one rfl, rfl, okE_one rfl, rfl, okE_one rfl, trivial⟩, i + 1, _, (by omega), (by first | rw [run_send hil hT hok hfo (by omega) (by omega)] | rw [run_hear hil hT hok hfo (by omega) (by omega)] | rw [run_dec hil hT hok hfo (by omega) (by omega)]), (by first | rw [run_send hil hT hok hfo (by omega) (by omega)] | rw [run_hear hil hT hok hfo (by omega) (by omega)] | rw [run_dec hil hT hok hfo (by omega) (by omega)]), rfl, rfl⟩
            omega
        · try simp only [cl] at h4
          refine awj_seq ?_
          refine awj_rj rfl ?_
          refine RJ.op rfl rfl (eff_iop rfl rfl rfl rfl rfl) ?_
          refine RJ.op rfl rfl (eff_assign (v := .t _) rfl rfl rfl) ?_
          refine RJ.nil ?_
          refine awj_cond rfl (fun h6 => ?_) (fun h6 => ?_)
          · try simp only [cl] at h6
            refine awj_rj rfl ?_
            refine RJ.op rfl rfl (eff_load rfl rfl ti64 rfl (.whole rfl rfl rfl rfl rfl rfl)) ?_
            refine RJ.op rfl rfl (eff_fieldAddr rfl rfl tf47_3 (by decide) rfl rfl rfl (Nat.le_of_ble_eq_true rfl)) ?_
            refine RJ.op rfl rfl (eff_loadS (ys := [_, _, _, _]) rfl rfl ti23 rfl rfl rfl rfl rfl rfl) ?_
            refine RJ.op rfl rfl (eff_callXT (thear_ret T _ (hO.hp _ (List.getElem_mem hil)) (by have := hFit.len; omega) (by have := hFit.sl; omega) hFit.bod) co64 rfl rfl rfl ⟨rfl, trivial⟩ rfl) ?_
            refine RJ.op rfl rfl (eff_move (v := .t _) rfl rfl rfl) ?_
            refine RJ.op rfl rfl (eff_extract rfl rfl rfl rfl) ?_
            refine RJ.op rfl rfl (eff_extract rfl rfl rfl rfl) ?_
            refine RJ.store rfl rfl (eff_storeW (v := .t _) (els := [_]) (els' := [_]) rfl rfl ti64 rfl rfl rfl rfl rfl rfl rfl rfl rfl) ?_
            refine RJ.op rfl rfl (eff_assign (v := .t _) rfl rfl rfl) ?_
            refine RJ.nil ?_
            refine awj_seq ?_
            refine awj_seq ?_
            refine awj_rj rfl ?_
            refine RJ.op rfl rfl (eff_move (v := .t _) rfl rfl rfl) ?_
            refine RJ.op rfl rfl (eff_iop rfl rfl rfl rfl rfl) ?_
            refine RJ.nil ?_
            refine awj_cond rfl (fun h7 => ?_) (fun h7 => ?_)
            · try simp only [cl] at h7
              refine awj_seq ?_
              refine awj_rj rfl ?_
              refine RJ.op rfl rfl (eff_buildT (ys := [_, _]) rfl rfl tz64 tg64 rfl) ?_
              refine RJ.op rfl rfl (eff_move (v := .t _) rfl rfl rfl) ?_
              refine RJ.store rfl rfl (eff_storeW (v := .t _) (els := [_]) (els' := [_]) rfl rfl ti64 rfl rfl rfl rfl rfl rfl rfl rfl rfl) ?_
              refine RJ.op rfl rfl (eff_assign (v := .t _) rfl rfl rfl) ?_
              refine RJ.nil ?_
              refine awj_ret ?_
              have hrb := bad_hear hil hT hok hfo (by omega) (by omega)
              rw [all_bad h1 hil hrb (by omega), nvis_bad h1 hil hok hfo hrb (by omega)]
              exact ⟨Or.inr rfl, [_, _], [.t (encT zt), .t _], ⟨.cell rfl ti64 (.whole rfl rfl rfl rfl rfl rfl), .tmp rfl, trivial⟩, rfl, Weak.trans (weak_slot 0 (y := encT zt) rfl (by repeat' first | exact trivial | exact Wk.refl _ | exact Wk.sl _ | refine And.intro ?_ ?_ | refine Wk.tupP ?_ | refine Wk.aggP ?_)) (weak_keep ⟨rfl, rfl, rfl, rfl, rfl, rfl, trivial⟩ ⟨rfl, okE_one rfl, rfl, okE_one rfl, rfl, okE_one rfl, rfl, okE_one rfl, trivial⟩), rfl⟩
            · try simp only [cl] at h7
              refine awj_skip ?_
              refine awj_rj rfl ?_
              refine RJ.op rfl rfl (eff_load rfl rfl ti64 rfl (.whole rfl rfl rfl rfl rfl rfl)) ?_
              refine RJ.store rfl rfl (eff_storeW (v := .t _) (els := [_]) (els' := [_]) rfl rfl ti64 rfl rfl rfl rfl rfl rfl rfl rfl rfl) ?_
              refine RJ.nil ?_
              refine awj_rj rfl ?_
              refine RJ.op rfl rfl (eff_iop rfl rfl rfl rfl (iadd (by omega))) ?_
              refine RJ.op rfl rfl (eff_move (v := .t _) rfl rfl rfl) ?_
              refine RJ.nil ?_
              refine ⟨_, ?_, _, weak_keep (n := 63) (fr' := [(0, .t (.sl (l.map encC) false)), (1, .fn 65 [.ptr 1007 0 0 0, .ptr 1002 0 0 0, .ptr 1003 0 0 0, .ptr 1006 0 0 0]), (4, .ptr 4 0 0 0), (6, .ptr 6 0 0 0), (17, .t (.sl (l.map encC) false)), (18, .t (encI (l.length : Nat))), (19, .t (encI ((i + 1) : Nat))), (64, .t deT)]) (st' := [(4, some ⟨2, 64, 0, [.t z64]⟩), (6, some ⟨2, 64, 0, [.t (encT _)]⟩), (1007, some ⟨1, 4, 0, [.t (.bool (fdN l d (i + 1)))]⟩), (1002, some ⟨1, 32, 0, [.t (.sl (l.map encC) false)]⟩), (1003, some ⟨4, 28, 0, [.t (encD d)]⟩), (1006, some ⟨1, 33, 0, [.t (.sl ((outN l d (i + 1)).map encR) (!fdN l d (i + 1)))]⟩)]) ⟨rfl, rfl, rfl, rfl, rfl, rfl, rfl, rfl, rfl, rfl, rfl, rfl, rfl, rfl, rfl, rfl, trivial⟩ ⟨rfl, okE_one rfl, rfl, okE_one rfl, rfl, okE_one rfl, rfl, okE_one rfl, rfl, okE_one rfl, rfl, okE_one rfl, trivial⟩, i + 1, _, (by omega), (by first | rw [run_send hil hT hok hfo (by omega) (by omega)] | rw [run_hear hil hT hok hfo (by omega) (by omega)] | rw [run_dec hil hT hok hfo (by omega) (by omega)]), (by first | rw [run_send hil hT hok hfo (by omega) (by omega)] | rw [run_hear hil hT hok hfo (by omega) (by omega)] | rw [run_dec hil hT hok hfo (by omega) (by omega)]), rfl, rfl⟩
              omega
          · try simp only [cl] at h6
            refine awj_skip ?_
            refine awj_seq ?_
            refine awj_seq ?_
            refine awj_rj rfl ?_
            refine RJ.op rfl rfl (eff_move (v := .t _) rfl rfl rfl) ?_
            refine RJ.op rfl rfl (eff_iop rfl rfl rfl rfl rfl) ?_
            refine RJ.nil ?_
            refine awj_cond rfl (fun h8 => ?_) (fun h8 => ?_)
            · try simp only [cl] at h8
              refine awj_seq ?_
              refine awj_rj rfl ?_
              refine RJ.op rfl rfl (eff_buildT (ys := [_, _]) rfl rfl tz64 tg64 rfl) ?_
              refine RJ.op rfl rfl (eff_move (v := .t _) rfl rfl rfl) ?_
              refine RJ.store rfl rfl (eff_storeW (v := .t _) (els := [_]) (els' := [_]) rfl rfl ti64 rfl rfl rfl rfl rfl rfl rfl rfl rfl) ?_
              refine RJ.op rfl rfl (eff_assign (v := .t _) rfl rfl rfl) ?_
              refine RJ.nil ?_
              refine awj_ret ?_
              exact absurd trivial ‹¬ True›
            · try simp only [cl] at h8
              refine awj_skip ?_
              refine awj_rj rfl ?_
              refine RJ.op rfl rfl (eff_load rfl rfl ti64 rfl (.whole rfl rfl rfl rfl rfl rfl)) ?_
              refine RJ.store rfl rfl (eff_storeW (v := .t _) (els := [_]) (els' := [_]) rfl rfl ti64 rfl rfl rfl rfl rfl rfl rfl rfl rfl) ?_
              refine RJ.nil ?_
              refine awj_rj rfl ?_
              refine RJ.op rfl rfl (eff_iop rfl rfl rfl rfl (iadd (by omega))) ?_
              refine RJ.op rfl rfl (eff_move (v := .t _) rfl rfl rfl) ?_
              refine RJ.nil ?_
              refine ⟨_, ?_, _, weak_keep (n := 63) (fr' := [(0, .t (.sl (l.map encC) false)), (1, .fn 65 [.ptr 1007 0 0 0, .ptr 1002 0 0 0, .ptr 1003 0 0 0, .ptr 1006 0 0 0]), (4, .ptr 4 0 0 0), (6, .ptr 6 0 0 0), (17, .t (.sl (l.map encC) false)), (18, .t (encI (l.length : Nat))), (19, .t (encI ((i + 1) : Nat))), (64, .t deT)]) (st' := [(4, some ⟨2, 64, 0, [.t z64]⟩), (6, some ⟨2, 64, 0, [.t (encT _)]⟩), (1007, some ⟨1, 4, 0, [.t (.bool (fdN l d (i + 1)))]⟩), (1002, some ⟨1, 32, 0, [.t (.sl (l.map encC) false)]⟩), (1003, some ⟨4, 28, 0, [.t (encD d)]⟩), (1006, some ⟨1, 33, 0, [.t (.sl ((outN l d (i + 1)).map encR) (!fdN l d (i + 1)))]⟩)]) ⟨rfl, rfl, rfl, rfl, rfl, rfl, rfl, rfl, rfl, rfl, rfl, rfl, rfl, rfl, rfl, rfl, trivial⟩ ⟨rfl, okE_one rfl, rfl, okE_one rfl, rfl, okE_one rfl, rfl, okE_one rfl, rfl, okE_one rfl, rfl, okE_one rfl, trivial⟩, i + 1, _, (by omega), (by first | rw [run_send hil hT hok hfo (by omega) (by omega)] | rw [run_hear hil hT hok hfo (by omega) (by omega)] | rw [run_dec hil hT hok hfo (by omega) (by omega)]), (by first | rw [run_send hil hT hok hfo (by omega) (by omega)] | rw [run_hear hil hT hok hfo (by omega) (by omega)] | rw [run_dec hil hT hok hfo (by omega) (by omega)]), rfl, rfl⟩
              omega
    · try simp only [cl] at h2
      refine awj_exit ?_
      refine awj_seq ?_
      refine awj_rj rfl ?_
      refine RJ.op rfl rfl (eff_load rfl rfl ti64 rfl (.whole rfl rfl rfl rfl rfl rfl)) ?_
      refine RJ.store rfl rfl (eff_storeW (v := .t _) (els := [_]) (els' := [_]) rfl rfl ti64 rfl rfl rfl rfl rfl rfl rfl rfl rfl) ?_
      refine RJ.op rfl rfl (eff_assign (v := .t _) rfl rfl rfl) ?_
      refine RJ.nil ?_
      refine awj_ret ?_
      have hi2 : i = l.length := by omega
      subst hi2
      rw [all_ok h1 hok, nvis_ok h1 hok, ← hT]
      exact ⟨Or.inr rfl, [_, _], [.t (encT T), .t _], ⟨.cell rfl ti64 (.whole rfl rfl rfl rfl rfl rfl), .tmp rfl, trivial⟩, rfl, Weak.trans (weak_slot 0 (y := encT T) rfl (by repeat' first | exact trivial | exact Wk.refl _ | exact Wk.sl _ | refine And.intro ?_ ?_ | refine Wk.tupP ?_ | refine Wk.aggP ?_)) (weak_keep ⟨rfl, rfl, rfl, rfl, rfl, rfl, trivial⟩ ⟨rfl, okE_one rfl, rfl, okE_one rfl, rfl, okE_one rfl, rfl, okE_one rfl, trivial⟩), rfl⟩

end Go.Tv.C36

end
section
open Go Go.Tv Go.Proofs
namespace Go.Tv.C36
set_option maxRecDepth 20000
set_option maxHeartbeats 2000000
set_option linter.unusedSimpArgs false
set_option linter.unusedVariables false
theorem defence_ret (l : List Rcd) (d : Dec) (hO : OKL l) : RetT Tryd.prog 43 [(1, deT)] [.sl (l.map encC) false, encD d] (.tup [.sl ((defence l d).1.map encR) false, encI (defence l d).2]) := by
  refine retT_of_awp Tryd.func43 rfl (Nat.le_of_ble_eq_true rfl) ?_
  refine awp_seq ?_
  refine awp_rw rfl ?_
  refine RW.new rfl rfl (eff_boxK (v := .t _) (k := 1) (id := 2) rfl rfl rfl rfl rfl rfl) ?_
  refine RW.new rfl rfl (eff_boxK (v := .t _) (k := 4) (id := 3) rfl rfl rfl rfl rfl rfl) ?_
  refine asT ?_
  refine asT ?_
  refine RW.nil ?_
  refine awp_seq ?_
  refine awp_rw rfl ?_
  refine RW.new rfl rfl (eff_allocK (k := 1) (id := 6) rfl rfl tz33 rfl rfl) ?_
  refine RW.nil ?_
  refine awp_seq ?_
  refine awp_rw rfl ?_
  refine RW.new rfl rfl (eff_allocK (k := 1) (id := 7) rfl rfl tz4 rfl rfl) ?_
  refine RW.store rfl rfl (eff_storeW (v := .t _) (els := [_]) (els' := [_]) rfl rfl ti4 rfl rfl rfl rfl rfl rfl rfl rfl rfl) ?_
  refine RW.nil ?_
  refine awp_seq ?_
  refine awp_rw rfl ?_
  refine l1T ti32 rfl rfl rfl rfl rfl (.one rfl rfl rfl rfl) ?_
  refine RW.op rfl rfl (eff_makeFunc rfl rfl rfl rfl) ?_
  refine RW.new4 rfl rfl (eff_callKT (r' := .tup [.t _, .t _]) (replay65_ret l d hO) co38 (fun id => id - 1000) rfl rfl rfl ⟨rfl, trivial⟩ ⟨.t _, .fnL ⟨.ptr _ _ _ _ rfl rfl, .ptr _ _ _ _ rfl rfl, .ptr _ _ _ _ rfl rfl, .ptr _ _ _ _ rfl rfl, trivial⟩, trivial⟩ (.tupL ⟨.t _, .t _, trivial⟩) rfl ⟨⟨rfl, self_one, ⟨_, rfl, .inr ⟨rfl, rfl, rfl, rfl, 1, _, rfl, List.mem_singleton.2 rfl, .inr ⟨_, _, 0, rfl, rfl⟩⟩⟩⟩, ⟨rfl, self_one, ⟨_, rfl, .inr ⟨rfl, rfl, rfl, rfl, 1, _, rfl, List.mem_singleton.2 rfl, .inr ⟨_, _, 1, rfl, rfl⟩⟩⟩⟩, ⟨rfl, self_one, ⟨_, rfl, .inr ⟨rfl, rfl, rfl, rfl, 1, _, rfl, List.mem_singleton.2 rfl, .inr ⟨_, _, 2, rfl, rfl⟩⟩⟩⟩, ⟨rfl, self_one, ⟨_, rfl, .inr ⟨rfl, rfl, rfl, rfl, 1, _, rfl, List.mem_singleton.2 rfl, .inr ⟨_, _, 3, rfl, rfl⟩⟩⟩⟩, trivial⟩ ⟨⟨self_one, .inl rfl⟩, ⟨self_one, .inl rfl⟩, ⟨self_one, .inl rfl⟩, ⟨self_one, .inl rfl⟩, trivial⟩) ?_
  refine RW.op rfl rfl (eff_move (v := .tup _) rfl rfl rfl) ?_
  refine RW.op rfl rfl (eff_extractA rfl rfl rfl rfl) ?_
  refine RW.op rfl rfl (eff_extractA rfl rfl rfl rfl) ?_
  refine RW.new rfl rfl (eff_allocK (k := 2) (id := 8) rfl rfl tz64 rfl rfl) ?_
  refine RW.store rfl rfl (eff_storeW (v := .t _) (els := [_]) (els' := [_]) rfl rfl ti64 rfl rfl rfl rfl rfl rfl rfl rfl rfl) ?_
  refine asT ?_
  refine RW.nil ?_
  refine awp_seq ?_
  refine awp_block ?_
  refine awp_seq ?_
  refine awp_rw rfl ?_
  refine mvT ?_
  refine ioT ?_
  refine asT ?_
  refine RW.nil ?_
  refine awp_cond rfl (fun h1 => ?_) (fun h1 => ?_)
  · try simp only [cl] at h1
    refine awp_seq ?_
    refine awp_rw rfl ?_
    refine mvT ?_
    refine asT ?_
    refine asT ?_
    refine RW.nil ?_
    refine awp_ret ?_
    rw [defence_bad (all_zt h1) h1]
    exact ⟨Or.inr rfl, [_, _], ⟨.tmp (.t _), .tmp (.t _), trivial⟩, (by repeat' first | exact trivial | exact Wk.refl _ | exact Wk.sl _ | refine And.intro ?_ ?_ | refine Wk.tupP ?_ | refine Wk.aggP ?_)⟩
  · try simp only [cl] at h1
    refine awp_seq ?_
    refine awp_rw rfl ?_
    refine l1T ti4 rfl rfl rfl rfl rfl (.one rfl rfl rfl rfl) ?_
    refine RW.op rfl rfl (eff_unop rfl rfl rfl rfl) ?_
    refine asT ?_
    refine RW.nil ?_
    refine awp_cond rfl (fun h2 => ?_) (fun h2 => ?_)
    · try simp only [cl] at h2
      refine awp_seq ?_
      refine awp_rw rfl ?_
      refine asT ?_
      refine asT ?_
      refine RW.nil ?_
      refine awp_ret ?_
      rw [defence_none (by omega) (by first | assumption | simpa using h2)]
      exact ⟨Or.inr rfl, [_, _], ⟨.tmp (.t _), .tmp (.t _), trivial⟩, (by repeat' first | exact trivial | exact Wk.refl _ | exact Wk.sl _ | refine And.intro ?_ ?_ | refine Wk.tupP ?_ | refine Wk.aggP ?_)⟩
    · try simp only [cl] at h2
      refine awp_skip ?_
      refine awp_seq ?_
      refine awp_rw rfl ?_
      refine l1T ti33 rfl rfl rfl rfl rfl (.one rfl rfl rfl rfl) ?_
      refine asT ?_
      refine asT ?_
      refine RW.nil ?_
      refine awp_ret ?_
      rw [defence_some (by omega) (by first | assumption | simpa using h2)]
      exact ⟨Or.inr rfl, [_, _], ⟨.tmp (.t _), .tmp (.t _), trivial⟩, (by repeat' first | exact trivial | exact Wk.refl _ | exact Wk.sl _ | (rw [h2]; exact Wk.refl _) | refine And.intro ?_ ?_ | refine Wk.tupP ?_ | refine Wk.aggP ?_)⟩

theorem judge_ret (l : List Rcd) (d : Dec) (hO : OKL l) : RetT Tryd.prog 22 [(1, deT)] [.sl (l.map encC) false, encD d] (.tup [encV (judge l d).1, encI (judge l d).2]) := by
  refine retT_of_awp Tryd.func22 rfl (Nat.le_of_ble_eq_true rfl) ?_
  refine awp_seq ?_
  refine awp_rw rfl ?_
  refine RW.new rfl rfl (eff_boxK (v := .t _) (k := 4) (id := 3) rfl rfl rfl rfl rfl rfl) ?_
  refine RW.new rfl rfl (eff_allocK (k := 5) (id := 4) rfl rfl tz49 rfl rfl) ?_
  refine asT ?_
  refine RW.nil ?_
  refine awp_seq ?_
  refine awp_rw rfl ?_
  refine mvT ?_
  refine RW.op rfl rfl (eff_load rfl rfl ti28 rfl (.whole rfl rfl rfl rfl rfl rfl)) ?_
  refine RW.op rfl rfl (eff_callXT (defence_ret l d hO) co43 rfl rfl rfl ⟨rfl, trivial⟩ rfl) ?_
  refine mvT ?_
  refine RW.op rfl rfl (eff_extract rfl rfl rfl rfl) ?_
  refine RW.op rfl rfl (eff_extract rfl rfl rfl rfl) ?_
  refine asT ?_
  refine asT ?_
  refine RW.nil ?_
  refine awp_seq ?_
  refine awp_seq ?_
  refine awp_rw rfl ?_
  refine mvT ?_
  refine ioT ?_
  refine RW.nil ?_
  refine awp_cond rfl (fun h1 => ?_) (fun h1 => ?_)
  · try simp only [cl] at h1
    refine awp_seq ?_
    refine awp_rw rfl ?_
    refine RW.op rfl rfl (eff_buildT (ys := [_, _, _, _, _]) rfl rfl tz49 tg49 rfl) ?_
    refine mvT ?_
    refine RW.store rfl rfl (eff_storeW (v := .t _) (els := [_]) (els' := [_]) rfl rfl ti49 rfl rfl rfl rfl rfl rfl rfl rfl rfl) ?_
    refine asT ?_
    refine RW.nil ?_
    refine awp_ret ?_
    rw [judge_err h1]
    exact ⟨Or.inr rfl, [_, _], ⟨.cell rfl ti49 (.whole rfl rfl rfl rfl rfl rfl) (.t _), .tmp (.t _), trivial⟩, .refl _⟩
  · try simp only [cl] at h1
    refine awp_skip ?_
    refine awp_seq ?_
    refine awp_seq ?_
    refine awp_rw rfl ?_
    have hdl := defence_len hO d
    refine mvT ?_
    refine RW.op rfl rfl (eff_lenM rfl rfl te33 rfl) ?_
    refine ioT ?_
    refine RW.nil ?_
    refine awp_cond rfl (fun h2 => ?_) (fun h2 => ?_)
    · try simp only [cl] at h2
      refine awp_seq ?_
      refine awp_rw rfl ?_
      refine RW.op rfl rfl (eff_buildT (ys := [_, _, _, _, _]) rfl rfl tz49 tg49 rfl) ?_
      refine RW.store rfl rfl (eff_storeW (v := .t _) (els := [_]) (els' := [_]) rfl rfl ti49 rfl rfl rfl rfl rfl rfl rfl rfl rfl) ?_
      refine asT ?_
      refine RW.nil ?_
      refine awp_ret ?_
      rw [judge_nil (by omega) h2]
      exact ⟨Or.inr rfl, [_, _], ⟨.cell rfl ti49 (.whole rfl rfl rfl rfl rfl rfl) (.t _), .tmp (.t _), trivial⟩, .refl _⟩
    · try simp only [cl] at h2
      refine awp_skip ?_
      refine awp_seq ?_
      refine awp_rw rfl ?_
      have hd0 : 0 < (defence l d).1.length := by omega
      refine mvT ?_
      refine RW.op rfl rfl (eff_indexM (i := 0) rfl rfl te33 rfl rfl (by first | rfl | omega) (by exact List.getElem?_eq_getElem (by omega)) rfl (by decide)) ?_
      refine RW.op rfl rfl (eff_loadW rfl rfl ti23 rfl rfl rfl) ?_
      refine RW.op rfl rfl (eff_buildT (ys := [_, _, _, _, _]) rfl rfl tz49 tg49 rfl) ?_
      refine RW.store rfl rfl (eff_storeW (v := .t _) (els := [_]) (els' := [_]) rfl rfl ti49 rfl rfl rfl rfl rfl rfl rfl rfl rfl) ?_
      refine asT ?_
      refine RW.nil ?_
      refine awp_ret ?_
      rw [judge_cons (by omega) hd0]
      exact ⟨Or.inr rfl, [_, _], ⟨.cell rfl ti49 (.whole rfl rfl rfl rfl rfl rfl) (.t _), .tmp (.t _), trivial⟩, .refl _⟩

end Go.Tv.C36

end
section
open Go Go.Tv Go.Proofs
namespace Go.Tv.C36
set_option maxRecDepth 20000
set_option maxHeartbeats 2000000
set_option linter.unusedSimpArgs false
set_option linter.unusedVariables false
theorem hRn {R : List Rep} {k : Int} (h : (decide (k = 3) && R.isEmpty) = false) (hk : k = 3) : (R.length : Int) ≠ 0 := by
  intro hl
  rw [decide_eq_true hk, List.length_eq_zero_iff.1 (show R.length = 0 by omega)] at h
  cases h

theorem hvis_n (l : List Rcd) (i : Nat) (T : Twn) (hi : i < l.length) (hl : l.length ≤ 1000000) (hT : T = (runTo l i).1) (hF : Fit 12 T) (hq : ∀ r, r ∈ l → 0 ≤ r.frame.seq ∧ r.frame.seq ≤ 1000000) (hf : form l i = 0) (hn : heldAt l i = false) : RetK Tryd.prog 39 [(1001, some ⟨1, 32, 0, [.t (.sl (l.map encC) false)]⟩), (1004, some ⟨1, 26, 0, [.own 1100 i 0 (heldTo l i).length]⟩), (1100, some ⟨1, 3, i, ((heldTo l i).map encN).map .t⟩)] [.t (encI (i : Nat)), .t (encT T), .ptr 1001 0 0 0, .ptr 1004 0 0 0] [(1001, some ⟨1, 32, 0, [.t (.sl (l.map encC) false)]⟩), (1004, some ⟨1, 26, 0, [.own 1100 (i + 1) 0 (heldTo l i).length]⟩), (1100, some ⟨1, 3, (i + 1), ((heldTo l i).map encN).map .t⟩)] (.tup []) [(2, .ptr 1001 0 0 0), (3, .ptr 1004 0 0 0)] := by
  have hRE : rightsAt l (l[i]'hi).dec i = (rights T (l[i]'hi).dec (sentN (l.take i))) := by rw [hT]; rfl
  have hhl := heldTo_len l i
  rw [heldAt_at hi, hRE] at hn
  refine retK_of_awj (kp := fun i => Nat.beq i 2 || Nat.beq i 3) Tryd.func39 rfl (Nat.le_of_ble_eq_true rfl) (by simp) ?_
  intro F0 w0
  refine awj_seq ?_
  refine awj_rj rfl ?_
  refine RJ.new rfl rfl (eff_boxK (v := .t _) (k := 2) (id := 5) rfl rfl rfl rfl rfl rfl) ?_
  refine RJ.nil ?_
  refine awj_seq ?_
  by_cases hc1 : (l[i]'hi).kind = 3
  · refine awj_rd [(some 6, []), (some 7, []), (some 8, []), (some 9, []), (some 10, []), (some 11, []), (some 12, []), (some 13, []), (some 14, []), (some 15, []), (some 16, []), (some 17, []), (some 18, []), (some 19, []), (some 20, []), (some 21, []), (some 22, []), (some 23, []), (some 24, []), (some 25, []), (some 26, [])] [[], [], [0, 1], [0, 1, 2], [0, 1, 2, 3], [0, 1, 2, 3, 4], [0, 1, 2, 3, 4, 5], [0, 1, 2, 3, 4, 5, 6], [0, 1, 2, 3, 4, 5, 6], [0, 1, 2, 3, 4, 5, 6], [0, 1, 2, 3, 4, 5, 6, 8, 9], [0, 1, 2, 3, 4, 5, 6, 8, 9, 10], [0, 1, 2, 3, 4, 5, 6, 8, 9, 10, 11], [0, 1, 2, 3, 4, 5, 6], [0, 1, 2, 3, 4, 5, 6], [0, 1, 2, 3, 4, 5, 6, 13, 14], [0, 1, 2, 3, 4, 5, 6, 13, 14, 15], [0, 1, 2, 3, 4, 5, 6, 7, 8, 9, 10, 11, 12, 13, 14, 15, 16], [0, 1, 2, 3, 4, 5, 6, 7, 8, 9, 10, 11, 12, 13, 14, 15, 16, 17], [0, 1, 2, 3, 4, 5, 6, 7, 8, 9, 10, 11, 12, 13, 14, 15, 16, 17, 18], [0, 1, 2, 3, 4, 5, 6, 7, 8, 9, 10, 11, 12, 13, 14, 15, 16, 17, 18, 19]] tm rfl rfl rfl rfl ?_
    refine RD.op rfl rfl rfl (eff_load (y := .t _) rfl rfl ti32 rfl (.one rfl rfl rfl rfl)) ?_
    refine mvD ?_
    refine RD.op rfl rfl rfl (eff_indexM (i := i) rfl rfl te32 rfl rfl (by first | rfl | omega) (by first | assumption | exact List.getElem?_eq_getElem (by omega)) rfl (by decide)) ?_
    refine RD.op rfl rfl rfl (eff_fieldAddrT rfl rfl tf47_1 (by decide) rfl) ?_
    refine RD.op rfl rfl rfl (eff_loadT1 rfl rfl ti3 rfl rfl) ?_
    refine RD.op rfl rfl rfl (eff_iop (r := .bool true) rfl rfl rfl rfl (by simp [iop, hc1])) ?_
    refine mvD ?_
    refine RD.gop rfl rfl rfl rfl rfl rfl rfl (eff_load rfl rfl ti64 rfl (.whole rfl rfl rfl rfl rfl rfl)) ?_
    refine RD.gop rfl rfl rfl rfl rfl rfl rfl (eff_load (y := .t _) rfl rfl ti32 rfl (.one rfl rfl rfl rfl)) ?_
    refine RD.gop rfl rfl rfl rfl rfl rfl rfl (eff_move (v := .t _) rfl rfl rfl) ?_
    refine RD.gop rfl rfl rfl rfl rfl rfl rfl (eff_indexM (i := i) rfl rfl te32 rfl rfl (by first | rfl | omega) (by first | assumption | exact List.getElem?_eq_getElem (by omega)) rfl (by decide)) ?_
    refine RD.gop rfl rfl rfl rfl rfl rfl rfl (eff_fieldAddrT rfl rfl tf47_4 (by decide) rfl) ?_
    refine RD.gop rfl rfl rfl rfl rfl rfl rfl (eff_loadT (ys := [_, _, _, _]) rfl rfl ti28 rfl rfl rfl) ?_
    refine RD.gop rfl rfl rfl rfl rfl rfl rfl (eff_load (y := .t _) rfl rfl ti32 rfl (.one rfl rfl rfl rfl)) ?_
    refine RD.gop rfl rfl rfl rfl rfl rfl rfl (eff_move (v := .t _) rfl rfl rfl) ?_
    refine RD.gop rfl rfl rfl rfl rfl rfl rfl (eff_sliceM (g := encC) (l := none) (h := some i) (r := l.take i) rfl rfl te32 rfl (fun _ => rfl) .no (.yes rfl rfl) (Nat.zero_le _) (by simp; omega) (by simp)) ?_
    refine RD.gop rfl rfl rfl rfl rfl rfl rfl (eff_callT (sent_ret (l.take i) (by rw [List.length_take]; omega) (fun r hr => hq r (List.mem_of_mem_take hr))) co41 rfl rfl rfl rfl) ?_
    refine RD.gop rfl rfl rfl rfl rfl rfl rfl (eff_callT (rights_ret T _ _ hF.hp (fun y hy => (hF.nx y hy).mono (by decide)) (by have := form_dec hi hf hc1; omega) (by have := hF.len; omega)) co40 rfl rfl rfl rfl) ?_
    refine RD.gop rfl rfl rfl rfl rfl rfl rfl (eff_lenM rfl rfl te33 rfl) ?_
    refine RD.gop rfl rfl rfl rfl rfl rfl rfl (eff_iop (r := .bool false) rfl rfl rfl rfl (by exact congrArg (fun b => some (Tr.bool b)) (beq_eq_false_iff_ne.2 (hRn hn hc1)))) ?_
    refine RD.op rfl rfl rfl (eff_pick (v := .t _) rfl rfl rfl rfl) ?_
    refine RD.nil ?_
    refine awj_cond rfl (fun h => nomatch h) (fun _ => ?_)
    refine awj_skip ?_
    exact ⟨Or.inl rfl, [], [], trivial, rfl, weak_gen ⟨.ptr 1001 0 0 0 0 rfl rfl rfl rfl rfl rfl, .ptr 1004 0 0 0 0 rfl rfl rfl rfl rfl rfl, trivial⟩ ⟨⟨_, rfl, rfl, rfl, rfl, gen_t1⟩, ⟨_, rfl, rfl, rfl, rfl, gen_own1 (.own 1100 _ _ 0 _ rfl rfl rfl rfl rfl rfl rfl)⟩, ⟨_, rfl, rfl, rfl, rfl, gen_trees⟩, trivial⟩, rfl⟩
  · refine awj_rd [(some 6, []), (some 7, []), (some 8, []), (some 9, []), (some 10, []), (some 11, []), (some 12, []), (some 13, []), (some 14, []), (some 15, []), (some 16, []), (some 17, []), (some 18, []), (some 19, []), (some 20, []), (some 21, []), (some 22, []), (some 23, []), (some 24, []), (some 25, []), (some 26, [])] [[], [], [0, 1], [0, 1, 2], [0, 1, 2, 3], [0, 1, 2, 3, 4], [0, 1, 2, 3, 4, 5], [0, 1, 2, 3, 4, 5, 6], [0, 1, 2, 3, 4, 5, 6], [0, 1, 2, 3, 4, 5, 6], [0, 1, 2, 3, 4, 5, 6, 8, 9], [0, 1, 2, 3, 4, 5, 6, 8, 9, 10], [0, 1, 2, 3, 4, 5, 6, 8, 9, 10, 11], [0, 1, 2, 3, 4, 5, 6], [0, 1, 2, 3, 4, 5, 6], [0, 1, 2, 3, 4, 5, 6, 13, 14], [0, 1, 2, 3, 4, 5, 6, 13, 14, 15], [0, 1, 2, 3, 4, 5, 6, 7, 8, 9, 10, 11, 12, 13, 14, 15, 16], [0, 1, 2, 3, 4, 5, 6, 7, 8, 9, 10, 11, 12, 13, 14, 15, 16, 17], [0, 1, 2, 3, 4, 5, 6, 7, 8, 9, 10, 11, 12, 13, 14, 15, 16, 17, 18], [0, 1, 2, 3, 4, 5, 6, 7, 8, 9, 10, 11, 12, 13, 14, 15, 16, 17, 18, 19]] tm rfl rfl rfl rfl ?_
    refine RD.op rfl rfl rfl (eff_load (y := .t _) rfl rfl ti32 rfl (.one rfl rfl rfl rfl)) ?_
    refine mvD ?_
    refine RD.op rfl rfl rfl (eff_indexM (i := i) rfl rfl te32 rfl rfl (by first | rfl | omega) (by first | assumption | exact List.getElem?_eq_getElem (by omega)) rfl (by decide)) ?_
    refine RD.op rfl rfl rfl (eff_fieldAddrT rfl rfl tf47_1 (by decide) rfl) ?_
    refine RD.op rfl rfl rfl (eff_loadT1 rfl rfl ti3 rfl rfl) ?_
    refine RD.op rfl rfl rfl (eff_iop (r := .bool false) rfl rfl rfl rfl (by simp [iop, hc1])) ?_
    refine mvD ?_
    refine gkD ?_
    refine gkD ?_
    refine gkD ?_
    refine gkD ?_
    refine gkD ?_
    refine gkD ?_
    refine gkD ?_
    refine gkD ?_
    refine gkD ?_
    refine gkD ?_
    refine gkD ?_
    refine gkD ?_
    refine gkD ?_
    refine RD.op rfl rfl rfl (eff_pick (v := .t _) rfl rfl rfl rfl) ?_
    refine RD.nil ?_
    refine awj_cond rfl (fun h => nomatch h) (fun _ => ?_)
    refine awj_skip ?_
    exact ⟨Or.inl rfl, [], [], trivial, rfl, weak_gen ⟨.ptr 1001 0 0 0 0 rfl rfl rfl rfl rfl rfl, .ptr 1004 0 0 0 0 rfl rfl rfl rfl rfl rfl, trivial⟩ ⟨⟨_, rfl, rfl, rfl, rfl, gen_t1⟩, ⟨_, rfl, rfl, rfl, rfl, gen_own1 (.own 1100 _ _ 0 _ rfl rfl rfl rfl rfl rfl rfl)⟩, ⟨_, rfl, rfl, rfl, rfl, gen_trees⟩, trivial⟩, rfl⟩

theorem hvis_y (l : List Rcd) (i : Nat) (T : Twn) (hi : i < l.length) (hl : l.length ≤ 1000000) (hT : T = (runTo l i).1) (hF : Fit 12 T) (hq : ∀ r, r ∈ l → 0 ≤ r.frame.seq ∧ r.frame.seq ≤ 1000000) (hf : form l i = 0) (hn : heldAt l i = true) : RetK Tryd.prog 39 [(1001, some ⟨1, 32, 0, [.t (.sl (l.map encC) false)]⟩), (1004, some ⟨1, 26, 0, [.own 1100 i 0 (heldTo l i).length]⟩), (1100, some ⟨1, 3, i, ((heldTo l i).map encN).map .t⟩)] [.t (encI (i : Nat)), .t (encT T), .ptr 1001 0 0 0, .ptr 1004 0 0 0] [(1001, some ⟨1, 32, 0, [.t (.sl (l.map encC) false)]⟩), (1004, some ⟨1, 26, 0, [.own 1100 (i + 1) 0 (heldTo l (i + 1)).length]⟩), (1100, some ⟨1, 3, (i + 1), ((heldTo l (i + 1)).map encN).map .t⟩)] (.tup []) [(2, .ptr 1001 0 0 0), (3, .ptr 1004 0 0 0)] := by
  have hn0 := hn
  have hRE : rightsAt l (l[i]'hi).dec i = (rights T (l[i]'hi).dec (sentN (l.take i))) := by rw [hT]; rfl
  have hhl := heldTo_len l i
  rw [heldAt_at hi, hRE] at hn
  simp only [Bool.and_eq_true, decide_eq_true_eq, List.isEmpty_iff] at hn
  obtain ⟨hk3, hR0⟩ := hn
  refine retK_of_awj (kp := fun i => Nat.beq i 2 || Nat.beq i 3) Tryd.func39 rfl (Nat.le_of_ble_eq_true rfl) (by simp) ?_
  intro F0 w0
  refine awj_seq ?_
  refine awj_rj rfl ?_
  refine RJ.new rfl rfl (eff_boxK (v := .t _) (k := 2) (id := 5) rfl rfl rfl rfl rfl rfl) ?_
  refine RJ.nil ?_
  refine awj_seq ?_
  refine awj_rd [(some 6, []), (some 7, []), (some 8, []), (some 9, []), (some 10, []), (some 11, []), (some 12, []), (some 13, []), (some 14, []), (some 15, []), (some 16, []), (some 17, []), (some 18, []), (some 19, []), (some 20, []), (some 21, []), (some 22, []), (some 23, []), (some 24, []), (some 25, []), (some 26, [])] [[], [], [0, 1], [0, 1, 2], [0, 1, 2, 3], [0, 1, 2, 3, 4], [0, 1, 2, 3, 4, 5], [0, 1, 2, 3, 4, 5, 6], [0, 1, 2, 3, 4, 5, 6], [0, 1, 2, 3, 4, 5, 6], [0, 1, 2, 3, 4, 5, 6, 8, 9], [0, 1, 2, 3, 4, 5, 6, 8, 9, 10], [0, 1, 2, 3, 4, 5, 6, 8, 9, 10, 11], [0, 1, 2, 3, 4, 5, 6], [0, 1, 2, 3, 4, 5, 6], [0, 1, 2, 3, 4, 5, 6, 13, 14], [0, 1, 2, 3, 4, 5, 6, 13, 14, 15], [0, 1, 2, 3, 4, 5, 6, 7, 8, 9, 10, 11, 12, 13, 14, 15, 16], [0, 1, 2, 3, 4, 5, 6, 7, 8, 9, 10, 11, 12, 13, 14, 15, 16, 17], [0, 1, 2, 3, 4, 5, 6, 7, 8, 9, 10, 11, 12, 13, 14, 15, 16, 17, 18], [0, 1, 2, 3, 4, 5, 6, 7, 8, 9, 10, 11, 12, 13, 14, 15, 16, 17, 18, 19]] tm rfl rfl rfl rfl ?_
  refine RD.op rfl rfl rfl (eff_load (y := .t _) rfl rfl ti32 rfl (.one rfl rfl rfl rfl)) ?_
  refine mvD ?_
  refine RD.op rfl rfl rfl (eff_indexM (i := i) rfl rfl te32 rfl rfl (by first | rfl | omega) (by first | assumption | exact List.getElem?_eq_getElem (by omega)) rfl (by decide)) ?_
  refine RD.op rfl rfl rfl (eff_fieldAddrT rfl rfl tf47_1 (by decide) rfl) ?_
  refine RD.op rfl rfl rfl (eff_loadT1 rfl rfl ti3 rfl rfl) ?_
  refine RD.op rfl rfl rfl (eff_iop (r := .bool true) rfl rfl rfl rfl (by simp [iop, hk3])) ?_
  refine mvD ?_
  refine RD.gop rfl rfl rfl rfl rfl rfl rfl (eff_load rfl rfl ti64 rfl (.whole rfl rfl rfl rfl rfl rfl)) ?_
  refine RD.gop rfl rfl rfl rfl rfl rfl rfl (eff_load (y := .t _) rfl rfl ti32 rfl (.one rfl rfl rfl rfl)) ?_
  refine RD.gop rfl rfl rfl rfl rfl rfl rfl (eff_move (v := .t _) rfl rfl rfl) ?_
  refine RD.gop rfl rfl rfl rfl rfl rfl rfl (eff_indexM (i := i) rfl rfl te32 rfl rfl (by first | rfl | omega) (by first | assumption | exact List.getElem?_eq_getElem (by omega)) rfl (by decide)) ?_
  refine RD.gop rfl rfl rfl rfl rfl rfl rfl (eff_fieldAddrT rfl rfl tf47_4 (by decide) rfl) ?_
  refine RD.gop rfl rfl rfl rfl rfl rfl rfl (eff_loadT (ys := [_, _, _, _]) rfl rfl ti28 rfl rfl rfl) ?_
  refine RD.gop rfl rfl rfl rfl rfl rfl rfl (eff_load (y := .t _) rfl rfl ti32 rfl (.one rfl rfl rfl rfl)) ?_
  refine RD.gop rfl rfl rfl rfl rfl rfl rfl (eff_move (v := .t _) rfl rfl rfl) ?_
  refine RD.gop rfl rfl rfl rfl rfl rfl rfl (eff_sliceM (g := encC) (l := none) (h := some i) (r := l.take i) rfl rfl te32 rfl (fun _ => rfl) .no (.yes rfl rfl) (Nat.zero_le _) (by simp; omega) (by simp)) ?_
  refine RD.gop rfl rfl rfl rfl rfl rfl rfl (eff_callT (sent_ret (l.take i) (by rw [List.length_take]; omega) (fun r hr => hq r (List.mem_of_mem_take hr))) co41 rfl rfl rfl rfl) ?_
  refine RD.gop rfl rfl rfl rfl rfl rfl rfl (eff_callT (rights_ret T _ _ hF.hp (fun y hy => (hF.nx y hy).mono (by decide)) (by have := form_dec hi hf hk3; omega) (by have := hF.len; omega)) co40 rfl rfl rfl rfl) ?_
  refine RD.gop rfl rfl rfl rfl rfl rfl rfl (eff_lenM rfl rfl te33 rfl) ?_
  refine RD.gop rfl rfl rfl rfl rfl rfl rfl (eff_iop (r := .bool true) rfl rfl rfl rfl (by simp [iop, hR0])) ?_
  refine RD.op rfl rfl rfl (eff_pick (v := .t _) rfl rfl rfl rfl) ?_
  refine RD.nil ?_
  refine awj_cond rfl (fun _ => ?_) (fun h => nomatch h)
  refine awj_rj rfl ?_
  refine RJ.op rfl rfl (eff_load (y := .own _ _ _ _) rfl rfl ti26 rfl (.one rfl rfl rfl rfl)) ?_
  refine RJ.op rfl rfl (eff_move (v := .t _) rfl rfl rfl) ?_
  refine RJ.new rfl rfl (eff_buildSlice1 (id := 29) (els := [_]) rfl rfl te26 tz3 rfl (by decide) rfl rfl rfl rfl) ?_
  refine RJ.new rfl rfl (eff_append (id := 1100) (ys := [_]) rfl rfl ta26 rfl rfl rfl (by simp) rfl rfl (srcOwn rfl rfl rfl rfl rfl rfl) (by simp) (by simp; omega) (by simp; omega)) ?_
  refine RJ.store rfl rfl (eff_storeW (v := .own _ _ _ _) (els := [_]) (els' := [_]) rfl rfl ti26 rfl rfl rfl rfl rfl rfl rfl rfl rfl) ?_
  refine RJ.nil ?_
  have hle : ((heldTo l (i + 1)).map encN).map AV.t = ((heldTo l i).map encN).map AV.t ++ [.t (encI (i : Nat))] := by rw [heldTo_yes hn0]; simp <;> rfl
  have hll : (heldTo l (i + 1)).length = (heldTo l i).length + 1 := by rw [heldTo_yes hn0]; simp
  rw [hle, hll]
  exact ⟨Or.inl rfl, [], [], trivial, rfl, weak_keep ⟨rfl, rfl, rfl, rfl, trivial⟩ ⟨rfl, okE_one rfl, rfl, okE_one rfl, rfl, (by rw [← hle]; exact okE_t), trivial⟩, rfl⟩

theorem hvis_ret (l : List Rcd) (i : Nat) (T : Twn) (hi : i < l.length) (hl : l.length ≤ 1000000) (hT : T = (runTo l i).1) (hF : Fit 12 T) (hq : ∀ r, r ∈ l → 0 ≤ r.frame.seq ∧ r.frame.seq ≤ 1000000) (hf : form l i = 0) :
    RetK Tryd.prog 39 [(1001, some ⟨1, 32, 0, [.t (.sl (l.map encC) false)]⟩), (1004, some ⟨1, 26, 0, [.own 1100 i 0 (heldTo l i).length]⟩), (1100, some ⟨1, 3, i, ((heldTo l i).map encN).map .t⟩)] [.t (encI (i : Nat)), .t (encT T), .ptr 1001 0 0 0, .ptr 1004 0 0 0] [(1001, some ⟨1, 32, 0, [.t (.sl (l.map encC) false)]⟩), (1004, some ⟨1, 26, 0, [.own 1100 (i + 1) 0 (heldTo l (i + 1)).length]⟩), (1100, some ⟨1, 3, (i + 1), ((heldTo l (i + 1)).map encN).map .t⟩)] (.tup []) [(2, .ptr 1001 0 0 0), (3, .ptr 1004 0 0 0)] := by
  cases hn : heldAt l i with
  | true => exact hvis_y l i T hi hl hT hF hq hf hn
  | false =>
    have h := hvis_n l i T hi hl hT hF hq hf hn
    rw [heldTo_no hn]
    exact h

theorem replay39_ret (l : List Rcd) (hO : OKL l) : RetKT Tryd.prog 38 [(1, deT)] [(1001, some ⟨1, 32, 0, [.t (.sl (l.map encC) false)]⟩), (1004, some ⟨1, 26, 0, [.own 1100 0 0 (heldTo l 0).length]⟩), (1100, some ⟨1, 3, 0, ((heldTo l 0).map encN).map .t⟩)] [.t (.sl (l.map encC) false), .fn 39 [.ptr 1001 0 0 0, .ptr 1004 0 0 0]] [(1001, some ⟨1, 32, 0, [.t (.sl (l.map encC) false)]⟩), (1004, some ⟨1, 26, 0, [.own 1100 (nvis l + 1) 0 (heldTo l (nvis l)).length]⟩), (1100, some ⟨1, 3, (nvis l + 1), ((heldTo l (nvis l)).map encN).map .t⟩)] (.tup [.t (encT (allOf l).1), .t (encI (allOf l).2)]) [(1, .fn 39 [.ptr 1001 0 0 0, .ptr 1004 0 0 0])] := by
  refine retKT_of_awj (kp := fun i => Nat.beq i 1) Tryd.func38 rfl (Nat.le_of_ble_eq_true rfl) (by simp) ?_
  intro F0 w0
  refine awj_seq ?_
  refine awj_rj rfl ?_
  refine RJ.new rfl rfl (eff_allocK (k := 2) (id := 4) rfl rfl tz64 rfl rfl) ?_
  refine RJ.op rfl rfl (eff_assign (v := .t _) rfl rfl rfl) ?_
  refine RJ.nil ?_
  refine awj_seq ?_
  refine awj_seq ?_
  refine awj_rj rfl ?_
  refine RJ.op rfl rfl (eff_move (v := .t _) rfl rfl rfl) ?_
  refine RJ.op rfl rfl (eff_lenM rfl rfl te32 rfl) ?_
  refine RJ.op rfl rfl (eff_iop rfl rfl rfl rfl rfl) ?_
  refine RJ.nil ?_
  refine awj_cond rfl (fun h1 => ?_) (fun h1 => ?_)
  · try simp only [cl] at h1
    refine awj_seq ?_
    refine awj_rj rfl ?_
    refine RJ.op rfl rfl (eff_buildT (ys := [_, _]) rfl rfl tz64 tg64 rfl) ?_
    refine RJ.store rfl rfl (eff_storeW (v := .t _) (els := [_]) (els' := [_]) rfl rfl ti64 rfl rfl rfl rfl rfl rfl rfl rfl rfl) ?_
    refine RJ.op rfl rfl (eff_assign (v := .t _) rfl rfl rfl) ?_
    refine RJ.nil ?_
    refine awj_ret ?_
    rw [all_lim h1, nvis_lim h1]
    exact ⟨Or.inr rfl, [_, _], [.t (encT zt), .t _], ⟨.cell rfl ti64 (.whole rfl rfl rfl rfl rfl rfl), .tmp rfl, trivial⟩, rfl, Weak.trans (weak_slot 0 (y := encT zt) rfl (by repeat' first | exact trivial | exact Wk.refl _ | exact Wk.sl _ | refine And.intro ?_ ?_ | refine Wk.tupP ?_ | refine Wk.aggP ?_)) (weak_genX ⟨.a (.t _), .a (.t _), .fn _ _ ⟨.ptr 1001 0 0 0 0 rfl rfl rfl rfl rfl rfl, .ptr 1004 0 0 0 0 rfl rfl rfl rfl rfl rfl, trivial⟩, trivial⟩ ⟨⟨_, rfl, rfl, rfl, rfl, gen_t1⟩, ⟨_, rfl, rfl, rfl, rfl, gen_own1 (.own 1100 _ _ 0 _ rfl rfl rfl rfl rfl rfl rfl)⟩, ⟨_, rfl, rfl, rfl, rfl, gen_trees⟩, trivial⟩), rfl⟩
  · try simp only [cl] at h1
    refine awj_skip ?_
    refine awj_seq ?_
    refine awj_rj rfl ?_
    refine RJ.op rfl rfl (eff_callT (new17_ret) co61 rfl rfl rfl rfl) ?_
    refine RJ.new rfl rfl (eff_allocK (k := 2) (id := 6) rfl rfl tz64 rfl rfl) ?_
    refine RJ.store rfl rfl (eff_storeW (v := .t _) (els := [_]) (els' := [_]) rfl rfl ti64 rfl rfl rfl rfl rfl rfl rfl rfl rfl) ?_
    refine RJ.nil ?_
    refine awj_seq ?_
    refine awj_seq ?_
    refine awj_rj rfl ?_
    refine RJ.op rfl rfl (eff_move (v := .t _) rfl rfl rfl) ?_
    refine RJ.op rfl rfl (eff_lenM rfl rfl te32 rfl) ?_
    refine RJ.op rfl rfl (eff_move (v := .t _) rfl rfl rfl) ?_
    refine RJ.nil ?_
    refine awj_block ?_
    refine awj_loopW (fun m s g => ∃ (i : Nat) (T : Twn), (i ≤ l.length) ∧ (T = (runTo l i).1) ∧ ((runTo l i).2 = 0) ∧ m = l.length - i ∧ s = ⟨63, [(0, .t (.sl (l.map encC) false)), (1, .fn 39 [.ptr 1001 0 0 0, .ptr 1004 0 0 0]), (4, .ptr 4 0 0 0), (6, .ptr 6 0 0 0), (17, .t (.sl (l.map encC) false)), (18, .t (encI (l.length : Nat))), (19, .t (encI (i : Nat))), (64, .t deT)], [(4, some ⟨2, 64, 0, [.t z64]⟩), (6, some ⟨2, 64, 0, [.t (encT T)]⟩), (1001, some ⟨1, 32, 0, [.t (.sl (l.map encC) false)]⟩), (1004, some ⟨1, 26, 0, [.own 1100 i 0 (heldTo l i).length]⟩), (1100, some ⟨1, 3, i, ((heldTo l i).map encN).map .t⟩)]⟩) (_) (⟨_, weak_keep (n := 63) (fr' := [(0, .t (.sl (l.map encC) false)), (1, .fn 39 [.ptr 1001 0 0 0, .ptr 1004 0 0 0]), (4, .ptr 4 0 0 0), (6, .ptr 6 0 0 0), (17, .t (.sl (l.map encC) false)), (18, .t (encI (l.length : Nat))), (19, .t (encI (0 : Nat))), (64, .t deT)]) (st' := [(4, some ⟨2, 64, 0, [.t z64]⟩), (6, some ⟨2, 64, 0, [.t (encT newT)]⟩), (1001, some ⟨1, 32, 0, [.t (.sl (l.map encC) false)]⟩), (1004, some ⟨1, 26, 0, [.own 1100 0 0 (heldTo l 0).length]⟩), (1100, some ⟨1, 3, 0, ((heldTo l 0).map encN).map .t⟩)]) ⟨rfl, rfl, rfl, rfl, rfl, rfl, rfl, rfl, rfl, rfl, rfl, rfl, rfl, rfl, rfl, rfl, trivial⟩ ⟨rfl, okE_one rfl, rfl, okE_one rfl, rfl, okE_one rfl, rfl, okE_one rfl, rfl, okE_t, trivial⟩, 0, newT, (by omega), (by rfl), (by rfl), rfl, rfl⟩) ?_
    rintro m s g ⟨i, T, hi, hT, hok, rfl, rfl⟩
    refine awj_seq ?_
    refine awj_rj rfl ?_
    refine RJ.op rfl rfl (eff_iop rfl rfl rfl rfl rfl) ?_
    refine RJ.nil ?_
    refine awj_seq ?_
    refine awj_cond rfl (fun h2 => ?_) (fun h2 => ?_)
    · try simp only [cl] at h2
      refine awj_skip ?_
      refine awj_seq ?_
      refine awj_block ?_
      refine awj_seq ?_
      refine awj_rj rfl ?_
      have hil : i < l.length := by omega
      have hFit := runTo_fit12 hO (by omega) hok
      rw [← hT] at hFit
      refine RJ.op rfl rfl (eff_move (v := .t _) rfl rfl rfl) ?_
      refine RJ.op rfl rfl (eff_indexM rfl rfl te32 rfl rfl rfl (by first | assumption | exact List.getElem?_eq_getElem (by omega)) rfl (by decide)) ?_
      refine RJ.op rfl rfl (eff_loadW rfl rfl ti47 rfl rfl rfl) ?_
      refine RJ.new rfl rfl (eff_allocK (k := 15) (id := 8) rfl rfl tz47 rfl rfl) ?_
      refine RJ.op rfl rfl (eff_assign (v := .t _) rfl rfl rfl) ?_
      refine RJ.store rfl rfl (eff_storeW (v := .t _) (els := [_]) (els' := [_]) rfl rfl ti47 rfl rfl rfl rfl rfl rfl rfl rfl rfl) ?_
      refine RJ.nil ?_
      refine awj_seq ?_
      refine awj_seq ?_
      refine awj_rj rfl ?_
      refine RJ.op rfl rfl (eff_move (v := .t _) rfl rfl rfl) ?_
      refine RJ.op rfl rfl (eff_move (v := .t _) rfl rfl rfl) ?_
      refine RJ.op rfl rfl (eff_callT (form_ret l i hil (by have := hO.len; omega)) co62 rfl rfl rfl rfl) ?_
      refine RJ.op rfl rfl (eff_assign (v := .t _) rfl rfl rfl) ?_
      refine RJ.nil ?_
      refine awj_seq ?_
      refine awj_rj rfl ?_
      refine RJ.op rfl rfl (eff_move (v := .t _) rfl rfl rfl) ?_
      refine RJ.op rfl rfl (eff_iop rfl rfl rfl rfl rfl) ?_
      refine RJ.nil ?_
      refine awj_cond rfl (fun h3 => ?_) (fun h3 => ?_)
      · try simp only [cl] at h3
        refine awj_seq ?_
        refine awj_rj rfl ?_
        refine RJ.op rfl rfl (eff_buildT (ys := [_, _]) rfl rfl tz64 tg64 rfl) ?_
        refine RJ.op rfl rfl (eff_move (v := .t _) rfl rfl rfl) ?_
        refine RJ.store rfl rfl (eff_storeW (v := .t _) (els := [_]) (els' := [_]) rfl rfl ti64 rfl rfl rfl rfl rfl rfl rfl rfl rfl) ?_
        refine RJ.op rfl rfl (eff_assign (v := .t _) rfl rfl rfl) ?_
        refine RJ.nil ?_
        refine awj_ret ?_
        have hfx : form l i ≠ 0 := by omega
        rw [all_bad h1 hil (run_form hok hfx) hfx, nvis_form h1 hil hok hfx]
        exact ⟨Or.inr rfl, [_, _], [.t (encT zt), .t _], ⟨.cell rfl ti64 (.whole rfl rfl rfl rfl rfl rfl), .tmp rfl, trivial⟩, rfl, Weak.trans (weak_slot 0 (y := encT zt) rfl (by repeat' first | exact trivial | exact Wk.refl _ | exact Wk.sl _ | refine And.intro ?_ ?_ | refine Wk.tupP ?_ | refine Wk.aggP ?_)) (weak_genX ⟨.a (.t _), .a (.t _), .fn _ _ ⟨.ptr 1001 0 0 0 0 rfl rfl rfl rfl rfl rfl, .ptr 1004 0 0 0 0 rfl rfl rfl rfl rfl rfl, trivial⟩, trivial⟩ ⟨⟨_, rfl, rfl, rfl, rfl, gen_t1⟩, ⟨_, rfl, rfl, rfl, rfl, gen_own1 (.own 1100 _ _ 0 _ rfl rfl rfl rfl rfl rfl rfl)⟩, ⟨_, rfl, rfl, rfl, rfl, gen_trees⟩, trivial⟩), rfl⟩
      · try simp only [cl] at h3
        refine awj_skip ?_
        refine awj_seq ?_
        refine awj_rj rfl ?_
        have hfo : form l i = 0 := by omega
        refine RJ.op rfl rfl (eff_move (v := .fn _ _) rfl rfl rfl) ?_
        refine RJ.op rfl rfl (eff_move (v := .t _) rfl rfl rfl) ?_
        refine RJ.op rfl rfl (eff_load rfl rfl ti64 rfl (.whole rfl rfl rfl rfl rfl rfl)) ?_
        refine RJ.new3 rfl rfl (eff_callKF (hvis_ret l i T hil (by have := hO.len; omega) hT hFit hO.seq hfo) co39 (fun id => id) rfl rfl rfl ⟨.t _, .t _, .ptr _ _ _ _ rfl rfl, .ptr _ _ _ _ rfl rfl, trivial⟩ (.tup _ _ rfl (fun i c d h _ => by simp at h)) rfl ⟨⟨rfl, self_one, ⟨_, rfl, .inr ⟨rfl, rfl, rfl, rfl, 2, rfl, (by simp)⟩⟩⟩, ⟨rfl, self_own rfl rfl, ⟨_, rfl, .inr ⟨rfl, rfl, rfl, rfl, 3, rfl, (by simp)⟩⟩⟩, ⟨rfl, self_tree, ⟨_, rfl, .inl (Nat.lt_succ_self _)⟩⟩, trivial⟩ ⟨⟨self_one, .inl rfl⟩, ⟨self_own rfl rfl, .inl rfl⟩, ⟨self_tree, .inl rfl⟩, trivial⟩) ?_
        refine RJ.nil ?_
        refine awj_seq ?_
        refine awj_rj rfl ?_
        refine RJ.op rfl rfl (eff_assign (v := .t _) rfl rfl rfl) ?_
        refine RJ.nil ?_
        refine awj_seq ?_
        refine awj_rj rfl ?_
        refine RJ.op rfl rfl (eff_load rfl rfl ti64 rfl (.whole rfl rfl rfl rfl rfl rfl)) ?_
        refine RJ.new rfl rfl (eff_allocK (k := 2) (id := 11) rfl rfl tz64 rfl rfl) ?_
        refine RJ.store rfl rfl (eff_storeW (v := .t _) (els := [_]) (els' := [_]) rfl rfl ti64 rfl rfl rfl rfl rfl rfl rfl rfl rfl) ?_
        refine RJ.nil ?_
        refine awj_seq ?_
        refine awj_seq ?_
        refine awj_rj rfl ?_
        refine RJ.op rfl rfl (eff_fieldAddr rfl rfl tf47_1 (by decide) rfl rfl rfl (Nat.le_of_ble_eq_true rfl)) ?_
        refine RJ.op rfl rfl (eff_load (y := .t _) rfl rfl ti3 rfl (.one rfl rfl rfl rfl)) ?_
        refine RJ.nil ?_
        refine awj_block ?_
        refine awj_seq ?_
        refine awj_rj rfl ?_
        refine RJ.op rfl rfl (eff_iop rfl rfl rfl rfl rfl) ?_
        refine RJ.op rfl rfl (eff_assign (v := .t _) rfl rfl rfl) ?_
        refine RJ.nil ?_
        refine awj_cond rfl (fun h4 => ?_) (fun h4 => ?_)
        · try simp only [cl] at h4
          refine awj_rj rfl ?_
          refine RJ.op rfl rfl (eff_load rfl rfl ti64 rfl (.whole rfl rfl rfl rfl rfl rfl)) ?_
          refine RJ.op rfl rfl (eff_fieldAddr rfl rfl tf47_2 (by decide) rfl rfl rfl (Nat.le_of_ble_eq_true rfl)) ?_
          refine RJ.op rfl rfl (eff_loadS (ys := [_, _, _, _, _]) rfl rfl ti45 rfl rfl rfl rfl rfl rfl) ?_
          refine RJ.op rfl rfl (eff_callXT (tsend_ret T _ hFit.srt hFit.hp (by have := hFit.len; omega) (by have := hFit.sl; omega) hFit.bod (hO.bod _ (List.getElem_mem hil))) co63 rfl rfl rfl ⟨rfl, trivial⟩ rfl) ?_
          refine RJ.op rfl rfl (eff_move (v := .t _) rfl rfl rfl) ?_
          refine RJ.op rfl rfl (eff_extract rfl rfl rfl rfl) ?_
          refine RJ.op rfl rfl (eff_extract rfl rfl rfl rfl) ?_
          refine RJ.store rfl rfl (eff_storeW (v := .t _) (els := [_]) (els' := [_]) rfl rfl ti64 rfl rfl rfl rfl rfl rfl rfl rfl rfl) ?_
          refine RJ.op rfl rfl (eff_assign (v := .t _) rfl rfl rfl) ?_
          refine RJ.nil ?_
          refine awj_seq ?_
          refine awj_seq ?_
          refine awj_rj rfl ?_
          refine RJ.op rfl rfl (eff_move (v := .t _) rfl rfl rfl) ?_
          refine RJ.op rfl rfl (eff_iop rfl rfl rfl rfl rfl) ?_
          refine RJ.nil ?_
          refine awj_cond rfl (fun h5 => ?_) (fun h5 => ?_)
          · try simp only [cl] at h5
            refine awj_seq ?_
            refine awj_rj rfl ?_
            refine RJ.op rfl rfl (eff_buildT (ys := [_, _]) rfl rfl tz64 tg64 rfl) ?_
            refine RJ.op rfl rfl (eff_move (v := .t _) rfl rfl rfl) ?_
            refine RJ.store rfl rfl (eff_storeW (v := .t _) (els := [_]) (els' := [_]) rfl rfl ti64 rfl rfl rfl rfl rfl rfl rfl rfl rfl) ?_
            refine RJ.op rfl rfl (eff_assign (v := .t _) rfl rfl rfl) ?_
            refine RJ.nil ?_
            refine awj_ret ?_
            have hrb := bad_send hil hT hok hfo (by omega) (by omega)
            rw [all_bad h1 hil hrb (by omega), nvis_bad h1 hil hok hfo hrb (by omega)]
            exact ⟨Or.inr rfl, [_, _], [.t (encT zt), .t _], ⟨.cell rfl ti64 (.whole rfl rfl rfl rfl rfl rfl), .tmp rfl, trivial⟩, rfl, Weak.trans (weak_slot 0 (y := encT zt) rfl (by repeat' first | exact trivial | exact Wk.refl _ | exact Wk.sl _ | refine And.intro ?_ ?_ | refine Wk.tupP ?_ | refine Wk.aggP ?_)) (weak_genX ⟨.a (.t _), .a (.t _), .fn _ _ ⟨.ptr 1001 0 0 0 0 rfl rfl rfl rfl rfl rfl, .ptr 1004 0 0 0 0 rfl rfl rfl rfl rfl rfl, trivial⟩, trivial⟩ ⟨⟨_, rfl, rfl, rfl, rfl, gen_t1⟩, ⟨_, rfl, rfl, rfl, rfl, gen_own1 (.own 1100 _ _ 0 _ rfl rfl rfl rfl rfl rfl rfl)⟩, ⟨_, rfl, rfl, rfl, rfl, gen_trees⟩, trivial⟩), rfl⟩
          · try simp only [cl] at h5
            refine awj_skip ?_
            refine awj_rj rfl ?_
            refine RJ.op rfl rfl (eff_load rfl rfl ti64 rfl (.whole rfl rfl rfl rfl rfl rfl)) ?_
            refine RJ.store rfl rfl (eff_storeW (v := .t _) (els := [_]) (els' := [_]) rfl rfl ti64 rfl rfl rfl rfl rfl rfl rfl rfl rfl) ?_
            refine RJ.nil ?_
            refine awj_rj rfl ?_
            refine RJ.op rfl rfl (eff_iop rfl rfl rfl rfl (iadd (by omega))) ?_
            refine RJ.op rfl rfl (eff_move (v := .t _) rfl rfl rfl) ?_
            refine RJ.nil ?_
            refine ⟨_, ?_, _, weak_keep (n := 63) (fr' := [(0, .t (.sl (l.map encC) false)), (1, .fn 39 [.ptr 1001 0 0 0, .ptr 1004 0 0 0]), (4, .ptr 4 0 0 0), (6, .ptr 6 0 0 0), (17, .t (.sl (l.map encC) false)), (18, .t (encI (l.length : Nat))), (19, .t (encI ((i + 1) : Nat))), (64, .t deT)]) (st' := [(4, some ⟨2, 64, 0, [.t z64]⟩), (6, some ⟨2, 64, 0, [.t (encT _)]⟩), (1001, some ⟨1, 32, 0, [.t (.sl (l.map encC) false)]⟩), (1004, some ⟨1, 26, 0, [.own 1100 (i + 1) 0 (heldTo l (i + 1)).length]⟩), (1100, some ⟨1, 3, (i + 1), ((heldTo l (i + 1)).map encN).map .t⟩)]) ⟨rfl, rfl, rfl, rfl, rfl, rfl, rfl, rfl, rfl, rfl, rfl, rfl, rfl, rfl, rfl, rfl, trivial⟩ ⟨rfl, okE_one rfl, rfl, okE_one rfl, rfl, okE_one rfl, rfl, okE_one rfl, rfl, okE_t, trivial⟩, i + 1, _, (by omega), (by first | rw [run_send hil hT hok hfo (by omega) (by omega)] | rw [run_hear hil hT hok hfo (by omega) (by omega)] | rw [run_dec hil hT hok hfo (by omega) (by omega)]), (by first | rw [run_send hil hT hok hfo (by omega) (by omega)] | rw [run_hear hil hT hok hfo (by omega) (by omega)] | rw [run_dec hil hT hok hfo (by omega) (by omega)]), rfl, rfl⟩
            omega
        · try simp only [cl] at h4
          refine awj_seq ?_
          refine awj_rj rfl ?_
          refine RJ.op rfl rfl (eff_iop rfl rfl rfl rfl rfl) ?_
          refine RJ.op rfl rfl (eff_assign (v := .t _) rfl rfl rfl) ?_
          refine RJ.nil ?_
          refine awj_cond rfl (fun h6 => ?_) (fun h6 => ?_)
          · try simp only [cl] at h6
            refine awj_rj rfl ?_
            refine RJ.op rfl rfl (eff_load rfl rfl ti64 rfl (.whole rfl rfl rfl rfl rfl rfl)) ?_
            refine RJ.op rfl rfl (eff_fieldAddr rfl rfl tf47_3 (by decide) rfl rfl rfl (Nat.le_of_ble_eq_true rfl)) ?_
            refine RJ.op rfl rfl (eff_loadS (ys := [_, _, _, _]) rfl rfl ti23 rfl rfl rfl rfl rfl rfl) ?_
            refine RJ.op rfl rfl (eff_callXT (thear_ret T _ (hO.hp _ (List.getElem_mem hil)) (by have := hFit.len; omega) (by have := hFit.sl; omega) hFit.bod) co64 rfl rfl rfl ⟨rfl, trivial⟩ rfl) ?_
            refine RJ.op rfl rfl (eff_move (v := .t _) rfl rfl rfl) ?_
            refine RJ.op rfl rfl (eff_extract rfl rfl rfl rfl) ?_
            refine RJ.op rfl rfl (eff_extract rfl rfl rfl rfl) ?_
            refine RJ.store rfl rfl (eff_storeW (v := .t _) (els := [_]) (els' := [_]) rfl rfl ti64 rfl rfl rfl rfl rfl rfl rfl rfl rfl) ?_
            refine RJ.op rfl rfl (eff_assign (v := .t _) rfl rfl rfl) ?_
            refine RJ.nil ?_
            refine awj_seq ?_
            refine awj_seq ?_
            refine awj_rj rfl ?_
            refine RJ.op rfl rfl (eff_move (v := .t _) rfl rfl rfl) ?_
            refine RJ.op rfl rfl (eff_iop rfl rfl rfl rfl rfl) ?_
            refine RJ.nil ?_
            refine awj_cond rfl (fun h7 => ?_) (fun h7 => ?_)
            · try simp only [cl] at h7
              refine awj_seq ?_
              refine awj_rj rfl ?_
              refine RJ.op rfl rfl (eff_buildT (ys := [_, _]) rfl rfl tz64 tg64 rfl) ?_
              refine RJ.op rfl rfl (eff_move (v := .t _) rfl rfl rfl) ?_
              refine RJ.store rfl rfl (eff_storeW (v := .t _) (els := [_]) (els' := [_]) rfl rfl ti64 rfl rfl rfl rfl rfl rfl rfl rfl rfl) ?_
              refine RJ.op rfl rfl (eff_assign (v := .t _) rfl rfl rfl) ?_
              refine RJ.nil ?_
              refine awj_ret ?_
              have hrb := bad_hear hil hT hok hfo (by omega) (by omega)
              rw [all_bad h1 hil hrb (by omega), nvis_bad h1 hil hok hfo hrb (by omega)]
              exact ⟨Or.inr rfl, [_, _], [.t (encT zt), .t _], ⟨.cell rfl ti64 (.whole rfl rfl rfl rfl rfl rfl), .tmp rfl, trivial⟩, rfl, Weak.trans (weak_slot 0 (y := encT zt) rfl (by repeat' first | exact trivial | exact Wk.refl _ | exact Wk.sl _ | refine And.intro ?_ ?_ | refine Wk.tupP ?_ | refine Wk.aggP ?_)) (weak_genX ⟨.a (.t _), .a (.t _), .fn _ _ ⟨.ptr 1001 0 0 0 0 rfl rfl rfl rfl rfl rfl, .ptr 1004 0 0 0 0 rfl rfl rfl rfl rfl rfl, trivial⟩, trivial⟩ ⟨⟨_, rfl, rfl, rfl, rfl, gen_t1⟩, ⟨_, rfl, rfl, rfl, rfl, gen_own1 (.own 1100 _ _ 0 _ rfl rfl rfl rfl rfl rfl rfl)⟩, ⟨_, rfl, rfl, rfl, rfl, gen_trees⟩, trivial⟩), rfl⟩
            · try simp only [cl] at h7
              refine awj_skip ?_
              refine awj_rj rfl ?_
              refine RJ.op rfl rfl (eff_load rfl rfl ti64 rfl (.whole rfl rfl rfl rfl rfl rfl)) ?_
              refine RJ.store rfl rfl (eff_storeW (v := .t _) (els := [_]) (els' := [_]) rfl rfl ti64 rfl rfl rfl rfl rfl rfl rfl rfl rfl) ?_
              refine RJ.nil ?_
              refine awj_rj rfl ?_
              refine RJ.op rfl rfl (eff_iop rfl rfl rfl rfl (iadd (by omega))) ?_
              refine RJ.op rfl rfl (eff_move (v := .t _) rfl rfl rfl) ?_
              refine RJ.nil ?_
              refine ⟨_, ?_, _, weak_keep (n := 63) (fr' := [(0, .t (.sl (l.map encC) false)), (1, .fn 39 [.ptr 1001 0 0 0, .ptr 1004 0 0 0]), (4, .ptr 4 0 0 0), (6, .ptr 6 0 0 0), (17, .t (.sl (l.map encC) false)), (18, .t (encI (l.length : Nat))), (19, .t (encI ((i + 1) : Nat))), (64, .t deT)]) (st' := [(4, some ⟨2, 64, 0, [.t z64]⟩), (6, some ⟨2, 64, 0, [.t (encT _)]⟩), (1001, some ⟨1, 32, 0, [.t (.sl (l.map encC) false)]⟩), (1004, some ⟨1, 26, 0, [.own 1100 (i + 1) 0 (heldTo l (i + 1)).length]⟩), (1100, some ⟨1, 3, (i + 1), ((heldTo l (i + 1)).map encN).map .t⟩)]) ⟨rfl, rfl, rfl, rfl, rfl, rfl, rfl, rfl, rfl, rfl, rfl, rfl, rfl, rfl, rfl, rfl, trivial⟩ ⟨rfl, okE_one rfl, rfl, okE_one rfl, rfl, okE_one rfl, rfl, okE_one rfl, rfl, okE_t, trivial⟩, i + 1, _, (by omega), (by first | rw [run_send hil hT hok hfo (by omega) (by omega)] | rw [run_hear hil hT hok hfo (by omega) (by omega)] | rw [run_dec hil hT hok hfo (by omega) (by omega)]), (by first | rw [run_send hil hT hok hfo (by omega) (by omega)] | rw [run_hear hil hT hok hfo (by omega) (by omega)] | rw [run_dec hil hT hok hfo (by omega) (by omega)]), rfl, rfl⟩
              omega
          · try simp only [cl] at h6
            refine awj_skip ?_
            refine awj_seq ?_
            refine awj_seq ?_
            refine awj_rj rfl ?_
            refine RJ.op rfl rfl (eff_move (v := .t _) rfl rfl rfl) ?_
            refine RJ.op rfl rfl (eff_iop rfl rfl rfl rfl rfl) ?_
            refine RJ.nil ?_
            refine awj_cond rfl (fun h8 => ?_) (fun h8 => ?_)
            · try simp only [cl] at h8
              refine awj_seq ?_
              refine awj_rj rfl ?_
              refine RJ.op rfl rfl (eff_buildT (ys := [_, _]) rfl rfl tz64 tg64 rfl) ?_
              refine RJ.op rfl rfl (eff_move (v := .t _) rfl rfl rfl) ?_
              refine RJ.store rfl rfl (eff_storeW (v := .t _) (els := [_]) (els' := [_]) rfl rfl ti64 rfl rfl rfl rfl rfl rfl rfl rfl rfl) ?_
              refine RJ.op rfl rfl (eff_assign (v := .t _) rfl rfl rfl) ?_
              refine RJ.nil ?_
              refine awj_ret ?_
              exact absurd trivial ‹¬ True›
            · try simp only [cl] at h8
              refine awj_skip ?_
              refine awj_rj rfl ?_
              refine RJ.op rfl rfl (eff_load rfl rfl ti64 rfl (.whole rfl rfl rfl rfl rfl rfl)) ?_
              refine RJ.store rfl rfl (eff_storeW (v := .t _) (els := [_]) (els' := [_]) rfl rfl ti64 rfl rfl rfl rfl rfl rfl rfl rfl rfl) ?_
              refine RJ.nil ?_
              refine awj_rj rfl ?_
              refine RJ.op rfl rfl (eff_iop rfl rfl rfl rfl (iadd (by omega))) ?_
              refine RJ.op rfl rfl (eff_move (v := .t _) rfl rfl rfl) ?_
              refine RJ.nil ?_
              refine ⟨_, ?_, _, weak_keep (n := 63) (fr' := [(0, .t (.sl (l.map encC) false)), (1, .fn 39 [.ptr 1001 0 0 0, .ptr 1004 0 0 0]), (4, .ptr 4 0 0 0), (6, .ptr 6 0 0 0), (17, .t (.sl (l.map encC) false)), (18, .t (encI (l.length : Nat))), (19, .t (encI ((i + 1) : Nat))), (64, .t deT)]) (st' := [(4, some ⟨2, 64, 0, [.t z64]⟩), (6, some ⟨2, 64, 0, [.t (encT _)]⟩), (1001, some ⟨1, 32, 0, [.t (.sl (l.map encC) false)]⟩), (1004, some ⟨1, 26, 0, [.own 1100 (i + 1) 0 (heldTo l (i + 1)).length]⟩), (1100, some ⟨1, 3, (i + 1), ((heldTo l (i + 1)).map encN).map .t⟩)]) ⟨rfl, rfl, rfl, rfl, rfl, rfl, rfl, rfl, rfl, rfl, rfl, rfl, rfl, rfl, rfl, rfl, trivial⟩ ⟨rfl, okE_one rfl, rfl, okE_one rfl, rfl, okE_one rfl, rfl, okE_one rfl, rfl, okE_t, trivial⟩, i + 1, _, (by omega), (by first | rw [run_send hil hT hok hfo (by omega) (by omega)] | rw [run_hear hil hT hok hfo (by omega) (by omega)] | rw [run_dec hil hT hok hfo (by omega) (by omega)]), (by first | rw [run_send hil hT hok hfo (by omega) (by omega)] | rw [run_hear hil hT hok hfo (by omega) (by omega)] | rw [run_dec hil hT hok hfo (by omega) (by omega)]), rfl, rfl⟩
              omega
    · try simp only [cl] at h2
      refine awj_exit ?_
      refine awj_seq ?_
      refine awj_rj rfl ?_
      refine RJ.op rfl rfl (eff_load rfl rfl ti64 rfl (.whole rfl rfl rfl rfl rfl rfl)) ?_
      refine RJ.store rfl rfl (eff_storeW (v := .t _) (els := [_]) (els' := [_]) rfl rfl ti64 rfl rfl rfl rfl rfl rfl rfl rfl rfl) ?_
      refine RJ.op rfl rfl (eff_assign (v := .t _) rfl rfl rfl) ?_
      refine RJ.nil ?_
      refine awj_ret ?_
      have hi2 : i = l.length := by omega
      subst hi2
      rw [all_ok h1 hok, nvis_ok h1 hok, ← hT]
      exact ⟨Or.inr rfl, [_, _], [.t (encT T), .t _], ⟨.cell rfl ti64 (.whole rfl rfl rfl rfl rfl rfl), .tmp rfl, trivial⟩, rfl, Weak.trans (weak_slot 0 (y := encT T) rfl (by repeat' first | exact trivial | exact Wk.refl _ | exact Wk.sl _ | refine And.intro ?_ ?_ | refine Wk.tupP ?_ | refine Wk.aggP ?_)) (weak_genX ⟨.a (.t _), .a (.t _), .fn _ _ ⟨.ptr 1001 0 0 0 0 rfl rfl rfl rfl rfl rfl, .ptr 1004 0 0 0 0 rfl rfl rfl rfl rfl rfl, trivial⟩, trivial⟩ ⟨⟨_, rfl, rfl, rfl, rfl, gen_t1⟩, ⟨_, rfl, rfl, rfl, rfl, gen_own1 (.own 1100 _ _ 0 _ rfl rfl rfl rfl rfl rfl rfl)⟩, ⟨_, rfl, rfl, rfl, rfl, gen_trees⟩, trivial⟩), rfl⟩

end Go.Tv.C36

end
section
open Go Go.Tv Go.Proofs
namespace Go.Tv.C36
set_option maxRecDepth 20000
set_option maxHeartbeats 2000000
set_option linter.unusedSimpArgs false
set_option linter.unusedVariables false
theorem held_ret (l : List Rcd) (hO : OKL l) : RetT Tryd.prog 19 [(1, deT)] [.sl (l.map encC) false] (.tup [.sl ((held l).1.map encN) false, encI (held l).2]) := by
  refine retT_of_awp Tryd.func19 rfl (Nat.le_of_ble_eq_true rfl) ?_
  refine awp_seq ?_
  refine awp_rw rfl ?_
  refine RW.new rfl rfl (eff_boxK (v := .t _) (k := 1) (id := 1) rfl rfl rfl rfl rfl rfl) ?_
  refine asT ?_
  refine asT ?_
  refine RW.nil ?_
  refine awp_seq ?_
  refine awp_rw rfl ?_
  refine RW.new rfl rfl (eff_allocK (k := 1) (id := 4) rfl rfl tz26 rfl rfl) ?_
  refine RW.nil ?_
  show AWP _ _ _ _
  refine awp_weak (weak_adopt1 (id0 := 4) 1100 1 3 rfl rfl) ?_
  refine awp_seq ?_
  refine awp_rw rfl ?_
  refine l1T ti32 rfl rfl rfl rfl rfl (.one rfl rfl rfl rfl) ?_
  refine RW.op rfl rfl (eff_makeFunc rfl rfl rfl rfl) ?_
  refine RW.new3 rfl rfl (eff_callKT (r' := .tup [.t _, .t _]) (replay39_ret l hO) co38 (fun id => bif Nat.beq id 1100 then 1100 else id - 1000) rfl rfl rfl ⟨rfl, trivial⟩ ⟨.t _, .fnL ⟨.ptr _ _ _ _ rfl rfl, .ptr _ _ _ _ rfl rfl, trivial⟩, trivial⟩ (.tupL ⟨.t _, .t _, trivial⟩) rfl ⟨⟨rfl, self_one, ⟨_, rfl, .inr ⟨rfl, rfl, rfl, rfl, 1, _, rfl, List.mem_singleton.2 rfl, .inr ⟨_, _, 0, rfl, rfl⟩⟩⟩⟩, ⟨rfl, self_own rfl rfl, ⟨_, rfl, .inr ⟨rfl, rfl, rfl, rfl, 1, _, rfl, List.mem_singleton.2 rfl, .inr ⟨_, _, 1, rfl, rfl⟩⟩⟩⟩, ⟨rfl, self_tree, ⟨_, rfl, .inl (Nat.succ_pos _)⟩⟩, trivial⟩ ⟨⟨self_one, .inl rfl⟩, ⟨self_own rfl rfl, .inl rfl⟩, ⟨self_tree, .inl rfl⟩, trivial⟩) ?_
  refine RW.op rfl rfl (eff_move (v := .tup _) rfl rfl rfl) ?_
  refine RW.op rfl rfl (eff_extractA rfl rfl rfl rfl) ?_
  refine RW.op rfl rfl (eff_extractA rfl rfl rfl rfl) ?_
  refine RW.new rfl rfl (eff_allocK (k := 2) (id := 5) rfl rfl tz64 rfl rfl) ?_
  refine RW.store rfl rfl (eff_storeW (v := .t _) (els := [_]) (els' := [_]) rfl rfl ti64 rfl rfl rfl rfl rfl rfl rfl rfl rfl) ?_
  refine asT ?_
  refine RW.nil ?_
  refine awp_seq ?_
  refine awp_seq ?_
  refine awp_rw rfl ?_
  refine mvT ?_
  refine ioT ?_
  refine RW.nil ?_
  refine awp_cond rfl (fun h1 => ?_) (fun h1 => ?_)
  · try simp only [cl] at h1
    refine awp_seq ?_
    refine awp_rw rfl ?_
    refine mvT ?_
    refine asT ?_
    refine asT ?_
    refine RW.nil ?_
    refine awp_ret ?_
    rw [held_bad (all_zt h1) h1]
    exact ⟨Or.inr rfl, [_, _], ⟨.tmp (.t _), .tmp (.t _), trivial⟩, (by repeat' first | exact trivial | exact Wk.refl _ | exact Wk.sl _ | refine And.intro ?_ ?_ | refine Wk.tupP ?_ | refine Wk.aggP ?_)⟩
  · try simp only [cl] at h1
    refine awp_skip ?_
    refine awp_seq ?_
    refine awp_rw rfl ?_
    refine RW.op rfl rfl (eff_load (y := .own _ _ _ _) rfl rfl ti26 rfl (.one rfl rfl rfl rfl)) ?_
    refine asO ?_
    refine asT ?_
    refine RW.nil ?_
    refine awp_ret ?_
    rw [held_ok (by omega), ← nvis_all (by omega)]
    exact ⟨Or.inr rfl, [_, _], ⟨.tmp (Res.ownT (xs := (heldTo l (nvis l)).map encN) rfl rfl rfl (by simp)), .tmp (.t _), trivial⟩, .refl _⟩

end Go.Tv.C36

end
section
open Go Go.Tv Go.Proofs
namespace Go.Tv.C36
set_option maxRecDepth 20000
set_option maxHeartbeats 2000000
set_option linter.unusedSimpArgs false
set_option linter.unusedVariables false
end Go.Tv.C36

end
section
open Go Go.Tv Go.Proofs
namespace Go.Tv.C36
set_option maxRecDepth 20000
set_option maxHeartbeats 2000000
set_option linter.unusedSimpArgs false
set_option linter.unusedVariables false
theorem sameN_ret (a : List Nat) (hl : a.length ≤ 1000000) : Ret Tryd.prog 21 [.sl (a.map encN) false, .sl (a.map encN) false] (.bool true) := by
  refine ret_of_awp Tryd.func21 rfl (Nat.le_of_ble_eq_true rfl) ?_
  refine awp_seq ?_
  refine awp_rw rfl ?_
  refine asT ?_
  refine RW.nil ?_
  refine awp_seq ?_
  refine awp_seq ?_
  refine awp_rw rfl ?_
  refine mvT ?_
  refine RW.op rfl rfl (eff_lenM rfl rfl te26 rfl) ?_
  refine mvT ?_
  refine RW.op rfl rfl (eff_lenM rfl rfl te26 rfl) ?_
  refine RW.op rfl rfl (eff_iop (r := .bool false) rfl rfl rfl rfl (by simp [iop])) ?_
  refine RW.nil ?_
  refine awp_cond rfl (fun h => nomatch h) (fun _ => ?_)
  refine awp_skip ?_
  refine awp_seq ?_
  refine awp_seq ?_
  refine awp_rw rfl ?_
  refine asT ?_
  refine RW.nil ?_
  refine awp_block ?_
  refine awp_loopW (fun m s => ∃ (i : Nat), (i ≤ a.length) ∧ m = a.length - i ∧ s = ⟨26, [(0, .t (.sl (a.map encN) false)), (1, .t (.sl (a.map encN) false)), (5, .t (encI (i : Nat)))], []⟩) (_) (⟨_, weak_keep (n := 26) (fr' := [(0, .t (.sl (a.map encN) false)), (1, .t (.sl (a.map encN) false)), (5, .t (encI (0 : Nat)))]) (st' := []) ⟨rfl, rfl, rfl, rfl, rfl, rfl, trivial⟩ trivial, 0, (by omega), rfl, rfl⟩) ?_
  rintro m s ⟨i, hi, rfl, rfl⟩
  refine awp_seq ?_
  refine awp_seq ?_
  refine awp_rw rfl ?_
  refine mvT ?_
  refine mvT ?_
  refine RW.op rfl rfl (eff_lenM rfl rfl te26 rfl) ?_
  refine ioT ?_
  refine RW.nil ?_
  refine awp_cond rfl (fun h1 => ?_) (fun h1 => ?_)
  · try simp only [cl] at h1
    refine awp_skip ?_
    refine awp_seq ?_
    refine awp_block ?_
    refine awp_seq ?_
    refine awp_rd [(some 17, []), (some 18, []), (some 19, []), (some 20, []), (some 21, []), (some 22, []), (some 23, []), (some 24, []), (some 25, [])] [[], [], [0, 1], [0, 1, 2], [], [], [4, 5], [4, 5, 6], [0, 1, 2, 3, 4, 5, 6, 7]] tm rfl rfl rfl rfl ?_
    refine mvD ?_
    refine mvD ?_
    refine RD.op rfl rfl rfl (eff_indexM rfl rfl te26 rfl rfl rfl (by first | assumption | exact List.getElem?_eq_getElem (by omega)) rfl (by decide)) ?_
    refine RD.op rfl rfl rfl (eff_loadW1 rfl rfl ti3 rfl rfl) ?_
    refine mvD ?_
    refine mvD ?_
    refine RD.op rfl rfl rfl (eff_indexM rfl rfl te26 rfl rfl rfl (by first | assumption | exact List.getElem?_eq_getElem (by omega)) rfl (by decide)) ?_
    refine RD.op rfl rfl rfl (eff_loadW1 rfl rfl ti3 rfl rfl) ?_
    refine RD.op rfl rfl rfl (eff_iop (r := .bool false) rfl rfl rfl rfl (by simp [iop])) ?_
    refine RD.nil ?_
    refine awp_cond rfl (fun h => nomatch h) (fun _ => ?_)
    refine awp_skip ?_
    refine awp_rw rfl ?_
    refine mvT ?_
    refine RW.op rfl rfl (eff_iop rfl rfl rfl rfl (iadd (by omega))) ?_
    refine asT ?_
    refine RW.nil ?_
    refine ⟨_, ?_, _, weak_keep (n := 26) (fr' := [(0, .t (.sl (a.map encN) false)), (1, .t (.sl (a.map encN) false)), (5, .t (encI ((i + 1) : Nat)))]) (st' := []) ⟨rfl, rfl, rfl, rfl, rfl, rfl, trivial⟩ trivial, i + 1, (by omega), rfl, rfl⟩
    omega
  · try simp only [cl] at h1
    refine awp_exit ?_
    refine awp_seq ?_
    refine awp_rw rfl ?_
    refine asT ?_
    refine RW.nil ?_
    refine awp_ret ?_
    exact ⟨Or.inr rfl, [_], ⟨.tmp (.t _), trivial⟩, .refl _⟩

end Go.Tv.C36

end
section
open Go Go.Tv Go.Proofs
namespace Go.Tv.C36

/-- Frames in the order of their keys. -/
def Inc (l : List Frm) : Prop := l.Pairwise fun a b => a.key < b.key
def KB (l : List Frm) : Prop := ∀ f, f ∈ l → 0 ≤ f.key ∧ f.key ≤ 1000000000

theorem stepF_self {f : Frm} {out : List Rep} {x : Rep} (h : x ∈ out) : x ∈ stepF out f := stepF_mem.2 (.inl h)
theorem reachF_self : ∀ (l : List Frm) (out : List Rep) (x : Rep), x ∈ out → x ∈ l.foldl stepF out
  | [], _, _, h => h
  | f :: l, out, x, h => reachF_self l (stepF out f) x (stepF_self h)
theorem reach_self (x : Rep) (l : List Frm) : x ∈ reachF x l := reachF_self l [x] x (List.mem_singleton.2 rfl)

/-- The state s, and what frames that may still arrive lead it to, is possible. -/
def Inv (T : Twn) (s : Rep) : Prop := ∀ x, x ∈ reachF s T.sent → x ∈ T.poss
theorem Inv.mem {T : Twn} {s : Rep} (h : Inv T s) : s ∈ T.poss := h s (reach_self s _)
/-! ### Ledgers with a true receiver -/
def sentF (l : List Rcd) : List Frm := (l.filter fun r => decide (r.kind = 1)).map (·.frame)
structure Led (l : List Rcd) (sts : List Rep) : Prop where
  len : sts.length = l.length
  short : l.length ≤ 16
  form : ∀ i, i < l.length → form l i = 0
  inc : Inc (sentF l)
  kb : KB (sentF l)
  s0 : 0 < l.length → sts.getD 0 zr = zr
  nxt : ∀ i, i + 1 < l.length → sts.getD (i + 1) zr ∈ reachF (sts.getD i zr) (sentF (l.take (i + 1)))
  heard : ∀ i, i < l.length → (l.getD i zc).kind = 2 → sts.getD i zr ∈ reachF (l.getD i zc).rep (sentF (l.take i))
  okl : OKL l
  opr : ∀ r, r ∈ l → r.dec.op ≤ 2
  shp : ∀ s, s ∈ sts → HP s
  snx : ∀ s, s ∈ sts → NX 1000000 s

end Go.Tv.C36

end
section
open Go Go.Tv Go.Proofs
namespace Go.Tv.C36

structure Gst where
  recs : List Rcd
  sts : List Rep
  s : Rep
  reps : List Rep
  sn : Nat
  tick : Int

/-- Frames that a generator sends. -/
structure FOK (F : List Frm) : Prop where
  inc : Inc F
  kb : KB F
  len : F.length ≤ 7
  bod : ∀ f, f ∈ F → f.body.length ≤ 1000000
  seq : ∀ f, f ∈ F → 0 ≤ f.seq ∧ f.seq ≤ 1000000

structure GI (F : List Frm) (k : Nat) (G : Gst) : Prop where
  sn : G.sn ≤ F.length
  sent : sentF G.recs = F.take G.sn
  len : G.sts.length = G.recs.length
  short : G.recs.length ≤ 16
  form : ∀ i, i < G.recs.length → form G.recs i = 0
  tick : 0 ≤ G.tick ∧ G.tick ≤ 2 * (k : Int)
  last : prevT G.recs G.recs.length ≤ G.tick
  s0 : 0 < G.recs.length → G.sts.getD 0 zr = zr
  e0 : G.recs.length = 0 → G.s = zr
  nxt : ∀ i, i + 1 < G.recs.length → G.sts.getD (i + 1) zr ∈ reachF (G.sts.getD i zr) (sentF (G.recs.take (i + 1)))
  cur : 0 < G.recs.length → G.s ∈ reachF (G.sts.getD (G.recs.length - 1) zr) (sentF G.recs)
  rne : 0 < G.reps.length
  rlen : G.reps.length ≤ k + 1
  reps : ∀ p, p ∈ G.reps → G.s ∈ reachF p (sentF G.recs)
  rhp : ∀ p, p ∈ G.reps → HP p
  heard : ∀ i, i < G.recs.length → (G.recs.getD i zc).kind = 2 → G.sts.getD i zr ∈ reachF (G.recs.getD i zc).rep (sentF (G.recs.take i))
  hp : ∀ r, r ∈ G.recs → HP r.rep
  bod : ∀ r, r ∈ G.recs → r.frame.body.length ≤ 1000000
  seq : ∀ r, r ∈ G.recs → 0 ≤ r.frame.seq ∧ r.frame.seq ≤ 1000000
  opr : ∀ r, r ∈ G.recs → r.dec.op ≤ 2
  shp : ∀ s, s ∈ G.sts → HP s
  chp : HP G.s
  cnx : NX (128 * (k : Int)) G.s
  snx : ∀ s, s ∈ G.sts → NX (128 * (k : Int)) s

theorem hpzr : HP zr := hp0 zr (List.mem_singleton.2 rfl)
theorem GI.up {F : List Frm} {k : Nat} {G : Gst} (h : GI F k G) : GI F (k + 1) G :=
  { h with tick := by have := h.tick; omega, cnx := h.cnx.mono (by omega), snx := fun q hq => (h.snx q hq).mono (by omega), rlen := by have := h.rlen; omega }
/-! ### The generator's steps -/
section
variable {F : List Frm} {what : List Int} {i : Nat}
end
/-! ### A ledger with one field replaced -/
/-! ### The examples -/
abbrev dAg : Dec := ⟨3, 0, 1, 0⟩
abbrev dTo : Dec := ⟨3, 0, 3, 0⟩
abbrev rSe : Rcd := ⟨0, 1, zf, zr, zd⟩
abbrev rHe : Rcd := ⟨3, 2, zf, ⟨1, 0, 1, false⟩, zd⟩
abbrev rX : Rcd := ⟨3, 3, zf, zr, dAg⟩
abbrev rY : Rcd := ⟨3, 3, zf, zr, dTo⟩
abbrev late4 : List Rcd := [rSe, rX, rY, rHe]
abbrev early4 : List Rcd := [rSe, rHe, rX, rY]
theorem livA : judge late4 dAg = (zv, 0) := by decide +kernel
theorem livB : judge late4 dTo = (⟨false, ⟨1, 0, 1, false⟩⟩, 0) := by decide +kernel
theorem livC : judge early4 dAg = (⟨true, zr⟩, 0) := by decide +kernel
theorem livD : held early4 = ([2], 0) := by decide +kernel
theorem hp1 : HP ⟨1, 0, 1, false⟩ := ⟨by decide, by decide⟩
theorem okL4 {l : List Rcd} (h : ∀ r, r ∈ l → r = rSe ∨ r = rX ∨ r = rY ∨ r = rHe) (hl : l.length ≤ 12) : OKL l where
  len := by omega
  few := Nat.le_trans (List.length_filter_le _ _) hl
  hp := by intro r hr; rcases h r hr with rfl | rfl | rfl | rfl <;> first | exact hpzr | exact hp1
  bod := by intro r hr; rcases h r hr with rfl | rfl | rfl | rfl <;> exact Nat.zero_le _
  seq := by intro r hr; rcases h r hr with rfl | rfl | rfl | rfl <;> exact ⟨Int.le_refl _, by decide⟩
theorem okLate : OKL late4 := okL4 (by simp) (by decide)
theorem okEarly : OKL early4 := okL4 (by simp) (by decide)
end Go.Tv.C36

end
section
open Go Go.Tv Go.Proofs
namespace Go.Tv.C36
set_option maxRecDepth 20000
set_option maxHeartbeats 2000000
set_option linter.unusedSimpArgs false
set_option linter.unusedVariables false
end Go.Tv.C36

end
section
open Go Go.Tv Go.Proofs
namespace Go.Tv.C36
set_option maxRecDepth 20000
set_option maxHeartbeats 2000000
set_option linter.unusedSimpArgs false
set_option linter.unusedVariables false
theorem lives1 : RetT Tryd.prog 22 [(1, deT)] [.sl (late4.map encC) false, encD dAg] (.tup [encV zv, encI 0]) := by have h := judge_ret late4 dAg okLate; rw [livA] at h; exact h
theorem lives2 : RetT Tryd.prog 22 [(1, deT)] [.sl (late4.map encC) false, encD dTo] (.tup [encV ⟨false, ⟨1, 0, 1, false⟩⟩, encI 0]) := by have h := judge_ret late4 dTo okLate; rw [livB] at h; exact h
theorem lives3 : RetT Tryd.prog 22 [(1, deT)] [.sl (early4.map encC) false, encD dAg] (.tup [encV ⟨true, zr⟩, encI 0]) := by have h := judge_ret early4 dAg okEarly; rw [livC] at h; exact h
theorem lives4 : RetT Tryd.prog 19 [(1, deT)] [.sl (early4.map encC) false] (.tup [.sl ([2].map encN) false, encI 0]) := by have h := held_ret early4 okEarly; rw [livD] at h; exact h
theorem lives5 : Ret Tryd.prog 21 [.sl ([2].map encN) false, .sl ([2].map encN) false] (.bool true) := sameN_ret [2] (by decide)

theorem lives_ret  : RetT Tryd.prog 16 [(1, deT)] [] (.bool true) := by
  refine retT_of_awp Tryd.func16 rfl (Nat.le_of_ble_eq_true rfl) ?_
  refine awp_seq ?_
  refine awp_rw rfl ?_
  refine asT ?_
  refine RW.nil ?_
  refine awp_seq ?_
  refine awp_rw rfl ?_
  refine RW.op rfl rfl (eff_buildT (ys := [_, _, _, _, _, _, _, _, _, _, _, _, _, _, _]) rfl rfl tz47 tg47 rfl) ?_
  refine RW.new rfl rfl (eff_allocK (k := 15) (id := 1) rfl rfl tz47 rfl rfl) ?_
  refine RW.store rfl rfl (eff_storeW (v := .t _) (els := [_]) (els' := [_]) rfl rfl ti47 rfl rfl rfl rfl rfl rfl rfl rfl rfl) ?_
  refine RW.nil ?_
  refine awp_seq ?_
  refine awp_rw rfl ?_
  refine RW.op rfl rfl (eff_buildT (ys := [_, _, _, _]) rfl rfl tz23 tg23 rfl) ?_
  refine RW.op rfl rfl (eff_buildT (ys := [_, _, _, _, _, _, _, _, _, _, _, _, _, _, _]) rfl rfl tz47 tg47 rfl) ?_
  refine RW.new rfl rfl (eff_allocK (k := 15) (id := 2) rfl rfl tz47 rfl rfl) ?_
  refine RW.store rfl rfl (eff_storeW (v := .t _) (els := [_]) (els' := [_]) rfl rfl ti47 rfl rfl rfl rfl rfl rfl rfl rfl rfl) ?_
  refine RW.nil ?_
  refine awp_seq ?_
  refine awp_rw rfl ?_
  refine RW.op rfl rfl (eff_buildT (ys := [_, _, _, _]) rfl rfl tz28 tg28 rfl) ?_
  refine RW.new rfl rfl (eff_allocK (k := 4) (id := 3) rfl rfl tz28 rfl rfl) ?_
  refine RW.store rfl rfl (eff_storeW (v := .t _) (els := [_]) (els' := [_]) rfl rfl ti28 rfl rfl rfl rfl rfl rfl rfl rfl rfl) ?_
  refine RW.nil ?_
  refine awp_seq ?_
  refine awp_rw rfl ?_
  refine RW.op rfl rfl (eff_buildT (ys := [_, _, _, _]) rfl rfl tz28 tg28 rfl) ?_
  refine RW.new rfl rfl (eff_allocK (k := 4) (id := 4) rfl rfl tz28 rfl rfl) ?_
  refine RW.store rfl rfl (eff_storeW (v := .t _) (els := [_]) (els' := [_]) rfl rfl ti28 rfl rfl rfl rfl rfl rfl rfl rfl rfl) ?_
  refine RW.nil ?_
  refine awp_seq ?_
  refine awp_rw rfl ?_
  refine RW.op rfl rfl (eff_load rfl rfl ti28 rfl (.whole rfl rfl rfl rfl rfl rfl)) ?_
  refine RW.op rfl rfl (eff_buildT (ys := [_, _, _, _, _, _, _, _, _, _, _, _, _, _, _]) rfl rfl tz47 tg47 rfl) ?_
  refine RW.new rfl rfl (eff_allocK (k := 15) (id := 5) rfl rfl tz47 rfl rfl) ?_
  refine RW.store rfl rfl (eff_storeW (v := .t _) (els := [_]) (els' := [_]) rfl rfl ti47 rfl rfl rfl rfl rfl rfl rfl rfl rfl) ?_
  refine RW.nil ?_
  refine awp_seq ?_
  refine awp_rw rfl ?_
  refine RW.op rfl rfl (eff_load rfl rfl ti28 rfl (.whole rfl rfl rfl rfl rfl rfl)) ?_
  refine RW.op rfl rfl (eff_buildT (ys := [_, _, _, _, _, _, _, _, _, _, _, _, _, _, _]) rfl rfl tz47 tg47 rfl) ?_
  refine RW.new rfl rfl (eff_allocK (k := 15) (id := 6) rfl rfl tz47 rfl rfl) ?_
  refine RW.store rfl rfl (eff_storeW (v := .t _) (els := [_]) (els' := [_]) rfl rfl ti47 rfl rfl rfl rfl rfl rfl rfl rfl rfl) ?_
  refine RW.nil ?_
  refine awp_seq ?_
  refine awp_rw rfl ?_
  refine RW.op rfl rfl (eff_load rfl rfl ti47 rfl (.whole rfl rfl rfl rfl rfl rfl)) ?_
  refine RW.op rfl rfl (eff_load rfl rfl ti47 rfl (.whole rfl rfl rfl rfl rfl rfl)) ?_
  refine RW.op rfl rfl (eff_load rfl rfl ti47 rfl (.whole rfl rfl rfl rfl rfl rfl)) ?_
  refine RW.op rfl rfl (eff_load rfl rfl ti47 rfl (.whole rfl rfl rfl rfl rfl rfl)) ?_
  refine RW.weak (weak_slot 26 (y := encC rSe) rfl (by first | ((repeat' (first | exact trivial | exact Wk.refl _ | exact Wk.sl _ | refine And.intro ?_ ?_ | refine Wk.tupP ?_ | refine Wk.aggP ?_)); done) | fail)) rfl ?_
  refine RW.weak (weak_slot 27 (y := encC rX) rfl (by first | ((repeat' (first | exact trivial | exact Wk.refl _ | exact Wk.sl _ | refine And.intro ?_ ?_ | refine Wk.tupP ?_ | refine Wk.aggP ?_)); done) | fail)) rfl ?_
  refine RW.weak (weak_slot 28 (y := encC rY) rfl (by first | ((repeat' (first | exact trivial | exact Wk.refl _ | exact Wk.sl _ | refine And.intro ?_ ?_ | refine Wk.tupP ?_ | refine Wk.aggP ?_)); done) | fail)) rfl ?_
  refine RW.weak (weak_slot 29 (y := encC rHe) rfl (by first | ((repeat' (first | exact trivial | exact Wk.refl _ | exact Wk.sl _ | refine And.intro ?_ ?_ | refine Wk.tupP ?_ | refine Wk.aggP ?_)); done) | fail)) rfl ?_
  refine RW.new rfl rfl (eff_buildSliceL (id := 30) (els := [.t (.agg [_, _, _, _, _, _, _, _, _, _, _, _, _, _, _]), .t (.agg [_, _, _, _, _, _, _, _, _, _, _, _, _, _, _]), .t (.agg [_, _, _, _, _, _, _, _, _, _, _, _, _, _, _]), .t (.agg [_, _, _, _, _, _, _, _, _, _, _, _, _, _, _])]) rfl rfl te32 tz47 rfl (by decide) (by decide) rfl rfl rfl rfl) ?_
  refine asO ?_
  refine RW.nil ?_
  refine awp_seq ?_
  refine awp_rw rfl ?_
  refine RW.op rfl rfl (eff_load rfl rfl ti47 rfl (.whole rfl rfl rfl rfl rfl rfl)) ?_
  refine RW.op rfl rfl (eff_load rfl rfl ti47 rfl (.whole rfl rfl rfl rfl rfl rfl)) ?_
  refine RW.op rfl rfl (eff_load rfl rfl ti47 rfl (.whole rfl rfl rfl rfl rfl rfl)) ?_
  refine RW.op rfl rfl (eff_load rfl rfl ti47 rfl (.whole rfl rfl rfl rfl rfl rfl)) ?_
  refine RW.weak (weak_slot 31 (y := encC rSe) rfl (by first | ((repeat' (first | exact trivial | exact Wk.refl _ | exact Wk.sl _ | refine And.intro ?_ ?_ | refine Wk.tupP ?_ | refine Wk.aggP ?_)); done) | fail)) rfl ?_
  refine RW.weak (weak_slot 32 (y := encC rHe) rfl (by first | ((repeat' (first | exact trivial | exact Wk.refl _ | exact Wk.sl _ | refine And.intro ?_ ?_ | refine Wk.tupP ?_ | refine Wk.aggP ?_)); done) | fail)) rfl ?_
  refine RW.weak (weak_slot 33 (y := encC rX) rfl (by first | ((repeat' (first | exact trivial | exact Wk.refl _ | exact Wk.sl _ | refine And.intro ?_ ?_ | refine Wk.tupP ?_ | refine Wk.aggP ?_)); done) | fail)) rfl ?_
  refine RW.weak (weak_slot 34 (y := encC rY) rfl (by first | ((repeat' (first | exact trivial | exact Wk.refl _ | exact Wk.sl _ | refine And.intro ?_ ?_ | refine Wk.tupP ?_ | refine Wk.aggP ?_)); done) | fail)) rfl ?_
  refine RW.new rfl rfl (eff_buildSliceL (id := 35) (els := [.t (.agg [_, _, _, _, _, _, _, _, _, _, _, _, _, _, _]), .t (.agg [_, _, _, _, _, _, _, _, _, _, _, _, _, _, _]), .t (.agg [_, _, _, _, _, _, _, _, _, _, _, _, _, _, _]), .t (.agg [_, _, _, _, _, _, _, _, _, _, _, _, _, _, _])]) rfl rfl te32 tz47 rfl (by decide) (by decide) rfl rfl rfl rfl) ?_
  refine asO ?_
  refine RW.nil ?_
  refine awp_seq ?_
  refine awp_weak (weak_frz (n := 93) (fr' := [(3, .ptr 3 0 0 0), (4, .ptr 4 0 0 0), (7, .t (.sl (late4.map encC) false)), (8, .t (.sl (early4.map encC) false)), (94, .t deT)]) (st' := [(3, some ⟨4, 28, 0, [.t (encD dAg)]⟩), (4, some ⟨4, 28, 0, [.t (encD dTo)]⟩)]) [(30, some ⟨15, 47, 0, (late4.map encC).map .t⟩), (35, some ⟨15, 47, 0, (early4.map encC).map .t⟩)] ⟨rfl, rfl, trivial⟩ ⟨rfl, rfl, trivial⟩ ⟨wa_eq rfl rfl, wa_eq rfl rfl, .res (Res.ownT (xs := late4.map encC) rfl rfl rfl rfl) (.refl _), .res (Res.ownT (xs := early4.map encC) rfl rfl rfl rfl) (.refl _), wa_eq rfl rfl, trivial⟩ ⟨rfl, okE_one rfl, rfl, okE_one rfl, trivial⟩) ?_
  refine awp_rw rfl ?_
  refine mvT ?_
  refine RW.op rfl rfl (eff_load rfl rfl ti28 rfl (.whole rfl rfl rfl rfl rfl rfl)) ?_
  refine RW.op rfl rfl (eff_callXT (lives1) co22 rfl rfl rfl ⟨rfl, trivial⟩ rfl) ?_
  refine mvT ?_
  refine RW.op rfl rfl (eff_extract rfl rfl rfl rfl) ?_
  refine RW.op rfl rfl (eff_extract rfl rfl rfl rfl) ?_
  refine RW.new rfl rfl (eff_allocK (k := 5) (id := 9) rfl rfl tz49 rfl rfl) ?_
  refine RW.store rfl rfl (eff_storeW (v := .t _) (els := [_]) (els' := [_]) rfl rfl ti49 rfl rfl rfl rfl rfl rfl rfl rfl rfl) ?_
  refine asT ?_
  refine RW.nil ?_
  refine awp_seq ?_
  refine awp_rw rfl ?_
  refine mvT ?_
  refine RW.op rfl rfl (eff_load rfl rfl ti28 rfl (.whole rfl rfl rfl rfl rfl rfl)) ?_
  refine RW.op rfl rfl (eff_callXT (lives2) co22 rfl rfl rfl ⟨rfl, trivial⟩ rfl) ?_
  refine mvT ?_
  refine RW.op rfl rfl (eff_extract rfl rfl rfl rfl) ?_
  refine RW.op rfl rfl (eff_extract rfl rfl rfl rfl) ?_
  refine RW.new rfl rfl (eff_allocK (k := 5) (id := 11) rfl rfl tz49 rfl rfl) ?_
  refine RW.store rfl rfl (eff_storeW (v := .t _) (els := [_]) (els' := [_]) rfl rfl ti49 rfl rfl rfl rfl rfl rfl rfl rfl rfl) ?_
  refine asT ?_
  refine RW.nil ?_
  refine awp_seq ?_
  refine awp_rw rfl ?_
  refine mvT ?_
  refine RW.op rfl rfl (eff_load rfl rfl ti28 rfl (.whole rfl rfl rfl rfl rfl rfl)) ?_
  refine RW.op rfl rfl (eff_callXT (lives3) co22 rfl rfl rfl ⟨rfl, trivial⟩ rfl) ?_
  refine mvT ?_
  refine RW.op rfl rfl (eff_extract rfl rfl rfl rfl) ?_
  refine RW.op rfl rfl (eff_extract rfl rfl rfl rfl) ?_
  refine RW.new rfl rfl (eff_allocK (k := 5) (id := 13) rfl rfl tz49 rfl rfl) ?_
  refine RW.store rfl rfl (eff_storeW (v := .t _) (els := [_]) (els' := [_]) rfl rfl ti49 rfl rfl rfl rfl rfl rfl rfl rfl rfl) ?_
  refine asT ?_
  refine RW.nil ?_
  refine awp_seq ?_
  refine awp_rw rfl ?_
  refine mvT ?_
  refine RW.op rfl rfl (eff_callXT (lives4) co19 rfl rfl rfl ⟨rfl, trivial⟩ rfl) ?_
  refine mvT ?_
  refine RW.op rfl rfl (eff_extract rfl rfl rfl rfl) ?_
  refine RW.op rfl rfl (eff_extract rfl rfl rfl rfl) ?_
  refine asT ?_
  refine asT ?_
  refine RW.nil ?_
  refine awp_seq ?_
  refine awp_seq ?_
  refine awp_rw rfl ?_
  refine mvT ?_
  refine RW.op rfl rfl (eff_iop (r := .bool false) rfl rfl rfl rfl (by rfl)) ?_
  refine mvT ?_
  refine RW.gop rfl rfl rfl rfl rfl rfl (eff_move (v := .t _) rfl rfl rfl) ?_
  refine RW.gop rfl rfl rfl rfl rfl rfl (eff_iop (r := .bool false) rfl rfl rfl rfl (by rfl)) ?_
  refine pkT ?_
  refine mvT ?_
  refine RW.gop rfl rfl rfl rfl rfl rfl (eff_move (v := .t _) rfl rfl rfl) ?_
  refine RW.gop rfl rfl rfl rfl rfl rfl (eff_iop (r := .bool false) rfl rfl rfl rfl (by rfl)) ?_
  refine pkT ?_
  refine mvT ?_
  refine RW.gop rfl rfl rfl rfl rfl rfl (eff_move (v := .t _) rfl rfl rfl) ?_
  refine RW.gop rfl rfl rfl rfl rfl rfl (eff_iop (r := .bool false) rfl rfl rfl rfl (by rfl)) ?_
  refine pkT ?_
  refine mvT ?_
  refine RW.gop rfl rfl rfl rfl rfl rfl (eff_move (v := .t _) rfl rfl rfl) ?_
  refine RW.gop rfl rfl rfl rfl rfl rfl (eff_buildSliceT (xs := [2].map encN) rfl rfl te26 tz3 rfl (by decide) rfl rfl rfl (by decide)) ?_
  refine RW.gop rfl rfl rfl rfl rfl rfl (eff_callW (xs := [_, _]) (lives5) co21 rfl rfl rfl rfl (by repeat' first | exact trivial | exact Wk.refl _ | exact Wk.sl _ | refine And.intro ?_ ?_ | refine Wk.aggP ?_)) ?_
  refine RW.gop rfl rfl rfl rfl rfl rfl (eff_unop rfl rfl rfl rfl) ?_
  refine pkT ?_
  refine RW.nil ?_
  refine awp_cond rfl (fun h => nomatch h) (fun _ => ?_)
  refine awp_skip ?_
  refine awp_seq ?_
  refine awp_rw rfl ?_
  refine RW.op rfl rfl (eff_load rfl rfl ti49 rfl (.whole rfl rfl rfl rfl rfl rfl)) ?_
  refine RW.op rfl rfl (eff_buildT (ys := [_, _, _, _, _]) rfl rfl tz49 tg49 rfl) ?_
  refine RW.op rfl rfl (eff_structEqlAB (cells := cellsV) (a := zv) (b := zv) (r := true) rfl rfl ts49s ti49 th49 cellsV_inj cellsV_kind rfl rfl (by decide)) ?_
  refine mvT ?_
  refine RW.gop rfl rfl rfl rfl rfl rfl (eff_load rfl rfl ti49 rfl (.whole rfl rfl rfl rfl rfl rfl)) ?_
  refine RW.gop rfl rfl rfl rfl rfl rfl (eff_buildT (ys := [_, _, _, _]) rfl rfl tz23 tg23 rfl) ?_
  refine RW.gop rfl rfl rfl rfl rfl rfl (eff_buildT (ys := [_, _, _, _, _]) rfl rfl tz49 tg49 rfl) ?_
  refine RW.gop rfl rfl rfl rfl rfl rfl (eff_structEqlAB (cells := cellsV) (a := ⟨false, ⟨1, 0, 1, false⟩⟩) (b := ⟨false, ⟨1, 0, 1, false⟩⟩) (r := true) rfl rfl ts49s ti49 th49 cellsV_inj cellsV_kind rfl rfl (by decide)) ?_
  refine pkT ?_
  refine mvT ?_
  refine RW.gop rfl rfl rfl rfl rfl rfl (eff_load rfl rfl ti49 rfl (.whole rfl rfl rfl rfl rfl rfl)) ?_
  refine RW.gop rfl rfl rfl rfl rfl rfl (eff_buildT (ys := [_, _, _, _, _]) rfl rfl tz49 tg49 rfl) ?_
  refine RW.gop rfl rfl rfl rfl rfl rfl (eff_structEqlAB (cells := cellsV) (a := ⟨true, zr⟩) (b := ⟨true, zr⟩) (r := true) rfl rfl ts49s ti49 th49 cellsV_inj cellsV_kind rfl rfl (by decide)) ?_
  refine pkT ?_
  refine asT ?_
  refine RW.nil ?_
  refine awp_ret ?_
  exact ⟨Or.inr rfl, [_], ⟨.tmp (.t _), trivial⟩, .refl _⟩

end Go.Tv.C36

end
section
open Go Go.Tv Go.Proofs
namespace Go.Tv.C36
set_option maxRecDepth 20000
set_option maxHeartbeats 2000000
set_option linter.unusedSimpArgs false
set_option linter.unusedVariables false
theorem two_mem {α : Type} {p : α → Prop} {a b : α} (ha : p a) (hb : p b) : ∀ x, x ∈ [a, b] → p x := by
  intro x hx
  rcases List.mem_cons.1 hx with rfl | hx
  · exact ha
  · rw [List.mem_singleton.1 hx]; exact hb

theorem law3 (kind seq next have_ : Int) (lk : Bool) (sent : Int) (hk : I64 kind) (hsq : I64 seq) (hn : I64 next) (hh : I64 have_) (hsn : I64 sent) : RetT Tryd.prog 3 [(1, deT)] [encI kind, encI seq, encI next, encI have_, .bool lk, encI sent] (.bool true) := by
  refine retT_of_awp Tryd.func3 rfl (Nat.le_of_ble_eq_true rfl) ?_
  refine awp_seq ?_
  refine awp_rw rfl ?_
  refine asT ?_
  refine RW.nil ?_
  refine awp_seq ?_
  refine awp_rw rfl ?_
  refine mvT ?_
  refine mvT ?_
  refine mvT ?_
  refine RW.op rfl rfl (eff_callT (state_ret next have_ 0 lk hn hh (by unfold I64; decide)) co12 rfl rfl rfl rfl) ?_
  refine RW.new rfl rfl (eff_allocK (k := 4) (id := 13) rfl rfl tz23 rfl rfl) ?_
  refine RW.store rfl rfl (eff_storeW (v := .t _) (els := [_]) (els' := [_]) rfl rfl ti23 rfl rfl rfl rfl rfl rfl rfl rfl rfl) ?_
  refine RW.nil ?_
  refine awp_seq ?_
  refine awp_rw rfl ?_
  refine mvT ?_
  refine mvT ?_
  refine RW.op rfl rfl (eff_callT (around_ret kind 4 hk (by decide)) co13 rfl rfl rfl rfl) ?_
  refine RW.op rfl rfl (eff_buildSliceT (xs := [kind, around kind 4].map encI) rfl rfl te26 tz3 rfl (by decide) rfl rfl rfl (by decide)) ?_
  refine asT ?_
  refine RW.nil ?_
  refine awp_seq ?_
  have hr1 := around_range (n := next) (m := 600) (by decide)
  have hr2 := around_range (n := seq) (m := 20) (by decide)
  have hSn : (state next have_ 0 lk).next = around next 600 := rfl
  have hs2 : ∀ x, x ∈ [around seq 1000001, imax 0 ((state next have_ 0 lk).next - 3 + around seq 20)] → 0 ≤ x ∧ x ≤ 1000000 := two_mem (by have := around_range (n := seq) (m := 1000001) (by decide); omega) (by unfold imax; split <;> omega)
  have hNX : NX 1000000 (state next have_ 0 lk) := ⟨by rw [hSn]; omega, by rw [hSn]; omega⟩
  refine awp_rd [(some 28, []), (some 29, []), (some 30, []), (some 31, []), (some 32, []), (some 33, []), (some 34, []), (some 35, []), (some 36, []), (some 37, []), (some 15, [])] [[], [0], [], [2], [2, 3], [], [0, 1, 5], [0, 1, 2, 3, 4, 5, 6], [0, 1, 2, 3, 4, 5, 6, 7], [0, 1, 2, 3, 4, 5, 6, 7, 8], [0, 1, 2, 3, 4, 5, 6, 7, 8, 9]] tm rfl rfl rfl rfl ?_
  refine mvD ?_
  refine RD.op rfl rfl rfl (eff_callT (around_ret seq 1000001 hsq (by decide)) co13 rfl rfl rfl rfl) ?_
  refine RD.op rfl rfl rfl (eff_fieldAddr rfl rfl tf23_0 (by decide) rfl rfl rfl (Nat.le_of_ble_eq_true rfl)) ?_
  refine RD.op rfl rfl rfl (eff_load (y := .t _) rfl rfl ti3 rfl (.one rfl rfl rfl rfl)) ?_
  refine RD.op rfl rfl rfl (eff_iop (r := encI ((state next have_ 0 lk).next - 3)) rfl rfl rfl rfl (isub (by omega))) ?_
  refine mvD ?_
  refine RD.op rfl rfl rfl (eff_callT (around_ret seq 20 hsq (by decide)) co13 rfl rfl rfl rfl) ?_
  refine RD.op rfl rfl rfl (eff_iop (r := encI ((state next have_ 0 lk).next - 3 + around seq 20)) rfl rfl rfl rfl (iadd (by omega))) ?_
  refine RD.op rfl rfl rfl (eff_max rfl rfl rfl rfl) ?_
  refine RD.op rfl rfl rfl (eff_buildSliceT (xs := [around seq 1000001, imax 0 ((state next have_ 0 lk).next - 3 + around seq 20)].map encI) rfl rfl te26 tz3 rfl (by decide) rfl rfl rfl (by decide)) ?_
  refine RD.op rfl rfl rfl (eff_assign (v := .t _) rfl rfl rfl) ?_
  refine RD.nil ?_
  refine awp_seq ?_
  refine awp_seq ?_
  refine awp_rw rfl ?_
  refine asT ?_
  refine RW.nil ?_
  refine awp_block ?_
  refine awp_loopW (fun m s => ∃ (i : Nat), (i ≤ 2) ∧ m = 2 - i ∧ s = ⟨86, [(5, .t (encI sent)), (13, .ptr 13 0 0 0), (14, .t (.sl ([kind, around kind 4].map encI) true)), (15, .t (.sl ([around seq 1000001, imax 0 ((state next have_ 0 lk).next - 3 + around seq 20)].map encI) true)), (16, .t (encI (i : Nat))), (87, .t deT)], [(13, some ⟨4, 23, 0, [.t (encR (state next have_ 0 lk))]⟩)]⟩) (_) (⟨_, weak_keep (n := 86) (fr' := [(5, .t (encI sent)), (13, .ptr 13 0 0 0), (14, .t (.sl ([kind, around kind 4].map encI) true)), (15, .t (.sl ([around seq 1000001, imax 0 ((state next have_ 0 lk).next - 3 + around seq 20)].map encI) true)), (16, .t (encI (0 : Nat))), (87, .t deT)]) (st' := [(13, some ⟨4, 23, 0, [.t (encR (state next have_ 0 lk))]⟩)]) ⟨rfl, rfl, rfl, rfl, rfl, rfl, rfl, rfl, rfl, rfl, rfl, rfl, trivial⟩ ⟨rfl, okE_one rfl, trivial⟩, 0, (by omega), rfl, rfl⟩) ?_
  rintro m s ⟨i, hi, rfl, rfl⟩
  refine awp_seq ?_
  refine awp_seq ?_
  refine awp_rw rfl ?_
  refine mvT ?_
  refine ioT ?_
  refine RW.nil ?_
  refine awp_cond rfl (fun h1 => ?_) (fun h1 => ?_)
  · try simp only [cl] at h1
    refine awp_skip ?_
    refine awp_seq ?_
    refine awp_block ?_
    refine awp_seq ?_
    refine awp_rw rfl ?_
    refine asT ?_
    refine RW.nil ?_
    refine awp_block ?_
    refine awp_loopW (fun m s => ∃ (q : Nat), (q ≤ 2) ∧ m = 2 - q ∧ s = ⟨86, [(5, .t (encI sent)), (13, .ptr 13 0 0 0), (14, .t (.sl ([kind, around kind 4].map encI) true)), (15, .t (.sl ([around seq 1000001, imax 0 ((state next have_ 0 lk).next - 3 + around seq 20)].map encI) true)), (16, .t (encI (i : Nat))), (17, .t (encI (q : Nat))), (87, .t deT)], [(13, some ⟨4, 23, 0, [.t (encR (state next have_ 0 lk))]⟩)]⟩) (_) (⟨_, weak_keep (n := 86) (fr' := [(5, .t (encI sent)), (13, .ptr 13 0 0 0), (14, .t (.sl ([kind, around kind 4].map encI) true)), (15, .t (.sl ([around seq 1000001, imax 0 ((state next have_ 0 lk).next - 3 + around seq 20)].map encI) true)), (16, .t (encI (i : Nat))), (17, .t (encI (0 : Nat))), (87, .t deT)]) (st' := [(13, some ⟨4, 23, 0, [.t (encR (state next have_ 0 lk))]⟩)]) ⟨rfl, rfl, rfl, rfl, rfl, rfl, rfl, rfl, rfl, rfl, rfl, rfl, rfl, rfl, trivial⟩ ⟨rfl, okE_one rfl, trivial⟩, 0, (by omega), rfl, rfl⟩) ?_
    rintro m s ⟨q, hq, rfl, rfl⟩
    refine awp_seq ?_
    refine awp_seq ?_
    refine awp_rw rfl ?_
    refine mvT ?_
    refine ioT ?_
    refine RW.nil ?_
    refine awp_cond rfl (fun h2 => ?_) (fun h2 => ?_)
    · try simp only [cl] at h2
      refine awp_skip ?_
      refine awp_seq ?_
      refine awp_block ?_
      refine awp_seq ?_
      refine awp_rd [(some 46, []), (some 47, []), (some 48, []), (some 49, []), (some 50, []), (some 51, []), (some 52, []), (some 53, []), (some 54, []), (some 18, [18]), (none, [18])] [[], [], [0, 1], [0, 1, 2], [], [], [4, 5], [4, 5, 6], [0, 1, 2, 3, 4, 5, 6, 7], [], [0, 1, 2, 3, 4, 5, 6, 7, 8, 9]] tm rfl rfl rfl rfl ?_
      refine mvD ?_
      refine mvD ?_
      refine RD.op rfl rfl rfl (eff_indexM (i := i) rfl rfl te26 rfl rfl (by first | rfl | omega) (by exact List.getElem?_eq_getElem (show i < [kind, around kind 4].length by show i < 2; omega)) rfl (by decide)) ?_
      refine RD.op rfl rfl rfl (eff_loadW1 rfl rfl ti3 rfl rfl) ?_
      refine mvD ?_
      refine mvD ?_
      refine RD.op rfl rfl rfl (eff_indexM (i := q) rfl rfl te26 rfl rfl (by first | rfl | omega) (by exact List.getElem?_eq_getElem (show q < [around seq 1000001, imax 0 ((state next have_ 0 lk).next - 3 + around seq 20)].length by show q < 2; omega)) rfl (by decide)) ?_
      refine RD.op rfl rfl rfl (eff_loadW1 rfl rfl ti3 rfl rfl) ?_
      refine RD.op rfl rfl rfl (eff_buildT (ys := [_, _, _, _]) rfl rfl tz28 tg28 rfl) ?_
      refine RD.new rfl rfl rfl (eff_allocK (k := 4) (id := 18) rfl rfl tz28 rfl rfl) ?_
      refine RD.store rfl rfl rfl (eff_storeW (v := .t _) (els := [_]) (els' := [_]) rfl rfl ti28 rfl rfl rfl rfl rfl rfl rfl rfl rfl) ?_
      refine RD.nil ?_
      refine awp_seq ?_
      refine awp_rw rfl ?_
      refine mvT ?_
      refine RW.op rfl rfl (eff_callT (around_ret sent 700 hsn (by decide)) co13 rfl rfl rfl rfl) ?_
      refine asT ?_
      refine RW.nil ?_
      refine awp_seq ?_
      have hsq2 := hs2 _ (List.getElem_mem (show q < [around seq 1000001, imax 0 ((state next have_ 0 lk).next - 3 + around seq 20)].length by show q < 2; omega))
      refine awp_rd [(some 57, []), (some 58, []), (some 59, []), (some 60, []), (some 61, []), (some 62, []), (some 63, []), (some 64, []), (some 65, []), (some 66, []), (some 67, []), (some 68, []), (some 69, []), (some 70, []), (some 71, []), (some 72, []), (some 73, []), (some 74, []), (some 75, []), (some 76, []), (some 77, []), (some 78, []), (some 79, []), (some 80, []), (some 81, []), (some 82, []), (some 83, []), (some 84, [])] [[], [], [], [0, 1, 2], [], [], [], [0, 1, 2, 3, 4, 5, 6], [0, 1, 2, 3, 4, 5, 6, 7], [0, 1, 2, 3, 4, 5, 6, 7, 8], [0, 1, 2, 3, 4, 5, 6, 7, 8, 9], [0, 1, 2, 3, 4, 5, 6, 7, 8, 9], [0, 1, 2, 3, 4, 5, 6, 7, 8, 9], [0, 1, 2, 3, 4, 5, 6, 7, 8, 9], [0, 1, 2, 3, 4, 5, 6, 7, 8, 9, 12, 13], [0, 1, 2, 3, 4, 5, 6, 7, 8, 9, 12, 13, 14], [0, 1, 2, 3, 4, 5, 6, 7, 8, 9, 12, 13, 14, 15], [0, 1, 2, 3, 4, 5, 6, 7, 8, 9, 10, 11, 12, 13, 14, 15, 16], [0, 1, 2, 3, 4, 5, 6, 7, 8, 9], [0, 1, 2, 3, 4, 5, 6, 7, 8, 9], [0, 1, 2, 3, 4, 5, 6, 7, 8, 9], [0, 1, 2, 3, 4, 5, 6, 7, 8, 9], [0, 1, 2, 3, 4, 5, 6, 7, 8, 9, 20, 21], [0, 1, 2, 3, 4, 5, 6, 7, 8, 9, 20, 21, 22], [0, 1, 2, 3, 4, 5, 6, 7, 8, 9, 20, 21, 22, 23], [0, 1, 2, 3, 4, 5, 6, 7, 8, 9, 10, 11, 12, 13, 14, 15, 16, 17, 18, 19, 20, 21, 22, 23, 24], [0, 1, 2, 3, 4, 5, 6, 7, 8, 9, 10, 11, 12, 13, 14, 15, 16, 17, 18, 19, 20, 21, 22, 23, 24, 25], [0, 1, 2, 3, 4, 5, 6, 7, 8, 9, 10, 11, 12, 13, 14, 15, 16, 17, 18, 19, 20, 21, 22, 23, 24, 25, 26]] tm rfl rfl rfl rfl ?_
      refine RD.op rfl rfl rfl (eff_load rfl rfl ti28 rfl (.whole rfl rfl rfl rfl rfl rfl)) ?_
      refine RD.op rfl rfl rfl (eff_load rfl rfl ti23 rfl (.whole rfl rfl rfl rfl rfl rfl)) ?_
      refine mvD ?_
      refine RD.op rfl rfl rfl (eff_callT (right_ret ⟨0, 0, ([kind, around kind 4][i]'(by show i < 2; omega)), ([around seq 1000001, imax 0 ((state next have_ 0 lk).next - 3 + around seq 20)][q]'(by show q < 2; omega))⟩ (state next have_ 0 lk) (around sent 700) (state_hp _ _ _ _) hNX (by show -2000000 ≤ ([around seq 1000001, imax 0 ((state next have_ 0 lk).next - 3 + around seq 20)][q]'(by show q < 2; omega)) ∧ ([around seq 1000001, imax 0 ((state next have_ 0 lk).next - 3 + around seq 20)][q]'(by show q < 2; omega)) ≤ 2000000; omega)) co14 rfl rfl rfl rfl) ?_
      refine RD.op rfl rfl rfl (eff_load rfl rfl ti28 rfl (.whole rfl rfl rfl rfl rfl rfl)) ?_
      refine RD.op rfl rfl rfl (eff_load rfl rfl ti23 rfl (.whole rfl rfl rfl rfl rfl rfl)) ?_
      refine mvD ?_
      refine RD.op rfl rfl rfl (eff_callT (rright_ret ⟨0, 0, ([kind, around kind 4][i]'(by show i < 2; omega)), ([around seq 1000001, imax 0 ((state next have_ 0 lk).next - 3 + around seq 20)][q]'(by show q < 2; omega))⟩ (state next have_ 0 lk) (around sent 700) (state_hp _ _ _ _) hNX (by show -2000000 ≤ ([around seq 1000001, imax 0 ((state next have_ 0 lk).next - 3 + around seq 20)][q]'(by show q < 2; omega)) ∧ ([around seq 1000001, imax 0 ((state next have_ 0 lk).next - 3 + around seq 20)][q]'(by show q < 2; omega)) ≤ 2000000; omega)) co15 rfl rfl rfl rfl) ?_
      refine RD.op rfl rfl rfl (eff_boolEq (b := false) rfl rfl (.inr rfl) tu4 rfl rfl (by simp)) ?_
      refine mvD ?_
      refine RD.gop rfl rfl rfl rfl rfl rfl rfl (eff_load rfl rfl ti28 rfl (.whole rfl rfl rfl rfl rfl rfl)) ?_
      refine RD.gop rfl rfl rfl rfl rfl rfl rfl (eff_load rfl rfl ti23 rfl (.whole rfl rfl rfl rfl rfl rfl)) ?_
      refine RD.gop rfl rfl rfl rfl rfl rfl rfl (eff_move (v := .t _) rfl rfl rfl) ?_
      refine RD.gop rfl rfl rfl rfl rfl rfl rfl (eff_move (v := .t _) rfl rfl rfl) ?_
      refine RD.gop rfl rfl rfl rfl rfl rfl rfl (eff_indexM (i := q) rfl rfl te26 rfl rfl (by first | rfl | omega) (by exact List.getElem?_eq_getElem (show q < [around seq 1000001, imax 0 ((state next have_ 0 lk).next - 3 + around seq 20)].length by show q < 2; omega)) rfl (by decide)) ?_
      refine RD.gop rfl rfl rfl rfl rfl rfl rfl (eff_loadW1 rfl rfl ti3 rfl rfl) ?_
      refine RD.gop rfl rfl rfl rfl rfl rfl rfl (eff_iop (r := encI (([around seq 1000001, imax 0 ((state next have_ 0 lk).next - 3 + around seq 20)][q]'(by show q < 2; omega)) + 1)) rfl rfl rfl rfl (iadd (by omega))) ?_
      refine RD.gop rfl rfl rfl rfl rfl rfl rfl (eff_callT (right_ret ⟨0, 0, ([kind, around kind 4][i]'(by show i < 2; omega)), ([around seq 1000001, imax 0 ((state next have_ 0 lk).next - 3 + around seq 20)][q]'(by show q < 2; omega))⟩ (state next have_ 0 lk) (([around seq 1000001, imax 0 ((state next have_ 0 lk).next - 3 + around seq 20)][q]'(by show q < 2; omega)) + 1) (state_hp _ _ _ _) hNX (by show -2000000 ≤ ([around seq 1000001, imax 0 ((state next have_ 0 lk).next - 3 + around seq 20)][q]'(by show q < 2; omega)) ∧ ([around seq 1000001, imax 0 ((state next have_ 0 lk).next - 3 + around seq 20)][q]'(by show q < 2; omega)) ≤ 2000000; omega)) co14 rfl rfl rfl rfl) ?_
      refine RD.gop rfl rfl rfl rfl rfl rfl rfl (eff_load rfl rfl ti28 rfl (.whole rfl rfl rfl rfl rfl rfl)) ?_
      refine RD.gop rfl rfl rfl rfl rfl rfl rfl (eff_load rfl rfl ti23 rfl (.whole rfl rfl rfl rfl rfl rfl)) ?_
      refine RD.gop rfl rfl rfl rfl rfl rfl rfl (eff_move (v := .t _) rfl rfl rfl) ?_
      refine RD.gop rfl rfl rfl rfl rfl rfl rfl (eff_move (v := .t _) rfl rfl rfl) ?_
      refine RD.gop rfl rfl rfl rfl rfl rfl rfl (eff_indexM (i := q) rfl rfl te26 rfl rfl (by first | rfl | omega) (by exact List.getElem?_eq_getElem (show q < [around seq 1000001, imax 0 ((state next have_ 0 lk).next - 3 + around seq 20)].length by show q < 2; omega)) rfl (by decide)) ?_
      refine RD.gop rfl rfl rfl rfl rfl rfl rfl (eff_loadW1 rfl rfl ti3 rfl rfl) ?_
      refine RD.gop rfl rfl rfl rfl rfl rfl rfl (eff_iop (r := encI (([around seq 1000001, imax 0 ((state next have_ 0 lk).next - 3 + around seq 20)][q]'(by show q < 2; omega)) + 1)) rfl rfl rfl rfl (iadd (by omega))) ?_
      refine RD.gop rfl rfl rfl rfl rfl rfl rfl (eff_callT (rright_ret ⟨0, 0, ([kind, around kind 4][i]'(by show i < 2; omega)), ([around seq 1000001, imax 0 ((state next have_ 0 lk).next - 3 + around seq 20)][q]'(by show q < 2; omega))⟩ (state next have_ 0 lk) (([around seq 1000001, imax 0 ((state next have_ 0 lk).next - 3 + around seq 20)][q]'(by show q < 2; omega)) + 1) (state_hp _ _ _ _) hNX (by show -2000000 ≤ ([around seq 1000001, imax 0 ((state next have_ 0 lk).next - 3 + around seq 20)][q]'(by show q < 2; omega)) ∧ ([around seq 1000001, imax 0 ((state next have_ 0 lk).next - 3 + around seq 20)][q]'(by show q < 2; omega)) ≤ 2000000; omega)) co15 rfl rfl rfl rfl) ?_
      refine RD.gop rfl rfl rfl rfl rfl rfl rfl (eff_boolEq (b := false) rfl rfl (.inr rfl) tu4 rfl rfl (by simp)) ?_
      refine RD.op rfl rfl rfl (eff_pick (v := .t _) rfl rfl rfl rfl) ?_
      refine RD.nil ?_
      refine awp_cond rfl (fun h => nomatch h) (fun _ => ?_)
      refine awp_skip ?_
      refine awp_rw rfl ?_
      refine mvT ?_
      refine RW.op rfl rfl (eff_iop rfl rfl rfl rfl (iadd (by omega))) ?_
      refine asT ?_
      refine RW.nil ?_
      refine ⟨_, ?_, _, weak_keep (n := 86) (fr' := [(5, .t (encI sent)), (13, .ptr 13 0 0 0), (14, .t (.sl ([kind, around kind 4].map encI) true)), (15, .t (.sl ([around seq 1000001, imax 0 ((state next have_ 0 lk).next - 3 + around seq 20)].map encI) true)), (16, .t (encI (i : Nat))), (17, .t (encI ((q + 1) : Nat))), (87, .t deT)]) (st' := [(13, some ⟨4, 23, 0, [.t (encR (state next have_ 0 lk))]⟩)]) ⟨rfl, rfl, rfl, rfl, rfl, rfl, rfl, rfl, rfl, rfl, rfl, rfl, rfl, rfl, trivial⟩ ⟨rfl, okE_one rfl, trivial⟩, q + 1, (by omega), rfl, rfl⟩
      omega
    · try simp only [cl] at h2
      refine awp_exit ?_
      refine awp_rw rfl ?_
      refine mvT ?_
      refine RW.op rfl rfl (eff_iop rfl rfl rfl rfl (iadd (by omega))) ?_
      refine asT ?_
      refine RW.nil ?_
      refine ⟨_, ?_, _, weak_keep (n := 86) (fr' := [(5, .t (encI sent)), (13, .ptr 13 0 0 0), (14, .t (.sl ([kind, around kind 4].map encI) true)), (15, .t (.sl ([around seq 1000001, imax 0 ((state next have_ 0 lk).next - 3 + around seq 20)].map encI) true)), (16, .t (encI ((i + 1) : Nat))), (87, .t deT)]) (st' := [(13, some ⟨4, 23, 0, [.t (encR (state next have_ 0 lk))]⟩)]) ⟨rfl, rfl, rfl, rfl, rfl, rfl, rfl, rfl, rfl, rfl, rfl, rfl, trivial⟩ ⟨rfl, okE_one rfl, trivial⟩, i + 1, (by omega), rfl, rfl⟩
      omega
  · try simp only [cl] at h1
    refine awp_exit ?_
    refine awp_seq ?_
    refine awp_rw rfl ?_
    refine RW.op rfl rfl (eff_callXT (lives_ret) co16 rfl rfl rfl ⟨rfl, trivial⟩ rfl) ?_
    refine asT ?_
    refine RW.nil ?_
    refine awp_ret ?_
    exact ⟨Or.inr rfl, [_], ⟨.tmp (.t _), trivial⟩, .refl _⟩

end Go.Tv.C36

end
section
open Go Go.Tv Go.Proofs Go.ChangeShapes Go.WideShapes Go.ChangeAt Go.RowKit
namespace Go.Tv.C36
set_option maxRecDepth 100000

theorem wfI64 {n : Int} (h : (Lit.int .i64 n).wf = true) : I64 n := by
  unfold I64
  simp [Lit.wf, IntKind.min, IntKind.max, IntKind.signed, IntKind.bits] at h; omega
def laid1 : List (String × DataW Unit) := [("math/bits.deBruijn32tab", Go.Proofs.YtiphgohbnhinnaaDoor.Rows.laid_math_bits_deBruijn32tab), ("math/bits.deBruijn64tab", Go.Proofs.YtiphgohbnhinnaaDoor.Rows.laid_math_bits_deBruijn64tab)]
theorem gDe : Tryd.prog.globalNamed "math/bits.deBruijn64tab" = some 1 := by kernel_rfl
theorem tDe : (Tryd.prog.globals[1]?).map (·.type) = some 125 := by kernel_rfl
theorem door_met (os : Os) (args : Array Value) : laidMetH Tryd.prog laid1 ((World.doorLaid Tryd.prog 400 os).forCall (fun _ _ => 0) ⟨#[], args, []⟩).memory :=
  laidMetH_of_parts3 (fuel := 8) (laidMet_of_run' 8 (by kernel_rfl) (by kernel_rfl)) (by kernel_rfl) (by kernel_rfl)
theorem tabs_of_laid {W : World} (h : laidMetH Tryd.prog laid1 W) : TabOK W (fun _ => False) [(1, deT)] := by
  intro g x hm
  simp only [List.mem_singleton, Prod.mk.injEq] at hm
  obtain ⟨rfl, rfl⟩ := hm
  exact tab_of_laid (l := deB) (k := .u8) h rfl (List.mem_cons_of_mem _ (List.mem_singleton.2 rfl)) (by intro e; cases e) gDe tDe Tryd.underlying125 Tryd.underlying5 (by kernel_rfl)
end Go.Tv.C36

end
section
namespace Go.Proofs.YtiphgohbnhinnaaDoor
open Go Go.Tv Go.Tv.C36 Go.ChangeShapes Go.WideShapes Go.ChangeAt Go.RowKit
set_option linter.unusedVariables false
set_option maxRecDepth 100000
theorem courtRights_contract (H : Type) (enc : TypeId × Value → H) (W : World) (base : Nat) (args : Array Value) (ds gs : List (DataW H)) (before : List MemPlace)
    (hval : ∀ (j : Nat) t v, Tryd.f3.params[j]? = some t → args[j]? = some v → Value.okWide Tryd.prog W .any base t v)
    (hW : DataW.Whole enc Tryd.prog Tryd.f3.params.toList Rows.courtRightsSpec.vars false W args.toList ds gs before) (hL : laidMetH Tryd.prog laid1 W) :
    Calls Tryd.prog 3 args W fun e W' => ∃ v, e = .returned v ∧ Rows.courtRightsSpec.post enc Tryd.prog Tryd.f3 false true false false W args v W' := by
  have hW' := hW
  obtain ⟨p, q, hA0, hV, rfl, hfz, hnd⟩ := hW
  have hA : DataW.TrodAll enc Tryd.prog W 0 (fun _ => true) true Tryd.f3.params.toList args.toList ds p := hA0
  rw [Tryd.params3] at hA hval
  obtain ⟨v0, vs0, d0, ds0, p0, q0, hargs, rfl, rfl, h0, r0⟩ := trodAll_cons hA
  obtain ⟨v1, vs1, d1, ds1, p1, q1, rfl, rfl, rfl, h1, r1⟩ := trodAll_cons r0
  obtain ⟨v2, vs2, d2, ds2, p2, q2, rfl, rfl, rfl, h2, r2⟩ := trodAll_cons r1
  obtain ⟨v3, vs3, d3, ds3, p3, q3, rfl, rfl, rfl, h3, r3⟩ := trodAll_cons r2
  obtain ⟨v4, vs4, d4, ds4, p4, q4, rfl, rfl, rfl, h4, r4⟩ := trodAll_cons r3
  obtain ⟨v5, vs5, d5, ds5, p5, q5, rfl, rfl, rfl, h5, r5⟩ := trodAll_cons r4
  obtain ⟨rfl, rfl, rfl⟩ := trodAll_nil r5
  obtain rfl : args = #[v0, v1, v2, v3, v4, v5] := by cases args; simp_all
  obtain ⟨rfl, rfl⟩ := trodVars_none hV
  have k0 := hval 0 3 v0 rfl rfl
  have k1 := hval 1 3 v1 rfl rfl
  have k2 := hval 2 3 v2 rfl rfl
  have k3 := hval 3 3 v3 rfl rfl
  have k4 := hval 4 4 v4 rfl rfl
  have k5 := hval 5 3 v5 rfl rfl
  obtain ⟨kd, rfl, wkd⟩ := arg_int Tryd.underlying3 k0 h0
  have i_kd := wfI64 wkd
  obtain ⟨sq, rfl, wsq⟩ := arg_int Tryd.underlying3 k1 h1
  have i_sq := wfI64 wsq
  obtain ⟨nx, rfl, wnx⟩ := arg_int Tryd.underlying3 k2 h2
  have i_nx := wfI64 wnx
  obtain ⟨hv, rfl, whv⟩ := arg_int Tryd.underlying3 k3 h3
  have i_hv := wfI64 whv
  obtain ⟨lk, rfl⟩ := arg_bool Tryd.underlying4 k4 h4
  obtain ⟨se, rfl, wse⟩ := arg_int Tryd.underlying3 k5 h5
  have i_se := wfI64 wse
  refine (law_callsT (law3 kd sq nx hv lk se i_kd i_sq i_nx i_hv i_se) (tabs_of_laid hL) (vl_cons (.int _ _) (vl_cons (.int _ _) (vl_cons (.int _ _) (vl_cons (.int _ _) (vl_cons (.bool _) (vl_cons (.int _ _) vl_nil))))))).mono ?_
  rintro e W' ⟨rfl, hb⟩
  refine ⟨_, rfl, law_post (P := Tryd.prog) (by kernel_rfl) rfl (fun t ht => ?_) rfl Tryd.underlying4 hW' ⟨rfl, rfl, rfl⟩ hb⟩
  rw [Tryd.params3] at ht
  simp only [List.mem_cons, List.not_mem_nil, or_false] at ht
  rcases ht with rfl | rfl | rfl | rfl | rfl | rfl <;> exact ⟨by kernel_rfl, Nat.le_of_ble_eq_true (by kernel_rfl)⟩

theorem courtRights_lifted (os : Os) (started : os.Started) (H : Type) (enc : TypeId × Value → H) :
    ReturnsInHanded {} Tryd.checked os 3 .any (fun w args => (Rows.courtRightsSpec.pre enc Tryd.prog Tryd.f3 [] false w args ∧ laidMetH Tryd.prog laid1 w) ∧ sizedMet enc Tryd.prog Tryd.f3 (OpenSpec.ofChange Rows.courtRightsSpec) false w args)
      (Rows.courtRightsSpec.post enc Tryd.prog Tryd.f3 false true false false) := by
  refine returnsInHanded_of_change_and (C := Tryd.checked) (X := fun w _ => laidMetH Tryd.prog laid1 w) (fun _ _ _ hh h => h.of_heap hh) (by kernel_rfl) started (by kernel_rfl) Tryd.func3
    (ChangeSpec.witness_shaped (enc := enc) (C := Tryd.checked) (os := os) (X := fun w _ => laidMetH Tryd.prog laid1 w) false (World.doorLaid Tryd.prog 400 os) #[.int .i64 0, .int .i64 0, .int .i64 0, .int .i64 0, .bool false, .int .i64 0] 8 rfl (World.shaped_of_RefB (by kernel_rfl) (by kernel_rfl)) (by kernel_rfl) (by kernel_rfl) (by kernel_rfl) (door_met os _)) ?_
  intro W base args ds gs before hval hW _ _ hL _
  exact courtRights_contract H enc W base args ds gs before hval hW hL

theorem courtRights_row_holds : Rows.CourtRightsSaid :=
  OpenClaim.holds_of_wide 3 Tryd.f3 rfl rfl rfl rfl rfl rfl rfl ⟨rfl, rfl, rfl, rfl, rfl⟩ rfl rfl rfl rfl rfl (by kernel_rfl) Tryd.func3 (by kernel_rfl)
    (of_decide_eq_true (by kernel_rfl)) (by unfold Func.isWrapper; first | (rw [if_pos (by decide +kernel)]; kernel_rfl) | (rw [if_neg (by decide +kernel)]; exact ⟨rfl, rfl⟩))
    (fun os started H enc _ => courtRights_lifted os started H enc)

theorem courtRightsCard_holds : Rows.CourtRightsCardSaid :=
  Claim7.holds_tied_plain_at .later [] [.data, .data] true _ false
    courtRights_row_holds (fun _ h => by cases h) (by kernel_rfl) (fun _ h => by cases h) courtRights_row_tie rfl ⟨rfl, rfl⟩ (by kernel_rfl) rfl
    (fun f fn hf hfn => by
      obtain rfl : f = 3 := Option.some.inj ((show Tryd.prog.funcNamed "perigee/perigeelaw36.CourtRights" = some 3 by kernel_rfl).symm.trans hf) |>.symm
      obtain rfl : fn = Tryd.f3 := (Option.some.inj (Tryd.func3.symm.trans hfn)).symm
      exact ⟨by kernel_rfl, fun j t ht => by
        rw [Tryd.params3] at ht
        have hm : t ∈ [3, 3, 3, 3, 4, 3] := by simpa using Array.mem_of_getElem? ht
        have hall : ([3, 3, 3, 3, 4, 3].all fun u => !Tryd.prog.wantsStandIn u) = true := by kernel_rfl
        exact (show Tryd.prog.wantsStandIn t = false by simpa using List.all_eq_true.1 hall t hm)⟩)
    (by kernel_rfl)

end Go.Proofs.YtiphgohbnhinnaaDoor

end
