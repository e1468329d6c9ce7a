/- TwinSound: for every input that reads as data, the call returns true and leaves its arguments as they were. No condition. -/
import Derived.Test.YtofiemifpgcfhaaDoorT2
import Derived.Test.YtofiemifpgcfhaaDoorT1
import Derived.Test.YtofiemifpgcfhaaDoorRows
import Derived.ProofKit
import Derived.Test.YtofiemifpgcfhaaDoorTie
import Derived.Test.YtofiemifpgcfhaaDoorCards
import Derived.SevenTiedAt
set_option linter.unnecessarySimpa false
set_option linter.unusedVariables false
set_option linter.unusedSimpArgs false
section
open Go Go.Tv Go.Proofs
namespace Go.Tv.C34
set_option maxRecDepth 20000
set_option maxHeartbeats 2000000
set_option linter.unusedSimpArgs false
set_option linter.unusedVariables false
theorem sendA : RetT Tryd.prog 20 [(1, deT)] [encT ⟨[], [zr]⟩, encF zf] (.tup [encT tA, encI 0]) := by
  have h := tsend_ret ⟨[], [zr]⟩ zf srt0 hp0 (by decide) (by decide) (fun x hx => by simp at hx) (by decide)
  rw [liv1] at h; exact h
theorem sendB : RetT Tryd.prog 20 [(1, deT)] [encT tA, encF f1] (.tup [encT tB, encI 0]) := by
  have h := tsend_ret tA f1 srtA hpA (by decide) (by decide) (fun x hx => by rw [List.mem_singleton.1 hx]; decide) (by decide)
  rw [liv2] at h; exact h
theorem bodB : ∀ x, x ∈ tB.sent → x.body.length ≤ 1000000 := by
  intro x hx
  have : x = zf ∨ x = f1 := by simpa using hx
  rcases this with rfl | rfl <;> decide
theorem hearC : RetT Tryd.prog 22 [(1, deT)] [encT tB, encR ⟨1, 0, 1, false⟩] (.tup [encT tC, encI 0]) := by
  have h := thear_ret tB ⟨1, 0, 1, false⟩ ⟨by decide, by decide⟩ (by decide) (by decide) bodB
  rw [liv3] at h; exact h
theorem hearD : RetT Tryd.prog 22 [(1, deT)] [encT tB, encR ⟨3, 0, 2, false⟩] (.tup [encT zt, encI 45]) := by
  have h := thear_ret tB ⟨3, 0, 2, false⟩ ⟨by decide, by decide⟩ (by decide) (by decide) bodB
  rw [liv4] at h; exact h

theorem lives_ret  : RetT Tryd.prog 16 [(1, deT)] [] (.bool true) := by
  refine retT_of_awp Tryd.func16 rfl (Nat.le_of_ble_eq_true rfl) ?_
  refine awp_seq ?_
  refine awp_rw rfl ?_
  refine RW.op rfl rfl (eff_assign (v := .t _) rfl rfl rfl) ?_
  refine RW.nil ?_
  refine awp_seq ?_
  refine awp_rw rfl ?_
  refine RW.op rfl rfl (eff_callT (new17_ret) co17 rfl rfl rfl rfl) ?_
  refine RW.op rfl rfl (eff_buildT (ys := [_, _, _, _, _]) rfl rfl tz30 tg30 rfl) ?_
  refine RW.op rfl rfl (eff_callXW (xs := [_, _]) (sendA) co20 rfl rfl rfl ⟨rfl, trivial⟩ rfl (by repeat' first | exact trivial | exact Wk.refl _ | exact Wk.sl _ | refine And.intro ?_ ?_ | refine Wk.aggP ?_)) ?_
  refine RW.op rfl rfl (eff_move (v := .t _) rfl rfl rfl) ?_
  refine RW.op rfl rfl (eff_extract rfl rfl rfl rfl) ?_
  refine RW.op rfl rfl (eff_extract rfl rfl rfl rfl) ?_
  refine RW.new rfl rfl (eff_allocK (k := 2) (id := 1) rfl rfl tz37 rfl rfl) ?_
  refine RW.store rfl rfl (eff_storeW (v := .t _) (els := [_]) (els' := [_]) rfl rfl ti37 rfl rfl rfl rfl rfl rfl rfl rfl rfl) ?_
  refine RW.op rfl rfl (eff_assign (v := .t _) rfl rfl rfl) ?_
  refine RW.nil ?_
  refine awp_seq ?_
  refine awp_rw rfl ?_
  refine RW.op rfl rfl (eff_load rfl rfl ti37 rfl (.whole rfl rfl rfl rfl rfl rfl)) ?_
  refine RW.op rfl rfl (eff_buildT (ys := [_, _, _, _, _]) rfl rfl tz30 tg30 rfl) ?_
  refine RW.op rfl rfl (eff_callXW (xs := [_, _]) (sendB) co20 rfl rfl rfl ⟨rfl, trivial⟩ rfl (by repeat' first | exact trivial | exact Wk.refl _ | exact Wk.sl _ | refine And.intro ?_ ?_ | refine Wk.aggP ?_)) ?_
  refine RW.op rfl rfl (eff_move (v := .t _) rfl rfl rfl) ?_
  refine RW.op rfl rfl (eff_extract rfl rfl rfl rfl) ?_
  refine RW.op rfl rfl (eff_extract rfl rfl rfl rfl) ?_
  refine RW.new rfl rfl (eff_allocK (k := 2) (id := 3) rfl rfl tz37 rfl rfl) ?_
  refine RW.store rfl rfl (eff_storeW (v := .t _) (els := [_]) (els' := [_]) rfl rfl ti37 rfl rfl rfl rfl rfl rfl rfl rfl rfl) ?_
  refine RW.op rfl rfl (eff_assign (v := .t _) rfl rfl rfl) ?_
  refine RW.nil ?_
  refine awp_seq ?_
  refine awp_rw rfl ?_
  refine RW.op rfl rfl (eff_load rfl rfl ti37 rfl (.whole rfl rfl rfl rfl rfl rfl)) ?_
  refine RW.op rfl rfl (eff_buildT (ys := [_, _, _, _]) rfl rfl tz23 tg23 rfl) ?_
  refine RW.op rfl rfl (eff_callXT (hearC) co22 rfl rfl rfl ⟨rfl, trivial⟩ rfl) ?_
  refine RW.op rfl rfl (eff_move (v := .t _) rfl rfl rfl) ?_
  refine RW.op rfl rfl (eff_extract rfl rfl rfl rfl) ?_
  refine RW.op rfl rfl (eff_extract rfl rfl rfl rfl) ?_
  refine RW.new rfl rfl (eff_allocK (k := 2) (id := 5) rfl rfl tz37 rfl rfl) ?_
  refine RW.store rfl rfl (eff_storeW (v := .t _) (els := [_]) (els' := [_]) rfl rfl ti37 rfl rfl rfl rfl rfl rfl rfl rfl rfl) ?_
  refine RW.op rfl rfl (eff_assign (v := .t _) rfl rfl rfl) ?_
  refine RW.nil ?_
  refine awp_seq ?_
  refine awp_rw rfl ?_
  refine RW.op rfl rfl (eff_load rfl rfl ti37 rfl (.whole rfl rfl rfl rfl rfl rfl)) ?_
  refine RW.op rfl rfl (eff_buildT (ys := [_, _, _, _]) rfl rfl tz23 tg23 rfl) ?_
  refine RW.op rfl rfl (eff_callXT (hearD) co22 rfl rfl rfl ⟨rfl, trivial⟩ rfl) ?_
  refine RW.op rfl rfl (eff_move (v := .t _) rfl rfl rfl) ?_
  refine RW.op rfl rfl (eff_extract rfl rfl rfl rfl) ?_
  refine RW.op rfl rfl (eff_extract rfl rfl rfl rfl) ?_
  refine RW.new rfl rfl (eff_allocK (k := 2) (id := 7) rfl rfl tz37 rfl rfl) ?_
  refine RW.store rfl rfl (eff_storeW (v := .t _) (els := [_]) (els' := [_]) rfl rfl ti37 rfl rfl rfl rfl rfl rfl rfl rfl rfl) ?_
  refine RW.op rfl rfl (eff_assign (v := .t _) rfl rfl rfl) ?_
  refine RW.nil ?_
  refine awp_seq ?_
  refine awp_seq ?_
  refine awp_rw rfl ?_
  refine RW.op rfl rfl (eff_move (v := .t _) rfl rfl rfl) ?_
  refine RW.op rfl rfl (eff_iop (r := .bool false) rfl rfl rfl rfl (by rfl)) ?_
  refine RW.op rfl rfl (eff_move (v := .t _) rfl rfl rfl) ?_
  refine RW.gop rfl rfl rfl rfl rfl rfl (eff_move (v := .t _) rfl rfl rfl) ?_
  refine RW.gop rfl rfl rfl rfl rfl rfl (eff_iop (r := .bool false) rfl rfl rfl rfl (by rfl)) ?_
  refine RW.op rfl rfl (eff_pick (v := .t _) rfl rfl rfl rfl) ?_
  refine RW.op rfl rfl (eff_move (v := .t _) rfl rfl rfl) ?_
  refine RW.gop rfl rfl rfl rfl rfl rfl (eff_move (v := .t _) rfl rfl rfl) ?_
  refine RW.gop rfl rfl rfl rfl rfl rfl (eff_iop (r := .bool false) rfl rfl rfl rfl (by rfl)) ?_
  refine RW.op rfl rfl (eff_pick (v := .t _) rfl rfl rfl rfl) ?_
  refine RW.op rfl rfl (eff_move (v := .t _) rfl rfl rfl) ?_
  refine RW.gop rfl rfl rfl rfl rfl rfl (eff_move (v := .t _) rfl rfl rfl) ?_
  refine RW.gop rfl rfl rfl rfl rfl rfl (eff_iop (r := .bool false) rfl rfl rfl rfl (by rfl)) ?_
  refine RW.op rfl rfl (eff_pick (v := .t _) rfl rfl rfl rfl) ?_
  refine RW.nil ?_
  refine awp_cond rfl (fun h => nomatch h) (fun _ => ?_)
  refine awp_skip ?_
  refine awp_seq ?_
  refine awp_rw rfl ?_
  refine RW.op rfl rfl (eff_buildT (ys := [_, _, _, _]) rfl rfl tz23 tg23 rfl) ?_
  refine RW.op rfl rfl (eff_buildT (ys := [_, _, _, _]) rfl rfl tz23 tg23 rfl) ?_
  refine RW.op rfl rfl (eff_buildT (ys := [_, _, _, _]) rfl rfl tz23 tg23 rfl) ?_
  refine RW.op rfl rfl (eff_buildT (ys := [_, _, _, _]) rfl rfl tz23 tg23 rfl) ?_
  refine RW.new rfl rfl (eff_buildSliceL (id := 52) (els := [.t (.agg [_, _, _, _]), .t (.agg [_, _, _, _]), .t (.agg [_, _, _, _]), .t (.agg [_, _, _, _])]) rfl rfl te35 tz23 rfl (by decide) (by decide) rfl rfl rfl rfl) ?_
  refine RW.op rfl rfl (eff_assign (v := .own _ _ _ _) rfl rfl rfl) ?_
  refine RW.nil ?_
  refine awp_seq ?_
  refine awp_weak (weak_frz (n := 70) (fr' := [(3, .ptr 3 0 0 0), (5, .ptr 5 0 0 0), (9, .t (.sl (L4.map encR) false)), (71, .t deT)]) (st' := [(3, some ⟨2, 37, 0, [.t (encT tB)]⟩), (5, some ⟨2, 37, 0, [.t (encT tC)]⟩)]) [(52, some ⟨4, 23, 0, (L4.map encR).map .t⟩)] ⟨rfl, trivial⟩ ⟨rfl, rfl, trivial⟩ ⟨wa_eq rfl rfl, wa_eq rfl rfl, .res (Res.ownT (xs := L4.map encR) rfl rfl rfl rfl) (.refl _), wa_eq rfl rfl, trivial⟩ ⟨rfl, okE_one rfl, rfl, okE_one rfl, trivial⟩) ?_
  refine awp_rd [(some 53, []), (some 54, []), (some 55, []), (some 56, []), (some 57, []), (some 58, []), (some 59, []), (some 60, []), (some 61, []), (some 62, []), (some 63, []), (some 64, []), (some 65, []), (some 66, []), (some 67, []), (some 68, []), (some 69, []), (some 0, [])] [[], [0], [], [0, 1, 2], [0, 1, 2, 3], [0, 1, 2, 3, 4], [0, 1, 2, 3, 4, 5], [0, 1, 2, 3, 4], [0, 1, 2, 3, 4, 7], [0, 1, 2, 3, 4, 5, 6, 7, 8], [0, 1, 2, 3, 4, 5, 6, 7, 8, 9], [0, 1, 2, 3, 4, 5, 6, 7, 8, 9, 10], [0, 1, 2, 3, 4, 5, 6, 7, 8, 9, 10, 11], [0, 1, 2, 3, 4, 5, 6, 7, 8, 9, 10, 11, 12], [0, 1, 2, 3, 4, 5, 6, 7, 8, 9, 10, 11, 12, 13], [0, 1, 2, 3, 4, 5, 6, 7, 8, 9, 10, 11, 12, 13, 14], [0, 1, 2, 3, 4, 5, 6, 7, 8, 9, 10, 11, 12, 13, 14, 15], [0, 1, 2, 3, 4, 5, 6, 7, 8, 9, 10, 11, 12, 13, 14, 15, 16]] tm rfl rfl rfl rfl ?_
  refine RD.op rfl rfl rfl (eff_fieldAddr rfl rfl tf37_1 (by decide) rfl rfl rfl (Nat.le_of_ble_eq_true rfl)) ?_
  refine RD.op rfl rfl rfl (eff_load (y := .t _) rfl rfl ti35 rfl (.one rfl rfl rfl rfl)) ?_
  refine RD.op rfl rfl rfl (eff_move (v := .t _) rfl rfl rfl) ?_
  refine RD.op rfl rfl rfl (eff_callT (sameStates_ret L4 (by decide)) co25 rfl rfl rfl rfl) ?_
  refine RD.op rfl rfl rfl (eff_move (v := .t _) rfl rfl rfl) ?_
  refine RD.gop rfl rfl rfl rfl rfl rfl rfl (eff_fieldAddr rfl rfl tf37_1 (by decide) rfl rfl rfl (Nat.le_of_ble_eq_true rfl)) ?_
  refine RD.gop rfl rfl rfl rfl rfl rfl rfl (eff_load (y := .t _) rfl rfl ti35 rfl (.one rfl rfl rfl rfl)) ?_
  refine RD.gop rfl rfl rfl rfl rfl rfl rfl (eff_move (v := .t _) rfl rfl rfl) ?_
  refine RD.gop rfl rfl rfl rfl rfl rfl rfl (eff_sliceM (g := encR) (xs := L4) (l := some 2) (h := none) (r := [⟨1, 0, 1, false⟩, ⟨2, 0, 2, false⟩]) rfl rfl te35 rfl (fun _ => rfl) (.yes rfl rfl) .no (by decide) (by decide) (by decide)) ?_
  refine RD.gop rfl rfl rfl rfl rfl rfl rfl (eff_callT (sameStates_ret [⟨1, 0, 1, false⟩, ⟨2, 0, 2, false⟩] (by decide)) co25 rfl rfl rfl rfl) ?_
  refine RD.op rfl rfl rfl (eff_pick (v := .t _) rfl rfl rfl rfl) ?_
  refine RD.op rfl rfl rfl (eff_move (v := .t _) rfl rfl rfl) ?_
  refine RD.gop rfl rfl rfl rfl rfl rfl rfl (eff_fieldAddr rfl rfl tf37_0 (by decide) rfl rfl rfl (Nat.le_of_ble_eq_true rfl)) ?_
  refine RD.gop rfl rfl rfl rfl rfl rfl rfl (eff_load (y := .t _) rfl rfl ti34 rfl (.one rfl rfl rfl rfl)) ?_
  refine RD.gop rfl rfl rfl rfl rfl rfl rfl (eff_lenM rfl rfl te34 rfl) ?_
  refine RD.gop rfl rfl rfl rfl rfl rfl rfl (eff_iop (r := .bool true) rfl rfl rfl rfl (by rfl)) ?_
  refine RD.op rfl rfl rfl (eff_pick (v := .t _) rfl rfl rfl rfl) ?_
  refine RD.op rfl rfl rfl (eff_assign (v := .t _) rfl rfl rfl) ?_
  refine RD.nil ?_
  refine awp_ret ?_
  first
    | exact ⟨Or.inr rfl, [_], ⟨.tmp (.t _), trivial⟩, .refl _⟩
    | exact ⟨Or.inr rfl, [_], ⟨.tmp (.t _), trivial⟩, (by repeat' first | exact trivial | exact Wk.refl _ | exact Wk.sl _ | refine And.intro ?_ ?_ | refine Wk.tupP ?_ | refine Wk.aggP ?_)⟩
    | exact ⟨Or.inr rfl, [_], ⟨.tmp (Res.ownT rfl rfl rfl rfl), trivial⟩, .refl _⟩
    | exact ⟨Or.inr rfl, [_], ⟨.tmp (Res.ownT rfl rfl rfl rfl), trivial⟩, (by repeat' first | exact trivial | exact Wk.refl _ | exact Wk.sl _ | refine And.intro ?_ ?_ | refine Wk.tupP ?_ | refine Wk.aggP ?_)⟩

end Go.Tv.C34

end
section
open Go Go.Tv Go.Proofs
namespace Go.Tv.C34

structure Good (l : List Int) (m : Nat) (T : Twn) : Prop where
  srt : Srt T.poss
  hp : ∀ y, y ∈ T.poss → HP y
  len : T.poss.length ≤ 256
  ne : 0 < T.poss.length
  bod : ∀ x, x ∈ T.sent → x.body.length ≤ 1000000
  last : ∀ x, T.sent.getLast? = some x → ∃ j, j < (frames l m).length ∧ x.key = keyAt l j ∧ T.sent.length ≤ j + 1
theorem Good.sent {l m T} (h : Good l m T) : T.sent.length ≤ (frames l m).length := by
  rcases e : T.sent.getLast? with _ | x
  · rw [List.getLast?_eq_none_iff.1 e]; exact Nat.zero_le _
  · obtain ⟨j, hj, _, hs⟩ := h.last x e; omega
theorem good0 (l : List Int) (m : Nat) : Good l m ⟨[], [zr]⟩ where
  srt := srt0
  hp := hp0
  len := by decide
  ne := by decide
  bod := by intro x hx; cases hx
  last := by intro x hx; cases hx

/-- A step's answer: the twin stays good, or there is an error and the twin is empty. -/
def StepOK (l : List Int) (m : Nat) (p : Twn × Int) : Prop := (p.2 = 0 → Good l m p.1) ∧ (p.2 ≠ 0 → p.1 = zt)

theorem stepF_ne {out : List Rep} {f : Frm} (h : 0 < out.length) : 0 < (stepF out f).length :=
  List.length_pos_of_mem ((stepI_mem (f := f) out out out[0]).2 (.inl (List.getElem_mem h)))
theorem frames_bod {l : List Int} {m : Nat} {f : Frm} (h : f ∈ frames l m) : f.body.length ≤ 1000000 := by
  obtain ⟨j, _, rfl⟩ := frames_mem h
  rw [frame_body]; decide
theorem send_step {l m T} (h : Good l m T) {f : Frm} (hf : f ∈ frames l m) : StepOK l m (send T f) := by
  unfold send
  split
  · exact ⟨fun e => by simp at e, fun _ => rfl⟩
  · rename_i hlt
    split
    · exact ⟨fun e => by simp at e, fun _ => rfl⟩
    · rename_i hle
      refine ⟨fun _ => ⟨srt_stepF h.srt, stepF_hp h.hp, by show (stepF T.poss f).length ≤ 256; omega, stepF_ne h.ne, ?_, ?_⟩, fun e => absurd rfl e⟩
      · intro x hx
        rcases List.mem_append.1 hx with hx | hx
        · exact h.bod x hx
        · rw [List.mem_singleton.1 hx]; exact frames_bod hf
      · intro x hx
        obtain ⟨j, hj, rfl⟩ := frames_mem hf
        obtain rfl : frameAt l j = x := by simpa using hx
        refine ⟨j, by rw [frames_len]; exact hj, frame_key l j, ?_⟩
        rw [List.length_append, List.length_singleton]
        rcases e : T.sent.getLast? with _ | x
        · rw [List.getLast?_eq_none_iff.1 e]; simp
        · obtain ⟨i, hi, hk, hs⟩ := h.last x e
          have hlt2 : ¬ x.key ≥ (frameAt l j).key := by
            intro hge; apply hlt; unfold late; rw [e]; exact decide_eq_true hge
          rw [frame_key, hk] at hlt2
          rcases Nat.lt_or_ge i j with hij | hij
          · omega
          · rcases Nat.lt_or_ge j i with hji | hji
            · have := keyAt_mono l hji; omega
            · obtain rfl : i = j := by omega
              omega
end Go.Tv.C34

end
section
open Go Go.Tv Go.Proofs
namespace Go.Tv.C34
/-! ### Limits -/
def lf (i : Nat) : Frm := ⟨1 + (i : Int), (i : Int), false, [], 0⟩
def chk : Nat → Nat → Twn → Bool
  | 0, i, T => decide (send T (lf i) = (zt, 2))
  | k + 1, i, T => let p := send T (lf i); p.2 == 0 && p.1.poss.length == 2 ^ (i + 1) && p.1.sent.length == i + 1 && chk k (i + 1) p.1
end Go.Tv.C34

end
section
open Go Go.Tv Go.Proofs
namespace Go.Tv.C34

/-! ### Limits -/
structure LimG (i : Nat) (T : Twn) : Prop where
  srt : Srt T.poss
  hp : ∀ y, y ∈ T.poss → HP y
  len : T.poss.length = 2 ^ i
  sl : T.sent.length = i
  bod : ∀ x, x ∈ T.sent → x.body.length ≤ 1000000
  ok : chk (8 - i) i T = true
/-! ### Reads -/
/-! ### Sound -/
theorem stepF_self {f : Frm} {out : List Rep} {x : Rep} (h : x ∈ out) : x ∈ stepF out f := (stepI_mem out out x).2 (.inl h)
theorem reachF_self : ∀ (l : List Frm) (out : List Rep) (x : Rep), x ∈ out → x ∈ l.foldl stepF out
  | [], _, _, h => h
  | f :: l, out, x, h => reachF_self l (stepF out f) x (stepF_self h)
theorem reach_self (x : Rep) (l : List Frm) : x ∈ reachF x l := reachF_self l [x] x (List.mem_singleton.2 rfl)
theorem hear_mem {t : Twn} {r : Rep} (h : r ∈ t.poss) : (hear t r).2 = 0 := by
  have : r ∈ left_ t r := List.mem_filter.2 ⟨h, decide_eq_true (reach_self r _)⟩
  unfold hear
  rw [if_neg (fun e => by rw [e] at this; cases this)]
theorem hear_err {t : Twn} {r : Rep} (h : (hear t r).2 ≠ 0) : (hear t r).2 = 45 := by
  unfold hear at h ⊢
  split
  · rfl
  · rename_i hn; rw [if_neg hn] at h; exact absurd rfl h
theorem hear_hear {t : Twn} {r : Rep} (h : (hear t r).2 = 0) : hear (hear t r).1 r = ((hear t r).1, 0) := by
  have hn : left_ t r ≠ [] := by
    intro e; unfold hear at h; rw [if_pos e] at h; simp at h
  have e1 : hear t r = (⟨t.sent, left_ t r⟩, 0) := by unfold hear; rw [if_neg hn]
  have e2 : left_ ⟨t.sent, left_ t r⟩ r = left_ t r := by
    show (List.filter _ (List.filter _ t.poss)) = _
    rw [List.filter_filter]
    simp only [Bool.and_self]
    rfl
  rw [e1]
  show hear ⟨t.sent, left_ t r⟩ r = _
  unfold hear
  rw [e2, if_neg hn]
theorem hear_sub {t : Twn} {r x : Rep} (h : x ∈ (hear t r).1.poss) : x ∈ t.poss := by
  unfold hear at h
  split at h
  · cases h
  · exact (List.mem_filter.1 h).1
theorem hear_len {t : Twn} {r : Rep} : (hear t r).1.poss.length ≤ t.poss.length := by
  unfold hear
  split
  · exact Nat.zero_le _
  · exact List.length_filter_le _ _
theorem send_poss {t : Twn} {f : Frm} (h : (send t f).2 = 0) : (send t f).1.poss = stepF t.poss f := by
  unfold send at h ⊢
  split
  · rename_i hc; rw [if_pos hc] at h; simp at h
  · rename_i hc; rw [if_neg hc] at h
    split
    · rename_i hd; rw [if_pos hd] at h; simp at h
    · rfl
theorem elR {l : List Rep} {i : Nat} (h : i < l.length) : ((l.map encR).map AV.t)[i]? = some (.t (encR l[i])) := by simp [h]
section
variable {P : Program} {D : St} {o : Oper}
end
end Go.Tv.C34

end
section
open Go Go.Tv Go.Proofs
namespace Go.Tv.C34
set_option maxRecDepth 20000
set_option maxHeartbeats 2000000
set_option linter.unusedSimpArgs false
set_option linter.unusedVariables false
theorem tcontains_mem (t : Twn) (r : Rep) (hl : t.poss.length ≤ 1000000) (hm : r ∈ t.poss) : Ret Tryd.prog 29 [encT t, encR r] (.bool true) := by
  have h := tcontains_ret t r hl; rwa [decide_eq_true hm] at h
theorem has_mem (l : List Rep) (r : Rep) (hl : l.length ≤ 1000000) (hm : r ∈ l) : Ret Tryd.prog 28 [.sl (l.map encR) false, encR r] (.bool true) := by
  have h := has_ret l r hl; rwa [decide_eq_true hm] at h
theorem hear_again (t : Twn) (r : Rep) (hr : HP r) (hl : t.poss.length ≤ 1000) (hs : t.sent.length ≤ 1000) (hb : ∀ x, x ∈ t.sent → x.body.length ≤ 1000000) (he : (hear t r).2 = 0) (hq : (hear t r).1.sent = t.sent) : RetT Tryd.prog 22 [(1, deT)] [encT (hear t r).1, encR r] (.tup [encT (hear t r).1, encI 0]) := by
  have h := thear_ret (hear t r).1 r hr (Nat.le_trans hear_len hl) (by rw [hq]; exact hs) (by rw [hq]; exact hb)
  rwa [hear_hear he] at h

end Go.Tv.C34

end
section
open Go Go.Tv Go.Proofs
namespace Go.Tv.C34
set_option maxRecDepth 20000
set_option maxHeartbeats 2000000
set_option linter.unusedSimpArgs false
set_option linter.unusedVariables false
end Go.Tv.C34

end
section
open Go Go.Tv Go.Proofs
namespace Go.Tv.C34
set_option maxRecDepth 20000
set_option maxHeartbeats 2000000
set_option linter.unusedSimpArgs false
set_option linter.unusedVariables false
theorem hear_sent {t : Twn} {r : Rep} (h : (hear t r).2 = 0) : (hear t r).1.sent = t.sent := by
  unfold hear at h ⊢
  split
  · rename_i e; rw [if_pos e] at h; simp at h
  · rfl
theorem aroundQ (n : Int) (m q : Nat) (hn : I64 n) (hm : 0 < m ∧ m ≤ 1000000) (hq : around n (m : Int) = (q : Int)) : Ret Tryd.prog 13 [encI n, encI (m : Nat)] (encI (q : Nat)) := by
  have h := around_ret n (m : Int) hn (by omega); rwa [hq] at h

theorem law7 (l : List Int) (nx hv ky kk : Int) (hI : ∀ x, x ∈ l → I64 x) (hl : l.length ≤ 9223372036854775807) (hnx : I64 nx) (hhv : I64 hv) (hky : I64 ky) (hkk : I64 kk) : RetT Tryd.prog 7 [(1, deT)] [.sl (l.map encI) false, encI nx, encI hv, encI ky, encI kk] (.bool true) := by
  refine retT_of_awp Tryd.func7 rfl (Nat.le_of_ble_eq_true rfl) ?_
  refine awp_seq ?_
  refine awp_rw rfl ?_
  refine RW.op rfl rfl (eff_assign (v := .t _) rfl rfl rfl) ?_
  refine RW.nil ?_
  refine awp_seq ?_
  refine awp_rw rfl ?_
  refine RW.op rfl rfl (eff_callT (new17_ret) co17 rfl rfl rfl rfl) ?_
  refine RW.new rfl rfl (eff_allocK (k := 2) (id := 11) rfl rfl tz37 rfl rfl) ?_
  refine RW.store rfl rfl (eff_storeW (v := .t _) (els := [_]) (els' := [_]) rfl rfl ti37 rfl rfl rfl rfl rfl rfl rfl rfl rfl) ?_
  refine RW.nil ?_
  refine awp_seq ?_
  refine awp_rw rfl ?_
  refine RW.op rfl rfl (eff_move (v := .t _) rfl rfl rfl) ?_
  refine RW.op rfl rfl (eff_callT (frames_ret l 7 hI hl (by decide)) co19 rfl rfl rfl rfl) ?_
  refine RW.op rfl rfl (eff_assign (v := .t _) rfl rfl rfl) ?_
  refine RW.nil ?_
  refine awp_seq ?_
  refine awp_seq ?_
  refine awp_rw rfl ?_
  refine RW.op rfl rfl (eff_assign (v := .t _) rfl rfl rfl) ?_
  refine RW.nil ?_
  refine awp_block ?_
  refine awp_loopW (fun m s => ∃ (i : Nat) (T : Twn), (i ≤ (frames l 7).length) ∧ (Good l 7 T) ∧ (T.poss = reachF zr ((frames l 7).take i)) ∧ m = (frames l 7).length - i ∧ s = ⟨146, [(1, .t (encI nx)), (2, .t (encI hv)), (3, .t (encI ky)), (4, .t (encI kk)), (11, .ptr 11 0 0 0), (12, .t (.sl ((frames l 7).map encF) false)), (13, .t (encI (i : Nat))), (147, .t deT)], [(11, some ⟨2, 37, 0, [.t (encT T)]⟩)]⟩) (_) (⟨_, weak_keep (n := 146) (fr' := [(1, .t (encI nx)), (2, .t (encI hv)), (3, .t (encI ky)), (4, .t (encI kk)), (11, .ptr 11 0 0 0), (12, .t (.sl ((frames l 7).map encF) false)), (13, .t (encI (0 : Nat))), (147, .t deT)]) (st' := [(11, some ⟨2, 37, 0, [.t (encT _)]⟩)]) ⟨rfl, rfl, rfl, rfl, rfl, rfl, rfl, rfl, rfl, rfl, rfl, rfl, rfl, rfl, rfl, rfl, trivial⟩ ⟨rfl, okE_one rfl, trivial⟩, 0, _, (by omega), (by exact good0 _ _), (by rfl), rfl, rfl⟩) ?_
  rintro m s ⟨i, T, hi, hg, hrp, rfl, rfl⟩
  have hfl : (frames l 7).length ≤ 7 := by rw [frames_len]; omega
  have hg1 := hg.len
  have hg2 := hg.ne
  have hg3 := hg.sent
  refine awp_seq ?_
  refine awp_seq ?_
  refine awp_rw rfl ?_
  refine RW.op rfl rfl (eff_move (v := .t _) rfl rfl rfl) ?_
  refine RW.op rfl rfl (eff_move (v := .t _) rfl rfl rfl) ?_
  refine RW.op rfl rfl (eff_lenM rfl rfl te34 rfl) ?_
  refine RW.op rfl rfl (eff_iop rfl rfl rfl rfl rfl) ?_
  refine RW.nil ?_
  refine awp_cond rfl (fun h1 => ?_) (fun h1 => ?_)
  · try simp only [decide_eq_true_eq, decide_eq_false_iff_not, beq_iff_eq, bne_iff_ne, bne_eq_false_iff_eq, beq_eq_false_iff_ne, Bool.not_eq_true, Bool.not_eq_false, Bool.not_eq_true', Bool.not_eq_false', ne_eq] at h1
    refine awp_skip ?_
    refine awp_seq ?_
    refine awp_block ?_
    refine awp_seq ?_
    refine awp_rd [(some 35, []), (some 36, []), (some 37, []), (some 38, []), (some 39, []), (some 40, []), (some 34, []), (some 41, []), (some 42, []), (some 14, [14]), (none, [14]), (some 15, [])] [[], [], [], [1, 2], [1, 2, 3], [0, 1, 2, 3, 4], [0, 1, 2, 3, 4, 5], [0, 1, 2, 3, 4, 5, 6], [0, 1, 2, 3, 4, 5, 6], [], [0, 1, 2, 3, 4, 5, 6, 7, 9], [0, 1, 2, 3, 4, 5, 6, 7, 8, 9, 10]] tm rfl rfl rfl rfl ?_
    have hil : i < (frames l 7).length := by omega
    refine RD.op rfl rfl rfl (eff_load rfl rfl ti37 rfl (.whole rfl rfl rfl rfl rfl rfl)) ?_
    refine RD.op rfl rfl rfl (eff_move (v := .t _) rfl rfl rfl) ?_
    refine RD.op rfl rfl rfl (eff_move (v := .t _) rfl rfl rfl) ?_
    refine RD.op rfl rfl rfl (eff_indexM rfl rfl te34 rfl rfl rfl (by first | assumption | exact List.getElem?_eq_getElem (by omega)) rfl (by decide)) ?_
    refine RD.op rfl rfl rfl (eff_loadW rfl rfl ti30 rfl rfl rfl) ?_
    refine RD.op rfl rfl rfl (eff_callXT (tsend_ret T ((frames l 7)[i]'(by omega)) hg.srt hg.hp (by omega) (by omega) hg.bod (frames_bod (List.getElem_mem _))) co20 rfl rfl rfl ⟨rfl, trivial⟩ rfl) ?_
    refine RD.op rfl rfl rfl (eff_move (v := .t _) rfl rfl rfl) ?_
    refine RD.op rfl rfl rfl (eff_extract rfl rfl rfl rfl) ?_
    refine RD.op rfl rfl rfl (eff_extract rfl rfl rfl rfl) ?_
    refine RD.new rfl rfl rfl (eff_allocK (k := 2) (id := 14) rfl rfl tz37 rfl rfl) ?_
    refine RD.store rfl rfl rfl (eff_storeW (v := .t _) (els := [_]) (els' := [_]) rfl rfl ti37 rfl rfl rfl rfl rfl rfl rfl rfl rfl) ?_
    refine RD.op rfl rfl rfl (eff_assign (v := .t _) rfl rfl rfl) ?_
    refine RD.nil ?_
    refine awp_seq ?_
    refine awp_seq ?_
    refine awp_rw rfl ?_
    refine RW.op rfl rfl (eff_move (v := .t _) rfl rfl rfl) ?_
    refine RW.op rfl rfl (eff_iop rfl rfl rfl rfl rfl) ?_
    refine RW.nil ?_
    refine awp_cond rfl (fun h2 => ?_) (fun h2 => ?_)
    · try simp only [decide_eq_true_eq, decide_eq_false_iff_not, beq_iff_eq, bne_iff_ne, bne_eq_false_iff_eq, beq_eq_false_iff_ne, Bool.not_eq_true, Bool.not_eq_false, Bool.not_eq_true', Bool.not_eq_false', ne_eq] at h2
      refine awp_seq ?_
      refine awp_rw rfl ?_
      refine RW.op rfl rfl (eff_callXT (lives_ret) co16 rfl rfl rfl ⟨rfl, trivial⟩ rfl) ?_
      refine RW.op rfl rfl (eff_assign (v := .t _) rfl rfl rfl) ?_
      refine RW.nil ?_
      refine awp_ret ?_
      first
        | exact ⟨Or.inr rfl, [_], ⟨.tmp (.t _), trivial⟩, .refl _⟩
        | exact ⟨Or.inr rfl, [_], ⟨.tmp (.t _), trivial⟩, (by repeat' first | exact trivial | exact Wk.refl _ | exact Wk.sl _ | refine And.intro ?_ ?_ | refine Wk.tupP ?_ | refine Wk.aggP ?_)⟩
        | exact ⟨Or.inr rfl, [_], ⟨.tmp (Res.ownT rfl rfl rfl rfl), trivial⟩, .refl _⟩
        | exact ⟨Or.inr rfl, [_], ⟨.tmp (Res.ownT rfl rfl rfl rfl), trivial⟩, (by repeat' first | exact trivial | exact Wk.refl _ | exact Wk.sl _ | refine And.intro ?_ ?_ | refine Wk.tupP ?_ | refine Wk.aggP ?_)⟩
    · try simp only [decide_eq_true_eq, decide_eq_false_iff_not, beq_iff_eq, bne_iff_ne, bne_eq_false_iff_eq, beq_eq_false_iff_ne, Bool.not_eq_true, Bool.not_eq_false, Bool.not_eq_true', Bool.not_eq_false', ne_eq] at h2
      refine awp_skip ?_
      refine awp_rw rfl ?_
      refine RW.op rfl rfl (eff_load rfl rfl ti37 rfl (.whole rfl rfl rfl rfl rfl rfl)) ?_
      refine RW.store rfl rfl (eff_storeW (v := .t _) (els := [_]) (els' := [_]) rfl rfl ti37 rfl rfl rfl rfl rfl rfl rfl rfl rfl) ?_
      refine RW.nil ?_
      refine awp_rw rfl ?_
      refine RW.op rfl rfl (eff_move (v := .t _) rfl rfl rfl) ?_
      refine RW.op rfl rfl (eff_iop rfl rfl rfl rfl (iadd (by omega))) ?_
      refine RW.op rfl rfl (eff_assign (v := .t _) rfl rfl rfl) ?_
      refine RW.nil ?_
      refine ⟨_, ?_, _, weak_keep (n := 146) (fr' := [(1, .t (encI nx)), (2, .t (encI hv)), (3, .t (encI ky)), (4, .t (encI kk)), (11, .ptr 11 0 0 0), (12, .t (.sl ((frames l 7).map encF) false)), (13, .t (encI ((i + 1) : Nat))), (147, .t deT)]) (st' := [(11, some ⟨2, 37, 0, [.t (encT _)]⟩)]) ⟨rfl, rfl, rfl, rfl, rfl, rfl, rfl, rfl, rfl, rfl, rfl, rfl, rfl, rfl, rfl, rfl, trivial⟩ ⟨rfl, okE_one rfl, trivial⟩, i + 1, _, (by omega), (by exact (send_step hg (List.getElem_mem _)).1 (by assumption)), (by rw [send_poss (by assumption), hrp, reachF_take (by omega)]), rfl, rfl⟩
      omega
  · try simp only [decide_eq_true_eq, decide_eq_false_iff_not, beq_iff_eq, bne_iff_ne, bne_eq_false_iff_eq, beq_eq_false_iff_ne, Bool.not_eq_true, Bool.not_eq_false, Bool.not_eq_true', Bool.not_eq_false', ne_eq] at h1
    refine awp_exit ?_
    refine awp_seq ?_
    refine awp_seq ?_
    have hi2 : i = (frames l 7).length := by omega
    subst hi2
    rw [List.take_length] at hrp
    refine awp_rw rfl ?_
    refine RW.op rfl rfl (eff_fieldAddr rfl rfl tf37_1 (by decide) rfl rfl rfl (Nat.le_of_ble_eq_true rfl)) ?_
    refine RW.op rfl rfl (eff_load (y := .t _) rfl rfl ti35 rfl (.one rfl rfl rfl rfl)) ?_
    refine RW.op rfl rfl (eff_lenM rfl rfl te35 rfl) ?_
    refine RW.op rfl rfl (eff_iop (r := .bool false) rfl rfl rfl rfl (by simp only [iop]; rw [beq_eq_false_iff_ne.2 (by omega)])) ?_
    refine RW.nil ?_
    refine awp_cond rfl (fun h => nomatch h) (fun _ => ?_)
    refine awp_skip ?_
    refine awp_seq ?_
    refine awp_rw rfl ?_
    refine RW.op rfl rfl (eff_buildT (ys := [_, _, _, _]) rfl rfl tz23 tg23 rfl) ?_
    refine RW.op rfl rfl (eff_move (v := .t _) rfl rfl rfl) ?_
    refine RW.op rfl rfl (eff_callXT (treach_ret zr (frames l 7) ⟨by decide, by decide⟩ (by omega)) co26 rfl rfl rfl ⟨rfl, trivial⟩ rfl) ?_
    refine RW.op rfl rfl (eff_assign (v := .t _) rfl rfl rfl) ?_
    refine RW.nil ?_
    refine awp_seq ?_
    refine awp_seq ?_
    refine awp_rw rfl ?_
    refine RW.op rfl rfl (eff_assign (v := .t _) rfl rfl rfl) ?_
    refine RW.nil ?_
    refine awp_block ?_
    refine awp_loopW (fun m s => ∃ (j : Nat), (j ≤ T.poss.length) ∧ m = T.poss.length - j ∧ s = ⟨146, [(1, .t (encI nx)), (2, .t (encI hv)), (3, .t (encI ky)), (4, .t (encI kk)), (11, .ptr 11 0 0 0), (16, .t (.sl ((reachF zr (frames l 7)).map encR) false)), (17, .t (encI (j : Nat))), (147, .t deT)], [(11, some ⟨2, 37, 0, [.t (encT T)]⟩)]⟩) (_) (⟨_, weak_keep (n := 146) (fr' := [(1, .t (encI nx)), (2, .t (encI hv)), (3, .t (encI ky)), (4, .t (encI kk)), (11, .ptr 11 0 0 0), (16, .t (.sl ((reachF zr (frames l 7)).map encR) false)), (17, .t (encI (0 : Nat))), (147, .t deT)]) (st' := [(11, some ⟨2, 37, 0, [.t (encT T)]⟩)]) ⟨rfl, rfl, rfl, rfl, rfl, rfl, rfl, rfl, rfl, rfl, rfl, rfl, rfl, rfl, rfl, rfl, trivial⟩ ⟨rfl, okE_one rfl, trivial⟩, 0, (by omega), rfl, rfl⟩) ?_
    rintro m s ⟨j, hj, rfl, rfl⟩
    refine awp_seq ?_
    refine awp_seq ?_
    refine awp_rw rfl ?_
    refine RW.op rfl rfl (eff_move (v := .t _) rfl rfl rfl) ?_
    refine RW.op rfl rfl (eff_fieldAddr rfl rfl tf37_1 (by decide) rfl rfl rfl (Nat.le_of_ble_eq_true rfl)) ?_
    refine RW.op rfl rfl (eff_load (y := .t _) rfl rfl ti35 rfl (.one rfl rfl rfl rfl)) ?_
    refine RW.op rfl rfl (eff_lenM rfl rfl te35 rfl) ?_
    refine RW.op rfl rfl (eff_iop rfl rfl rfl rfl rfl) ?_
    refine RW.nil ?_
    refine awp_cond rfl (fun h3 => ?_) (fun h3 => ?_)
    · try simp only [decide_eq_true_eq, decide_eq_false_iff_not, beq_iff_eq, bne_iff_ne, bne_eq_false_iff_eq, beq_eq_false_iff_ne, Bool.not_eq_true, Bool.not_eq_false, Bool.not_eq_true', Bool.not_eq_false', ne_eq] at h3
      refine awp_skip ?_
      refine awp_seq ?_
      refine awp_block ?_
      refine awp_seq ?_
      refine awp_rw rfl ?_
      refine RW.op rfl rfl (eff_move (v := .t _) rfl rfl rfl) ?_
      refine RW.op rfl rfl (eff_fieldAddr rfl rfl tf37_1 (by decide) rfl rfl rfl (Nat.le_of_ble_eq_true rfl)) ?_
      refine RW.op rfl rfl (eff_load (y := .t _) rfl rfl ti35 rfl (.one rfl rfl rfl rfl)) ?_
      refine RW.op rfl rfl (eff_move (v := .t _) rfl rfl rfl) ?_
      refine RW.op rfl rfl (eff_indexM rfl rfl te35 rfl rfl rfl (by first | assumption | exact List.getElem?_eq_getElem (by omega)) rfl (by decide)) ?_
      refine RW.op rfl rfl (eff_loadW rfl rfl ti23 rfl rfl rfl) ?_
      refine RW.op rfl rfl (eff_callT (has_mem (reachF zr (frames l 7)) (T.poss[j]'(by omega)) (by rw [← hrp]; omega) (by rw [← hrp]; exact List.getElem_mem _)) co28 rfl rfl rfl rfl) ?_
      refine RW.op rfl rfl (eff_unop rfl rfl rfl rfl) ?_
      refine RW.nil ?_
      refine awp_cond rfl (fun h => nomatch h) (fun _ => ?_)
      refine awp_skip ?_
      refine awp_rw rfl ?_
      refine RW.op rfl rfl (eff_move (v := .t _) rfl rfl rfl) ?_
      refine RW.op rfl rfl (eff_iop rfl rfl rfl rfl (iadd (by omega))) ?_
      refine RW.op rfl rfl (eff_assign (v := .t _) rfl rfl rfl) ?_
      refine RW.nil ?_
      refine ⟨_, ?_, _, weak_keep (n := 146) (fr' := [(1, .t (encI nx)), (2, .t (encI hv)), (3, .t (encI ky)), (4, .t (encI kk)), (11, .ptr 11 0 0 0), (16, .t (.sl ((reachF zr (frames l 7)).map encR) false)), (17, .t (encI ((j + 1) : Nat))), (147, .t deT)]) (st' := [(11, some ⟨2, 37, 0, [.t (encT T)]⟩)]) ⟨rfl, rfl, rfl, rfl, rfl, rfl, rfl, rfl, rfl, rfl, rfl, rfl, rfl, rfl, rfl, rfl, trivial⟩ ⟨rfl, okE_one rfl, trivial⟩, j + 1, (by omega), rfl, rfl⟩
      omega
    · try simp only [decide_eq_true_eq, decide_eq_false_iff_not, beq_iff_eq, bne_iff_ne, bne_eq_false_iff_eq, beq_eq_false_iff_ne, Bool.not_eq_true, Bool.not_eq_false, Bool.not_eq_true', Bool.not_eq_false', ne_eq] at h3
      refine awp_exit ?_
      refine awp_seq ?_
      refine awp_rd [(some 69, []), (some 70, []), (some 71, []), (some 72, []), (some 73, []), (some 74, []), (some 75, []), (some 76, []), (some 77, []), (some 78, []), (some 79, []), (some 80, []), (some 81, []), (some 82, [82]), (some 18, [])] [[], [], [], [0, 1, 2], [], [4], [], [], [7], [7, 8], [0, 1, 2, 3, 6, 7, 8, 9], [0, 1, 2, 3, 4, 5, 6, 7, 8, 9, 10], [0, 1, 2, 3, 4, 5, 6, 7, 8, 9, 10, 11], [0, 1, 2, 3, 4, 5, 6, 7, 8, 9, 10, 11, 12], [0, 1, 2, 3, 4, 5, 6, 7, 8, 9, 10, 11, 12, 13]] tm rfl rfl rfl rfl ?_
      obtain ⟨q, hq, hql⟩ : ∃ q : Nat, around kk (T.poss.length : Int) = (q : Int) ∧ q < T.poss.length := ⟨(around kk (T.poss.length : Int)).toNat, by have := around_range (n := kk) (m := (T.poss.length : Int)) (by omega); omega, by have := around_range (n := kk) (m := (T.poss.length : Int)) (by omega); omega⟩
      refine RD.op rfl rfl rfl (eff_move (v := .t _) rfl rfl rfl) ?_
      refine RD.op rfl rfl rfl (eff_move (v := .t _) rfl rfl rfl) ?_
      refine RD.op rfl rfl rfl (eff_move (v := .t _) rfl rfl rfl) ?_
      refine RD.op rfl rfl rfl (eff_callT (state_ret nx hv ky false hnx hhv hky) co12 rfl rfl rfl rfl) ?_
      refine RD.op rfl rfl rfl (eff_fieldAddr rfl rfl tf37_1 (by decide) rfl rfl rfl (Nat.le_of_ble_eq_true rfl)) ?_
      refine RD.op rfl rfl rfl (eff_load (y := .t _) rfl rfl ti35 rfl (.one rfl rfl rfl rfl)) ?_
      refine RD.op rfl rfl rfl (eff_move (v := .t _) rfl rfl rfl) ?_
      refine RD.op rfl rfl rfl (eff_fieldAddr rfl rfl tf37_1 (by decide) rfl rfl rfl (Nat.le_of_ble_eq_true rfl)) ?_
      refine RD.op rfl rfl rfl (eff_load (y := .t _) rfl rfl ti35 rfl (.one rfl rfl rfl rfl)) ?_
      refine RD.op rfl rfl rfl (eff_lenM rfl rfl te35 rfl) ?_
      refine RD.op rfl rfl rfl (eff_callT (aroundQ kk T.poss.length q hkk (by omega) hq) co13 rfl rfl rfl rfl) ?_
      refine RD.op rfl rfl rfl (eff_indexM rfl rfl te35 rfl rfl rfl (by first | assumption | exact List.getElem?_eq_getElem (by omega)) rfl (by decide)) ?_
      refine RD.op rfl rfl rfl (eff_loadW rfl rfl ti23 rfl rfl rfl) ?_
      refine RD.new rfl rfl rfl (eff_buildSliceL (id := 82) (els := [.t (.agg [_, _, _, _]), .t (.agg [_, _, _, _])]) rfl rfl te35 tz23 rfl (by decide) (by decide) rfl rfl rfl rfl) ?_
      refine RD.op rfl rfl rfl (eff_assign (v := .own _ _ _ _) rfl rfl rfl) ?_
      refine RD.nil ?_
      refine awp_seq ?_
      refine awp_seq ?_
      refine awp_rw rfl ?_
      refine RW.op rfl rfl (eff_assign (v := .t _) rfl rfl rfl) ?_
      refine RW.nil ?_
      refine awp_block ?_
      refine awp_loopW (fun m s => ∃ (k : Nat) (rs : List Rep), (k ≤ 2) ∧ (rs.length = 2) ∧ (∀ r, r ∈ rs → HP r) ∧ (∀ h : 1 < rs.length, rs[1] ∈ T.poss) ∧ m = 2 - k ∧ s = ⟨146, [(11, .ptr 11 0 0 0), (18, .own 82 0 0 rs.length), (19, .t (encI (k : Nat))), (147, .t deT)], [(11, some ⟨2, 37, 0, [.t (encT T)]⟩), (82, some ⟨4, 23, 0, (rs.map encR).map .t⟩)]⟩) (_) (⟨_, weak_keep (n := 146) (fr' := [(11, .ptr 11 0 0 0), (18, .own 82 0 0 ([state nx hv ky false, T.poss[q]'hql]).length), (19, .t (encI (0 : Nat))), (147, .t deT)]) (st' := [(11, some ⟨2, 37, 0, [.t (encT T)]⟩), (82, some ⟨4, 23, 0, (([state nx hv ky false, T.poss[q]'hql]).map encR).map .t⟩)]) ⟨rfl, rfl, rfl, rfl, rfl, rfl, rfl, rfl, trivial⟩ ⟨rfl, okE_one rfl, rfl, okE_t, trivial⟩, 0, [state nx hv ky false, T.poss[q]'hql], (by omega), (by rfl), (by intro r hr; simp only [List.mem_cons, List.not_mem_nil, or_false] at hr; rcases hr with rfl | rfl; exact state_hp _ _ _ _; exact hg.hp _ (List.getElem_mem _)), (by intro h; exact List.getElem_mem _), rfl, rfl⟩) ?_
      rintro m s ⟨k, rs, hk, hrl, hrh, hrm, rfl, rfl⟩
      refine awp_seq ?_
      refine awp_seq ?_
      refine awp_rw rfl ?_
      refine RW.op rfl rfl (eff_move (v := .t _) rfl rfl rfl) ?_
      refine RW.op rfl rfl (eff_iop rfl rfl rfl rfl rfl) ?_
      refine RW.nil ?_
      refine awp_cond rfl (fun h4 => ?_) (fun h4 => ?_)
      · try simp only [decide_eq_true_eq, decide_eq_false_iff_not, beq_iff_eq, bne_iff_ne, bne_eq_false_iff_eq, beq_eq_false_iff_ne, Bool.not_eq_true, Bool.not_eq_false, Bool.not_eq_true', Bool.not_eq_false', ne_eq] at h4
        refine awp_skip ?_
        refine awp_seq ?_
        refine awp_block ?_
        refine awp_seq ?_
        refine awp_rd [(some 88, []), (some 89, []), (some 90, []), (some 91, []), (some 92, []), (some 93, []), (some 87, []), (some 94, []), (some 95, []), (some 20, [20]), (none, [20]), (some 21, [])] [[], [], [], [1, 2], [1, 2, 3], [0, 1, 2, 3, 4], [0, 1, 2, 3, 4, 5], [0, 1, 2, 3, 4, 5, 6], [0, 1, 2, 3, 4, 5, 6], [], [0, 1, 2, 3, 4, 5, 6, 7, 9], [0, 1, 2, 3, 4, 5, 6, 7, 8, 9, 10]] tm rfl rfl rfl rfl ?_
        refine RD.op rfl rfl rfl (eff_load rfl rfl ti37 rfl (.whole rfl rfl rfl rfl rfl rfl)) ?_
        refine RD.op rfl rfl rfl (eff_move (v := .own _ _ _ _) rfl rfl rfl) ?_
        refine RD.op rfl rfl rfl (eff_move (v := .t _) rfl rfl rfl) ?_
        refine RD.op rfl rfl rfl (eff_indexAddr rfl rfl te35 rfl rfl rfl rfl rfl rfl (by omega)) ?_
        refine RD.op rfl rfl rfl (eff_load (y := .t (encR (rs[k]'(by omega)))) rfl rfl ti23 rfl (.whole rfl rfl (by rw [Nat.zero_add]; exact elR (by omega)) rfl rfl rfl)) ?_
        refine RD.op rfl rfl rfl (eff_callXT (thear_ret T (rs[k]'(by omega)) (hrh _ (List.getElem_mem _)) (by omega) (by omega) hg.bod) co22 rfl rfl rfl ⟨rfl, trivial⟩ rfl) ?_
        refine RD.op rfl rfl rfl (eff_move (v := .t _) rfl rfl rfl) ?_
        refine RD.op rfl rfl rfl (eff_extract rfl rfl rfl rfl) ?_
        refine RD.op rfl rfl rfl (eff_extract rfl rfl rfl rfl) ?_
        refine RD.new rfl rfl rfl (eff_allocK (k := 2) (id := 20) rfl rfl tz37 rfl rfl) ?_
        refine RD.store rfl rfl rfl (eff_storeW (v := .t _) (els := [_]) (els' := [_]) rfl rfl ti37 rfl rfl rfl rfl rfl rfl rfl rfl rfl) ?_
        refine RD.op rfl rfl rfl (eff_assign (v := .t _) rfl rfl rfl) ?_
        refine RD.nil ?_
        refine awp_seq ?_
        refine awp_seq ?_
        by_cases hc5 : (hear T (rs[k]'(by omega))).2 = 0
        · refine awp_rw rfl ?_
          refine RW.op rfl rfl (eff_move (v := .t _) rfl rfl rfl) ?_
          refine RW.op rfl rfl (eff_iop (r := .bool false) rfl rfl rfl rfl (by simp [iop, hc5])) ?_
          refine RW.nil ?_
          refine awp_cond rfl (fun h => nomatch h) (fun _ => ?_)
          refine awp_skip ?_
          refine awp_seq ?_
          refine awp_rd [(some 105, []), (some 106, []), (some 107, []), (some 108, []), (some 109, []), (some 110, []), (some 104, []), (some 111, []), (some 112, []), (some 22, [22]), (none, [22]), (some 23, [])] [[], [], [], [1, 2], [1, 2, 3], [0, 1, 2, 3, 4], [0, 1, 2, 3, 4, 5], [0, 1, 2, 3, 4, 5, 6], [0, 1, 2, 3, 4, 5, 6], [], [0, 1, 2, 3, 4, 5, 6, 7, 9], [0, 1, 2, 3, 4, 5, 6, 7, 8, 9, 10]] tm rfl rfl rfl rfl ?_
          have hhe := hc5
          have hql2 := hear_len (t := T) (r := (rs[k]'(by omega)))
          have hsn : (hear T (rs[k]'(by omega))).1.sent = T.sent := hear_sent hhe
          refine RD.op rfl rfl rfl (eff_load rfl rfl ti37 rfl (.whole rfl rfl rfl rfl rfl rfl)) ?_
          refine RD.op rfl rfl rfl (eff_move (v := .own _ _ _ _) rfl rfl rfl) ?_
          refine RD.op rfl rfl rfl (eff_move (v := .t _) rfl rfl rfl) ?_
          refine RD.op rfl rfl rfl (eff_indexAddr rfl rfl te35 rfl rfl rfl rfl rfl rfl (by omega)) ?_
          refine RD.op rfl rfl rfl (eff_load (y := .t (encR (rs[k]'(by omega)))) rfl rfl ti23 rfl (.whole rfl rfl (by rw [Nat.zero_add]; exact elR (by omega)) rfl rfl rfl)) ?_
          refine RD.op rfl rfl rfl (eff_callXT (hear_again T (rs[k]'(by omega)) (hrh _ (List.getElem_mem _)) (by omega) (by omega) hg.bod hhe hsn) co22 rfl rfl rfl ⟨rfl, trivial⟩ rfl) ?_
          refine RD.op rfl rfl rfl (eff_move (v := .t _) rfl rfl rfl) ?_
          refine RD.op rfl rfl rfl (eff_extract rfl rfl rfl rfl) ?_
          refine RD.op rfl rfl rfl (eff_extract rfl rfl rfl rfl) ?_
          refine RD.new rfl rfl rfl (eff_allocK (k := 2) (id := 22) rfl rfl tz37 rfl rfl) ?_
          refine RD.store rfl rfl rfl (eff_storeW (v := .t _) (els := [_]) (els' := [_]) rfl rfl ti37 rfl rfl rfl rfl rfl rfl rfl rfl rfl) ?_
          refine RD.op rfl rfl rfl (eff_assign (v := .t _) rfl rfl rfl) ?_
          refine RD.nil ?_
          refine awp_seq ?_
          refine awp_seq ?_
          refine awp_rw rfl ?_
          refine RW.op rfl rfl (eff_move (v := .t _) rfl rfl rfl) ?_
          refine RW.op rfl rfl (eff_iop (r := .bool false) rfl rfl rfl rfl (by rfl)) ?_
          refine RW.op rfl rfl (eff_move (v := .t _) rfl rfl rfl) ?_
          refine RW.gop rfl rfl rfl rfl rfl rfl (eff_load rfl rfl ti37 rfl (.whole rfl rfl rfl rfl rfl rfl)) ?_
          refine RW.gop rfl rfl rfl rfl rfl rfl (eff_load rfl rfl ti37 rfl (.whole rfl rfl rfl rfl rfl rfl)) ?_
          refine RW.gop rfl rfl rfl rfl rfl rfl (eff_callT (same_ret (hear T (rs[k]'(by omega))).1 (by rw [hsn]; omega) (by omega)) co24 rfl rfl rfl rfl) ?_
          refine RW.gop rfl rfl rfl rfl rfl rfl (eff_unop rfl rfl rfl rfl) ?_
          refine RW.op rfl rfl (eff_pick (v := .t _) rfl rfl rfl rfl) ?_
          refine RW.op rfl rfl (eff_move (v := .t _) rfl rfl rfl) ?_
          refine RW.gop rfl rfl rfl rfl rfl rfl (eff_fieldAddr rfl rfl tf37_1 (by decide) rfl rfl rfl (Nat.le_of_ble_eq_true rfl)) ?_
          refine RW.gop rfl rfl rfl rfl rfl rfl (eff_load (y := .t _) rfl rfl ti35 rfl (.one rfl rfl rfl rfl)) ?_
          refine RW.gop rfl rfl rfl rfl rfl rfl (eff_lenM rfl rfl te35 rfl) ?_
          refine RW.gop rfl rfl rfl rfl rfl rfl (eff_fieldAddr rfl rfl tf37_1 (by decide) rfl rfl rfl (Nat.le_of_ble_eq_true rfl)) ?_
          refine RW.gop rfl rfl rfl rfl rfl rfl (eff_load (y := .t _) rfl rfl ti35 rfl (.one rfl rfl rfl rfl)) ?_
          refine RW.gop rfl rfl rfl rfl rfl rfl (eff_lenM rfl rfl te35 rfl) ?_
          refine RW.gop rfl rfl rfl rfl rfl rfl (eff_iop (r := .bool false) rfl rfl rfl rfl (by simp only [iop]; rw [decide_eq_false (by omega)])) ?_
          refine RW.op rfl rfl (eff_pick (v := .t _) rfl rfl rfl rfl) ?_
          refine RW.nil ?_
          refine awp_cond rfl (fun h => nomatch h) (fun _ => ?_)
          refine awp_skip ?_
          refine awp_seq ?_
          refine awp_rw rfl ?_
          refine RW.op rfl rfl (eff_assign (v := .t _) rfl rfl rfl) ?_
          refine RW.nil ?_
          refine awp_block ?_
          refine awp_loopW (fun m s => ∃ (v : Nat), (v ≤ (hear T (rs[k]'(by omega))).1.poss.length) ∧ m = (hear T (rs[k]'(by omega))).1.poss.length - v ∧ s = ⟨146, [(11, .ptr 11 0 0 0), (18, .own 82 0 0 rs.length), (19, .t (encI (k : Nat))), (20, .ptr 20 0 0 0), (24, .t (encI (v : Nat))), (147, .t deT)], [(11, some ⟨2, 37, 0, [.t (encT T)]⟩), (82, some ⟨4, 23, 0, (rs.map encR).map .t⟩), (20, some ⟨2, 37, 0, [.t (encT (hear T (rs[k]'(by omega))).1)]⟩)]⟩) (_) (⟨_, weak_keep (n := 146) (fr' := [(11, .ptr 11 0 0 0), (18, .own 82 0 0 rs.length), (19, .t (encI (k : Nat))), (20, .ptr 20 0 0 0), (24, .t (encI (0 : Nat))), (147, .t deT)]) (st' := [(11, some ⟨2, 37, 0, [.t (encT T)]⟩), (82, some ⟨4, 23, 0, (rs.map encR).map .t⟩), (20, some ⟨2, 37, 0, [.t (encT (hear T (rs[k]'(by omega))).1)]⟩)]) ⟨rfl, rfl, rfl, rfl, rfl, rfl, rfl, rfl, rfl, rfl, rfl, rfl, trivial⟩ ⟨rfl, okE_one rfl, rfl, okE_t, rfl, okE_one rfl, trivial⟩, 0, (by omega), rfl, rfl⟩) ?_
          rintro m s ⟨v, hv6, rfl, rfl⟩
          refine awp_seq ?_
          refine awp_seq ?_
          refine awp_rw rfl ?_
          refine RW.op rfl rfl (eff_move (v := .t _) rfl rfl rfl) ?_
          refine RW.op rfl rfl (eff_fieldAddr rfl rfl tf37_1 (by decide) rfl rfl rfl (Nat.le_of_ble_eq_true rfl)) ?_
          refine RW.op rfl rfl (eff_load (y := .t _) rfl rfl ti35 rfl (.one rfl rfl rfl rfl)) ?_
          refine RW.op rfl rfl (eff_lenM rfl rfl te35 rfl) ?_
          refine RW.op rfl rfl (eff_iop rfl rfl rfl rfl rfl) ?_
          refine RW.nil ?_
          refine awp_cond rfl (fun h6 => ?_) (fun h6 => ?_)
          · try simp only [decide_eq_true_eq, decide_eq_false_iff_not, beq_iff_eq, bne_iff_ne, bne_eq_false_iff_eq, beq_eq_false_iff_ne, Bool.not_eq_true, Bool.not_eq_false, Bool.not_eq_true', Bool.not_eq_false', ne_eq] at h6
            refine awp_skip ?_
            refine awp_seq ?_
            refine awp_block ?_
            refine awp_seq ?_
            refine awp_rd [(some 137, []), (some 138, []), (some 139, []), (some 140, []), (some 141, []), (some 142, []), (some 143, []), (some 144, [])] [[], [], [1], [], [1, 2, 3], [1, 2, 3, 4], [0, 1, 2, 3, 4, 5], [0, 1, 2, 3, 4, 5, 6]] tm rfl rfl rfl rfl ?_
            refine RD.op rfl rfl rfl (eff_load rfl rfl ti37 rfl (.whole rfl rfl rfl rfl rfl rfl)) ?_
            refine RD.op rfl rfl rfl (eff_fieldAddr rfl rfl tf37_1 (by decide) rfl rfl rfl (Nat.le_of_ble_eq_true rfl)) ?_
            refine RD.op rfl rfl rfl (eff_load (y := .t _) rfl rfl ti35 rfl (.one rfl rfl rfl rfl)) ?_
            refine RD.op rfl rfl rfl (eff_move (v := .t _) rfl rfl rfl) ?_
            refine RD.op rfl rfl rfl (eff_indexM rfl rfl te35 rfl rfl rfl (by first | assumption | exact List.getElem?_eq_getElem (by omega)) rfl (by decide)) ?_
            refine RD.op rfl rfl rfl (eff_loadW rfl rfl ti23 rfl rfl rfl) ?_
            refine RD.op rfl rfl rfl (eff_callT (tcontains_mem T ((hear T (rs[k]'(by omega))).1.poss[v]'(by omega)) (by omega) (hear_sub (List.getElem_mem _))) co29 rfl rfl rfl rfl) ?_
            refine RD.op rfl rfl rfl (eff_unop rfl rfl rfl rfl) ?_
            refine RD.nil ?_
            refine awp_cond rfl (fun h => nomatch h) (fun _ => ?_)
            refine awp_skip ?_
            refine awp_rw rfl ?_
            refine RW.op rfl rfl (eff_move (v := .t _) rfl rfl rfl) ?_
            refine RW.op rfl rfl (eff_iop rfl rfl rfl rfl (iadd (by omega))) ?_
            refine RW.op rfl rfl (eff_assign (v := .t _) rfl rfl rfl) ?_
            refine RW.nil ?_
            refine ⟨_, ?_, _, weak_keep (n := 146) (fr' := [(11, .ptr 11 0 0 0), (18, .own 82 0 0 rs.length), (19, .t (encI (k : Nat))), (20, .ptr 20 0 0 0), (24, .t (encI ((v + 1) : Nat))), (147, .t deT)]) (st' := [(11, some ⟨2, 37, 0, [.t (encT T)]⟩), (82, some ⟨4, 23, 0, (rs.map encR).map .t⟩), (20, some ⟨2, 37, 0, [.t (encT (hear T (rs[k]'(by omega))).1)]⟩)]) ⟨rfl, rfl, rfl, rfl, rfl, rfl, rfl, rfl, rfl, rfl, rfl, rfl, trivial⟩ ⟨rfl, okE_one rfl, rfl, okE_t, rfl, okE_one rfl, trivial⟩, v + 1, (by omega), rfl, rfl⟩
            omega
          · try simp only [decide_eq_true_eq, decide_eq_false_iff_not, beq_iff_eq, bne_iff_ne, bne_eq_false_iff_eq, beq_eq_false_iff_ne, Bool.not_eq_true, Bool.not_eq_false, Bool.not_eq_true', Bool.not_eq_false', ne_eq] at h6
            refine awp_exit ?_
            refine awp_rw rfl ?_
            refine RW.op rfl rfl (eff_move (v := .t _) rfl rfl rfl) ?_
            refine RW.op rfl rfl (eff_iop rfl rfl rfl rfl (iadd (by omega))) ?_
            refine RW.op rfl rfl (eff_assign (v := .t _) rfl rfl rfl) ?_
            refine RW.nil ?_
            refine ⟨_, ?_, _, weak_keep (n := 146) (fr' := [(11, .ptr 11 0 0 0), (18, .own 82 0 0 rs.length), (19, .t (encI ((k + 1) : Nat))), (147, .t deT)]) (st' := [(11, some ⟨2, 37, 0, [.t (encT T)]⟩), (82, some ⟨4, 23, 0, (rs.map encR).map .t⟩)]) ⟨rfl, rfl, rfl, rfl, rfl, rfl, rfl, rfl, trivial⟩ ⟨rfl, okE_one rfl, rfl, okE_t, trivial⟩, k + 1, rs, (by omega), (by exact hrl), (by exact hrh), (by exact hrm), rfl, rfl⟩
            omega
        · refine awp_rw rfl ?_
          refine RW.op rfl rfl (eff_move (v := .t _) rfl rfl rfl) ?_
          refine RW.op rfl rfl (eff_iop (r := .bool true) rfl rfl rfl rfl (by simp [iop, hc5])) ?_
          refine RW.nil ?_
          refine awp_cond rfl (fun _ => ?_) (fun h => nomatch h)
          refine awp_seq ?_
          refine awp_seq ?_
          have hk1 : (k : Int) ≠ 1 := by
            intro e
            obtain rfl : k = 1 := by omega
            exact hc5 (hear_mem (hrm _))
          refine awp_rw rfl ?_
          refine RW.op rfl rfl (eff_move (v := .t _) rfl rfl rfl) ?_
          refine RW.op rfl rfl (eff_iop (r := .bool false) rfl rfl rfl rfl (by simp [iop, hk1])) ?_
          refine RW.op rfl rfl (eff_move (v := .t _) rfl rfl rfl) ?_
          refine RW.gop rfl rfl rfl rfl rfl rfl (eff_move (v := .t _) rfl rfl rfl) ?_
          refine RW.gop rfl rfl rfl rfl rfl rfl (eff_iop (r := .bool false) rfl rfl rfl rfl (by simp [iop, hear_err hc5])) ?_
          refine RW.op rfl rfl (eff_pick (v := .t _) rfl rfl rfl rfl) ?_
          refine RW.nil ?_
          refine awp_cond rfl (fun h => nomatch h) (fun _ => ?_)
          refine awp_skip ?_
          refine awp_exit ?_
          refine awp_rw rfl ?_
          refine RW.op rfl rfl (eff_move (v := .t _) rfl rfl rfl) ?_
          refine RW.op rfl rfl (eff_iop rfl rfl rfl rfl (iadd (by omega))) ?_
          refine RW.op rfl rfl (eff_assign (v := .t _) rfl rfl rfl) ?_
          refine RW.nil ?_
          refine ⟨_, ?_, _, weak_keep (n := 146) (fr' := [(11, .ptr 11 0 0 0), (18, .own 82 0 0 rs.length), (19, .t (encI ((k + 1) : Nat))), (147, .t deT)]) (st' := [(11, some ⟨2, 37, 0, [.t (encT T)]⟩), (82, some ⟨4, 23, 0, (rs.map encR).map .t⟩)]) ⟨rfl, rfl, rfl, rfl, rfl, rfl, rfl, rfl, trivial⟩ ⟨rfl, okE_one rfl, rfl, okE_t, trivial⟩, k + 1, rs, (by omega), (by exact hrl), (by exact hrh), (by exact hrm), rfl, rfl⟩
          omega
      · try simp only [decide_eq_true_eq, decide_eq_false_iff_not, beq_iff_eq, bne_iff_ne, bne_eq_false_iff_eq, beq_eq_false_iff_ne, Bool.not_eq_true, Bool.not_eq_false, Bool.not_eq_true', Bool.not_eq_false', ne_eq] at h4
        refine awp_exit ?_
        refine awp_seq ?_
        refine awp_rw rfl ?_
        refine RW.op rfl rfl (eff_callXT (lives_ret) co16 rfl rfl rfl ⟨rfl, trivial⟩ rfl) ?_
        refine RW.op rfl rfl (eff_assign (v := .t _) rfl rfl rfl) ?_
        refine RW.nil ?_
        refine awp_ret ?_
        first
          | exact ⟨Or.inr rfl, [_], ⟨.tmp (.t _), trivial⟩, .refl _⟩
          | exact ⟨Or.inr rfl, [_], ⟨.tmp (.t _), trivial⟩, (by repeat' first | exact trivial | exact Wk.refl _ | exact Wk.sl _ | refine And.intro ?_ ?_ | refine Wk.tupP ?_ | refine Wk.aggP ?_)⟩
          | exact ⟨Or.inr rfl, [_], ⟨.tmp (Res.ownT rfl rfl rfl rfl), trivial⟩, .refl _⟩
          | exact ⟨Or.inr rfl, [_], ⟨.tmp (Res.ownT rfl rfl rfl rfl), trivial⟩, (by repeat' first | exact trivial | exact Wk.refl _ | exact Wk.sl _ | refine And.intro ?_ ?_ | refine Wk.tupP ?_ | refine Wk.aggP ?_)⟩

end Go.Tv.C34

end
section
open Go Go.Tv Go.Proofs Go.ChangeShapes Go.WideShapes Go.ChangeAt Go.RowKit
namespace Go.Tv.C34
set_option maxRecDepth 100000

theorem wfI64 {n : Int} (h : (Lit.int .i64 n).wf = true) : I64 n := by
  unfold I64
  simp [Lit.wf, IntKind.min, IntKind.max, IntKind.signed, IntKind.bits] at h; omega
theorem map_of {α : Type} {f : α → Tr} {p : α → Prop} : ∀ {els : List Tr}, (∀ x, x ∈ els → ∃ n, p n ∧ x = f n) → ∃ l : List α, els = l.map f ∧ ∀ n, n ∈ l → p n
  | [], _ => ⟨[], rfl, fun n h => by simp at h⟩
  | x :: els, h => by
    obtain ⟨n, hp, rfl⟩ := h x List.mem_cons_self
    obtain ⟨l, rfl, hl⟩ := map_of (els := els) (fun y hy => h y (List.mem_cons_of_mem _ hy))
    exact ⟨n :: l, rfl, fun m hm => (List.mem_cons.1 hm).elim (fun e => e ▸ hp) (hl m)⟩
theorem rd3 : Reads Tryd.prog 3 1 (fun ts => ∃ n, ts = [encI n] ∧ I64 n) := (reads_int Tryd.underlying3 (by kernel_rfl)).mono (fun ts ⟨n, h, hw⟩ => ⟨n, h, wfI64 hw⟩)
theorem rd26 : Reads Tryd.prog 26 1 (fun ts => ∃ l : List Int, ts = [.sl (l.map encI) false] ∧ l.length ≤ maxLen ∧ ∀ n, n ∈ l → I64 n) :=
  (reads_slice Tryd.underlying26 (by kernel_rfl) (by decide) (.inr rfl) rd3 (g := false)).mono (by
    rintro ts ⟨els, rfl, hm, h⟩
    obtain ⟨l, rfl, hl⟩ := map_of (f := encI) (p := I64) (fun x hx => by obtain ⟨_, ⟨n, rfl, hn⟩, rfl⟩ := h x hx; exact ⟨n, hn, rfl⟩)
    exact ⟨l, rfl, by simpa using hm, hl⟩)
def laid1 : List (String × DataW Unit) := [("math/bits.deBruijn32tab", Go.Proofs.YtofiemifpgcfhaaDoor.Rows.laid_math_bits_deBruijn32tab), ("math/bits.deBruijn64tab", Go.Proofs.YtofiemifpgcfhaaDoor.Rows.laid_math_bits_deBruijn64tab)]
theorem gDe : Tryd.prog.globalNamed "math/bits.deBruijn64tab" = some 1 := by kernel_rfl
theorem tDe : (Tryd.prog.globals[1]?).map (·.type) = some 119 := by kernel_rfl
theorem door_met (os : Os) (args : Array Value) : laidMetH Tryd.prog laid1 ((World.doorLaid Tryd.prog 400 os).forCall (fun _ _ => 0) ⟨#[], args, []⟩).memory :=
  laidMetH_of_parts3 (fuel := 8) (laidMet_of_run' 8 (by kernel_rfl) (by kernel_rfl)) (by kernel_rfl) (by kernel_rfl)
theorem tabs_of_laid {W : World} (h : laidMetH Tryd.prog laid1 W) : TabOK W (fun _ => False) [(1, deT)] := by
  intro g x hm
  simp only [List.mem_singleton, Prod.mk.injEq] at hm
  obtain ⟨rfl, rfl⟩ := hm
  exact tab_of_laid (l := deB) (k := .u8) h rfl (List.mem_cons_of_mem _ (List.mem_singleton.2 rfl)) (by intro e; cases e) gDe tDe Tryd.underlying119 Tryd.underlying5 (by kernel_rfl)
end Go.Tv.C34

end
section
namespace Go.Proofs.YtofiemifpgcfhaaDoor
open Go Go.Tv Go.Tv.C34 Go.ChangeShapes Go.WideShapes Go.ChangeAt Go.RowKit
set_option linter.unusedVariables false
set_option maxRecDepth 100000
theorem twinSound_contract (H : Type) (enc : TypeId × Value → H) (W : World) (base : Nat) (args : Array Value) (ds gs : List (DataW H)) (before : List MemPlace)
    (hval : ∀ (j : Nat) t v, Tryd.f7.params[j]? = some t → args[j]? = some v → Value.okWide Tryd.prog W .any base t v)
    (hW : DataW.Whole enc Tryd.prog Tryd.f7.params.toList Rows.twinSoundSpec.vars false W args.toList ds gs before) (hL : laidMetH Tryd.prog laid1 W) :
    Calls Tryd.prog 7 args W fun e W' => ∃ v, e = .returned v ∧ Rows.twinSoundSpec.post enc Tryd.prog Tryd.f7 false true false false W args v W' := by
  have hW' := hW
  obtain ⟨p, q, hA0, hV, rfl, hfz, hnd⟩ := hW
  have hA : DataW.TrodAll enc Tryd.prog W 0 (fun _ => true) true Tryd.f7.params.toList args.toList ds p := hA0
  rw [Tryd.params7] at hA hval
  obtain ⟨v0, vs0, d0, ds0, p0, q0, hargs, rfl, rfl, h0, r0⟩ := trodAll_cons hA
  obtain ⟨v1, vs1, d1, ds1, p1, q1, rfl, rfl, rfl, h1, r1⟩ := trodAll_cons r0
  obtain ⟨v2, vs2, d2, ds2, p2, q2, rfl, rfl, rfl, h2, r2⟩ := trodAll_cons r1
  obtain ⟨v3, vs3, d3, ds3, p3, q3, rfl, rfl, rfl, h3, r3⟩ := trodAll_cons r2
  obtain ⟨v4, vs4, d4, ds4, p4, q4, rfl, rfl, rfl, h4, r4⟩ := trodAll_cons r3
  obtain ⟨rfl, rfl, rfl⟩ := trodAll_nil r4
  obtain rfl : args = #[v0, v1, v2, v3, v4] := by cases args; simp_all
  obtain ⟨rfl, rfl⟩ := trodVars_none hV
  have k0 := hval 0 26 v0 rfl rfl
  have k1 := hval 1 3 v1 rfl rfl
  have k2 := hval 2 3 v2 rfl rfl
  have k3 := hval 3 3 v3 rfl rfl
  have k4 := hval 4 3 v4 rfl rfl
  obtain ⟨x0, hx0, l, e0, m0, b0⟩ := arg_slice Tryd.underlying26 rd26 k0 h0
  obtain rfl : x0 = .sl (l.map Go.Tv.C34.encI) false := by simpa using e0
  unfold maxLen at m0
  have n0 : l.length ≤ 9223372036854775807 := by simpa using m0
  obtain ⟨nx, rfl, wnx⟩ := arg_int Tryd.underlying3 k1 h1
  have i_nx := wfI64 wnx
  obtain ⟨hv, rfl, whv⟩ := arg_int Tryd.underlying3 k2 h2
  have i_hv := wfI64 whv
  obtain ⟨ky, rfl, wky⟩ := arg_int Tryd.underlying3 k3 h3
  have i_ky := wfI64 wky
  obtain ⟨kk, rfl, wkk⟩ := arg_int Tryd.underlying3 k4 h4
  have i_kk := wfI64 wkk
  refine (law_callsT (law7 l nx hv ky kk b0 n0 i_nx i_hv i_ky i_kk) (tabs_of_laid hL) (vl_cons hx0 (vl_cons (.int _ _) (vl_cons (.int _ _) (vl_cons (.int _ _) (vl_cons (.int _ _) vl_nil)))))).mono ?_
  rintro e W' ⟨rfl, hb⟩
  refine ⟨_, rfl, law_post (P := Tryd.prog) (by kernel_rfl) rfl (fun t ht => ?_) rfl Tryd.underlying4 hW' ⟨rfl, rfl, rfl⟩ hb⟩
  rw [Tryd.params7] at ht
  simp only [List.mem_cons, List.not_mem_nil, or_false] at ht
  rcases ht with rfl | rfl | rfl | rfl | rfl <;> exact ⟨by kernel_rfl, Nat.le_of_ble_eq_true (by kernel_rfl)⟩

theorem twinSound_lifted (os : Os) (started : os.Started) (H : Type) (enc : TypeId × Value → H) :
    ReturnsInHanded {} Tryd.checked os 7 .any (fun w args => (Rows.twinSoundSpec.pre enc Tryd.prog Tryd.f7 [] false w args ∧ laidMetH Tryd.prog laid1 w) ∧ sizedMet enc Tryd.prog Tryd.f7 (OpenSpec.ofChange Rows.twinSoundSpec) false w args)
      (Rows.twinSoundSpec.post enc Tryd.prog Tryd.f7 false true false false) := by
  refine returnsInHanded_of_change_and (C := Tryd.checked) (X := fun w _ => laidMetH Tryd.prog laid1 w) (fun _ _ _ hh h => h.of_heap hh) (by kernel_rfl) started (by kernel_rfl) Tryd.func7
    (ChangeSpec.witness_shaped (enc := enc) (C := Tryd.checked) (os := os) (X := fun w _ => laidMetH Tryd.prog laid1 w) false (World.doorLaid Tryd.prog 400 os) #[.slice none 0 0, .int .i64 0, .int .i64 0, .int .i64 0, .int .i64 0] 8 rfl (World.shaped_of_RefB (by kernel_rfl) (by kernel_rfl)) (by kernel_rfl) (by kernel_rfl) (by kernel_rfl) (door_met os _)) ?_
  intro W base args ds gs before hval hW _ _ hL _
  exact twinSound_contract H enc W base args ds gs before hval hW hL

theorem twinSound_row_holds : Rows.TwinSoundSaid :=
  OpenClaim.holds_of_wide 7 Tryd.f7 rfl rfl rfl rfl rfl rfl rfl ⟨rfl, rfl, rfl, rfl, rfl⟩ rfl rfl rfl rfl rfl (by kernel_rfl) Tryd.func7 (by kernel_rfl)
    (of_decide_eq_true (by kernel_rfl)) (by unfold Func.isWrapper; first | (rw [if_pos (by decide +kernel)]; kernel_rfl) | (rw [if_neg (by decide +kernel)]; exact ⟨rfl, rfl⟩))
    (fun os started H enc _ => twinSound_lifted os started H enc)

theorem twinSoundCard_holds : Rows.TwinSoundCardSaid :=
  Claim7.holds_tied_plain_at .later [] [.data, .data] true _ false
    twinSound_row_holds (fun _ h => by cases h) (by kernel_rfl) (fun _ h => by cases h) twinSound_row_tie rfl ⟨rfl, rfl⟩ (by kernel_rfl) rfl
    (fun f fn hf hfn => by
      obtain rfl : f = 7 := Option.some.inj ((show Tryd.prog.funcNamed "perigee/perigeelaw34.TwinSound" = some 7 by kernel_rfl).symm.trans hf) |>.symm
      obtain rfl : fn = Tryd.f7 := (Option.some.inj (Tryd.func7.symm.trans hfn)).symm
      exact ⟨by kernel_rfl, fun j t ht => by
        rw [Tryd.params7] at ht
        have hm : t ∈ [26, 3, 3, 3, 3] := by simpa using Array.mem_of_getElem? ht
        have hall : ([26, 3, 3, 3, 3].all fun u => !Tryd.prog.wantsStandIn u) = true := by kernel_rfl
        exact (show Tryd.prog.wantsStandIn t = false by simpa using List.all_eq_true.1 hall t hm)⟩)
    (by kernel_rfl)

end Go.Proofs.YtofiemifpgcfhaaDoor

end
