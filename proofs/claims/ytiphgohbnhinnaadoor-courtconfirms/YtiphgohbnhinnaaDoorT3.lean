/- Part of the proof that the laws of this seat return true for every input. No condition. -/
import Derived.Test.YtiphgohbnhinnaaDoorT2
set_option linter.unnecessarySimpa false
set_option linter.unusedVariables false
set_option linter.unusedSimpArgs false
section
open Go Go.Tv Go.Proofs
namespace Go.Tv.C36
set_option maxRecDepth 20000
set_option maxHeartbeats 2000000
set_option linter.unusedSimpArgs false
set_option linter.unusedVariables false
theorem has_q_ret (s : Rep) (q : Int) (hs : HP s) (hx : NX 1000000 s) (hq : -2000000 ≤ q ∧ q ≤ 2000000) : Ret Tryd.prog 55 [encR s, encI q] (.bool (has s q)) := by
  obtain ⟨nx, hv0, ky, lk⟩ := s
  obtain ⟨h, rfl⟩ : ∃ h : Nat, hv0 = (h : Int) := ⟨hv0.toNat, by have := hs.1; simp only [] at this; omega⟩
  have hh : h < 32768 := by have := hs.2; simp only [] at this; omega
  unfold NX at hx
  simp only [] at hx
  refine ret_of_awp Tryd.func55 rfl (Nat.le_of_ble_eq_true rfl) ?_
  refine awp_seq ?_
  refine awp_rw rfl ?_
  refine RW.new rfl rfl (eff_boxK (v := .t _) (k := 4) (id := 2) rfl rfl rfl rfl rfl rfl) ?_
  refine asT ?_
  refine RW.nil ?_
  refine awp_seq ?_
  refine awp_rw rfl ?_
  refine mvT ?_
  refine faT tf23_0 ?_
  refine l1T ti3 rfl rfl rfl rfl rfl (.one rfl rfl rfl rfl) ?_
  refine RW.op rfl rfl (eff_iop (r := encI (q - nx)) rfl rfl rfl rfl (isub (a := q) (b := nx) (by omega))) ?_
  refine RW.op rfl rfl (eff_iop (r := encI (q - nx - 1)) rfl rfl rfl rfl (isub (by omega))) ?_
  refine asT ?_
  refine RW.nil ?_
  refine awp_seq ?_
  refine awp_rw rfl ?_
  refine mvT ?_
  refine ioT ?_
  refine mvT ?_
  refine RW.split 13 rfl (fun h1 => ?_) (fun h1 => ?_)
  · try simp only [cl] at h1
    refine RW.gop rfl rfl rfl rfl rfl rfl (eff_move (v := .t _) rfl rfl rfl) ?_
    refine RW.gop rfl rfl rfl rfl rfl rfl (eff_iop rfl rfl rfl rfl rfl) ?_
    refine pkT ?_
    refine mvT ?_
    refine RW.split 17 rfl (fun h2 => ?_) (fun h2 => ?_)
    · try simp only [cl] at h2
      refine RW.gop rfl rfl rfl rfl rfl rfl (eff_fieldAddr rfl rfl tf23_1 (by decide) rfl rfl rfl (Nat.le_of_ble_eq_true rfl)) ?_
      refine RW.gop rfl rfl rfl rfl rfl rfl (eff_load (y := .t _) rfl rfl ti3 rfl (.one rfl rfl rfl rfl)) ?_
      refine RW.gop rfl rfl rfl rfl rfl rfl (eff_move (v := .t _) rfl rfl rfl) ?_
      refine RW.gop rfl rfl rfl rfl rfl rfl (eff_shrE (r := ((h / 2 ^ (q - nx - 1).toNat : Nat) : Int)) rfl rfl rfl rfl (by omega) (shr_hv h (by omega) (by omega))) ?_
      refine RW.gop rfl rfl rfl rfl rfl rfl (eff_iop (r := encI ((h / 2 ^ (q - nx - 1).toNat % 2 : Nat) : Int)) rfl rfl rfl rfl (and_one (by have := Nat.div_le_self h (2 ^ (q - nx - 1).toNat); omega))) ?_
      refine RW.gop rfl rfl rfl rfl rfl rfl (eff_iop rfl rfl rfl rfl rfl) ?_
      refine pkT ?_
      refine asT ?_
      refine RW.nil ?_
      refine awp_ret ?_
      exact ⟨Or.inr rfl, [_], ⟨.tmp (.t _), trivial⟩, wk_bool (has_in (by omega) (by omega))⟩
    · try simp only [cl] at h2
      refine gkT ?_
      refine gkT ?_
      refine gkT ?_
      refine gkT ?_
      refine gkT ?_
      refine gkT ?_
      refine pkT ?_
      refine asT ?_
      refine RW.nil ?_
      refine awp_ret ?_
      exact ⟨Or.inr rfl, [_], ⟨.tmp (.t _), trivial⟩, wk_bool (has_hi (s := ⟨nx, ((h : Nat) : Int), ky, lk⟩) (by show ¬ q - nx - 1 < 16; omega))⟩
  · try simp only [cl] at h1
    refine gkT ?_
    refine gkT ?_
    refine pkT ?_
    refine mvT ?_
    refine gkT ?_
    refine gkT ?_
    refine gkT ?_
    refine gkT ?_
    refine gkT ?_
    refine gkT ?_
    refine pkT ?_
    refine asT ?_
    refine RW.nil ?_
    refine awp_ret ?_
    exact ⟨Or.inr rfl, [_], ⟨.tmp (.t _), trivial⟩, wk_bool (has_lo (s := ⟨nx, ((h : Nat) : Int), ky, lk⟩) (by show q - nx - 1 < 0; omega))⟩

theorem rhas_ret (s : Rep) (q : Int) (hs : HP s) (hx : NX 1000000 s) (hq : -2000000 ≤ q ∧ q ≤ 2000000) : Ret Tryd.prog 35 [encR s, encI q] (.bool (has s q)) := by
  obtain ⟨nx, hv0, ky, lk⟩ := s
  obtain ⟨h, rfl⟩ : ∃ h : Nat, hv0 = (h : Int) := ⟨hv0.toNat, by have := hs.1; simp only [] at this; omega⟩
  have hh : h < 32768 := by have := hs.2; simp only [] at this; omega
  unfold NX at hx
  simp only [] at hx
  refine ret_of_awp Tryd.func35 rfl (Nat.le_of_ble_eq_true rfl) ?_
  refine awp_seq ?_
  refine awp_rw rfl ?_
  refine RW.new rfl rfl (eff_boxK (v := .t _) (k := 4) (id := 2) rfl rfl rfl rfl rfl rfl) ?_
  refine asT ?_
  refine RW.nil ?_
  refine awp_seq ?_
  refine awp_rw rfl ?_
  refine faT tf23_1 ?_
  refine l1T ti3 rfl rfl rfl rfl rfl (.one rfl rfl rfl rfl) ?_
  refine asT ?_
  refine RW.nil ?_
  refine awp_seq ?_
  refine awp_seq ?_
  refine awp_rw rfl ?_
  refine faT tf23_0 ?_
  refine l1T ti3 rfl rfl rfl rfl rfl (.one rfl rfl rfl rfl) ?_
  refine RW.op rfl rfl (eff_iop (r := encI (nx + 1)) rfl rfl rfl rfl (iadd (a := nx) (by omega))) ?_
  refine asT ?_
  refine RW.nil ?_
  refine awp_block ?_
  refine awp_loopW (fun m s => ∃ (k : Nat) (v : Int), (k = 0 ∨ nx + (k : Int) < q) ∧ (v = nx + 1 + (k : Int)) ∧ m = hv h k ∧ s = ⟨32, [(1, .t (encI q)), (2, .ptr 2 0 0 0), (5, .t (encI ((hv h k : Nat) : Int))), (6, .t (encI v))], [(2, some ⟨4, 23, 0, [.t (encR ⟨nx, ((h : Nat) : Int), ky, lk⟩)]⟩)]⟩) (_) (⟨_, weak_keep (n := 32) (fr' := [(1, .t (encI q)), (2, .ptr 2 0 0 0), (5, .t (encI ((hv h 0 : Nat) : Int))), (6, .t (encI _))]) (st' := [(2, some ⟨4, 23, 0, [.t (encR ⟨nx, ((h : Nat) : Int), ky, lk⟩)]⟩)]) ⟨rfl, rfl, rfl, rfl, rfl, rfl, rfl, rfl, trivial⟩ ⟨rfl, okE_one rfl, trivial⟩, 0, _, (by omega), (by simp), rfl, rfl⟩) ?_
  rintro m s ⟨k, v, hk, hv6, rfl, rfl⟩
  have hq2 := hv_le h k
  refine awp_seq ?_
  refine awp_seq ?_
  refine awp_rw rfl ?_
  refine mvT ?_
  refine mvT ?_
  refine ioT ?_
  refine mvT ?_
  refine RW.split 15 rfl (fun h1 => ?_) (fun h1 => ?_)
  · try simp only [cl] at h1
    refine RW.gop rfl rfl rfl rfl rfl rfl (eff_move (v := .t _) rfl rfl rfl) ?_
    refine RW.gop rfl rfl rfl rfl rfl rfl (eff_iop rfl rfl rfl rfl rfl) ?_
    refine pkT ?_
    refine RW.nil ?_
    refine awp_cond rfl (fun h2 => ?_) (fun h2 => ?_)
    · try simp only [cl] at h2
      refine awp_skip ?_
      refine awp_seq ?_
      refine awp_block ?_
      refine awp_rw rfl ?_
      refine mvT ?_
      refine RW.op rfl rfl (eff_quoE (r := ((hv h (k + 1) : Nat) : Int)) rfl rfl rfl rfl (by decide) (half_hv h k hh)) ?_
      refine asT ?_
      refine RW.nil ?_
      refine awp_rw rfl ?_
      refine mvT ?_
      refine RW.op rfl rfl (eff_iop rfl rfl rfl rfl (iadd (by omega))) ?_
      refine asT ?_
      refine RW.nil ?_
      have hhalf : hv h (k + 1) = hv h k / 2 := rfl
      refine ⟨_, ?_, _, weak_keep (n := 32) (fr' := [(1, .t (encI q)), (2, .ptr 2 0 0 0), (5, .t (encI ((hv h (k + 1) : Nat) : Int))), (6, .t (encI _))]) (st' := [(2, some ⟨4, 23, 0, [.t (encR ⟨nx, ((h : Nat) : Int), ky, lk⟩)]⟩)]) ⟨rfl, rfl, rfl, rfl, rfl, rfl, rfl, rfl, trivial⟩ ⟨rfl, okE_one rfl, trivial⟩, k + 1, _, (by omega), (by omega), rfl, rfl⟩
      omega
    · try simp only [cl] at h2
      refine awp_exit ?_
      refine awp_seq ?_
      refine awp_rw rfl ?_
      refine mvT ?_
      refine faT tf23_0 ?_
      refine l1T ti3 rfl rfl rfl rfl rfl (.one rfl rfl rfl rfl) ?_
      refine ioT ?_
      refine mvT ?_
      refine RW.split 27 rfl (fun h3 => ?_) (fun h3 => ?_)
      · try simp only [cl] at h3
        refine RW.gop rfl rfl rfl rfl rfl rfl (eff_move (v := .t _) rfl rfl rfl) ?_
        refine RW.gop rfl rfl rfl rfl rfl rfl (eff_remE (r := ((hv h k % 2 : Nat) : Int)) rfl rfl rfl rfl (by decide) (by rw [tmod_pos (Int.natCast_nonneg _)]; rfl)) ?_
        refine RW.gop rfl rfl rfl rfl rfl rfl (eff_iop rfl rfl rfl rfl rfl) ?_
        refine pkT ?_
        refine asT ?_
        refine RW.nil ?_
        refine awp_ret ?_
        exact ⟨Or.inr rfl, [_], ⟨.tmp (.t _), trivial⟩, wk_bool (has_loop hh hk (by omega) (by omega))⟩
      · try simp only [cl] at h3
        refine gkT ?_
        refine gkT ?_
        refine gkT ?_
        refine pkT ?_
        refine asT ?_
        refine RW.nil ?_
        refine awp_ret ?_
        exact ⟨Or.inr rfl, [_], ⟨.tmp (.t _), trivial⟩, wk_bool (has_lo (s := ⟨nx, ((h : Nat) : Int), ky, lk⟩) (by show q - nx - 1 < 0; omega))⟩
  · try simp only [cl] at h1
    refine gkT ?_
    refine gkT ?_
    refine pkT ?_
    refine RW.nil ?_
    refine awp_cond rfl (fun h => nomatch h) (fun _ => ?_)
    refine awp_exit ?_
    refine awp_seq ?_
    refine awp_rw rfl ?_
    refine mvT ?_
    refine faT tf23_0 ?_
    refine l1T ti3 rfl rfl rfl rfl rfl (.one rfl rfl rfl rfl) ?_
    refine ioT ?_
    refine mvT ?_
    refine RW.split 27 rfl (fun h4 => ?_) (fun h4 => ?_)
    · try simp only [cl] at h4
      refine RW.gop rfl rfl rfl rfl rfl rfl (eff_move (v := .t _) rfl rfl rfl) ?_
      refine RW.gop rfl rfl rfl rfl rfl rfl (eff_remE (r := ((hv h k % 2 : Nat) : Int)) rfl rfl rfl rfl (by decide) (by rw [tmod_pos (Int.natCast_nonneg _)]; rfl)) ?_
      refine RW.gop rfl rfl rfl rfl rfl rfl (eff_iop rfl rfl rfl rfl rfl) ?_
      refine pkT ?_
      refine asT ?_
      refine RW.nil ?_
      refine awp_ret ?_
      exact ⟨Or.inr rfl, [_], ⟨.tmp (.t _), trivial⟩, wk_bool (has_loop hh hk (by omega) (by omega))⟩
    · try simp only [cl] at h4
      refine gkT ?_
      refine gkT ?_
      refine gkT ?_
      refine pkT ?_
      refine asT ?_
      refine RW.nil ?_
      refine awp_ret ?_
      exact ⟨Or.inr rfl, [_], ⟨.tmp (.t _), trivial⟩, wk_bool (has_lo (s := ⟨nx, ((h : Nat) : Int), ky, lk⟩) (by show q - nx - 1 < 0; omega))⟩

theorem rule0_ret (d : Dec) (s : Rep) (n : Int) : Ret Tryd.prog 53 [encD d, encR s, encI n] (.bool (!s.locked && decide (n ≤ s.next))) := by
  refine ret_of_awp Tryd.func53 rfl (Nat.le_of_ble_eq_true rfl) ?_
  refine awp_seq ?_
  refine awp_rw rfl ?_
  refine RW.new rfl rfl (eff_boxK (v := .t _) (k := 4) (id := 3) rfl rfl rfl rfl rfl rfl) ?_
  refine RW.new rfl rfl (eff_boxK (v := .t _) (k := 4) (id := 4) rfl rfl rfl rfl rfl rfl) ?_
  refine asT ?_
  refine RW.nil ?_
  refine awp_seq ?_
  refine awp_rw rfl ?_
  refine faT tf23_3 ?_
  refine l1T ti4 rfl rfl rfl rfl rfl (.one rfl rfl rfl rfl) ?_
  refine RW.op rfl rfl (eff_unop rfl rfl rfl rfl) ?_
  refine mvT ?_
  refine RW.split 10 rfl (fun h1 => ?_) (fun h1 => ?_)
  · try simp only [cl] at h1
    refine RW.gop rfl rfl rfl rfl rfl rfl (eff_fieldAddr rfl rfl tf23_0 (by decide) rfl rfl rfl (Nat.le_of_ble_eq_true rfl)) ?_
    refine RW.gop rfl rfl rfl rfl rfl rfl (eff_load (y := .t _) rfl rfl ti3 rfl (.one rfl rfl rfl rfl)) ?_
    refine RW.gop rfl rfl rfl rfl rfl rfl (eff_move (v := .t _) rfl rfl rfl) ?_
    refine RW.gop rfl rfl rfl rfl rfl rfl (eff_iop rfl rfl rfl rfl rfl) ?_
    refine pkT ?_
    refine asT ?_
    refine RW.nil ?_
    refine awp_ret ?_
    exact ⟨Or.inr rfl, [_], ⟨.tmp (.t _), trivial⟩, wk_bool (by simp [*])⟩
  · try simp only [cl] at h1
    refine gkT ?_
    refine gkT ?_
    refine gkT ?_
    refine gkT ?_
    refine pkT ?_
    refine asT ?_
    refine RW.nil ?_
    refine awp_ret ?_
    exact ⟨Or.inr rfl, [_], ⟨.tmp (.t _), trivial⟩, wk_bool (by simp [*])⟩

theorem rule1_ret (d : Dec) (s : Rep) (n : Int) (hs : HP s) (hx : NX 1000000 s) (hd : -2000000 ≤ d.seq ∧ d.seq ≤ 2000000) : Ret Tryd.prog 54 [encD d, encR s, encI n] (.bool (decide (d.seq < n) && decide (s.next ≤ d.seq) && !has s d.seq)) := by
  refine ret_of_awp Tryd.func54 rfl (Nat.le_of_ble_eq_true rfl) ?_
  refine awp_seq ?_
  refine awp_rw rfl ?_
  refine RW.new rfl rfl (eff_boxK (v := .t _) (k := 4) (id := 3) rfl rfl rfl rfl rfl rfl) ?_
  refine RW.new rfl rfl (eff_boxK (v := .t _) (k := 4) (id := 4) rfl rfl rfl rfl rfl rfl) ?_
  refine asT ?_
  refine RW.nil ?_
  refine awp_seq ?_
  refine awp_rw rfl ?_
  refine faT tf28_3 ?_
  refine l1T ti3 rfl rfl rfl rfl rfl (.one rfl rfl rfl rfl) ?_
  refine mvT ?_
  refine ioT ?_
  refine mvT ?_
  refine RW.split 11 rfl (fun h1 => ?_) (fun h1 => ?_)
  · try simp only [cl] at h1
    refine RW.gop rfl rfl rfl rfl rfl rfl (eff_fieldAddr rfl rfl tf28_3 (by decide) rfl rfl rfl (Nat.le_of_ble_eq_true rfl)) ?_
    refine RW.gop rfl rfl rfl rfl rfl rfl (eff_load (y := .t _) rfl rfl ti3 rfl (.one rfl rfl rfl rfl)) ?_
    refine RW.gop rfl rfl rfl rfl rfl rfl (eff_fieldAddr rfl rfl tf23_0 (by decide) rfl rfl rfl (Nat.le_of_ble_eq_true rfl)) ?_
    refine RW.gop rfl rfl rfl rfl rfl rfl (eff_load (y := .t _) rfl rfl ti3 rfl (.one rfl rfl rfl rfl)) ?_
    refine RW.gop rfl rfl rfl rfl rfl rfl (eff_iop rfl rfl rfl rfl rfl) ?_
    refine pkT ?_
    refine mvT ?_
    refine RW.split 18 rfl (fun h2 => ?_) (fun h2 => ?_)
    · try simp only [cl] at h2
      refine RW.gop rfl rfl rfl rfl rfl rfl (eff_load rfl rfl ti23 rfl (.whole rfl rfl rfl rfl rfl rfl)) ?_
      refine RW.gop rfl rfl rfl rfl rfl rfl (eff_fieldAddr rfl rfl tf28_3 (by decide) rfl rfl rfl (Nat.le_of_ble_eq_true rfl)) ?_
      refine RW.gop rfl rfl rfl rfl rfl rfl (eff_load (y := .t _) rfl rfl ti3 rfl (.one rfl rfl rfl rfl)) ?_
      refine RW.gop rfl rfl rfl rfl rfl rfl (eff_callT (has_q_ret s d.seq hs hx hd) co55 rfl rfl rfl rfl) ?_
      refine RW.gop rfl rfl rfl rfl rfl rfl (eff_unop rfl rfl rfl rfl) ?_
      refine pkT ?_
      refine asT ?_
      refine RW.nil ?_
      refine awp_ret ?_
      exact ⟨Or.inr rfl, [_], ⟨.tmp (.t _), trivial⟩, wk_bool (by simp [*])⟩
    · try simp only [cl] at h2
      refine gkT ?_
      refine gkT ?_
      refine gkT ?_
      refine gkT ?_
      refine gkT ?_
      refine pkT ?_
      refine asT ?_
      refine RW.nil ?_
      refine awp_ret ?_
      exact ⟨Or.inr rfl, [_], ⟨.tmp (.t _), trivial⟩, wk_bool (by simp [*])⟩
  · try simp only [cl] at h1
    refine gkT ?_
    refine gkT ?_
    refine gkT ?_
    refine gkT ?_
    refine gkT ?_
    refine pkT ?_
    refine mvT ?_
    refine gkT ?_
    refine gkT ?_
    refine gkT ?_
    refine gkT ?_
    refine gkT ?_
    refine pkT ?_
    refine asT ?_
    refine RW.nil ?_
    refine awp_ret ?_
    exact ⟨Or.inr rfl, [_], ⟨.tmp (.t _), trivial⟩, wk_bool (by simp [*])⟩

theorem rule2_ret (d : Dec) (s : Rep) (n : Int) : Ret Tryd.prog 56 [encD d, encR s, encI n] (.bool s.locked) := by
  refine ret_of_awp Tryd.func56 rfl (Nat.le_of_ble_eq_true rfl) ?_
  refine awp_seq ?_
  refine awp_rw rfl ?_
  refine RW.new rfl rfl (eff_boxK (v := .t _) (k := 4) (id := 3) rfl rfl rfl rfl rfl rfl) ?_
  refine RW.new rfl rfl (eff_boxK (v := .t _) (k := 4) (id := 4) rfl rfl rfl rfl rfl rfl) ?_
  refine asT ?_
  refine RW.nil ?_
  refine awp_seq ?_
  refine awp_rw rfl ?_
  refine faT tf23_3 ?_
  refine l1T ti4 rfl rfl rfl rfl rfl (.one rfl rfl rfl rfl) ?_
  refine asT ?_
  refine RW.nil ?_
  refine awp_ret ?_
  exact ⟨Or.inr rfl, [_], ⟨.tmp (.t _), trivial⟩, .refl _⟩

theorem rule3_ret (d : Dec) (s : Rep) (n : Int) : Ret Tryd.prog 57 [encD d, encR s, encI n] (.bool (decide (d.seq < s.next))) := by
  refine ret_of_awp Tryd.func57 rfl (Nat.le_of_ble_eq_true rfl) ?_
  refine awp_seq ?_
  refine awp_rw rfl ?_
  refine RW.new rfl rfl (eff_boxK (v := .t _) (k := 4) (id := 3) rfl rfl rfl rfl rfl rfl) ?_
  refine RW.new rfl rfl (eff_boxK (v := .t _) (k := 4) (id := 4) rfl rfl rfl rfl rfl rfl) ?_
  refine asT ?_
  refine RW.nil ?_
  refine awp_seq ?_
  refine awp_rw rfl ?_
  refine faT tf28_3 ?_
  refine l1T ti3 rfl rfl rfl rfl rfl (.one rfl rfl rfl rfl) ?_
  refine faT tf23_0 ?_
  refine l1T ti3 rfl rfl rfl rfl rfl (.one rfl rfl rfl rfl) ?_
  refine ioT ?_
  refine asT ?_
  refine RW.nil ?_
  refine awp_ret ?_
  exact ⟨Or.inr rfl, [_], ⟨.tmp (.t _), trivial⟩, .refl _⟩

def ruleL : List (Int × FuncId) := [(0, 53), (1, 54), (2, 56), (3, 57)]
noncomputable def KI : MapK Tryd.prog 3 Int := MapK.int tu3
noncomputable def ruleM : Tr := .mpd (mapL KI MapX.fn ruleL)
theorem eff_rule {D : St} {o : Oper} {m k : Operand} {kd : Int} {u : Tr} {b : Bool} (hd : dstOK D.n o.dst = true) (ho : o.op = .lookup 73 m k true)
    (hm : D.ev m = .t ruleM) (hk : D.ev k = .t (encI kd)) (hu : ((lookA kd ruleL).map MapX.fn.xt).getD .nilf = u) (hb : (lookA kd ruleL).isSome = b) : Eff Tryd.prog o D ⟨.t (.tup [u, .bool b]), []⟩ := by
  subst hb
  exact eff_getD (P := Tryd.prog) KI MapX.fn (a := kd) (l := ruleL) (z := .nilf) (zv := .nilFunc) (ok := true) Tryd.underlying73 tz29 solid_nilf hd ho hm .d (by decide) hk hu
theorem rule_none {kd : Int} (h0 : kd ≠ 0) (h1 : kd ≠ 1) (h2 : kd ≠ 2) (h3 : kd ≠ 3) : lookA kd ruleL = none := by
  simp [ruleL, lookA, h0, h1, h2, h3]

theorem rules_ret  : Ret Tryd.prog 34 [] (ruleM) := by
  refine ret_of_awr Tryd.func34 rfl (Nat.le_of_ble_eq_true rfl) ?_
  intro F0 w0
  refine awj_seq ?_
  refine awj_rj rfl ?_
  refine RJ.op rfl rfl (eff_assign (v := .junk) rfl rfl rfl) ?_
  refine RJ.nil ?_
  refine awj_seq ?_
  refine awj_rj rfl ?_
  refine RJ.rMake rfl rfl rfl rfl (fun rO hrO => ?_)
  refine RJ.rPut KI MapX.fn (a := 0) (b := 53) (lm := ruleL.take 0) rfl rfl (.inr rfl) Tryd.underlying73 rfl rfl rfl (gget_same _ _ _) ?_
  refine RJ.rPut KI MapX.fn (a := 1) (b := 54) (lm := ruleL.take 1) rfl rfl (.inr rfl) Tryd.underlying73 rfl rfl rfl (gget_same _ _ _) ?_
  refine RJ.rPut KI MapX.fn (a := 2) (b := 56) (lm := ruleL.take 2) rfl rfl (.inr rfl) Tryd.underlying73 rfl rfl rfl (gget_same _ _ _) ?_
  refine RJ.rPut KI MapX.fn (a := 3) (b := 57) (lm := ruleL.take 3) rfl rfl (.inr rfl) Tryd.underlying73 rfl rfl rfl (gget_same _ _ _) ?_
  refine RJ.op rfl rfl (eff_move (v := .t _) rfl rfl rfl) ?_
  refine RJ.op rfl rfl (eff_assign (v := .t _) rfl rfl rfl) ?_
  refine RJ.nil ?_
  show AWJ _ _ _ _ _ _ _ _
  refine awj_freeze 0 (mapL KI MapX.fn ruleL) rfl (gget_same _ _ _) (.refl _) ?_
  refine awj_ret ?_
  exact ⟨Or.inr rfl, [_], ⟨.tmp (.t _), trivial⟩, .refl _⟩

theorem right_ret (d : Dec) (s : Rep) (n : Int) (hs : HP s) (hx : NX 1000000 s) (hd : -2000000 ≤ d.seq ∧ d.seq ≤ 2000000) : Ret Tryd.prog 14 [encD d, encR s, encI n] (.bool (rightD d s n)) := by
  refine ret_of_awp Tryd.func14 rfl (Nat.le_of_ble_eq_true rfl) ?_
  refine awp_seq ?_
  refine awp_rw rfl ?_
  refine RW.new rfl rfl (eff_boxK (v := .t _) (k := 4) (id := 3) rfl rfl rfl rfl rfl rfl) ?_
  refine RW.new rfl rfl (eff_boxK (v := .t _) (k := 4) (id := 4) rfl rfl rfl rfl rfl rfl) ?_
  refine asT ?_
  refine RW.nil ?_
  refine awp_seq ?_
  by_cases hc1 : d.kind = 0
  · refine awp_rd [(some 10, []), (some 11, []), (some 12, []), (some 13, []), (some 9, []), (some 14, []), (some 15, []), (some 7, []), (some 8, [])] [[], [], [1], [0, 1, 2], [0, 1, 2, 3], [0, 1, 2, 3, 4], [0, 1, 2, 3, 4], [0, 1, 2, 3, 4, 5], [0, 1, 2, 3, 4, 5, 6, 7]] tm rfl rfl rfl rfl ?_
    refine RD.op rfl rfl rfl (eff_callT (rules_ret) co34 rfl rfl rfl rfl) ?_
    refine RD.op rfl rfl rfl (eff_fieldAddr rfl rfl tf28_2 (by decide) rfl rfl rfl (Nat.le_of_ble_eq_true rfl)) ?_
    refine RD.op rfl rfl rfl (eff_load (y := .t _) rfl rfl ti3 rfl (.one rfl rfl rfl rfl)) ?_
    refine RD.op rfl rfl rfl (eff_rule (u := .fn 53 []) (b := true) rfl rfl rfl rfl (by rw [hc1]; rfl) (by rw [hc1]; rfl)) ?_
    refine mvD ?_
    refine RD.op rfl rfl rfl (eff_extract rfl rfl rfl rfl) ?_
    refine RD.op rfl rfl rfl (eff_extract rfl rfl rfl rfl) ?_
    refine RD.op rfl rfl rfl (eff_assign (v := .t _) rfl rfl rfl) ?_
    refine RD.op rfl rfl rfl (eff_assign (v := .t _) rfl rfl rfl) ?_
    refine RD.nil ?_
    refine awp_seq ?_
    refine awp_rw rfl ?_
    refine mvT ?_
    refine mvT ?_
    refine RW.gop rfl rfl rfl rfl rfl rfl (eff_move (v := .t _) rfl rfl rfl) ?_
    refine RW.gop rfl rfl rfl rfl rfl rfl (eff_load rfl rfl ti28 rfl (.whole rfl rfl rfl rfl rfl rfl)) ?_
    refine RW.gop rfl rfl rfl rfl rfl rfl (eff_load rfl rfl ti23 rfl (.whole rfl rfl rfl rfl rfl rfl)) ?_
    refine RW.gop rfl rfl rfl rfl rfl rfl (eff_move (v := .t _) rfl rfl rfl) ?_
    refine RW.gop rfl rfl rfl rfl rfl rfl (eff_callT (rule0_ret d s n) co53 rfl rfl rfl rfl) ?_
    refine pkT ?_
    refine asT ?_
    refine RW.nil ?_
    refine awp_ret ?_
    exact ⟨Or.inr rfl, [_], ⟨.tmp (.t _), trivial⟩, wk_bool (by unfold rightD; rw [if_pos hc1])⟩
  · by_cases hc2 : d.kind = 1
    · refine awp_rd [(some 10, []), (some 11, []), (some 12, []), (some 13, []), (some 9, []), (some 14, []), (some 15, []), (some 7, []), (some 8, [])] [[], [], [1], [0, 1, 2], [0, 1, 2, 3], [0, 1, 2, 3, 4], [0, 1, 2, 3, 4], [0, 1, 2, 3, 4, 5], [0, 1, 2, 3, 4, 5, 6, 7]] tm rfl rfl rfl rfl ?_
      refine RD.op rfl rfl rfl (eff_callT (rules_ret) co34 rfl rfl rfl rfl) ?_
      refine RD.op rfl rfl rfl (eff_fieldAddr rfl rfl tf28_2 (by decide) rfl rfl rfl (Nat.le_of_ble_eq_true rfl)) ?_
      refine RD.op rfl rfl rfl (eff_load (y := .t _) rfl rfl ti3 rfl (.one rfl rfl rfl rfl)) ?_
      refine RD.op rfl rfl rfl (eff_rule (u := .fn 54 []) (b := true) rfl rfl rfl rfl (by rw [hc2]; rfl) (by rw [hc2]; rfl)) ?_
      refine mvD ?_
      refine RD.op rfl rfl rfl (eff_extract rfl rfl rfl rfl) ?_
      refine RD.op rfl rfl rfl (eff_extract rfl rfl rfl rfl) ?_
      refine RD.op rfl rfl rfl (eff_assign (v := .t _) rfl rfl rfl) ?_
      refine RD.op rfl rfl rfl (eff_assign (v := .t _) rfl rfl rfl) ?_
      refine RD.nil ?_
      refine awp_seq ?_
      refine awp_rw rfl ?_
      refine mvT ?_
      refine mvT ?_
      refine RW.gop rfl rfl rfl rfl rfl rfl (eff_move (v := .t _) rfl rfl rfl) ?_
      refine RW.gop rfl rfl rfl rfl rfl rfl (eff_load rfl rfl ti28 rfl (.whole rfl rfl rfl rfl rfl rfl)) ?_
      refine RW.gop rfl rfl rfl rfl rfl rfl (eff_load rfl rfl ti23 rfl (.whole rfl rfl rfl rfl rfl rfl)) ?_
      refine RW.gop rfl rfl rfl rfl rfl rfl (eff_move (v := .t _) rfl rfl rfl) ?_
      refine RW.gop rfl rfl rfl rfl rfl rfl (eff_callT (rule1_ret d s n hs hx hd) co54 rfl rfl rfl rfl) ?_
      refine pkT ?_
      refine asT ?_
      refine RW.nil ?_
      refine awp_ret ?_
      exact ⟨Or.inr rfl, [_], ⟨.tmp (.t _), trivial⟩, wk_bool (by unfold rightD; rw [if_neg (by assumption), if_pos hc2])⟩
    · by_cases hc3 : d.kind = 2
      · refine awp_rd [(some 10, []), (some 11, []), (some 12, []), (some 13, []), (some 9, []), (some 14, []), (some 15, []), (some 7, []), (some 8, [])] [[], [], [1], [0, 1, 2], [0, 1, 2, 3], [0, 1, 2, 3, 4], [0, 1, 2, 3, 4], [0, 1, 2, 3, 4, 5], [0, 1, 2, 3, 4, 5, 6, 7]] tm rfl rfl rfl rfl ?_
        refine RD.op rfl rfl rfl (eff_callT (rules_ret) co34 rfl rfl rfl rfl) ?_
        refine RD.op rfl rfl rfl (eff_fieldAddr rfl rfl tf28_2 (by decide) rfl rfl rfl (Nat.le_of_ble_eq_true rfl)) ?_
        refine RD.op rfl rfl rfl (eff_load (y := .t _) rfl rfl ti3 rfl (.one rfl rfl rfl rfl)) ?_
        refine RD.op rfl rfl rfl (eff_rule (u := .fn 56 []) (b := true) rfl rfl rfl rfl (by rw [hc3]; rfl) (by rw [hc3]; rfl)) ?_
        refine mvD ?_
        refine RD.op rfl rfl rfl (eff_extract rfl rfl rfl rfl) ?_
        refine RD.op rfl rfl rfl (eff_extract rfl rfl rfl rfl) ?_
        refine RD.op rfl rfl rfl (eff_assign (v := .t _) rfl rfl rfl) ?_
        refine RD.op rfl rfl rfl (eff_assign (v := .t _) rfl rfl rfl) ?_
        refine RD.nil ?_
        refine awp_seq ?_
        refine awp_rw rfl ?_
        refine mvT ?_
        refine mvT ?_
        refine RW.gop rfl rfl rfl rfl rfl rfl (eff_move (v := .t _) rfl rfl rfl) ?_
        refine RW.gop rfl rfl rfl rfl rfl rfl (eff_load rfl rfl ti28 rfl (.whole rfl rfl rfl rfl rfl rfl)) ?_
        refine RW.gop rfl rfl rfl rfl rfl rfl (eff_load rfl rfl ti23 rfl (.whole rfl rfl rfl rfl rfl rfl)) ?_
        refine RW.gop rfl rfl rfl rfl rfl rfl (eff_move (v := .t _) rfl rfl rfl) ?_
        refine RW.gop rfl rfl rfl rfl rfl rfl (eff_callT (rule2_ret d s n) co56 rfl rfl rfl rfl) ?_
        refine pkT ?_
        refine asT ?_
        refine RW.nil ?_
        refine awp_ret ?_
        exact ⟨Or.inr rfl, [_], ⟨.tmp (.t _), trivial⟩, wk_bool (by unfold rightD; rw [if_neg (by assumption), if_neg (by assumption), if_pos hc3])⟩
      · by_cases hc4 : d.kind = 3
        · refine awp_rd [(some 10, []), (some 11, []), (some 12, []), (some 13, []), (some 9, []), (some 14, []), (some 15, []), (some 7, []), (some 8, [])] [[], [], [1], [0, 1, 2], [0, 1, 2, 3], [0, 1, 2, 3, 4], [0, 1, 2, 3, 4], [0, 1, 2, 3, 4, 5], [0, 1, 2, 3, 4, 5, 6, 7]] tm rfl rfl rfl rfl ?_
          refine RD.op rfl rfl rfl (eff_callT (rules_ret) co34 rfl rfl rfl rfl) ?_
          refine RD.op rfl rfl rfl (eff_fieldAddr rfl rfl tf28_2 (by decide) rfl rfl rfl (Nat.le_of_ble_eq_true rfl)) ?_
          refine RD.op rfl rfl rfl (eff_load (y := .t _) rfl rfl ti3 rfl (.one rfl rfl rfl rfl)) ?_
          refine RD.op rfl rfl rfl (eff_rule (u := .fn 57 []) (b := true) rfl rfl rfl rfl (by rw [hc4]; rfl) (by rw [hc4]; rfl)) ?_
          refine mvD ?_
          refine RD.op rfl rfl rfl (eff_extract rfl rfl rfl rfl) ?_
          refine RD.op rfl rfl rfl (eff_extract rfl rfl rfl rfl) ?_
          refine RD.op rfl rfl rfl (eff_assign (v := .t _) rfl rfl rfl) ?_
          refine RD.op rfl rfl rfl (eff_assign (v := .t _) rfl rfl rfl) ?_
          refine RD.nil ?_
          refine awp_seq ?_
          refine awp_rw rfl ?_
          refine mvT ?_
          refine mvT ?_
          refine RW.gop rfl rfl rfl rfl rfl rfl (eff_move (v := .t _) rfl rfl rfl) ?_
          refine RW.gop rfl rfl rfl rfl rfl rfl (eff_load rfl rfl ti28 rfl (.whole rfl rfl rfl rfl rfl rfl)) ?_
          refine RW.gop rfl rfl rfl rfl rfl rfl (eff_load rfl rfl ti23 rfl (.whole rfl rfl rfl rfl rfl rfl)) ?_
          refine RW.gop rfl rfl rfl rfl rfl rfl (eff_move (v := .t _) rfl rfl rfl) ?_
          refine RW.gop rfl rfl rfl rfl rfl rfl (eff_callT (rule3_ret d s n) co57 rfl rfl rfl rfl) ?_
          refine pkT ?_
          refine asT ?_
          refine RW.nil ?_
          refine awp_ret ?_
          exact ⟨Or.inr rfl, [_], ⟨.tmp (.t _), trivial⟩, wk_bool (by unfold rightD; rw [if_neg (by assumption), if_neg (by assumption), if_neg (by assumption), if_pos hc4])⟩
        · refine awp_rd [(some 10, []), (some 11, []), (some 12, []), (some 13, []), (some 9, []), (some 14, []), (some 15, []), (some 7, []), (some 8, [])] [[], [], [1], [0, 1, 2], [0, 1, 2, 3], [0, 1, 2, 3, 4], [0, 1, 2, 3, 4], [0, 1, 2, 3, 4, 5], [0, 1, 2, 3, 4, 5, 6, 7]] tm rfl rfl rfl rfl ?_
          refine RD.op rfl rfl rfl (eff_callT (rules_ret) co34 rfl rfl rfl rfl) ?_
          refine RD.op rfl rfl rfl (eff_fieldAddr rfl rfl tf28_2 (by decide) rfl rfl rfl (Nat.le_of_ble_eq_true rfl)) ?_
          refine RD.op rfl rfl rfl (eff_load (y := .t _) rfl rfl ti3 rfl (.one rfl rfl rfl rfl)) ?_
          refine RD.op rfl rfl rfl (eff_rule (u := .nilf) (b := false) rfl rfl rfl rfl (by rw [rule_none (by assumption) (by assumption) (by assumption) (by assumption)]; rfl) (by rw [rule_none (by assumption) (by assumption) (by assumption) (by assumption)]; rfl)) ?_
          refine mvD ?_
          refine RD.op rfl rfl rfl (eff_extract rfl rfl rfl rfl) ?_
          refine RD.op rfl rfl rfl (eff_extract rfl rfl rfl rfl) ?_
          refine RD.op rfl rfl rfl (eff_assign (v := .t _) rfl rfl rfl) ?_
          refine RD.op rfl rfl rfl (eff_assign (v := .t _) rfl rfl rfl) ?_
          refine RD.nil ?_
          refine awp_seq ?_
          refine awp_rw rfl ?_
          refine mvT ?_
          refine mvT ?_
          refine gkT ?_
          refine gkT ?_
          refine gkT ?_
          refine gkT ?_
          refine gkT ?_
          refine pkT ?_
          refine asT ?_
          refine RW.nil ?_
          refine awp_ret ?_
          exact ⟨Or.inr rfl, [_], ⟨.tmp (.t _), trivial⟩, wk_bool (by unfold rightD; rw [if_neg (by assumption), if_neg (by assumption), if_neg (by assumption), if_neg (by assumption)])⟩

theorem rright_ret (d : Dec) (s : Rep) (n : Int) (hs : HP s) (hx : NX 1000000 s) (hd : -2000000 ≤ d.seq ∧ d.seq ≤ 2000000) : Ret Tryd.prog 15 [encD d, encR s, encI n] (.bool (rightD d s n)) := by
  refine ret_of_awp Tryd.func15 rfl (Nat.le_of_ble_eq_true rfl) ?_
  refine awp_seq ?_
  refine awp_rw rfl ?_
  refine RW.new rfl rfl (eff_boxK (v := .t _) (k := 4) (id := 3) rfl rfl rfl rfl rfl rfl) ?_
  refine RW.new rfl rfl (eff_boxK (v := .t _) (k := 4) (id := 4) rfl rfl rfl rfl rfl rfl) ?_
  refine asT ?_
  refine RW.nil ?_
  refine awp_seq ?_
  refine awp_seq ?_
  refine awp_rw rfl ?_
  refine faT tf28_2 ?_
  refine l1T ti3 rfl rfl rfl rfl rfl (.one rfl rfl rfl rfl) ?_
  refine RW.nil ?_
  refine awp_block ?_
  refine awp_seq ?_
  refine awp_rw rfl ?_
  refine ioT ?_
  refine asT ?_
  refine RW.nil ?_
  refine awp_cond rfl (fun h1 => ?_) (fun h1 => ?_)
  · try simp only [cl] at h1
    refine awp_seq ?_
    refine awp_rw rfl ?_
    refine faT tf23_3 ?_
    refine l1T ti4 rfl rfl rfl rfl rfl (.one rfl rfl rfl rfl) ?_
    refine RW.op rfl rfl (eff_unop rfl rfl rfl rfl) ?_
    refine mvT ?_
    refine RW.split 14 rfl (fun h2 => ?_) (fun h2 => ?_)
    · try simp only [cl] at h2
      refine RW.gop rfl rfl rfl rfl rfl rfl (eff_fieldAddr rfl rfl tf23_0 (by decide) rfl rfl rfl (Nat.le_of_ble_eq_true rfl)) ?_
      refine RW.gop rfl rfl rfl rfl rfl rfl (eff_load (y := .t _) rfl rfl ti3 rfl (.one rfl rfl rfl rfl)) ?_
      refine RW.gop rfl rfl rfl rfl rfl rfl (eff_move (v := .t _) rfl rfl rfl) ?_
      refine RW.gop rfl rfl rfl rfl rfl rfl (eff_iop rfl rfl rfl rfl rfl) ?_
      refine pkT ?_
      refine asT ?_
      refine RW.nil ?_
      refine awp_ret ?_
      exact ⟨Or.inr rfl, [_], ⟨.tmp (.t _), trivial⟩, wk_bool (by unfold rightD; simp [*])⟩
    · try simp only [cl] at h2
      refine gkT ?_
      refine gkT ?_
      refine gkT ?_
      refine gkT ?_
      refine pkT ?_
      refine asT ?_
      refine RW.nil ?_
      refine awp_ret ?_
      exact ⟨Or.inr rfl, [_], ⟨.tmp (.t _), trivial⟩, wk_bool (by unfold rightD; simp [*])⟩
  · try simp only [cl] at h1
    refine awp_seq ?_
    refine awp_rw rfl ?_
    refine ioT ?_
    refine asT ?_
    refine RW.nil ?_
    refine awp_cond rfl (fun h3 => ?_) (fun h3 => ?_)
    · try simp only [cl] at h3
      refine awp_seq ?_
      refine awp_rw rfl ?_
      refine faT tf28_3 ?_
      refine l1T ti3 rfl rfl rfl rfl rfl (.one rfl rfl rfl rfl) ?_
      refine mvT ?_
      refine ioT ?_
      refine mvT ?_
      refine RW.split 26 rfl (fun h4 => ?_) (fun h4 => ?_)
      · try simp only [cl] at h4
        refine RW.gop rfl rfl rfl rfl rfl rfl (eff_fieldAddr rfl rfl tf28_3 (by decide) rfl rfl rfl (Nat.le_of_ble_eq_true rfl)) ?_
        refine RW.gop rfl rfl rfl rfl rfl rfl (eff_load (y := .t _) rfl rfl ti3 rfl (.one rfl rfl rfl rfl)) ?_
        refine RW.gop rfl rfl rfl rfl rfl rfl (eff_fieldAddr rfl rfl tf23_0 (by decide) rfl rfl rfl (Nat.le_of_ble_eq_true rfl)) ?_
        refine RW.gop rfl rfl rfl rfl rfl rfl (eff_load (y := .t _) rfl rfl ti3 rfl (.one rfl rfl rfl rfl)) ?_
        refine RW.gop rfl rfl rfl rfl rfl rfl (eff_iop rfl rfl rfl rfl rfl) ?_
        refine pkT ?_
        refine mvT ?_
        refine RW.split 33 rfl (fun h5 => ?_) (fun h5 => ?_)
        · try simp only [cl] at h5
          refine RW.gop rfl rfl rfl rfl rfl rfl (eff_load rfl rfl ti23 rfl (.whole rfl rfl rfl rfl rfl rfl)) ?_
          refine RW.gop rfl rfl rfl rfl rfl rfl (eff_fieldAddr rfl rfl tf28_3 (by decide) rfl rfl rfl (Nat.le_of_ble_eq_true rfl)) ?_
          refine RW.gop rfl rfl rfl rfl rfl rfl (eff_load (y := .t _) rfl rfl ti3 rfl (.one rfl rfl rfl rfl)) ?_
          refine RW.gop rfl rfl rfl rfl rfl rfl (eff_callT (rhas_ret s d.seq hs hx hd) co35 rfl rfl rfl rfl) ?_
          refine RW.gop rfl rfl rfl rfl rfl rfl (eff_unop rfl rfl rfl rfl) ?_
          refine pkT ?_
          refine asT ?_
          refine RW.nil ?_
          refine awp_ret ?_
          exact ⟨Or.inr rfl, [_], ⟨.tmp (.t _), trivial⟩, wk_bool (by unfold rightD; simp [*])⟩
        · try simp only [cl] at h5
          refine gkT ?_
          refine gkT ?_
          refine gkT ?_
          refine gkT ?_
          refine gkT ?_
          refine pkT ?_
          refine asT ?_
          refine RW.nil ?_
          refine awp_ret ?_
          exact ⟨Or.inr rfl, [_], ⟨.tmp (.t _), trivial⟩, wk_bool (by unfold rightD; simp [*])⟩
      · try simp only [cl] at h4
        refine gkT ?_
        refine gkT ?_
        refine gkT ?_
        refine gkT ?_
        refine gkT ?_
        refine pkT ?_
        refine mvT ?_
        refine gkT ?_
        refine gkT ?_
        refine gkT ?_
        refine gkT ?_
        refine gkT ?_
        refine pkT ?_
        refine asT ?_
        refine RW.nil ?_
        refine awp_ret ?_
        exact ⟨Or.inr rfl, [_], ⟨.tmp (.t _), trivial⟩, wk_bool (by unfold rightD; simp [*])⟩
    · try simp only [cl] at h3
      refine awp_seq ?_
      refine awp_rw rfl ?_
      refine ioT ?_
      refine asT ?_
      refine RW.nil ?_
      refine awp_cond rfl (fun h6 => ?_) (fun h6 => ?_)
      · try simp only [cl] at h6
        refine awp_seq ?_
        refine awp_rw rfl ?_
        refine faT tf23_3 ?_
        refine l1T ti4 rfl rfl rfl rfl rfl (.one rfl rfl rfl rfl) ?_
        refine asT ?_
        refine RW.nil ?_
        refine awp_ret ?_
        exact ⟨Or.inr rfl, [_], ⟨.tmp (.t _), trivial⟩, wk_bool (by unfold rightD; simp [*])⟩
      · try simp only [cl] at h6
        refine awp_seq ?_
        refine awp_rw rfl ?_
        refine ioT ?_
        refine asT ?_
        refine RW.nil ?_
        refine awp_cond rfl (fun h7 => ?_) (fun h7 => ?_)
        · try simp only [cl] at h7
          refine awp_seq ?_
          refine awp_rw rfl ?_
          refine faT tf28_3 ?_
          refine l1T ti3 rfl rfl rfl rfl rfl (.one rfl rfl rfl rfl) ?_
          refine faT tf23_0 ?_
          refine l1T ti3 rfl rfl rfl rfl rfl (.one rfl rfl rfl rfl) ?_
          refine ioT ?_
          refine asT ?_
          refine RW.nil ?_
          refine awp_ret ?_
          exact ⟨Or.inr rfl, [_], ⟨.tmp (.t _), trivial⟩, wk_bool (by unfold rightD; simp [*])⟩
        · try simp only [cl] at h7
          refine awp_skip ?_
          refine awp_seq ?_
          refine awp_rw rfl ?_
          refine asT ?_
          refine RW.nil ?_
          refine awp_ret ?_
          exact ⟨Or.inr rfl, [_], ⟨.tmp (.t _), trivial⟩, wk_bool (by unfold rightD; simp [*])⟩

end Go.Tv.C36

end
section
open Go Go.Tv Go.Proofs
namespace Go.Tv.C36
set_option maxRecDepth 20000
set_option maxHeartbeats 2000000
set_option linter.unusedSimpArgs false
set_option linter.unusedVariables false
theorem around_ret (n m : Int) (hn : I64 n) (hm : 0 < m ∧ m ≤ 9223372036854775807) : Ret Tryd.prog 13 [encI n, encI m] (encI (around n m)) := by
  unfold I64 at hn
  refine ret_of_awp Tryd.func13 rfl (Nat.le_of_ble_eq_true rfl) ?_
  refine awp_seq ?_
  refine awp_rw rfl ?_
  refine asT ?_
  refine RW.nil ?_
  refine awp_seq ?_
  refine awp_seq ?_
  refine awp_rw rfl ?_
  refine mvT ?_
  refine ioT ?_
  refine RW.nil ?_
  refine awp_cond rfl (fun h1 => ?_) (fun h1 => ?_)
  · try simp only [cl] at h1
    refine awp_rw rfl ?_
    refine mvT ?_
    refine RW.op rfl rfl (eff_iop rfl rfl rfl rfl (iadd (by omega))) ?_
    refine RW.op rfl rfl (eff_unop (r := .int .i64 (-(n + 1))) rfl rfl rfl (uneg (by omega))) ?_
    refine asT ?_
    refine RW.nil ?_
    refine awp_seq ?_
    refine awp_rw rfl ?_
    refine mvT ?_
    refine mvT ?_
    refine RW.op rfl rfl (eff_remE (r := around n m) rfl rfl rfl rfl (by omega) (by unfold around; first | (rw [if_pos h1]; exact tmod_pos (by omega)) | (rw [if_neg h1]; exact tmod_pos (by omega)))) ?_
    refine asT ?_
    refine RW.nil ?_
    refine awp_ret ?_
    exact ⟨Or.inr rfl, [_], ⟨.tmp (.t _), trivial⟩, .refl _⟩
  · try simp only [cl] at h1
    refine awp_skip ?_
    refine awp_seq ?_
    refine awp_rw rfl ?_
    refine mvT ?_
    refine mvT ?_
    refine RW.op rfl rfl (eff_remE (r := around n m) rfl rfl rfl rfl (by omega) (by unfold around; first | (rw [if_pos h1]; exact tmod_pos (by omega)) | (rw [if_neg h1]; exact tmod_pos (by omega)))) ?_
    refine asT ?_
    refine RW.nil ?_
    refine awp_ret ?_
    exact ⟨Or.inr rfl, [_], ⟨.tmp (.t _), trivial⟩, .refl _⟩

theorem state_ret (n h k : Int) (b : Bool) (hn : I64 n) (hh : I64 h) (hk : I64 k) : Ret Tryd.prog 12 [encI n, encI h, encI k, .bool b] (encR (state n h k b)) := by
  refine ret_of_awp Tryd.func12 rfl (Nat.le_of_ble_eq_true rfl) ?_
  refine awp_seq ?_
  refine awp_rw rfl ?_
  refine RW.new rfl rfl (eff_allocK (k := 4) (id := 8) rfl rfl tz23 rfl rfl) ?_
  refine RW.nil ?_
  refine awp_seq ?_
  refine awp_rw rfl ?_
  refine mvT ?_
  refine RW.op rfl rfl (eff_callT (around_ret _ _ (by first | assumption | exact (by first | assumption | omega)) (by omega)) co13 rfl rfl rfl rfl) ?_
  refine mvT ?_
  refine RW.op rfl rfl (eff_callT (around_ret _ _ (by first | assumption | exact (by first | assumption | omega)) (by omega)) co13 rfl rfl rfl rfl) ?_
  refine mvT ?_
  refine RW.op rfl rfl (eff_callT (around_ret _ _ (by first | assumption | exact (by first | assumption | omega)) (by omega)) co13 rfl rfl rfl rfl) ?_
  refine mvT ?_
  refine RW.op rfl rfl (eff_buildT (ys := [_, _, _, _]) rfl rfl tz23 tg23 rfl) ?_
  refine RW.store rfl rfl (eff_storeW (v := .t _) (els := [_]) (els' := [_]) rfl rfl ti23 rfl rfl rfl rfl rfl rfl rfl rfl rfl) ?_
  refine RW.nil ?_
  refine awp_ret ?_
  exact ⟨Or.inr rfl, [_], ⟨.cell rfl ti23 (.whole rfl rfl rfl rfl rfl rfl) (.t _), trivial⟩, .refl _⟩

theorem modulo_ret (n : Int) : Ret Tryd.prog 58 [encI n] (encI (n % 256)) := by
  have ht := tmod_range n
  refine ret_of_awp Tryd.func58 rfl (Nat.le_of_ble_eq_true rfl) ?_
  refine awp_seq ?_
  refine awp_rw rfl ?_
  refine asT ?_
  refine RW.nil ?_
  refine awp_seq ?_
  refine awp_rw rfl ?_
  refine mvT ?_
  refine RW.op rfl rfl (eff_rem rfl rfl rfl rfl (by first | decide | omega)) ?_
  refine asT ?_
  refine RW.nil ?_
  refine awp_seq ?_
  refine awp_seq ?_
  refine awp_rw rfl ?_
  refine mvT ?_
  refine ioT ?_
  refine RW.nil ?_
  refine awp_cond rfl (fun h1 => ?_) (fun h1 => ?_)
  · try simp only [cl] at h1
    refine awp_rw rfl ?_
    refine mvT ?_
    refine RW.op rfl rfl (eff_iop (r := encI (n.tmod 256 + 256)) rfl rfl rfl rfl (iadd (by omega))) ?_
    refine asT ?_
    refine RW.nil ?_
    refine awp_seq ?_
    refine awp_rw rfl ?_
    refine mvT ?_
    refine asT ?_
    refine RW.nil ?_
    refine awp_ret ?_
    rw [← tmod_fix n, if_pos h1]
    exact ⟨Or.inr rfl, [_], ⟨.tmp (.t _), trivial⟩, .refl _⟩
  · try simp only [cl] at h1
    refine awp_skip ?_
    refine awp_seq ?_
    refine awp_rw rfl ?_
    refine mvT ?_
    refine asT ?_
    refine RW.nil ?_
    refine awp_ret ?_
    rw [← tmod_fix n, if_neg h1]
    exact ⟨Or.inr rfl, [_], ⟨.tmp (.t _), trivial⟩, .refl _⟩

theorem bit_ret (h i : Nat) (hh : h < 32768) (hi : i ≤ 64) : Ret Tryd.prog 59 [encI (h : Nat), encI (i : Nat)] (.bool (decide (h / 2 ^ i % 2 = 1))) := by
  refine ret_of_awp Tryd.func59 rfl (Nat.le_of_ble_eq_true rfl) ?_
  refine awp_seq ?_
  refine awp_rw rfl ?_
  refine asT ?_
  refine RW.nil ?_
  refine awp_seq ?_
  refine awp_seq ?_
  refine awp_rw rfl ?_
  refine asT ?_
  refine RW.nil ?_
  refine awp_block ?_
  refine awp_loopW (fun m s => ∃ (k : Nat), (k ≤ i) ∧ m = i - k ∧ s = ⟨16, [(0, .t (encI ((hv h k : Nat) : Int))), (1, .t (encI (i : Nat))), (5, .t (encI (k : Nat)))], []⟩) (_) (⟨_, weak_keep (n := 16) (fr' := [(0, .t (encI ((hv h 0 : Nat) : Int))), (1, .t (encI (i : Nat))), (5, .t (encI (0 : Nat)))]) (st' := []) ⟨rfl, rfl, rfl, rfl, rfl, rfl, trivial⟩ trivial, 0, (by omega), rfl, rfl⟩) ?_
  rintro m s ⟨k, hk, rfl, rfl⟩
  have hq := hv_le h k
  refine awp_seq ?_
  refine awp_seq ?_
  refine awp_rw rfl ?_
  refine mvT ?_
  refine mvT ?_
  refine ioT ?_
  refine RW.nil ?_
  refine awp_cond rfl (fun h1 => ?_) (fun h1 => ?_)
  · try simp only [cl] at h1
    refine awp_skip ?_
    refine awp_seq ?_
    refine awp_block ?_
    refine awp_rw rfl ?_
    refine mvT ?_
    refine RW.op rfl rfl (eff_quoE (r := ((hv h (k + 1) : Nat) : Int)) rfl rfl rfl rfl (by decide) (half_hv h k hh)) ?_
    refine asT ?_
    refine RW.nil ?_
    refine awp_rw rfl ?_
    refine mvT ?_
    refine RW.op rfl rfl (eff_iop rfl rfl rfl rfl (iadd (by omega))) ?_
    refine asT ?_
    refine RW.nil ?_
    refine ⟨_, ?_, _, weak_keep (n := 16) (fr' := [(0, .t (encI ((hv h (k + 1) : Nat) : Int))), (1, .t (encI (i : Nat))), (5, .t (encI ((k + 1) : Nat)))]) (st' := []) ⟨rfl, rfl, rfl, rfl, rfl, rfl, trivial⟩ trivial, k + 1, (by omega), rfl, rfl⟩
    omega
  · try simp only [cl] at h1
    refine awp_exit ?_
    refine awp_seq ?_
    refine awp_rw rfl ?_
    refine mvT ?_
    refine RW.op rfl rfl (eff_remE (r := ((hv h k % 2 : Nat) : Int)) rfl rfl rfl rfl (by decide) (by rw [tmod_pos (Int.natCast_nonneg _)]; rfl)) ?_
    refine ioT ?_
    refine asT ?_
    refine RW.nil ?_
    refine awp_ret ?_
    obtain rfl : k = i := by omega
    rw [show decide (h / 2 ^ k % 2 = 1) = (((hv h k % 2 : Nat) : Int) == 1) from by rw [← hv_eq h k, Bool.eq_iff_iff]; simp only [decide_eq_true_eq, beq_iff_eq]; omega]
    exact ⟨Or.inr rfl, [_], ⟨.tmp (.t _), trivial⟩, .refl _⟩

theorem power_ret (i : Nat) (hi : i ≤ 20) : Ret Tryd.prog 60 [encI (i : Nat)] (encI ((2 ^ i : Nat) : Int)) := by
  refine ret_of_awp Tryd.func60 rfl (Nat.le_of_ble_eq_true rfl) ?_
  refine awp_seq ?_
  refine awp_rw rfl ?_
  refine asT ?_
  refine RW.nil ?_
  refine awp_seq ?_
  refine awp_rw rfl ?_
  refine asT ?_
  refine RW.nil ?_
  refine awp_seq ?_
  refine awp_seq ?_
  refine awp_rw rfl ?_
  refine asT ?_
  refine RW.nil ?_
  refine awp_block ?_
  refine awp_loopW (fun m s => ∃ (k : Nat), (k ≤ i) ∧ m = i - k ∧ s = ⟨13, [(0, .t (encI (i : Nat))), (3, .t (encI ((2 ^ k : Nat) : Int))), (4, .t (encI (k : Nat)))], []⟩) (_) (⟨_, weak_keep (n := 13) (fr' := [(0, .t (encI (i : Nat))), (3, .t (encI ((2 ^ 0 : Nat) : Int))), (4, .t (encI (0 : Nat)))]) (st' := []) ⟨rfl, rfl, rfl, rfl, rfl, rfl, trivial⟩ trivial, 0, (by omega), rfl, rfl⟩) ?_
  rintro m s ⟨k, hk, rfl, rfl⟩
  have hp := Nat.pow_le_pow_right (n := 2) (by decide) (show k ≤ 20 by omega)
  refine awp_seq ?_
  refine awp_seq ?_
  refine awp_rw rfl ?_
  refine mvT ?_
  refine mvT ?_
  refine ioT ?_
  refine RW.nil ?_
  refine awp_cond rfl (fun h1 => ?_) (fun h1 => ?_)
  · try simp only [cl] at h1
    refine awp_skip ?_
    refine awp_seq ?_
    refine awp_block ?_
    refine awp_rw rfl ?_
    refine mvT ?_
    refine RW.op rfl rfl (eff_iop (r := encI ((2 ^ (k + 1) : Nat) : Int)) rfl rfl rfl rfl (twice_pow k (by omega))) ?_
    refine asT ?_
    refine RW.nil ?_
    refine awp_rw rfl ?_
    refine mvT ?_
    refine RW.op rfl rfl (eff_iop rfl rfl rfl rfl (iadd (by omega))) ?_
    refine asT ?_
    refine RW.nil ?_
    refine ⟨_, ?_, _, weak_keep (n := 13) (fr' := [(0, .t (encI (i : Nat))), (3, .t (encI ((2 ^ (k + 1) : Nat) : Int))), (4, .t (encI ((k + 1) : Nat)))]) (st' := []) ⟨rfl, rfl, rfl, rfl, rfl, rfl, trivial⟩ trivial, k + 1, (by omega), rfl, rfl⟩
    omega
  · try simp only [cl] at h1
    refine awp_exit ?_
    refine awp_seq ?_
    refine awp_rw rfl ?_
    refine mvT ?_
    refine asT ?_
    refine RW.nil ?_
    refine awp_ret ?_
    obtain rfl : k = i := by omega
    exact ⟨Or.inr rfl, [_], ⟨.tmp (.t _), trivial⟩, .refl _⟩

theorem tz64_ret (x : Nat) (hx : x < 18446744073709551616) : RetT Tryd.prog 90 [(1, deT)] [.int .u64 (x : Nat)] (encI (Lib.ctz 64 x : Nat)) := by
  refine retT_of_awp Tryd.func90 rfl (Nat.le_of_ble_eq_true rfl) ?_
  refine awp_seq ?_
  refine awp_rw rfl ?_
  refine asT ?_
  refine RW.nil ?_
  refine awp_seq ?_
  refine awp_seq ?_
  refine awp_rw rfl ?_
  refine mvT ?_
  refine ioT ?_
  refine RW.nil ?_
  refine awp_cond rfl (fun h1 => ?_) (fun h1 => ?_)
  · try simp only [cl] at h1
    refine awp_seq ?_
    refine awp_rw rfl ?_
    refine asT ?_
    refine RW.nil ?_
    refine awp_ret ?_
    obtain rfl : x = 0 := by omega
    exact ⟨Or.inr rfl, [_], ⟨.tmp (.t _), trivial⟩, .refl _⟩
  · try simp only [cl] at h1
    refine awp_skip ?_
    refine awp_seq ?_
    refine awp_rw rfl ?_
    have hx0 : x ≠ 0 := by omega
    obtain ⟨hlow, hct⟩ := Lib.lowest_bit 64 x hx0 hx
    have hlt : 2 ^ Lib.ctz 64 x < 18446744073709551616 := by rw [← hlow]; exact Nat.lt_of_le_of_lt Nat.and_le_left hx
    refine mvT ?_
    refine mvT ?_
    refine RW.op rfl rfl (eff_unop rfl rfl rfl (neg_nat hx0 hx)) ?_
    refine RW.op rfl rfl (eff_iop (r := .int .u64 ((2 ^ Lib.ctz 64 x : Nat) : Int)) rfl rfl rfl rfl (by rw [← hlow]; exact and_nat hx (by omega))) ?_
    refine RW.op rfl rfl (eff_iop (r := .int .u64 ((2 ^ Lib.ctz 64 x * 285870213051353865 % 18446744073709551616 : Nat) : Int)) rfl rfl rfl rfl (mul_u64 _ _)) ?_
    refine RW.op rfl rfl (eff_shrE (r := ((dix (Lib.ctz 64 x) : Nat) : Int)) rfl rfl rfl rfl (by decide) (shr58 _)) ?_
    refine RW.op rfl rfl (eff_indexAddrR rfl rfl Tryd.underlying125 ti5 rfl rfl rfl (dix_lt hct)) ?_
    refine RW.op rfl rfl (eff_loadR rfl rfl ti5 rfl (deB_get hct)) ?_
    refine RW.op rfl rfl (eff_convIntE (m := ((Lib.ctz 64 x : Nat) : Int)) rfl rfl (by rw [tu5]; rfl) tu3 rfl (by rw [wi64]; omega)) ?_
    refine asT ?_
    refine RW.nil ?_
    refine awp_ret ?_
    exact ⟨Or.inr rfl, [_], ⟨.tmp (.t _), trivial⟩, .refl _⟩

theorem tz_ret (x : Nat) (hx : x < 18446744073709551616) : RetT Tryd.prog 83 [(1, deT)] [.int .u64 (x : Nat)] (encI (Lib.ctz 64 x : Nat)) := by
  refine retT_of_awp Tryd.func83 rfl (Nat.le_of_ble_eq_true rfl) ?_
  refine awp_seq ?_
  refine awp_rw rfl ?_
  refine asT ?_
  refine RW.nil ?_
  refine awp_seq ?_
  refine awp_cond rfl (fun h => nomatch h) (fun _ => ?_)
  refine awp_skip ?_
  refine awp_seq ?_
  refine awp_rw rfl ?_
  refine mvT ?_
  refine RW.op rfl rfl (eff_callXT (tz64_ret _ hx) co90 rfl rfl rfl ⟨rfl, trivial⟩ rfl) ?_
  refine asT ?_
  refine RW.nil ?_
  refine awp_ret ?_
  exact ⟨Or.inr rfl, [_], ⟨.tmp (.t _), trivial⟩, .refl _⟩

theorem nan_ret (n : Int) : Ret Tryd.prog 101 [encI n] (.bool false) := by
  refine ret_of_awp Tryd.func101 rfl (Nat.le_of_ble_eq_true rfl) ?_
  refine awp_seq ?_
  refine awp_rw rfl ?_
  refine asT ?_
  refine RW.nil ?_
  refine awp_seq ?_
  refine awp_rw rfl ?_
  refine mvT ?_
  refine mvT ?_
  refine RW.op rfl rfl (eff_iop (r := .bool false) rfl rfl rfl rfl (by simp [iop])) ?_
  refine asT ?_
  refine RW.nil ?_
  refine awp_ret ?_
  exact ⟨Or.inr rfl, [_], ⟨.tmp (.t _), trivial⟩, .refl _⟩

theorem cmp_ret (a b : Int) : Ret Tryd.prog 88 [encI a, encI b] (encI (cmpI a b)) := by
  refine ret_of_awp Tryd.func88 rfl (Nat.le_of_ble_eq_true rfl) ?_
  refine awp_seq ?_
  refine awp_rw rfl ?_
  refine asT ?_
  refine RW.nil ?_
  refine awp_seq ?_
  refine awp_rw rfl ?_
  refine mvT ?_
  refine RW.op rfl rfl (eff_callT (nan_ret _) co101 rfl rfl rfl rfl) ?_
  refine asT ?_
  refine RW.nil ?_
  refine awp_seq ?_
  refine awp_rw rfl ?_
  refine mvT ?_
  refine RW.op rfl rfl (eff_callT (nan_ret _) co101 rfl rfl rfl rfl) ?_
  refine asT ?_
  refine RW.nil ?_
  refine awp_seq ?_
  refine awp_seq ?_
  refine awp_rw rfl ?_
  refine mvT ?_
  refine RW.nil ?_
  refine awp_cond rfl (fun h => nomatch h) (fun _ => ?_)
  refine awp_skip ?_
  refine awp_seq ?_
  refine awp_seq ?_
  refine awp_rw rfl ?_
  refine mvT ?_
  refine RW.nil ?_
  refine awp_cond rfl (fun h => nomatch h) (fun _ => ?_)
  refine awp_skip ?_
  refine awp_seq ?_
  refine awp_seq ?_
  refine awp_rw rfl ?_
  refine mvT ?_
  refine mvT ?_
  refine ioT ?_
  refine RW.nil ?_
  refine awp_cond rfl (fun h1 => ?_) (fun h1 => ?_)
  · try simp only [cl] at h1
    refine awp_seq ?_
    refine awp_rw rfl ?_
    refine asT ?_
    refine RW.nil ?_
    refine awp_ret ?_
    (rw [show cmpI a b = -1 from by unfold cmpI; rw [if_pos (by omega)]]; exact ⟨Or.inr rfl, [_], ⟨.tmp (.t _), trivial⟩, .refl _⟩)
  · try simp only [cl] at h1
    refine awp_skip ?_
    refine awp_seq ?_
    refine awp_seq ?_
    refine awp_rw rfl ?_
    refine mvT ?_
    refine mvT ?_
    refine ioT ?_
    refine RW.nil ?_
    refine awp_cond rfl (fun h2 => ?_) (fun h2 => ?_)
    · try simp only [cl] at h2
      refine awp_seq ?_
      refine awp_rw rfl ?_
      refine asT ?_
      refine RW.nil ?_
      refine awp_ret ?_
      (rw [show cmpI a b = 1 from by unfold cmpI; rw [if_neg (by omega), if_pos (by omega)]]; exact ⟨Or.inr rfl, [_], ⟨.tmp (.t _), trivial⟩, .refl _⟩)
    · try simp only [cl] at h2
      refine awp_skip ?_
      refine awp_seq ?_
      refine awp_rw rfl ?_
      refine asT ?_
      refine RW.nil ?_
      refine awp_ret ?_
      (rw [show cmpI a b = 0 from by unfold cmpI; rw [if_neg (by omega), if_neg (by omega)]]; exact ⟨Or.inr rfl, [_], ⟨.tmp (.t _), trivial⟩, .refl _⟩)

theorem flag_ret (b : Bool) : Ret Tryd.prog 86 [.bool b] (encI (flag b)) := by
  refine ret_of_awp Tryd.func86 rfl (Nat.le_of_ble_eq_true rfl) ?_
  refine awp_seq ?_
  refine awp_rw rfl ?_
  refine asT ?_
  refine RW.nil ?_
  refine awp_seq ?_
  refine awp_seq ?_
  refine awp_rw rfl ?_
  refine mvT ?_
  refine RW.nil ?_
  refine awp_cond rfl (fun h1 => ?_) (fun h1 => ?_)
  · try simp only [cl] at h1
    refine awp_seq ?_
    refine awp_rw rfl ?_
    refine asT ?_
    refine RW.nil ?_
    refine awp_ret ?_
    rw [h1]
    exact ⟨Or.inr rfl, [_], ⟨.tmp (.t _), trivial⟩, .refl _⟩
  · try simp only [cl] at h1
    refine awp_skip ?_
    refine awp_seq ?_
    refine awp_rw rfl ?_
    refine asT ?_
    refine RW.nil ?_
    refine awp_ret ?_
    rw [h1]
    exact ⟨Or.inr rfl, [_], ⟨.tmp (.t _), trivial⟩, .refl _⟩

theorem or_retG (l : List Int) (hl : l.length ≤ 1000000) : RetG Tryd.prog 87 [(0, some ⟨1, 3, 0, (l.map encI).map .t⟩)] [.own 0 0 0 l.length] [(0, some ⟨1, 3, 1, (l.map encI).map .t⟩)] (.t (encI (orI l))) := by
  refine retG_of_awp Tryd.func87 rfl (Nat.le_of_ble_eq_true rfl) ?_
  refine awp_seq ?_
  refine awp_rw rfl ?_
  refine asT ?_
  refine RW.nil ?_
  refine awp_seq ?_
  refine awp_rw rfl ?_
  refine asT ?_
  refine RW.nil ?_
  refine awp_seq ?_
  refine awp_seq ?_
  refine awp_rw rfl ?_
  refine mvO ?_
  refine RW.op rfl rfl (eff_len rfl rfl te26 rfl rfl rfl) ?_
  refine mvT ?_
  refine RW.nil ?_
  refine awp_block ?_
  refine awp_loopW (fun m s => ∃ (i : Nat), (i ≤ l.length) ∧ (∀ y, y ∈ l.take i → y = 0) ∧ m = l.length - i ∧ s = ⟨18, [(3, .t (encI 0)), (6, .own 0 0 0 l.length), (7, .t (encI l.length)), (8, .t (encI (i : Nat)))], [(0, some ⟨1, 3, 0, (l.map encI).map .t⟩)]⟩) (_) (⟨_, weak_keep (n := 18) (fr' := [(3, .t (encI 0)), (6, .own 0 0 0 l.length), (7, .t (encI l.length)), (8, .t (encI (0 : Nat)))]) (st' := [(0, some ⟨1, 3, 0, (l.map encI).map .t⟩)]) ⟨rfl, rfl, rfl, rfl, rfl, rfl, rfl, rfl, trivial⟩ ⟨rfl, okE_t, trivial⟩, 0, (by omega), (by simp), rfl, rfl⟩) ?_
  rintro m s ⟨i, hi, ha, rfl, rfl⟩
  refine awp_seq ?_
  refine awp_rw rfl ?_
  refine ioT ?_
  refine RW.nil ?_
  refine awp_seq ?_
  refine awp_cond rfl (fun h1 => ?_) (fun h1 => ?_)
  · try simp only [cl] at h1
    refine awp_skip ?_
    refine awp_seq ?_
    refine awp_block ?_
    refine awp_seq ?_
    refine awp_rw rfl ?_
    refine RW.op rfl rfl (eff_indexAddr rfl rfl te26 rfl rfl rfl rfl rfl rfl (by omega)) ?_
    refine RW.op rfl rfl (eff_load (y := .t (encI l[i])) rfl rfl ti3 rfl (.one rfl rfl (by simp only [Nat.zero_add, List.getElem?_map, List.getElem?_eq_getElem (show i < l.length by omega)]; rfl) rfl)) ?_
    refine asT ?_
    refine RW.nil ?_
    refine awp_seq ?_
    refine awp_rw rfl ?_
    refine mvT ?_
    refine mvT ?_
    refine ioT ?_
    refine RW.nil ?_
    refine awp_cond rfl (fun h2 => ?_) (fun h2 => ?_)
    · try simp only [cl] at h2
      refine awp_seq ?_
      refine awp_rw rfl ?_
      refine mvT ?_
      refine asT ?_
      refine RW.nil ?_
      refine awp_ret ?_
      have horE : orI l = l[i] := orI_hit (by omega) ha h2
      refine ⟨Or.inr rfl, [_], [.t (encI (orI l))], ⟨.tmp rfl, trivial⟩, rfl, Weak.trans (weak_raise (id := 0) 1 rfl (by decide)) ?_, rfl⟩
      exact weak_keep ⟨by first | rfl | (rw [horE]; rfl), rfl, trivial⟩ ⟨rfl, okE_t, trivial⟩
    · try simp only [cl] at h2
      refine awp_skip ?_
      refine awp_rw rfl ?_
      refine RW.op rfl rfl (eff_iop rfl rfl rfl rfl (iadd (by omega))) ?_
      refine mvT ?_
      refine RW.nil ?_
      refine ⟨_, ?_, _, weak_keep (n := 18) (fr' := [(3, .t (encI 0)), (6, .own 0 0 0 l.length), (7, .t (encI l.length)), (8, .t (encI ((i + 1) : Nat)))]) (st' := [(0, some ⟨1, 3, 0, (l.map encI).map .t⟩)]) ⟨rfl, rfl, rfl, rfl, rfl, rfl, rfl, rfl, trivial⟩ ⟨rfl, okE_t, trivial⟩, i + 1, (by omega), (by intro y hy; rcases (mem_take_succ (by omega)).1 hy with h | h; exact ha y h; rw [h]; exact h2), rfl, rfl⟩
      omega
  · try simp only [cl] at h1
    refine awp_exit ?_
    refine awp_seq ?_
    refine awp_rw rfl ?_
    refine mvT ?_
    refine asT ?_
    refine RW.nil ?_
    refine awp_ret ?_
    have hi2 : i = l.length := by omega
    subst hi2
    rw [List.take_length] at ha
    have horE : orI l = 0 := orI_none ha
    refine ⟨Or.inr rfl, [_], [.t (encI (orI l))], ⟨.tmp rfl, trivial⟩, rfl, Weak.trans (weak_raise (id := 0) 1 rfl (by decide)) ?_, rfl⟩
    exact weak_keep ⟨by first | rfl | (rw [horE]; rfl), rfl, trivial⟩ ⟨rfl, okE_t, trivial⟩

theorem compare_ret (a b : Rep) : Ret Tryd.prog 81 [encR a, encR b] (encI (cmpR a b)) := by
  refine ret_of_awp Tryd.func81 rfl (Nat.le_of_ble_eq_true rfl) ?_
  refine awp_seq ?_
  refine awp_rw rfl ?_
  refine RW.new rfl rfl (eff_boxK (v := .t _) (k := 4) (id := 2) rfl rfl rfl rfl rfl rfl) ?_
  refine RW.new rfl rfl (eff_boxK (v := .t _) (k := 4) (id := 3) rfl rfl rfl rfl rfl rfl) ?_
  refine asT ?_
  refine RW.nil ?_
  refine awp_seq ?_
  refine awp_rw rfl ?_
  refine asT ?_
  refine RW.nil ?_
  refine awp_seq ?_
  refine awp_rd [(some 6, []), (some 7, []), (some 8, []), (some 9, []), (some 10, []), (some 11, []), (some 12, []), (some 13, []), (some 14, []), (some 15, []), (some 16, []), (some 17, []), (some 18, []), (some 19, []), (some 20, []), (some 21, []), (some 22, []), (some 23, []), (some 24, []), (some 25, []), (some 26, []), (some 27, []), (some 28, []), (some 29, []), (some 30, [30]), (some 31, [30]), (some 4, [])] [[], [0], [], [2], [0, 1, 2, 3], [], [5], [], [7], [0, 1, 2, 3, 4, 5, 6, 7, 8], [], [10], [], [12], [0, 1, 2, 3, 4, 5, 6, 7, 8, 9, 10, 11, 12, 13], [], [], [16], [0, 1, 2, 3, 4, 5, 6, 7, 8, 9, 10, 11, 12, 13, 14, 15, 16, 17], [], [], [20], [0, 1, 2, 3, 4, 5, 6, 7, 8, 9, 10, 11, 12, 13, 14, 15, 16, 17, 18, 19, 20, 21], [0, 1, 2, 3, 4, 5, 6, 7, 8, 9, 10, 11, 12, 13, 14, 15, 16, 17, 18, 19, 20, 21, 22], [0, 1, 2, 3, 4, 5, 6, 7, 8, 9, 10, 11, 12, 13, 14, 15, 16, 17, 18, 19, 20, 21, 22, 23], [0, 1, 2, 3, 4, 5, 6, 7, 8, 9, 10, 11, 12, 13, 14, 15, 16, 17, 18, 19, 20, 21, 22, 23, 24], [0, 1, 2, 3, 4, 5, 6, 7, 8, 9, 10, 11, 12, 13, 14, 15, 16, 17, 18, 19, 20, 21, 22, 23, 24, 25]] tm rfl rfl rfl rfl ?_
  refine RD.op rfl rfl rfl (eff_fieldAddr rfl rfl tf23_0 (by decide) rfl rfl rfl (Nat.le_of_ble_eq_true rfl)) ?_
  refine RD.op rfl rfl rfl (eff_load (y := .t _) rfl rfl ti3 rfl (.one rfl rfl rfl rfl)) ?_
  refine RD.op rfl rfl rfl (eff_fieldAddr rfl rfl tf23_0 (by decide) rfl rfl rfl (Nat.le_of_ble_eq_true rfl)) ?_
  refine RD.op rfl rfl rfl (eff_load (y := .t _) rfl rfl ti3 rfl (.one rfl rfl rfl rfl)) ?_
  refine RD.op rfl rfl rfl (eff_callT (cmp_ret _ _) co88 rfl rfl rfl rfl) ?_
  refine RD.op rfl rfl rfl (eff_fieldAddr rfl rfl tf23_1 (by decide) rfl rfl rfl (Nat.le_of_ble_eq_true rfl)) ?_
  refine RD.op rfl rfl rfl (eff_load (y := .t _) rfl rfl ti3 rfl (.one rfl rfl rfl rfl)) ?_
  refine RD.op rfl rfl rfl (eff_fieldAddr rfl rfl tf23_1 (by decide) rfl rfl rfl (Nat.le_of_ble_eq_true rfl)) ?_
  refine RD.op rfl rfl rfl (eff_load (y := .t _) rfl rfl ti3 rfl (.one rfl rfl rfl rfl)) ?_
  refine RD.op rfl rfl rfl (eff_callT (cmp_ret _ _) co88 rfl rfl rfl rfl) ?_
  refine RD.op rfl rfl rfl (eff_fieldAddr rfl rfl tf23_2 (by decide) rfl rfl rfl (Nat.le_of_ble_eq_true rfl)) ?_
  refine RD.op rfl rfl rfl (eff_load (y := .t _) rfl rfl ti3 rfl (.one rfl rfl rfl rfl)) ?_
  refine RD.op rfl rfl rfl (eff_fieldAddr rfl rfl tf23_2 (by decide) rfl rfl rfl (Nat.le_of_ble_eq_true rfl)) ?_
  refine RD.op rfl rfl rfl (eff_load (y := .t _) rfl rfl ti3 rfl (.one rfl rfl rfl rfl)) ?_
  refine RD.op rfl rfl rfl (eff_callT (cmp_ret _ _) co88 rfl rfl rfl rfl) ?_
  refine mvD ?_
  refine RD.op rfl rfl rfl (eff_fieldAddr rfl rfl tf23_3 (by decide) rfl rfl rfl (Nat.le_of_ble_eq_true rfl)) ?_
  refine RD.op rfl rfl rfl (eff_load (y := .t _) rfl rfl ti4 rfl (.one rfl rfl rfl rfl)) ?_
  refine RD.op rfl rfl rfl (eff_callT (flag_ret _) co86 rfl rfl rfl rfl) ?_
  refine mvD ?_
  refine RD.op rfl rfl rfl (eff_fieldAddr rfl rfl tf23_3 (by decide) rfl rfl rfl (Nat.le_of_ble_eq_true rfl)) ?_
  refine RD.op rfl rfl rfl (eff_load (y := .t _) rfl rfl ti4 rfl (.one rfl rfl rfl rfl)) ?_
  refine RD.op rfl rfl rfl (eff_callT (flag_ret _) co86 rfl rfl rfl rfl) ?_
  refine RD.op rfl rfl rfl (eff_callT (cmp_ret _ _) co88 rfl rfl rfl rfl) ?_
  refine RD.new rfl rfl rfl (eff_buildSlice1 (id := 30) (els := [_, _, _, _]) rfl rfl te26 tz3 rfl (by decide) rfl rfl rfl rfl) ?_
  refine RD.new rfl rfl rfl (eff_callG (or_retG [cmpI a.next b.next, cmpI a.have_ b.have_, cmpI a.key b.key, cmpI (flag a.locked) (flag b.locked)] (Nat.le_of_ble_eq_true rfl)) co87 (fun id => id + 30) rfl rfl rfl ⟨.own _ _ _ _ rfl rfl, trivial⟩ (.t _) rfl ⟨⟨rfl, treeEls_t, ⟨_, rfl, Nat.le_of_ble_eq_true rfl⟩⟩, trivial⟩ ⟨⟨treeEls_t, .inl rfl⟩, trivial⟩) ?_
  refine RD.op rfl rfl rfl (eff_assign (v := .t _) rfl rfl rfl) ?_
  refine RD.nil ?_
  refine awp_ret ?_
  exact ⟨Or.inr rfl, [_], ⟨.tmp (.t _), trivial⟩, .refl _⟩

end Go.Tv.C36

end
section
open Go Go.Tv Go.Proofs
namespace Go.Tv.C36
set_option maxRecDepth 20000
set_option maxHeartbeats 2000000
set_option linter.unusedSimpArgs false
set_option linter.unusedVariables false
theorem has_ret (l : List Rep) (r : Rep) (hl : l.length ≤ 1000000) : Ret Tryd.prog 52 [.sl (l.map encR) false, encR r] (.bool (decide (r ∈ l))) := by
  refine ret_of_awp Tryd.func52 rfl (Nat.le_of_ble_eq_true rfl) ?_
  refine awp_seq ?_
  refine awp_rw rfl ?_
  refine RW.new rfl rfl (eff_boxK (v := .t _) (k := 4) (id := 3) rfl rfl rfl rfl rfl rfl) ?_
  refine asT ?_
  refine RW.nil ?_
  refine awp_seq ?_
  refine awp_seq ?_
  refine awp_rw rfl ?_
  refine asT ?_
  refine RW.nil ?_
  refine awp_block ?_
  refine awp_loopW (fun m s => ∃ (i : Nat), (i ≤ l.length) ∧ (∀ y, y ∈ l.take i → y ≠ r) ∧ m = l.length - i ∧ s = ⟨18, [(0, .t (.sl (l.map encR) false)), (3, .ptr 3 0 0 0), (5, .t (encI (i : Nat)))], [(3, some ⟨4, 23, 0, [.t (encR r)]⟩)]⟩) (_) (⟨_, weak_keep (n := 18) (fr' := [(0, .t (.sl (l.map encR) false)), (3, .ptr 3 0 0 0), (5, .t (encI (0 : Nat)))]) (st' := [(3, some ⟨4, 23, 0, [.t (encR r)]⟩)]) ⟨rfl, rfl, rfl, rfl, rfl, rfl, trivial⟩ ⟨rfl, okE_one rfl, trivial⟩, 0, (by omega), (by simp), rfl, rfl⟩) ?_
  rintro m s ⟨i, hi, ha, rfl, rfl⟩
  refine awp_seq ?_
  refine awp_seq ?_
  refine awp_rw rfl ?_
  refine mvT ?_
  refine mvT ?_
  refine RW.op rfl rfl (eff_lenM rfl rfl te33 rfl) ?_
  refine ioT ?_
  refine RW.nil ?_
  refine awp_cond rfl (fun h1 => ?_) (fun h1 => ?_)
  · try simp only [cl] at h1
    refine awp_skip ?_
    refine awp_seq ?_
    refine awp_block ?_
    refine awp_seq ?_
    refine awp_rd [(some 12, []), (some 13, []), (some 14, []), (some 15, []), (some 16, []), (some 17, [])] [[], [], [0, 1], [0, 1, 2], [], [0, 1, 2, 3, 4]] tm rfl rfl rfl rfl ?_
    refine mvD ?_
    refine mvD ?_
    refine RD.op rfl rfl rfl (eff_indexM rfl rfl te33 rfl rfl rfl (by first | assumption | exact List.getElem?_eq_getElem (by omega)) rfl (by decide)) ?_
    refine RD.op rfl rfl rfl (eff_loadW rfl rfl ti23 rfl rfl rfl) ?_
    refine RD.op rfl rfl rfl (eff_load rfl rfl ti23 rfl (.whole rfl rfl rfl rfl rfl rfl)) ?_
    refine RD.op rfl rfl rfl (eff_structEqlA (cells := cellsR) (a := l[i]) (b := r) rfl rfl ts23s ti23 th23 cellsR_inj cellsR_kind rfl rfl) ?_
    refine RD.nil ?_
    refine awp_cond rfl (fun h2 => ?_) (fun h2 => ?_)
    · try simp only [cl] at h2
      refine awp_seq ?_
      refine awp_rw rfl ?_
      refine asT ?_
      refine RW.nil ?_
      refine awp_ret ?_
      rw [show decide (r ∈ l) = true from decide_eq_true (by rw [← h2]; exact List.getElem_mem _)]
      exact ⟨Or.inr rfl, [_], ⟨.tmp (.t _), trivial⟩, .refl _⟩
    · try simp only [cl] at h2
      refine awp_skip ?_
      refine awp_rw rfl ?_
      refine mvT ?_
      refine RW.op rfl rfl (eff_iop rfl rfl rfl rfl (iadd (by omega))) ?_
      refine asT ?_
      refine RW.nil ?_
      refine ⟨_, ?_, _, weak_keep (n := 18) (fr' := [(0, .t (.sl (l.map encR) false)), (3, .ptr 3 0 0 0), (5, .t (encI ((i + 1) : Nat)))]) (st' := [(3, some ⟨4, 23, 0, [.t (encR r)]⟩)]) ⟨rfl, rfl, rfl, rfl, rfl, rfl, trivial⟩ ⟨rfl, okE_one rfl, trivial⟩, i + 1, (by omega), (by intro y hy; rcases (mem_take_succ (by omega)).1 hy with h | h; exact ha y h; rw [h]; exact h2), rfl, rfl⟩
      omega
  · try simp only [cl] at h1
    refine awp_exit ?_
    refine awp_seq ?_
    refine awp_rw rfl ?_
    refine asT ?_
    refine RW.nil ?_
    refine awp_ret ?_
    have hi2 : i = l.length := by omega
    subst hi2
    rw [List.take_length] at ha
    rw [show decide (r ∈ l) = false from decide_eq_false (fun h => ha r h rfl)]
    exact ⟨Or.inr rfl, [_], ⟨.tmp (.t _), trivial⟩, .refl _⟩

theorem index_ret (l : List Rep) (r : Rep) (hl : l.length ≤ 1000000) : Ret Tryd.prog 69 [.sl (l.map encR) false, encR r] (encI (fIx (fun x => decide (r = x)) l)) := by
  refine ret_of_awp Tryd.func69 rfl (Nat.le_of_ble_eq_true rfl) ?_
  refine awp_seq ?_
  refine awp_rw rfl ?_
  refine RW.new rfl rfl (eff_boxK (v := .t _) (k := 4) (id := 3) rfl rfl rfl rfl rfl rfl) ?_
  refine asT ?_
  refine RW.nil ?_
  refine awp_seq ?_
  refine awp_seq ?_
  refine awp_rw rfl ?_
  refine mvT ?_
  refine RW.op rfl rfl (eff_lenM rfl rfl te33 rfl) ?_
  refine mvT ?_
  refine RW.nil ?_
  refine awp_block ?_
  refine awp_loopW (fun m s => ∃ (i : Nat), (i ≤ l.length) ∧ (∀ y, y ∈ l.take i → decide (r = y) = false) ∧ m = l.length - i ∧ s = ⟨19, [(0, .t (.sl (l.map encR) false)), (3, .ptr 3 0 0 0), (6, .t (.sl (l.map encR) false)), (7, .t (encI l.length)), (8, .t (encI (i : Nat)))], [(3, some ⟨4, 23, 0, [.t (encR r)]⟩)]⟩) (_) (⟨_, weak_keep (n := 19) (fr' := [(0, .t (.sl (l.map encR) false)), (3, .ptr 3 0 0 0), (6, .t (.sl (l.map encR) false)), (7, .t (encI l.length)), (8, .t (encI (0 : Nat)))]) (st' := [(3, some ⟨4, 23, 0, [.t (encR r)]⟩)]) ⟨rfl, rfl, rfl, rfl, rfl, rfl, rfl, rfl, rfl, rfl, trivial⟩ ⟨rfl, okE_one rfl, trivial⟩, 0, (by omega), (by simp), rfl, rfl⟩) ?_
  rintro m s ⟨i, hi, ha, rfl, rfl⟩
  refine awp_seq ?_
  refine awp_rw rfl ?_
  refine ioT ?_
  refine RW.nil ?_
  refine awp_seq ?_
  refine awp_cond rfl (fun h1 => ?_) (fun h1 => ?_)
  · try simp only [cl] at h1
    refine awp_skip ?_
    refine awp_seq ?_
    refine awp_block ?_
    refine awp_seq ?_
    refine awp_rw rfl ?_
    refine mvT ?_
    refine asT ?_
    refine RW.nil ?_
    refine awp_seq ?_
    refine awp_rd [(some 11, []), (some 12, []), (some 13, []), (some 14, []), (some 15, []), (some 16, [])] [[], [], [], [1, 2], [1, 2, 3], [0, 1, 2, 3, 4]] tm rfl rfl rfl rfl ?_
    refine RD.op rfl rfl rfl (eff_load rfl rfl ti23 rfl (.whole rfl rfl rfl rfl rfl rfl)) ?_
    refine mvD ?_
    refine mvD ?_
    refine RD.op rfl rfl rfl (eff_indexM rfl rfl te33 rfl rfl rfl (by first | assumption | exact List.getElem?_eq_getElem (by omega)) rfl (by decide)) ?_
    refine RD.op rfl rfl rfl (eff_loadW rfl rfl ti23 rfl rfl rfl) ?_
    refine RD.op rfl rfl rfl (eff_structEqlA (cells := cellsR) (a := r) (b := l[i]) rfl rfl ts23s ti23 th23 cellsR_inj cellsR_kind rfl rfl) ?_
    refine RD.nil ?_
    refine awp_cond rfl (fun h2 => ?_) (fun h2 => ?_)
    · try simp only [cl] at h2
      refine awp_seq ?_
      refine awp_rw rfl ?_
      refine mvT ?_
      refine asT ?_
      refine RW.nil ?_
      refine awp_ret ?_
      rw [show fIx (fun x => decide (r = x)) l = (i : Int) from fIx_hit (by omega) ha (decide_eq_true h2)]
      exact ⟨Or.inr rfl, [_], ⟨.tmp (.t _), trivial⟩, .refl _⟩
    · try simp only [cl] at h2
      refine awp_skip ?_
      refine awp_rw rfl ?_
      refine RW.op rfl rfl (eff_iop rfl rfl rfl rfl (iadd (by omega))) ?_
      refine mvT ?_
      refine RW.nil ?_
      refine ⟨_, ?_, _, weak_keep (n := 19) (fr' := [(0, .t (.sl (l.map encR) false)), (3, .ptr 3 0 0 0), (6, .t (.sl (l.map encR) false)), (7, .t (encI l.length)), (8, .t (encI ((i + 1) : Nat)))]) (st' := [(3, some ⟨4, 23, 0, [.t (encR r)]⟩)]) ⟨rfl, rfl, rfl, rfl, rfl, rfl, rfl, rfl, rfl, rfl, trivial⟩ ⟨rfl, okE_one rfl, trivial⟩, i + 1, (by omega), (by intro y hy; rcases (mem_take_succ (by omega)).1 hy with h | h; exact ha y h; rw [h]; exact decide_eq_false h2), rfl, rfl⟩
      omega
  · try simp only [cl] at h1
    refine awp_exit ?_
    refine awp_seq ?_
    refine awp_rw rfl ?_
    refine asT ?_
    refine RW.nil ?_
    refine awp_ret ?_
    have hi2 : i = l.length := by omega
    subst hi2
    rw [List.take_length] at ha
    rw [show fIx (fun x => decide (r = x)) l = -1 from fIx_none ha]
    exact ⟨Or.inr rfl, [_], ⟨.tmp (.t _), trivial⟩, .refl _⟩

theorem contains_ret (l : List Rep) (r : Rep) (hl : l.length ≤ 1000000) : Ret Tryd.prog 51 [.sl (l.map encR) false, encR r] (.bool (decide (r ∈ l))) := by
  refine ret_of_awp Tryd.func51 rfl (Nat.le_of_ble_eq_true rfl) ?_
  refine awp_seq ?_
  refine awp_rw rfl ?_
  refine RW.new rfl rfl (eff_boxK (v := .t _) (k := 4) (id := 3) rfl rfl rfl rfl rfl rfl) ?_
  refine asT ?_
  refine RW.nil ?_
  refine awp_seq ?_
  refine awp_rw rfl ?_
  refine mvT ?_
  refine RW.op rfl rfl (eff_load rfl rfl ti23 rfl (.whole rfl rfl rfl rfl rfl rfl)) ?_
  refine RW.op rfl rfl (eff_callT (index_ret l r hl) co69 rfl rfl rfl rfl) ?_
  refine ioT ?_
  refine asT ?_
  refine RW.nil ?_
  refine awp_ret ?_
  rw [← fIx_mem]
  exact ⟨Or.inr rfl, [_], ⟨.tmp (.t _), trivial⟩, .refl _⟩

theorem less_ret (a b : Rep) : Ret Tryd.prog 82 [encR a, encR b] (.bool (less a b)) := by
  refine ret_of_awp Tryd.func82 rfl (Nat.le_of_ble_eq_true rfl) ?_
  refine awp_seq ?_
  refine awp_rw rfl ?_
  refine RW.new rfl rfl (eff_boxK (v := .t _) (k := 4) (id := 2) rfl rfl rfl rfl rfl rfl) ?_
  refine RW.new rfl rfl (eff_boxK (v := .t _) (k := 4) (id := 3) rfl rfl rfl rfl rfl rfl) ?_
  refine asT ?_
  refine RW.nil ?_
  refine awp_seq ?_
  refine awp_seq ?_
  refine awp_rw rfl ?_
  refine faT tf23_0 ?_
  refine l1T ti3 rfl rfl rfl rfl rfl (.one rfl rfl rfl rfl) ?_
  refine faT tf23_0 ?_
  refine l1T ti3 rfl rfl rfl rfl rfl (.one rfl rfl rfl rfl) ?_
  refine ioT ?_
  refine RW.nil ?_
  refine awp_cond rfl (fun h1 => ?_) (fun h1 => ?_)
  · try simp only [cl] at h1
    refine awp_seq ?_
    refine awp_rw rfl ?_
    refine faT tf23_0 ?_
    refine l1T ti3 rfl rfl rfl rfl rfl (.one rfl rfl rfl rfl) ?_
    refine faT tf23_0 ?_
    refine l1T ti3 rfl rfl rfl rfl rfl (.one rfl rfl rfl rfl) ?_
    refine ioT ?_
    refine asT ?_
    refine RW.nil ?_
    refine awp_ret ?_
    (rw [show less a b = _ from less_next (by assumption)]; exact ⟨Or.inr rfl, [_], ⟨.tmp (.t _), trivial⟩, .refl _⟩)
  · try simp only [cl] at h1
    refine awp_skip ?_
    refine awp_seq ?_
    refine awp_seq ?_
    refine awp_rw rfl ?_
    refine faT tf23_1 ?_
    refine l1T ti3 rfl rfl rfl rfl rfl (.one rfl rfl rfl rfl) ?_
    refine faT tf23_1 ?_
    refine l1T ti3 rfl rfl rfl rfl rfl (.one rfl rfl rfl rfl) ?_
    refine ioT ?_
    refine RW.nil ?_
    refine awp_cond rfl (fun h2 => ?_) (fun h2 => ?_)
    · try simp only [cl] at h2
      refine awp_seq ?_
      refine awp_rw rfl ?_
      refine faT tf23_1 ?_
      refine l1T ti3 rfl rfl rfl rfl rfl (.one rfl rfl rfl rfl) ?_
      refine faT tf23_1 ?_
      refine l1T ti3 rfl rfl rfl rfl rfl (.one rfl rfl rfl rfl) ?_
      refine ioT ?_
      refine asT ?_
      refine RW.nil ?_
      refine awp_ret ?_
      (rw [show less a b = _ from less_have (by omega) (by assumption)]; exact ⟨Or.inr rfl, [_], ⟨.tmp (.t _), trivial⟩, .refl _⟩)
    · try simp only [cl] at h2
      refine awp_skip ?_
      refine awp_seq ?_
      refine awp_seq ?_
      refine awp_rw rfl ?_
      refine faT tf23_2 ?_
      refine l1T ti3 rfl rfl rfl rfl rfl (.one rfl rfl rfl rfl) ?_
      refine faT tf23_2 ?_
      refine l1T ti3 rfl rfl rfl rfl rfl (.one rfl rfl rfl rfl) ?_
      refine ioT ?_
      refine RW.nil ?_
      refine awp_cond rfl (fun h3 => ?_) (fun h3 => ?_)
      · try simp only [cl] at h3
        refine awp_seq ?_
        refine awp_rw rfl ?_
        refine faT tf23_2 ?_
        refine l1T ti3 rfl rfl rfl rfl rfl (.one rfl rfl rfl rfl) ?_
        refine faT tf23_2 ?_
        refine l1T ti3 rfl rfl rfl rfl rfl (.one rfl rfl rfl rfl) ?_
        refine ioT ?_
        refine asT ?_
        refine RW.nil ?_
        refine awp_ret ?_
        (rw [show less a b = _ from less_key (by omega) (by omega) (by assumption)]; exact ⟨Or.inr rfl, [_], ⟨.tmp (.t _), trivial⟩, .refl _⟩)
      · try simp only [cl] at h3
        refine awp_skip ?_
        refine awp_seq ?_
        refine awp_rw rfl ?_
        refine faT tf23_3 ?_
        refine l1T ti4 rfl rfl rfl rfl rfl (.one rfl rfl rfl rfl) ?_
        refine RW.op rfl rfl (eff_unop rfl rfl rfl rfl) ?_
        refine mvT ?_
        refine RW.split 38 rfl (fun h4 => ?_) (fun h4 => ?_)
        · try simp only [cl] at h4
          refine RW.gop rfl rfl rfl rfl rfl rfl (eff_fieldAddr rfl rfl tf23_3 (by decide) rfl rfl rfl (Nat.le_of_ble_eq_true rfl)) ?_
          refine RW.gop rfl rfl rfl rfl rfl rfl (eff_load (y := .t _) rfl rfl ti4 rfl (.one rfl rfl rfl rfl)) ?_
          refine pkT ?_
          refine asT ?_
          refine RW.nil ?_
          refine awp_ret ?_
          (rw [show less a b = _ from less_l1 (by omega) (by omega) (by omega) (by assumption)]; exact ⟨Or.inr rfl, [_], ⟨.tmp (.t _), trivial⟩, .refl _⟩)
        · try simp only [cl] at h4
          refine gkT ?_
          refine gkT ?_
          refine pkT ?_
          refine asT ?_
          refine RW.nil ?_
          refine awp_ret ?_
          (rw [show less a b = _ from less_l2 (by omega) (by omega) (by omega) (by assumption)]; exact ⟨Or.inr rfl, [_], ⟨.tmp (.t _), trivial⟩, .refl _⟩)

theorem new17_ret  : Ret Tryd.prog 61 [] (encT ⟨[], [zr]⟩) := by
  refine ret_of_awp Tryd.func61 rfl (Nat.le_of_ble_eq_true rfl) ?_
  refine awp_seq ?_
  refine awp_rw rfl ?_
  refine RW.new rfl rfl (eff_allocK (k := 2) (id := 0) rfl rfl tz64 rfl rfl) ?_
  refine RW.nil ?_
  refine awp_seq ?_
  refine awp_rw rfl ?_
  refine RW.op rfl rfl (eff_buildT (ys := [_, _, _, _]) rfl rfl tz23 tg23 rfl) ?_
  refine RW.new rfl rfl (eff_buildSliceL (id := 2) (els := [.t (.agg [_, _, _, _])]) rfl rfl te33 tz23 rfl (by decide) (by decide) rfl rfl rfl rfl) ?_
  refine RW.op rfl rfl (eff_buildA (ys := [_, _]) rfl rfl tz64 tg64 rfl rfl) ?_
  refine RW.store rfl rfl (eff_storeW (v := .agg _) (els := [_]) (els' := [_]) rfl rfl ti64 rfl rfl rfl rfl rfl rfl rfl rfl rfl) ?_
  refine RW.nil ?_
  refine awp_ret ?_
  exact ⟨Or.inr rfl, [_], ⟨.cell rfl ti64 (.whole rfl rfl rfl rfl rfl rfl) (Res.aggP (xs := [_, _]) ⟨.t _, Res.ownT (xs := [zr].map encR) rfl rfl rfl rfl, trivial⟩), trivial⟩, (by repeat' first | exact trivial | exact Wk.refl _ | exact Wk.sl _ | refine And.intro ?_ ?_ | refine Wk.tupP ?_ | refine Wk.aggP ?_)⟩

theorem new18_ret  : Ret Tryd.prog 44 [] (encT ⟨[], [zr]⟩) := by
  refine ret_of_awp Tryd.func44 rfl (Nat.le_of_ble_eq_true rfl) ?_
  refine awp_seq ?_
  refine awp_rw rfl ?_
  refine RW.new rfl rfl (eff_allocK (k := 2) (id := 0) rfl rfl tz64 rfl rfl) ?_
  refine RW.nil ?_
  refine awp_seq ?_
  refine awp_rw rfl ?_
  refine RW.op rfl rfl (eff_buildT (ys := [_, _, _, _]) rfl rfl tz23 tg23 rfl) ?_
  refine RW.new rfl rfl (eff_buildSliceL (id := 2) (els := [.t (.agg [_, _, _, _])]) rfl rfl te33 tz23 rfl (by decide) (by decide) rfl rfl rfl rfl) ?_
  refine RW.op rfl rfl (eff_buildA (ys := [_, _]) rfl rfl tz64 tg64 rfl rfl) ?_
  refine RW.store rfl rfl (eff_storeW (v := .agg _) (els := [_]) (els' := [_]) rfl rfl ti64 rfl rfl rfl rfl rfl rfl rfl rfl rfl) ?_
  refine RW.nil ?_
  refine awp_ret ?_
  exact ⟨Or.inr rfl, [_], ⟨.cell rfl ti64 (.whole rfl rfl rfl rfl rfl rfl) (Res.aggP (xs := [_, _]) ⟨.t _, Res.ownT (xs := [zr].map encR) rfl rfl rfl rfl, trivial⟩), trivial⟩, (by repeat' first | exact trivial | exact Wk.refl _ | exact Wk.sl _ | refine And.intro ?_ ?_ | refine Wk.tupP ?_ | refine Wk.aggP ?_)⟩

theorem clip_ret (l : List Frm) : Ret Tryd.prog 73 [.sl (l.map encF) false] (.sl (l.map encF) true) := by
  refine ret_of_awp Tryd.func73 rfl (Nat.le_of_ble_eq_true rfl) ?_
  refine awp_seq ?_
  refine awp_rw rfl ?_
  refine asT ?_
  refine RW.nil ?_
  refine awp_seq ?_
  refine awp_rw rfl ?_
  refine mvT ?_
  refine mvT ?_
  refine RW.op rfl rfl (eff_lenM rfl rfl te62 rfl) ?_
  refine mvT ?_
  refine RW.op rfl rfl (eff_lenM rfl rfl te62 rfl) ?_
  refine RW.op rfl rfl (eff_sliceT3 (l := none) (h := l.length) (m := l.length) rfl rfl te62 rfl (fun y hy => by obtain ⟨f, _, rfl⟩ := List.mem_map.1 hy; rfl) .no (.yes rfl (by simp)) (.yes rfl (by simp)) (Nat.zero_le _) (Nat.le_refl _) (by simp)) ?_
  refine asT ?_
  refine RW.nil ?_
  refine awp_ret ?_
  exact ⟨Or.inr rfl, [_], ⟨.tmp (.t _), trivial⟩, (by simp [packT]; rw [List.take_of_length_le (by simp)]; exact .refl _)⟩

theorem cloneF_retG (l : List Frm) (hl : l.length ≤ 1000000) : RetG Tryd.prog 78 [] [.t (.sl (l.map encF) false)] [(5, some ⟨5, 45, 1, (l.map encF).map .t⟩)] (.own 5 1 0 l.length) := by
  refine retG_of_awp Tryd.func78 rfl (Nat.le_of_ble_eq_true rfl) ?_
  refine awp_seq ?_
  refine awp_rw rfl ?_
  refine asT ?_
  refine RW.nil ?_
  refine awp_seq ?_
  refine awp_seq ?_
  refine awp_rw rfl ?_
  refine mvT ?_
  refine RW.nilEq rfl rfl rfl rfl te62 rfl (fun b1 hb1 => ?_)
  refine RW.nil ?_
  refine awp_cond rfl (fun h2 => ?_) (fun h2 => ?_)
  · try simp only [cl] at h2
    refine awp_seq ?_
    refine awp_rw rfl ?_
    refine asT ?_
    refine RW.nil ?_
    show AWP _ _ _ _
    refine awp_weak (weak_adopt (d := 2) (id := 5) (k := 5) (ty := 45) rfl rfl) ?_
    refine awp_weak (weak_bumpS (d := 2) (id := 5) (off := 0) (len := 0) 1 rfl rfl (by decide)) ?_
    refine awp_ret ?_
    have hl0 : l = [] := by simpa using hb1 h2
    subst hl0
    exact ⟨Or.inr rfl, [_], [.own 5 1 0 0], ⟨.tmp rfl, trivial⟩, rfl, weak_keep ⟨rfl, rfl, trivial⟩ ⟨rfl, okE_nil, trivial⟩, rfl⟩
  · try simp only [cl] at h2
    refine awp_skip ?_
    refine awp_seq ?_
    refine awp_rw rfl ?_
    refine RW.new rfl rfl (eff_buildSliceL (id := 5) (els := []) rfl rfl te62 tz45 rfl (by decide) (by decide) rfl rfl rfl rfl) ?_
    refine mvT ?_
    refine RW.new rfl rfl (eff_appendAny (id := 5) rfl rfl ta62 rfl rfl rfl rfl rfl rfl (srcM rfl (fun _ => rfl)) (by simp; omega) (by simp; omega)) ?_
    refine asO ?_
    refine RW.nil ?_
    refine awp_ret ?_
    exact ⟨Or.inr rfl, [_], [.own 5 1 0 l.length], ⟨.tmp rfl, trivial⟩, rfl, weak_keep ⟨(by show AV.own 5 _ 0 _ = AV.own 5 1 0 l.length; congr 1; simp), rfl, trivial⟩ ⟨rfl, okE_t, trivial⟩, rfl⟩

theorem cloneB_retG (l : List Int) (hl : l.length ≤ 1000000) : RetG Tryd.prog 79 [] [.t (.sl (l.map encBy) false)] [(5, some ⟨1, 5, 1, (l.map encBy).map .t⟩)] (.own 5 1 0 l.length) := by
  refine retG_of_awp Tryd.func79 rfl (Nat.le_of_ble_eq_true rfl) ?_
  refine awp_seq ?_
  refine awp_rw rfl ?_
  refine asT ?_
  refine RW.nil ?_
  refine awp_seq ?_
  refine awp_seq ?_
  refine awp_rw rfl ?_
  refine mvT ?_
  refine RW.nilEq rfl rfl rfl rfl te42 rfl (fun b1 hb1 => ?_)
  refine RW.nil ?_
  refine awp_cond rfl (fun h2 => ?_) (fun h2 => ?_)
  · try simp only [cl] at h2
    refine awp_seq ?_
    refine awp_rw rfl ?_
    refine asT ?_
    refine RW.nil ?_
    show AWP _ _ _ _
    refine awp_weak (weak_adopt (d := 2) (id := 5) (k := 1) (ty := 5) rfl rfl) ?_
    refine awp_weak (weak_bumpS (d := 2) (id := 5) (off := 0) (len := 0) 1 rfl rfl (by decide)) ?_
    refine awp_ret ?_
    have hl0 : l = [] := by simpa using hb1 h2
    subst hl0
    exact ⟨Or.inr rfl, [_], [.own 5 1 0 0], ⟨.tmp rfl, trivial⟩, rfl, weak_keep ⟨rfl, rfl, trivial⟩ ⟨rfl, okE_nil, trivial⟩, rfl⟩
  · try simp only [cl] at h2
    refine awp_skip ?_
    refine awp_seq ?_
    refine awp_rw rfl ?_
    refine RW.new rfl rfl (eff_buildSlice1 (id := 5) (els := []) rfl rfl te42 tz5 rfl (by decide) rfl rfl rfl rfl) ?_
    refine mvT ?_
    refine RW.new rfl rfl (eff_appendAny (id := 5) rfl rfl ta42 rfl rfl rfl rfl rfl rfl (srcM rfl (fun _ => rfl)) (by simp; omega) (by simp; omega)) ?_
    refine asO ?_
    refine RW.nil ?_
    refine awp_ret ?_
    exact ⟨Or.inr rfl, [_], [.own 5 1 0 l.length], ⟨.tmp rfl, trivial⟩, rfl, weak_keep ⟨(by show AV.own 5 _ 0 _ = AV.own 5 1 0 l.length; congr 1; simp), rfl, trivial⟩ ⟨rfl, okE_t, trivial⟩, rfl⟩

theorem cloneB_ret (l : List Int) (hl : l.length ≤ 1000000) : Ret Tryd.prog 79 [.sl (l.map encBy) false] (.sl (l.map encBy) false) :=
  ret_of_retG (cloneB_retG l hl) (Res.ownM rfl (by simp)) (.refl _)
end Go.Tv.C36

end
section
open Go Go.Tv Go.Proofs
namespace Go.Tv.C36
set_option maxRecDepth 20000
set_option maxHeartbeats 2000000
set_option linter.unusedSimpArgs false
set_option linter.unusedVariables false
theorem modDist_ret (f : Frm) (x : Rep) : Ret Tryd.prog 58 [encI (f.seq % 256 - x.next % 256)] (encI (dist f x)) := by
  have h := modulo_ret (f.seq % 256 - x.next % 256)
  rwa [show (f.seq % 256 - x.next % 256) % 256 = dist f x from by unfold dist; omega] at h

theorem rapply_ret (S : Rep) (f : Frm) (hS : HP S) : Ret Tryd.prog 37 [encR S, encF f] (encR (apply S f)) := by
  obtain ⟨nx, hv0, ky, lk⟩ := S
  obtain ⟨h, rfl⟩ : ∃ h : Nat, hv0 = (h : Int) := ⟨hv0.toNat, by have := hS.1; simp only [] at this; omega⟩
  have hh : h < 32768 := by have := hS.2; simp only [] at this; omega
  have hdr := dist_range f ⟨nx, ((h : Nat) : Int), ky, lk⟩
  refine ret_of_awp Tryd.func37 rfl (Nat.le_of_ble_eq_true rfl) ?_
  refine awp_seq ?_
  refine awp_rw rfl ?_
  refine RW.new rfl rfl (eff_boxK (v := .t _) (k := 4) (id := 2) rfl rfl rfl rfl rfl rfl) ?_
  refine RW.new rfl rfl (eff_boxK (v := .t _) (k := 5) (id := 3) rfl rfl rfl rfl rfl rfl) ?_
  refine RW.new rfl rfl (eff_allocK (k := 4) (id := 4) rfl rfl tz23 rfl rfl) ?_
  refine RW.nil ?_
  refine awp_seq ?_
  refine awp_seq ?_
  refine awp_rw rfl ?_
  refine faT tf45_1 ?_
  refine l1T ti3 rfl rfl rfl rfl rfl (.one rfl rfl rfl rfl) ?_
  refine faT tf23_2 ?_
  refine l1T ti3 rfl rfl rfl rfl rfl (.one rfl rfl rfl rfl) ?_
  refine ioT ?_
  refine mvT ?_
  refine RW.split 12 rfl (fun h1 => ?_) (fun h1 => ?_)
  · try simp only [cl] at h1
    refine gkT ?_
    refine gkT ?_
    refine gkT ?_
    refine gkT ?_
    refine gkT ?_
    refine gkT ?_
    refine pkT ?_
    refine RW.nil ?_
    refine awp_cond rfl (fun _ => ?_) (fun h => nomatch h)
    refine awp_seq ?_
    refine awp_rw rfl ?_
    refine RW.op rfl rfl (eff_load rfl rfl ti23 rfl (.whole rfl rfl rfl rfl rfl rfl)) ?_
    refine RW.store rfl rfl (eff_storeW (v := .t _) (els := [_]) (els' := [_]) rfl rfl ti23 rfl rfl rfl rfl rfl rfl rfl rfl rfl) ?_
    refine RW.nil ?_
    refine awp_ret ?_
    (rw [apply_stay (Or.inl (by assumption))]; exact ⟨Or.inr rfl, [_], ⟨.cell rfl ti23 (.whole rfl rfl rfl rfl rfl rfl) (.t _), trivial⟩, .refl _⟩)
  · try simp only [cl] at h1
    refine RW.gop rfl rfl rfl rfl rfl rfl (eff_fieldAddr rfl rfl tf45_1 (by decide) rfl rfl rfl (Nat.le_of_ble_eq_true rfl)) ?_
    refine RW.gop rfl rfl rfl rfl rfl rfl (eff_load (y := .t _) rfl rfl ti3 rfl (.one rfl rfl rfl rfl)) ?_
    refine RW.gop rfl rfl rfl rfl rfl rfl (eff_fieldAddr rfl rfl tf23_2 (by decide) rfl rfl rfl (Nat.le_of_ble_eq_true rfl)) ?_
    refine RW.gop rfl rfl rfl rfl rfl rfl (eff_load (y := .t _) rfl rfl ti3 rfl (.one rfl rfl rfl rfl)) ?_
    refine RW.gop rfl rfl rfl rfl rfl rfl (eff_iop rfl rfl rfl rfl rfl) ?_
    refine RW.gop rfl rfl rfl rfl rfl rfl (eff_iop rfl rfl rfl rfl rfl) ?_
    refine pkT ?_
    refine RW.nil ?_
    refine awp_cond rfl (fun h2 => ?_) (fun h2 => ?_)
    · try simp only [cl] at h2
      refine awp_seq ?_
      refine awp_rw rfl ?_
      refine RW.op rfl rfl (eff_load rfl rfl ti23 rfl (.whole rfl rfl rfl rfl rfl rfl)) ?_
      refine RW.store rfl rfl (eff_storeW (v := .t _) (els := [_]) (els' := [_]) rfl rfl ti23 rfl rfl rfl rfl rfl rfl rfl rfl rfl) ?_
      refine RW.nil ?_
      refine awp_ret ?_
      (rw [apply_stay (Or.inr (by assumption))]; exact ⟨Or.inr rfl, [_], ⟨.cell rfl ti23 (.whole rfl rfl rfl rfl rfl rfl) (.t _), trivial⟩, .refl _⟩)
    · try simp only [cl] at h2
      refine awp_skip ?_
      refine awp_seq ?_
      refine awp_rw rfl ?_
      refine faT tf45_1 ?_
      refine l1T ti3 rfl rfl rfl rfl rfl (.one rfl rfl rfl rfl) ?_
      refine ioT ?_
      refine faT tf23_2 ?_
      refine RW.store rfl rfl (eff_storeS (v := .t _) (ys := [_, _, _, _]) (els := [_]) (els' := [_]) rfl rfl ti3 rfl rfl rfl rfl rfl rfl rfl (Nat.le_of_ble_eq_true rfl) rfl rfl) ?_
      refine RW.nil ?_
      refine awp_seq ?_
      refine awp_rd [(some 25, []), (some 26, []), (some 27, []), (some 28, []), (some 29, []), (some 30, []), (some 31, []), (some 32, []), (some 5, [])] [[], [0], [0, 1], [], [3], [0, 1, 2, 3, 4], [0, 1, 2, 3, 4, 5], [0, 1, 2, 3, 4, 5, 6], [0, 1, 2, 3, 4, 5, 6, 7]] tm rfl rfl rfl rfl ?_
      refine RD.op rfl rfl rfl (eff_fieldAddr rfl rfl tf45_0 (by decide) rfl rfl rfl (Nat.le_of_ble_eq_true rfl)) ?_
      refine RD.op rfl rfl rfl (eff_load (y := .t _) rfl rfl ti3 rfl (.one rfl rfl rfl rfl)) ?_
      refine RD.op rfl rfl rfl (eff_callT (modulo_ret _) co58 rfl rfl rfl rfl) ?_
      refine RD.op rfl rfl rfl (eff_fieldAddr rfl rfl tf23_0 (by decide) rfl rfl rfl (Nat.le_of_ble_eq_true rfl)) ?_
      refine RD.op rfl rfl rfl (eff_load (y := .t _) rfl rfl ti3 rfl (.one rfl rfl rfl rfl)) ?_
      refine RD.op rfl rfl rfl (eff_callT (modulo_ret _) co58 rfl rfl rfl rfl) ?_
      refine RD.op rfl rfl rfl (eff_iop rfl rfl rfl rfl (isub (by omega))) ?_
      refine RD.op rfl rfl rfl (eff_callT (modDist_ret f ⟨nx, ((h : Nat) : Int), ky, lk⟩) co58 rfl rfl rfl rfl) ?_
      refine RD.op rfl rfl rfl (eff_assign (v := .t _) rfl rfl rfl) ?_
      refine RD.nil ?_
      refine awp_seq ?_
      refine awp_seq ?_
      refine awp_rw rfl ?_
      refine faT tf45_2 ?_
      refine l1T ti4 rfl rfl rfl rfl rfl (.one rfl rfl rfl rfl) ?_
      refine RW.nil ?_
      refine awp_cond rfl (fun h3 => ?_) (fun h3 => ?_)
      · try simp only [cl] at h3
        refine awp_seq ?_
        refine awp_rw rfl ?_
        refine faT tf23_3 ?_
        refine RW.store rfl rfl (eff_storeS (v := .t _) (ys := [_, _, _, _]) (els := [_]) (els' := [_]) rfl rfl ti4 rfl rfl rfl rfl rfl rfl rfl (Nat.le_of_ble_eq_true rfl) rfl rfl) ?_
        refine RW.nil ?_
        refine awp_seq ?_
        refine awp_seq ?_
        refine awp_rw rfl ?_
        refine mvT ?_
        refine ioT ?_
        refine RW.nil ?_
        refine awp_cond rfl (fun h4 => ?_) (fun h4 => ?_)
        · try simp only [cl] at h4
          refine awp_rw rfl ?_
          refine faT tf23_0 ?_
          refine l1T ti3 rfl rfl rfl rfl rfl (.one rfl rfl rfl rfl) ?_
          refine mvT ?_
          refine ioT ?_
          refine faT tf23_0 ?_
          refine RW.store rfl rfl (eff_storeS (v := .t _) (ys := [_, _, _, _]) (els := [_]) (els' := [_]) rfl rfl ti3 rfl rfl rfl rfl rfl rfl rfl (Nat.le_of_ble_eq_true rfl) rfl rfl) ?_
          refine RW.nil ?_
          refine awp_seq ?_
          refine awp_rw rfl ?_
          refine faT tf23_1 ?_
          refine RW.store rfl rfl (eff_storeS (v := .t _) (ys := [_, _, _, _]) (els := [_]) (els' := [_]) rfl rfl ti3 rfl rfl rfl rfl rfl rfl rfl (Nat.le_of_ble_eq_true rfl) rfl rfl) ?_
          refine RW.nil ?_
          refine awp_seq ?_
          refine awp_rw rfl ?_
          refine RW.op rfl rfl (eff_load rfl rfl ti23 rfl (.whole rfl rfl rfl rfl rfl rfl)) ?_
          refine RW.store rfl rfl (eff_storeW (v := .t _) (els := [_]) (els' := [_]) rfl rfl ti23 rfl rfl rfl rfl rfl rfl rfl rfl rfl) ?_
          refine RW.nil ?_
          refine awp_ret ?_
          (rw [apply_unl (by rintro (h | h) <;> (try dsimp only [w64] at h) <;> omega) (by assumption) (if_pos (by assumption))]; exact ⟨Or.inr rfl, [_], ⟨.cell rfl ti23 (.whole rfl rfl rfl rfl rfl rfl) (.t _), trivial⟩, .refl _⟩)
        · try simp only [cl] at h4
          refine awp_skip ?_
          refine awp_seq ?_
          refine awp_rw rfl ?_
          refine faT tf23_1 ?_
          refine RW.store rfl rfl (eff_storeS (v := .t _) (ys := [_, _, _, _]) (els := [_]) (els' := [_]) rfl rfl ti3 rfl rfl rfl rfl rfl rfl rfl (Nat.le_of_ble_eq_true rfl) rfl rfl) ?_
          refine RW.nil ?_
          refine awp_seq ?_
          refine awp_rw rfl ?_
          refine RW.op rfl rfl (eff_load rfl rfl ti23 rfl (.whole rfl rfl rfl rfl rfl rfl)) ?_
          refine RW.store rfl rfl (eff_storeW (v := .t _) (els := [_]) (els' := [_]) rfl rfl ti23 rfl rfl rfl rfl rfl rfl rfl rfl rfl) ?_
          refine RW.nil ?_
          refine awp_ret ?_
          (rw [apply_unl (by rintro (h | h) <;> (try dsimp only [w64] at h) <;> omega) (by assumption) (if_neg (by assumption))]; exact ⟨Or.inr rfl, [_], ⟨.cell rfl ti23 (.whole rfl rfl rfl rfl rfl rfl) (.t _), trivial⟩, .refl _⟩)
      · try simp only [cl] at h3
        refine awp_skip ?_
        refine awp_seq ?_
        refine awp_seq ?_
        refine awp_rw rfl ?_
        refine faT tf23_3 ?_
        refine l1T ti4 rfl rfl rfl rfl rfl (.one rfl rfl rfl rfl) ?_
        refine RW.nil ?_
        refine awp_cond rfl (fun h5 => ?_) (fun h5 => ?_)
        · try simp only [cl] at h5
          refine awp_seq ?_
          refine awp_rw rfl ?_
          refine RW.op rfl rfl (eff_load rfl rfl ti23 rfl (.whole rfl rfl rfl rfl rfl rfl)) ?_
          refine RW.store rfl rfl (eff_storeW (v := .t _) (els := [_]) (els' := [_]) rfl rfl ti23 rfl rfl rfl rfl rfl rfl rfl rfl rfl) ?_
          refine RW.nil ?_
          refine awp_ret ?_
          (rw [apply_lock (by rintro (h | h) <;> (try dsimp only [w64] at h) <;> omega) (by assumption) (by assumption)]; exact ⟨Or.inr rfl, [_], ⟨.cell rfl ti23 (.whole rfl rfl rfl rfl rfl rfl) (.t _), trivial⟩, .refl _⟩)
        · try simp only [cl] at h5
          refine awp_skip ?_
          refine awp_seq ?_
          refine awp_seq ?_
          refine awp_rw rfl ?_
          refine mvT ?_
          refine ioT ?_
          refine RW.nil ?_
          refine awp_cond rfl (fun h6 => ?_) (fun h6 => ?_)
          · try simp only [cl] at h6
            refine awp_seq ?_
            refine awp_rw rfl ?_
            refine faT tf23_0 ?_
            refine l1T ti3 rfl rfl rfl rfl rfl (.one rfl rfl rfl rfl) ?_
            refine ioT ?_
            refine faT tf23_0 ?_
            refine RW.store rfl rfl (eff_storeS (v := .t _) (ys := [_, _, _, _]) (els := [_]) (els' := [_]) rfl rfl ti3 rfl rfl rfl rfl rfl rfl rfl (Nat.le_of_ble_eq_true rfl) rfl rfl) ?_
            refine RW.nil ?_
            refine awp_seq ?_
            refine awp_block ?_
            refine awp_loopW (fun m s => ∃ (k : Nat), (k ≤ 15) ∧ (trl 64 h = k + trl (64 - k) (hv h k)) ∧ m = hv h k ∧ s = ⟨92, [(2, .ptr 2 0 0 0), (4, .ptr 4 0 0 0)], [(2, some ⟨4, 23, 0, [.t (encR ⟨w64 (nx + (1 + ((k : Nat) : Int))), ((hv h k : Nat) : Int), w64 (f.key + 1), lk⟩)]⟩), (4, some ⟨4, 23, 0, [.t z23]⟩)]⟩) (_) (⟨_, weak_keep (n := 92) (fr' := [(2, .ptr 2 0 0 0), (4, .ptr 4 0 0 0)]) (st' := [(2, some ⟨4, 23, 0, [.t (encR ⟨w64 (nx + (1 + ((0 : Nat) : Int))), ((hv h 0 : Nat) : Int), w64 (f.key + 1), lk⟩)]⟩), (4, some ⟨4, 23, 0, [.t z23]⟩)]) ⟨rfl, rfl, rfl, rfl, trivial⟩ ⟨by first | rfl | (rw [← w64_step nx k]; rfl), okE_one rfl, rfl, okE_one rfl, trivial⟩, 0, (by omega), (by simp [hv]), rfl, rfl⟩) ?_
            rintro m s ⟨k, hk, htr, rfl, rfl⟩
            have hq := hv_le h k
            refine awp_seq ?_
            refine awp_seq ?_
            refine awp_rw rfl ?_
            refine faT tf23_1 ?_
            refine l1T ti3 rfl rfl rfl rfl rfl (.one rfl rfl rfl rfl) ?_
            refine RW.op rfl rfl (eff_remE (r := ((hv h k % 2 : Nat) : Int)) rfl rfl rfl rfl (by decide) (by rw [tmod_pos (Int.natCast_nonneg _)]; rfl)) ?_
            refine ioT ?_
            refine RW.nil ?_
            refine awp_cond rfl (fun h7 => ?_) (fun h7 => ?_)
            · try simp only [cl] at h7
              refine awp_skip ?_
              refine awp_block ?_
              refine awp_seq ?_
              refine awp_rw rfl ?_
              refine faT tf23_0 ?_
              refine l1T ti3 rfl rfl rfl rfl rfl (.one rfl rfl rfl rfl) ?_
              refine ioT ?_
              refine faT tf23_0 ?_
              refine RW.store rfl rfl (eff_storeS (v := .t _) (ys := [_, _, _, _]) (els := [_]) (els' := [_]) rfl rfl ti3 rfl rfl rfl rfl rfl rfl rfl (Nat.le_of_ble_eq_true rfl) rfl rfl) ?_
              refine RW.nil ?_
              refine awp_rw rfl ?_
              refine faT tf23_1 ?_
              refine l1T ti3 rfl rfl rfl rfl rfl (.one rfl rfl rfl rfl) ?_
              refine RW.op rfl rfl (eff_quoE (r := ((hv h (k + 1) : Nat) : Int)) rfl rfl rfl rfl (by decide) (half_hv h k hh)) ?_
              refine faT tf23_1 ?_
              refine RW.store rfl rfl (eff_storeS (v := .t _) (ys := [_, _, _, _]) (els := [_]) (els' := [_]) rfl rfl ti3 rfl rfl rfl rfl rfl rfl rfl (Nat.le_of_ble_eq_true rfl) rfl rfl) ?_
              refine RW.nil ?_
              have hodd : hv h k % 2 = 1 := by omega
              have hk15 : k ≠ 15 := by rintro rfl; rw [hv_big hh] at hodd; cases hodd
              have htr2 := trl_step hk htr hodd
              have hws := w64_step nx k
              have hhalf : hv h (k + 1) = hv h k / 2 := rfl
              refine ⟨_, ?_, _, weak_keep (n := 92) (fr' := [(2, .ptr 2 0 0 0), (4, .ptr 4 0 0 0)]) (st' := [(2, some ⟨4, 23, 0, [.t (encR ⟨w64 (nx + (1 + (((k + 1) : Nat) : Int))), ((hv h (k + 1) : Nat) : Int), w64 (f.key + 1), lk⟩)]⟩), (4, some ⟨4, 23, 0, [.t z23]⟩)]) ⟨rfl, rfl, rfl, rfl, trivial⟩ ⟨by first | rfl | (rw [← w64_step nx k]; rfl), okE_one rfl, rfl, okE_one rfl, trivial⟩, k + 1, (by omega), (by exact htr2), rfl, rfl⟩
              omega
            · try simp only [cl] at h7
              refine awp_exit ?_
              refine awp_seq ?_
              refine awp_rw rfl ?_
              have htr := trl_end htr (by omega)
              refine faT tf23_1 ?_
              refine l1T ti3 rfl rfl rfl rfl rfl (.one rfl rfl rfl rfl) ?_
              refine RW.op rfl rfl (eff_quoE (r := ((hv h (k + 1) : Nat) : Int)) rfl rfl rfl rfl (by decide) (half_hv h k hh)) ?_
              refine faT tf23_1 ?_
              refine RW.store rfl rfl (eff_storeS (v := .t _) (ys := [_, _, _, _]) (els := [_]) (els' := [_]) rfl rfl ti3 rfl rfl rfl rfl rfl rfl rfl (Nat.le_of_ble_eq_true rfl) rfl rfl) ?_
              refine RW.nil ?_
              refine awp_seq ?_
              refine awp_rw rfl ?_
              refine RW.op rfl rfl (eff_load rfl rfl ti23 rfl (.whole rfl rfl rfl rfl rfl rfl)) ?_
              refine RW.store rfl rfl (eff_storeW (v := .t _) (els := [_]) (els' := [_]) rfl rfl ti23 rfl rfl rfl rfl rfl rfl rfl rfl rfl) ?_
              refine RW.nil ?_
              refine awp_ret ?_
              (rw [apply_zero (by rintro (h | h) <;> (try dsimp only [w64] at h) <;> omega) (by assumption) (by assumption) (by assumption), show ones ((h : Nat) : Int) = k from htr, show (Int.toNat ((h : Nat) : Int)) / 2 ^ (1 + k) = hv h (k + 1) from by rw [hv_eq, Nat.add_comm 1 k]; rfl]; exact ⟨Or.inr rfl, [_], ⟨.cell rfl ti23 (.whole rfl rfl rfl rfl rfl rfl) (.t _), trivial⟩, .refl _⟩)
          · try simp only [cl] at h6
            refine awp_skip ?_
            refine awp_seq ?_
            refine awp_seq ?_
            refine awp_rw rfl ?_
            refine mvT ?_
            refine ioT ?_
            refine RW.nil ?_
            refine awp_cond rfl (fun h8 => ?_) (fun h8 => ?_)
            · try simp only [cl] at h8
              refine awp_seq ?_
              refine awp_rw rfl ?_
              refine faT tf23_1 ?_
              refine l1T ti3 rfl rfl rfl rfl rfl (.one rfl rfl rfl rfl) ?_
              refine mvT ?_
              refine RW.op rfl rfl (eff_iop rfl rfl rfl rfl (isubN (by omega) (by omega))) ?_
              refine RW.op rfl rfl (eff_callT (bit_ret h _ hh (by omega)) co59 rfl rfl rfl rfl) ?_
              refine asT ?_
              refine RW.nil ?_
              refine awp_seq ?_
              refine awp_seq ?_
              refine awp_rw rfl ?_
              refine mvT ?_
              refine RW.op rfl rfl (eff_unop rfl rfl rfl rfl) ?_
              refine RW.nil ?_
              refine awp_cond rfl (fun h9 => ?_) (fun h9 => ?_)
              · try simp only [cl] at h9
                refine awp_rd [(some 80, []), (some 81, []), (some 82, []), (some 83, []), (some 84, []), (some 85, []), (some 86, []), (none, [2])] [[], [0], [], [2], [2, 3], [0, 1, 2, 3, 4], [0, 1, 2, 3, 4, 5], [0, 1, 2, 3, 4, 5, 6]] tm rfl rfl rfl rfl ?_
                have hp15 : 2 ^ (dist f ⟨nx, ((h : Nat) : Int), ky, lk⟩ - 1).toNat < 2 ^ 15 := Nat.pow_lt_pow_right (by decide) (by omega)
                refine RD.op rfl rfl rfl (eff_fieldAddr rfl rfl tf23_1 (by decide) rfl rfl rfl (Nat.le_of_ble_eq_true rfl)) ?_
                refine RD.op rfl rfl rfl (eff_load (y := .t _) rfl rfl ti3 rfl (.one rfl rfl rfl rfl)) ?_
                refine mvD ?_
                refine RD.op rfl rfl rfl (eff_iop rfl rfl rfl rfl (isubN (by omega) (by omega))) ?_
                refine RD.op rfl rfl rfl (eff_callT (power_ret _ (by omega)) co60 rfl rfl rfl rfl) ?_
                refine RD.op rfl rfl rfl (eff_iop rfl rfl rfl rfl (addN (by omega))) ?_
                refine RD.op rfl rfl rfl (eff_fieldAddr rfl rfl tf23_1 (by decide) rfl rfl rfl (Nat.le_of_ble_eq_true rfl)) ?_
                refine RD.store rfl rfl rfl (eff_storeS (v := .t _) (ys := [_, _, _, _]) (els := [_]) (els' := [_]) rfl rfl ti3 rfl rfl rfl rfl rfl rfl rfl (Nat.le_of_ble_eq_true rfl) rfl rfl) ?_
                refine RD.nil ?_
                refine awp_seq ?_
                refine awp_rw rfl ?_
                refine RW.op rfl rfl (eff_load rfl rfl ti23 rfl (.whole rfl rfl rfl rfl rfl rfl)) ?_
                refine RW.store rfl rfl (eff_storeW (v := .t _) (els := [_]) (els' := [_]) rfl rfl ti23 rfl rfl rfl rfl rfl rfl rfl rfl rfl) ?_
                refine RW.nil ?_
                refine awp_ret ?_
                (rw [apply_near (by rintro (h | h) <;> (try dsimp only [w64] at h) <;> omega) (by assumption) (by assumption) (by assumption) (by assumption), show (Int.toNat ((h : Nat) : Int) ||| 2 ^ (dist f ⟨nx, ((h : Nat) : Int), ky, lk⟩ - 1).toNat) = h + 2 ^ (dist f ⟨nx, ((h : Nat) : Int), ky, lk⟩ - 1).toNat from (or_add hh (by omega) (by assumption)).symm]; exact ⟨Or.inr rfl, [_], ⟨.cell rfl ti23 (.whole rfl rfl rfl rfl rfl rfl) (.t _), trivial⟩, .refl _⟩)
              · try simp only [cl] at h9
                refine awp_skip ?_
                refine awp_seq ?_
                refine awp_rw rfl ?_
                refine RW.op rfl rfl (eff_load rfl rfl ti23 rfl (.whole rfl rfl rfl rfl rfl rfl)) ?_
                refine RW.store rfl rfl (eff_storeW (v := .t _) (els := [_]) (els' := [_]) rfl rfl ti23 rfl rfl rfl rfl rfl rfl rfl rfl rfl) ?_
                refine RW.nil ?_
                refine awp_ret ?_
                (rw [apply_near (by rintro (h | h) <;> (try dsimp only [w64] at h) <;> omega) (by assumption) (by assumption) (by assumption) (by assumption), show (Int.toNat ((h : Nat) : Int) ||| 2 ^ (dist f ⟨nx, ((h : Nat) : Int), ky, lk⟩ - 1).toNat) = h from or_set (by assumption)]; exact ⟨Or.inr rfl, [_], ⟨.cell rfl ti23 (.whole rfl rfl rfl rfl rfl rfl) (.t _), trivial⟩, .refl _⟩)
            · try simp only [cl] at h8
              refine awp_skip ?_
              refine awp_seq ?_
              refine awp_rw rfl ?_
              refine mvT ?_
              refine ioT ?_
              refine faT tf23_3 ?_
              refine RW.store rfl rfl (eff_storeS (v := .t _) (ys := [_, _, _, _]) (els := [_]) (els' := [_]) rfl rfl ti4 rfl rfl rfl rfl rfl rfl rfl (Nat.le_of_ble_eq_true rfl) rfl rfl) ?_
              refine RW.nil ?_
              refine awp_seq ?_
              refine awp_rw rfl ?_
              refine RW.op rfl rfl (eff_load rfl rfl ti23 rfl (.whole rfl rfl rfl rfl rfl rfl)) ?_
              refine RW.store rfl rfl (eff_storeW (v := .t _) (els := [_]) (els' := [_]) rfl rfl ti23 rfl rfl rfl rfl rfl rfl rfl rfl rfl) ?_
              refine RW.nil ?_
              refine awp_ret ?_
              (rw [apply_far (by rintro (h | h) <;> (try dsimp only [w64] at h) <;> omega) (by assumption) (by assumption) (by omega) rfl]; exact ⟨Or.inr rfl, [_], ⟨.cell rfl ti23 (.whole rfl rfl rfl rfl rfl rfl) (.t _), trivial⟩, .refl _⟩)

end Go.Tv.C36

end
section
open Go Go.Tv Go.Proofs
namespace Go.Tv.C36
set_option maxRecDepth 20000
set_option maxHeartbeats 2000000
set_option linter.unusedSimpArgs false
set_option linter.unusedVariables false
theorem put_ret (l : List Rep) (x : Rep) (hl : l.length ≤ 100000) : Ret Tryd.prog 76 [.sl (l.map encR) false, encR x] (.sl ((put l x).map encR) false) := by
  refine ret_of_awp Tryd.func76 rfl (Nat.le_of_ble_eq_true rfl) ?_
  refine awp_seq ?_
  refine awp_rw rfl ?_
  refine RW.new rfl rfl (eff_boxK (v := .t _) (k := 4) (id := 3) rfl rfl rfl rfl rfl rfl) ?_
  refine asT ?_
  refine RW.nil ?_
  refine awp_seq ?_
  refine awp_rw rfl ?_
  refine asT ?_
  refine RW.nil ?_
  refine awp_seq ?_
  refine awp_block ?_
  refine awp_loopW (fun m s => ∃ (k : Nat), (k ≤ l.length) ∧ (∀ y, y ∈ l.take k → less y x = true) ∧ m = l.length - k ∧ s = ⟨48, [(0, .t (.sl (l.map encR) false)), (3, .ptr 3 0 0 0), (5, .t (encI (k : Nat)))], [(3, some ⟨4, 23, 0, [.t (encR x)]⟩)]⟩) (_) (⟨_, weak_keep (n := 48) (fr' := [(0, .t (.sl (l.map encR) false)), (3, .ptr 3 0 0 0), (5, .t (encI (0 : Nat)))]) (st' := [(3, some ⟨4, 23, 0, [.t (encR x)]⟩)]) ⟨rfl, rfl, rfl, rfl, rfl, rfl, trivial⟩ ⟨rfl, okE_one rfl, trivial⟩, 0, (by omega), (by simp), rfl, rfl⟩) ?_
  rintro m s ⟨k, hk, ha, rfl, rfl⟩
  refine awp_seq ?_
  refine awp_seq ?_
  by_cases hc1 : k < l.length
  · refine awp_rd [(some 7, []), (some 8, []), (some 9, []), (some 10, []), (some 11, []), (some 12, []), (some 13, []), (some 14, []), (some 15, []), (some 16, []), (some 17, []), (some 18, [])] [[], [], [1], [0, 1, 2], [0, 1, 2, 3], [0, 1, 2, 3, 4], [0, 1, 2, 3, 4], [0, 1, 2, 3, 4, 5, 6], [0, 1, 2, 3, 4, 5, 6, 7], [0, 1, 2, 3, 4], [0, 1, 2, 3, 4, 5, 6, 7, 8, 9], [0, 1, 2, 3, 4, 5, 6, 7, 8, 9, 10]] tm rfl rfl rfl rfl ?_
    refine mvD ?_
    refine mvD ?_
    refine RD.op rfl rfl rfl (eff_lenM rfl rfl te33 rfl) ?_
    refine RD.op rfl rfl rfl (eff_iop (r := .bool true) rfl rfl rfl rfl (by simp [iop, hc1])) ?_
    refine mvD ?_
    refine RD.gop rfl rfl rfl rfl rfl rfl rfl (eff_move (v := .t _) rfl rfl rfl) ?_
    refine RD.gop rfl rfl rfl rfl rfl rfl rfl (eff_move (v := .t _) rfl rfl rfl) ?_
    refine RD.gop rfl rfl rfl rfl rfl rfl rfl (eff_indexM rfl rfl te33 rfl rfl rfl (by first | assumption | exact List.getElem?_eq_getElem (by omega)) rfl (by decide)) ?_
    refine RD.gop rfl rfl rfl rfl rfl rfl rfl (eff_loadW rfl rfl ti23 rfl rfl rfl) ?_
    refine RD.gop rfl rfl rfl rfl rfl rfl rfl (eff_load rfl rfl ti23 rfl (.whole rfl rfl rfl rfl rfl rfl)) ?_
    refine RD.gop rfl rfl rfl rfl rfl rfl rfl (eff_callT (less_ret _ _) co82 rfl rfl rfl rfl) ?_
    refine RD.op rfl rfl rfl (eff_pick (v := .t _) rfl rfl rfl rfl) ?_
    refine RD.nil ?_
    refine awp_cond rfl (fun h2 => ?_) (fun h2 => ?_)
    · try simp only [cl] at h2
      refine awp_skip ?_
      refine awp_block ?_
      refine awp_rw rfl ?_
      refine mvT ?_
      refine RW.op rfl rfl (eff_iop rfl rfl rfl rfl (iadd (by omega))) ?_
      refine asT ?_
      refine RW.nil ?_
      refine ⟨_, ?_, _, weak_keep (n := 48) (fr' := [(0, .t (.sl (l.map encR) false)), (3, .ptr 3 0 0 0), (5, .t (encI ((k + 1) : Nat)))]) (st' := [(3, some ⟨4, 23, 0, [.t (encR x)]⟩)]) ⟨rfl, rfl, rfl, rfl, rfl, rfl, trivial⟩ ⟨rfl, okE_one rfl, trivial⟩, k + 1, (by omega), (by intro y hy; rcases (mem_take_succ (by omega)).1 hy with h | h; exact ha y h; rw [h]; first | assumption | exact absurd hc2 (by omega)), rfl, rfl⟩
      omega
    · try simp only [cl] at h2
      refine awp_exit ?_
      refine awp_seq ?_
      refine awp_seq ?_
      by_cases hc3 : k < l.length
      · refine awp_rd [(some 21, []), (some 22, []), (some 23, []), (some 24, []), (some 25, []), (some 26, []), (some 27, []), (some 28, []), (some 29, []), (some 30, []), (some 31, []), (some 32, [])] [[], [], [1], [0, 1, 2], [0, 1, 2, 3], [0, 1, 2, 3, 4], [0, 1, 2, 3, 4], [0, 1, 2, 3, 4, 5, 6], [0, 1, 2, 3, 4, 5, 6, 7], [0, 1, 2, 3, 4], [0, 1, 2, 3, 4, 5, 6, 7, 8, 9], [0, 1, 2, 3, 4, 5, 6, 7, 8, 9, 10]] tm rfl rfl rfl rfl ?_
        refine mvD ?_
        refine mvD ?_
        refine RD.op rfl rfl rfl (eff_lenM rfl rfl te33 rfl) ?_
        refine RD.op rfl rfl rfl (eff_iop (r := .bool true) rfl rfl rfl rfl (by simp [iop, hc3])) ?_
        refine mvD ?_
        refine RD.gop rfl rfl rfl rfl rfl rfl rfl (eff_move (v := .t _) rfl rfl rfl) ?_
        refine RD.gop rfl rfl rfl rfl rfl rfl rfl (eff_move (v := .t _) rfl rfl rfl) ?_
        refine RD.gop rfl rfl rfl rfl rfl rfl rfl (eff_indexM rfl rfl te33 rfl rfl rfl (by first | assumption | exact List.getElem?_eq_getElem (by omega)) rfl (by decide)) ?_
        refine RD.gop rfl rfl rfl rfl rfl rfl rfl (eff_loadW rfl rfl ti23 rfl rfl rfl) ?_
        refine RD.gop rfl rfl rfl rfl rfl rfl rfl (eff_load rfl rfl ti23 rfl (.whole rfl rfl rfl rfl rfl rfl)) ?_
        refine RD.gop rfl rfl rfl rfl rfl rfl rfl (eff_structEqlA (cells := cellsR) (a := l[k]) (b := x) rfl rfl ts23s ti23 th23 cellsR_inj cellsR_kind rfl rfl) ?_
        refine RD.op rfl rfl rfl (eff_pick (v := .t _) rfl rfl rfl rfl) ?_
        refine RD.nil ?_
        refine awp_cond rfl (fun h4 => ?_) (fun h4 => ?_)
        · try simp only [cl] at h4
          refine awp_seq ?_
          refine awp_rw rfl ?_
          refine mvT ?_
          refine asT ?_
          refine RW.nil ?_
          refine awp_ret ?_
          first
            | (rw [show put l x = l from by first | exact put_same (by omega) ha (by assumption) (by assumption) | (exfalso; omega)]; exact ⟨Or.inr rfl, [_], ⟨.tmp (.t _), trivial⟩, .refl _⟩)
            | (have hput : put l x = l.take k ++ x :: l.drop k := by first | exact put_end (by omega) hk ha | exact put_new (by omega) ha (by assumption) (by assumption) | (exfalso; omega)
               exact ⟨Or.inr rfl, [_], ⟨.tmp (Res.ownT (xs := (put l x).map encR) rfl rfl (by rw [hput]; simp; rfl) (by rw [hput]; simp; omega)), trivial⟩, .refl _⟩)
        · try simp only [cl] at h4
          refine awp_skip ?_
          refine awp_seq ?_
          refine awp_rw rfl ?_
          refine asT ?_
          refine RW.nil ?_
          show AWP _ _ _ _
          refine awp_weak (weak_adopt (d := 6) (id := 6) (k := 4) (ty := 23) rfl rfl) ?_
          refine awp_seq ?_
          refine awp_rw rfl ?_
          refine mvO ?_
          refine mvT ?_
          refine mvT ?_
          refine RW.op rfl rfl (eff_sliceM (g := encR) (l := none) (h := some k) (r := l.take k) rfl rfl te33 rfl (fun _ => rfl) .no (.yes rfl rfl) (Nat.zero_le _) (by simp; omega) (by simp)) ?_
          refine RW.new rfl rfl (eff_appendAny (id := 6) rfl rfl ta33 rfl rfl rfl rfl rfl rfl (srcM rfl (fun _ => rfl)) (by simp; omega) (by simp; omega)) ?_
          refine asO ?_
          refine RW.nil ?_
          refine awp_seq ?_
          refine awp_rw rfl ?_
          refine mvO ?_
          refine RW.op rfl rfl (eff_load rfl rfl ti23 rfl (.whole rfl rfl rfl rfl rfl rfl)) ?_
          refine RW.new rfl rfl (eff_buildSliceL (id := 41) (els := [.t (.agg [_, _, _, _])]) rfl rfl te33 tz23 rfl (by decide) (by decide) rfl rfl rfl rfl) ?_
          refine RW.new rfl rfl (eff_append (id := 6) (ys := [_]) rfl rfl ta33 rfl rfl rfl (by simp) rfl rfl (srcOwn rfl rfl rfl rfl rfl rfl) (by simp) (by simp; omega) (by simp; omega)) ?_
          refine asO ?_
          refine RW.nil ?_
          refine awp_seq ?_
          refine awp_rw rfl ?_
          refine mvO ?_
          refine mvT ?_
          refine mvT ?_
          refine RW.op rfl rfl (eff_sliceM (g := encR) (l := some k) (h := none) (r := l.drop k) rfl rfl te33 rfl (fun _ => rfl) (.yes rfl rfl) .no (by simp; omega) (by simp) (by simp)) ?_
          refine RW.new rfl rfl (eff_appendAny (id := 6) rfl rfl ta33 rfl rfl rfl (by simp) rfl rfl (srcM rfl (fun _ => rfl)) (by simp; omega) (by simp; omega)) ?_
          refine asO ?_
          refine RW.nil ?_
          refine awp_ret ?_
          first
            | (rw [show put l x = l from by first | exact put_same (by omega) ha (by assumption) (by assumption) | (exfalso; omega)]; exact ⟨Or.inr rfl, [_], ⟨.tmp (.t _), trivial⟩, .refl _⟩)
            | (have hput : put l x = l.take k ++ x :: l.drop k := by first | exact put_end (by omega) hk ha | exact put_new (by omega) ha (by assumption) (by assumption) | (exfalso; omega)
               exact ⟨Or.inr rfl, [_], ⟨.tmp (Res.ownT (xs := (put l x).map encR) rfl rfl (by rw [hput]; simp; rfl) (by rw [hput]; simp; omega)), trivial⟩, .refl _⟩)
      · refine awp_rd [(some 21, []), (some 22, []), (some 23, []), (some 24, []), (some 25, []), (some 26, []), (some 27, []), (some 28, []), (some 29, []), (some 30, []), (some 31, []), (some 32, [])] [[], [], [1], [0, 1, 2], [0, 1, 2, 3], [0, 1, 2, 3, 4], [0, 1, 2, 3, 4], [0, 1, 2, 3, 4, 5, 6], [0, 1, 2, 3, 4, 5, 6, 7], [0, 1, 2, 3, 4], [0, 1, 2, 3, 4, 5, 6, 7, 8, 9], [0, 1, 2, 3, 4, 5, 6, 7, 8, 9, 10]] tm rfl rfl rfl rfl ?_
        refine mvD ?_
        refine mvD ?_
        refine RD.op rfl rfl rfl (eff_lenM rfl rfl te33 rfl) ?_
        refine RD.op rfl rfl rfl (eff_iop (r := .bool false) rfl rfl rfl rfl (by simp [iop, hc3])) ?_
        refine mvD ?_
        refine gkD ?_
        refine gkD ?_
        refine gkD ?_
        refine gkD ?_
        refine gkD ?_
        refine gkD ?_
        refine RD.op rfl rfl rfl (eff_pick (v := .t _) rfl rfl rfl rfl) ?_
        refine RD.nil ?_
        refine awp_cond rfl (fun h => nomatch h) (fun _ => ?_)
        refine awp_skip ?_
        refine awp_seq ?_
        refine awp_rw rfl ?_
        refine asT ?_
        refine RW.nil ?_
        show AWP _ _ _ _
        refine awp_weak (weak_adopt (d := 6) (id := 6) (k := 4) (ty := 23) rfl rfl) ?_
        refine awp_seq ?_
        refine awp_rw rfl ?_
        refine mvO ?_
        refine mvT ?_
        refine mvT ?_
        refine RW.op rfl rfl (eff_sliceM (g := encR) (l := none) (h := some k) (r := l.take k) rfl rfl te33 rfl (fun _ => rfl) .no (.yes rfl rfl) (Nat.zero_le _) (by simp; omega) (by simp)) ?_
        refine RW.new rfl rfl (eff_appendAny (id := 6) rfl rfl ta33 rfl rfl rfl rfl rfl rfl (srcM rfl (fun _ => rfl)) (by simp; omega) (by simp; omega)) ?_
        refine asO ?_
        refine RW.nil ?_
        refine awp_seq ?_
        refine awp_rw rfl ?_
        refine mvO ?_
        refine RW.op rfl rfl (eff_load rfl rfl ti23 rfl (.whole rfl rfl rfl rfl rfl rfl)) ?_
        refine RW.new rfl rfl (eff_buildSliceL (id := 41) (els := [.t (.agg [_, _, _, _])]) rfl rfl te33 tz23 rfl (by decide) (by decide) rfl rfl rfl rfl) ?_
        refine RW.new rfl rfl (eff_append (id := 6) (ys := [_]) rfl rfl ta33 rfl rfl rfl (by simp) rfl rfl (srcOwn rfl rfl rfl rfl rfl rfl) (by simp) (by simp; omega) (by simp; omega)) ?_
        refine asO ?_
        refine RW.nil ?_
        refine awp_seq ?_
        refine awp_rw rfl ?_
        refine mvO ?_
        refine mvT ?_
        refine mvT ?_
        refine RW.op rfl rfl (eff_sliceM (g := encR) (l := some k) (h := none) (r := l.drop k) rfl rfl te33 rfl (fun _ => rfl) (.yes rfl rfl) .no (by simp; omega) (by simp) (by simp)) ?_
        refine RW.new rfl rfl (eff_appendAny (id := 6) rfl rfl ta33 rfl rfl rfl (by simp) rfl rfl (srcM rfl (fun _ => rfl)) (by simp; omega) (by simp; omega)) ?_
        refine asO ?_
        refine RW.nil ?_
        refine awp_ret ?_
        first
          | (rw [show put l x = l from by first | exact put_same (by omega) ha (by assumption) (by assumption) | (exfalso; omega)]; exact ⟨Or.inr rfl, [_], ⟨.tmp (.t _), trivial⟩, .refl _⟩)
          | (have hput : put l x = l.take k ++ x :: l.drop k := by first | exact put_end (by omega) hk ha | exact put_new (by omega) ha (by assumption) (by assumption) | (exfalso; omega)
             exact ⟨Or.inr rfl, [_], ⟨.tmp (Res.ownT (xs := (put l x).map encR) rfl rfl (by rw [hput]; simp; rfl) (by rw [hput]; simp; omega)), trivial⟩, .refl _⟩)
  · refine awp_rd [(some 7, []), (some 8, []), (some 9, []), (some 10, []), (some 11, []), (some 12, []), (some 13, []), (some 14, []), (some 15, []), (some 16, []), (some 17, []), (some 18, [])] [[], [], [1], [0, 1, 2], [0, 1, 2, 3], [0, 1, 2, 3, 4], [0, 1, 2, 3, 4], [0, 1, 2, 3, 4, 5, 6], [0, 1, 2, 3, 4, 5, 6, 7], [0, 1, 2, 3, 4], [0, 1, 2, 3, 4, 5, 6, 7, 8, 9], [0, 1, 2, 3, 4, 5, 6, 7, 8, 9, 10]] tm rfl rfl rfl rfl ?_
    refine mvD ?_
    refine mvD ?_
    refine RD.op rfl rfl rfl (eff_lenM rfl rfl te33 rfl) ?_
    refine RD.op rfl rfl rfl (eff_iop (r := .bool false) rfl rfl rfl rfl (by simp [iop, hc1])) ?_
    refine mvD ?_
    refine gkD ?_
    refine gkD ?_
    refine gkD ?_
    refine gkD ?_
    refine gkD ?_
    refine gkD ?_
    refine RD.op rfl rfl rfl (eff_pick (v := .t _) rfl rfl rfl rfl) ?_
    refine RD.nil ?_
    refine awp_cond rfl (fun h => nomatch h) (fun _ => ?_)
    refine awp_exit ?_
    refine awp_seq ?_
    refine awp_seq ?_
    by_cases hc5 : k < l.length
    · refine awp_rd [(some 21, []), (some 22, []), (some 23, []), (some 24, []), (some 25, []), (some 26, []), (some 27, []), (some 28, []), (some 29, []), (some 30, []), (some 31, []), (some 32, [])] [[], [], [1], [0, 1, 2], [0, 1, 2, 3], [0, 1, 2, 3, 4], [0, 1, 2, 3, 4], [0, 1, 2, 3, 4, 5, 6], [0, 1, 2, 3, 4, 5, 6, 7], [0, 1, 2, 3, 4], [0, 1, 2, 3, 4, 5, 6, 7, 8, 9], [0, 1, 2, 3, 4, 5, 6, 7, 8, 9, 10]] tm rfl rfl rfl rfl ?_
      refine mvD ?_
      refine mvD ?_
      refine RD.op rfl rfl rfl (eff_lenM rfl rfl te33 rfl) ?_
      refine RD.op rfl rfl rfl (eff_iop (r := .bool true) rfl rfl rfl rfl (by simp [iop, hc5])) ?_
      refine mvD ?_
      refine RD.gop rfl rfl rfl rfl rfl rfl rfl (eff_move (v := .t _) rfl rfl rfl) ?_
      refine RD.gop rfl rfl rfl rfl rfl rfl rfl (eff_move (v := .t _) rfl rfl rfl) ?_
      refine RD.gop rfl rfl rfl rfl rfl rfl rfl (eff_indexM rfl rfl te33 rfl rfl rfl (by first | assumption | exact List.getElem?_eq_getElem (by omega)) rfl (by decide)) ?_
      refine RD.gop rfl rfl rfl rfl rfl rfl rfl (eff_loadW rfl rfl ti23 rfl rfl rfl) ?_
      refine RD.gop rfl rfl rfl rfl rfl rfl rfl (eff_load rfl rfl ti23 rfl (.whole rfl rfl rfl rfl rfl rfl)) ?_
      refine RD.gop rfl rfl rfl rfl rfl rfl rfl (eff_structEqlA (cells := cellsR) (a := l[k]) (b := x) rfl rfl ts23s ti23 th23 cellsR_inj cellsR_kind rfl rfl) ?_
      refine RD.op rfl rfl rfl (eff_pick (v := .t _) rfl rfl rfl rfl) ?_
      refine RD.nil ?_
      refine awp_cond rfl (fun h6 => ?_) (fun h6 => ?_)
      · try simp only [cl] at h6
        refine awp_seq ?_
        refine awp_rw rfl ?_
        refine mvT ?_
        refine asT ?_
        refine RW.nil ?_
        refine awp_ret ?_
        first
          | (rw [show put l x = l from by first | exact put_same (by omega) ha (by assumption) (by assumption) | (exfalso; omega)]; exact ⟨Or.inr rfl, [_], ⟨.tmp (.t _), trivial⟩, .refl _⟩)
          | (have hput : put l x = l.take k ++ x :: l.drop k := by first | exact put_end (by omega) hk ha | exact put_new (by omega) ha (by assumption) (by assumption) | (exfalso; omega)
             exact ⟨Or.inr rfl, [_], ⟨.tmp (Res.ownT (xs := (put l x).map encR) rfl rfl (by rw [hput]; simp; rfl) (by rw [hput]; simp; omega)), trivial⟩, .refl _⟩)
      · try simp only [cl] at h6
        refine awp_skip ?_
        refine awp_seq ?_
        refine awp_rw rfl ?_
        refine asT ?_
        refine RW.nil ?_
        show AWP _ _ _ _
        refine awp_weak (weak_adopt (d := 6) (id := 6) (k := 4) (ty := 23) rfl rfl) ?_
        refine awp_seq ?_
        refine awp_rw rfl ?_
        refine mvO ?_
        refine mvT ?_
        refine mvT ?_
        refine RW.op rfl rfl (eff_sliceM (g := encR) (l := none) (h := some k) (r := l.take k) rfl rfl te33 rfl (fun _ => rfl) .no (.yes rfl rfl) (Nat.zero_le _) (by simp; omega) (by simp)) ?_
        refine RW.new rfl rfl (eff_appendAny (id := 6) rfl rfl ta33 rfl rfl rfl rfl rfl rfl (srcM rfl (fun _ => rfl)) (by simp; omega) (by simp; omega)) ?_
        refine asO ?_
        refine RW.nil ?_
        refine awp_seq ?_
        refine awp_rw rfl ?_
        refine mvO ?_
        refine RW.op rfl rfl (eff_load rfl rfl ti23 rfl (.whole rfl rfl rfl rfl rfl rfl)) ?_
        refine RW.new rfl rfl (eff_buildSliceL (id := 41) (els := [.t (.agg [_, _, _, _])]) rfl rfl te33 tz23 rfl (by decide) (by decide) rfl rfl rfl rfl) ?_
        refine RW.new rfl rfl (eff_append (id := 6) (ys := [_]) rfl rfl ta33 rfl rfl rfl (by simp) rfl rfl (srcOwn rfl rfl rfl rfl rfl rfl) (by simp) (by simp; omega) (by simp; omega)) ?_
        refine asO ?_
        refine RW.nil ?_
        refine awp_seq ?_
        refine awp_rw rfl ?_
        refine mvO ?_
        refine mvT ?_
        refine mvT ?_
        refine RW.op rfl rfl (eff_sliceM (g := encR) (l := some k) (h := none) (r := l.drop k) rfl rfl te33 rfl (fun _ => rfl) (.yes rfl rfl) .no (by simp; omega) (by simp) (by simp)) ?_
        refine RW.new rfl rfl (eff_appendAny (id := 6) rfl rfl ta33 rfl rfl rfl (by simp) rfl rfl (srcM rfl (fun _ => rfl)) (by simp; omega) (by simp; omega)) ?_
        refine asO ?_
        refine RW.nil ?_
        refine awp_ret ?_
        first
          | (rw [show put l x = l from by first | exact put_same (by omega) ha (by assumption) (by assumption) | (exfalso; omega)]; exact ⟨Or.inr rfl, [_], ⟨.tmp (.t _), trivial⟩, .refl _⟩)
          | (have hput : put l x = l.take k ++ x :: l.drop k := by first | exact put_end (by omega) hk ha | exact put_new (by omega) ha (by assumption) (by assumption) | (exfalso; omega)
             exact ⟨Or.inr rfl, [_], ⟨.tmp (Res.ownT (xs := (put l x).map encR) rfl rfl (by rw [hput]; simp; rfl) (by rw [hput]; simp; omega)), trivial⟩, .refl _⟩)
    · refine awp_rd [(some 21, []), (some 22, []), (some 23, []), (some 24, []), (some 25, []), (some 26, []), (some 27, []), (some 28, []), (some 29, []), (some 30, []), (some 31, []), (some 32, [])] [[], [], [1], [0, 1, 2], [0, 1, 2, 3], [0, 1, 2, 3, 4], [0, 1, 2, 3, 4], [0, 1, 2, 3, 4, 5, 6], [0, 1, 2, 3, 4, 5, 6, 7], [0, 1, 2, 3, 4], [0, 1, 2, 3, 4, 5, 6, 7, 8, 9], [0, 1, 2, 3, 4, 5, 6, 7, 8, 9, 10]] tm rfl rfl rfl rfl ?_
      refine mvD ?_
      refine mvD ?_
      refine RD.op rfl rfl rfl (eff_lenM rfl rfl te33 rfl) ?_
      refine RD.op rfl rfl rfl (eff_iop (r := .bool false) rfl rfl rfl rfl (by simp [iop, hc5])) ?_
      refine mvD ?_
      refine gkD ?_
      refine gkD ?_
      refine gkD ?_
      refine gkD ?_
      refine gkD ?_
      refine gkD ?_
      refine RD.op rfl rfl rfl (eff_pick (v := .t _) rfl rfl rfl rfl) ?_
      refine RD.nil ?_
      refine awp_cond rfl (fun h => nomatch h) (fun _ => ?_)
      refine awp_skip ?_
      refine awp_seq ?_
      refine awp_rw rfl ?_
      refine asT ?_
      refine RW.nil ?_
      show AWP _ _ _ _
      refine awp_weak (weak_adopt (d := 6) (id := 6) (k := 4) (ty := 23) rfl rfl) ?_
      refine awp_seq ?_
      refine awp_rw rfl ?_
      refine mvO ?_
      refine mvT ?_
      refine mvT ?_
      refine RW.op rfl rfl (eff_sliceM (g := encR) (l := none) (h := some k) (r := l.take k) rfl rfl te33 rfl (fun _ => rfl) .no (.yes rfl rfl) (Nat.zero_le _) (by simp; omega) (by simp)) ?_
      refine RW.new rfl rfl (eff_appendAny (id := 6) rfl rfl ta33 rfl rfl rfl rfl rfl rfl (srcM rfl (fun _ => rfl)) (by simp; omega) (by simp; omega)) ?_
      refine asO ?_
      refine RW.nil ?_
      refine awp_seq ?_
      refine awp_rw rfl ?_
      refine mvO ?_
      refine RW.op rfl rfl (eff_load rfl rfl ti23 rfl (.whole rfl rfl rfl rfl rfl rfl)) ?_
      refine RW.new rfl rfl (eff_buildSliceL (id := 41) (els := [.t (.agg [_, _, _, _])]) rfl rfl te33 tz23 rfl (by decide) (by decide) rfl rfl rfl rfl) ?_
      refine RW.new rfl rfl (eff_append (id := 6) (ys := [_]) rfl rfl ta33 rfl rfl rfl (by simp) rfl rfl (srcOwn rfl rfl rfl rfl rfl rfl) (by simp) (by simp; omega) (by simp; omega)) ?_
      refine asO ?_
      refine RW.nil ?_
      refine awp_seq ?_
      refine awp_rw rfl ?_
      refine mvO ?_
      refine mvT ?_
      refine mvT ?_
      refine RW.op rfl rfl (eff_sliceM (g := encR) (l := some k) (h := none) (r := l.drop k) rfl rfl te33 rfl (fun _ => rfl) (.yes rfl rfl) .no (by simp; omega) (by simp) (by simp)) ?_
      refine RW.new rfl rfl (eff_appendAny (id := 6) rfl rfl ta33 rfl rfl rfl (by simp) rfl rfl (srcM rfl (fun _ => rfl)) (by simp; omega) (by simp; omega)) ?_
      refine asO ?_
      refine RW.nil ?_
      refine awp_ret ?_
      first
        | (rw [show put l x = l from by first | exact put_same (by omega) ha (by assumption) (by assumption) | (exfalso; omega)]; exact ⟨Or.inr rfl, [_], ⟨.tmp (.t _), trivial⟩, .refl _⟩)
        | (have hput : put l x = l.take k ++ x :: l.drop k := by first | exact put_end (by omega) hk ha | exact put_new (by omega) ha (by assumption) (by assumption) | (exfalso; omega)
           exact ⟨Or.inr rfl, [_], ⟨.tmp (Res.ownT (xs := (put l x).map encR) rfl rfl (by rw [hput]; simp; rfl) (by rw [hput]; simp; omega)), trivial⟩, .refl _⟩)

end Go.Tv.C36

end
section
open Go Go.Tv Go.Proofs
namespace Go.Tv.C36
set_option maxRecDepth 20000
set_option maxHeartbeats 2000000
set_option linter.unusedSimpArgs false
set_option linter.unusedVariables false
theorem rsend_ret (t : Twn) (f : Frm) (hp : ∀ y, y ∈ t.poss → HP y) (hl : t.poss.length ≤ 1000) (hs : t.sent.length ≤ 1000) : Ret Tryd.prog 66 [encT t, encF f] (.tup [encT (send t f).1, encI (send t f).2]) := by
  refine ret_of_awp Tryd.func66 rfl (Nat.le_of_ble_eq_true rfl) ?_
  refine awp_seq ?_
  refine awp_rw rfl ?_
  refine RW.new rfl rfl (eff_boxK (v := .t _) (k := 2) (id := 2) rfl rfl rfl rfl rfl rfl) ?_
  refine RW.new rfl rfl (eff_boxK (v := .t _) (k := 5) (id := 3) rfl rfl rfl rfl rfl rfl) ?_
  refine RW.new rfl rfl (eff_allocK (k := 2) (id := 4) rfl rfl tz64 rfl rfl) ?_
  refine asT ?_
  refine RW.nil ?_
  refine awp_seq ?_
  refine awp_rw rfl ?_
  refine faT tf64_0 ?_
  refine l1T ti62 rfl rfl rfl rfl rfl (.one rfl rfl rfl rfl) ?_
  refine RW.op rfl rfl (eff_lenM rfl rfl te62 rfl) ?_
  refine asT ?_
  refine RW.nil ?_
  refine awp_seq ?_
  refine awp_seq ?_
  by_cases hc1 : 0 < t.sent.length
  · refine awp_rd [(some 13, []), (some 14, []), (some 15, []), (some 16, []), (some 17, []), (some 18, []), (some 19, []), (some 20, []), (some 21, []), (some 22, []), (some 23, []), (some 24, []), (some 25, []), (some 26, [])] [[], [0], [0, 1], [0, 1, 2], [0, 1, 2, 3], [0, 1, 2], [0, 1, 2, 5], [0, 1, 2, 3, 4, 5, 6], [0, 1, 2, 3, 4, 5, 6, 7], [0, 1, 2, 3, 4, 5, 6, 7, 8], [0, 1, 2], [0, 1, 2, 10], [0, 1, 2, 3, 4, 5, 6, 7, 8, 9, 10, 11], [0, 1, 2, 3, 4, 5, 6, 7, 8, 9, 10, 11, 12]] tm rfl rfl rfl rfl ?_
    refine mvD ?_
    refine RD.op rfl rfl rfl (eff_iop (r := .bool true) rfl rfl rfl rfl (by show some (Tr.bool (decide _)) = _; rw [decide_eq_true (by omega)])) ?_
    refine mvD ?_
    refine RD.gop rfl rfl rfl rfl rfl rfl rfl (eff_fieldAddr rfl rfl tf64_0 (by decide) rfl rfl rfl (Nat.le_of_ble_eq_true rfl)) ?_
    refine RD.gop rfl rfl rfl rfl rfl rfl rfl (eff_load (y := .t _) rfl rfl ti62 rfl (.one rfl rfl rfl rfl)) ?_
    refine RD.gop rfl rfl rfl rfl rfl rfl rfl (eff_move (v := .t _) rfl rfl rfl) ?_
    refine RD.gop rfl rfl rfl rfl rfl rfl rfl (eff_iop rfl rfl rfl rfl (isub (by omega))) ?_
    refine RD.gop rfl rfl rfl rfl rfl rfl rfl (eff_indexM (i := t.sent.length - 1) rfl rfl te62 rfl rfl (by first | rfl | omega) (by exact List.getElem?_eq_getElem (by omega)) rfl (by decide)) ?_
    refine RD.gop rfl rfl rfl rfl rfl rfl rfl (eff_fieldAddrT rfl rfl tf45_1 (by decide) rfl) ?_
    refine RD.gop rfl rfl rfl rfl rfl rfl rfl (eff_loadT1 rfl rfl ti3 rfl rfl) ?_
    refine RD.gop rfl rfl rfl rfl rfl rfl rfl (eff_fieldAddr rfl rfl tf45_1 (by decide) rfl rfl rfl (Nat.le_of_ble_eq_true rfl)) ?_
    refine RD.gop rfl rfl rfl rfl rfl rfl rfl (eff_load (y := .t _) rfl rfl ti3 rfl (.one rfl rfl rfl rfl)) ?_
    refine RD.gop rfl rfl rfl rfl rfl rfl rfl (eff_iop rfl rfl rfl rfl rfl) ?_
    refine RD.op rfl rfl rfl (eff_pick (v := .t _) rfl rfl rfl rfl) ?_
    refine RD.nil ?_
    refine awp_cond rfl (fun h2 => ?_) (fun h2 => ?_)
    · try simp only [cl] at h2
      refine awp_seq ?_
      refine awp_rw rfl ?_
      refine RW.op rfl rfl (eff_buildT (ys := [_, _]) rfl rfl tz64 tg64 rfl) ?_
      refine RW.store rfl rfl (eff_storeW (v := .t _) (els := [_]) (els' := [_]) rfl rfl ti64 rfl rfl rfl rfl rfl rfl rfl rfl rfl) ?_
      refine asT ?_
      refine RW.nil ?_
      refine awp_ret ?_
      first
        | (rw [send_late (by first | (rw [late_at (by omega)]; exact decide_eq_true (by first | assumption | omega)) | (exfalso; omega))]
           exact ⟨Or.inr rfl, [_, _], ⟨.cell rfl ti64 (.whole rfl rfl rfl rfl rfl rfl) (.t _), .tmp (.t _), trivial⟩, (by repeat' first | exact trivial | exact Wk.refl _ | exact Wk.sl _ | refine And.intro ?_ ?_ | refine Wk.tupP ?_ | refine Wk.aggP ?_)⟩)
        | (have hj2 : j = t.poss.length := by omega
           subst hj2
           rw [List.take_length] at hc
           have hst : stepF t.poss f = cur := hc.symm
           first
             | (rw [send_many (by first | exact late_nil (by omega) | (rw [late_at (by omega)]; exact decide_eq_false (by first | assumption | omega))) (by rw [hst]; omega)]
                exact ⟨Or.inr rfl, [_, _], ⟨.cell rfl ti64 (.whole rfl rfl rfl rfl rfl rfl) (.t _), .tmp (.t _), trivial⟩, (by repeat' first | exact trivial | exact Wk.refl _ | exact Wk.sl _ | refine And.intro ?_ ?_ | refine Wk.tupP ?_ | refine Wk.aggP ?_)⟩)
             | (rw [send_ok (by first | exact late_nil (by omega) | (rw [late_at (by omega)]; exact decide_eq_false (by first | assumption | omega))) (by rw [hst]; omega), hst]
                exact ⟨Or.inr rfl, [_, _], ⟨.cell rfl ti64 (.whole rfl rfl rfl rfl rfl rfl) (Res.aggP (xs := [_, _]) ⟨Res.ownT (xs := (t.sent ++ [f]).map encF) rfl rfl (by simp; rfl) (by simp), .t _, trivial⟩), .tmp (.t _), trivial⟩, .refl _⟩))
    · try simp only [cl] at h2
      refine awp_skip ?_
      refine awp_seq ?_
      refine awp_rw rfl ?_
      refine faT tf64_1 ?_
      refine l1T ti33 rfl rfl rfl rfl rfl (.one rfl rfl rfl rfl) ?_
      refine asT ?_
      refine RW.nil ?_
      refine awp_seq ?_
      refine awp_seq ?_
      refine awp_rw rfl ?_
      refine asT ?_
      refine RW.nil ?_
      refine awp_block ?_
      refine awp_loopW (fun m s => ∃ (j : Nat) (cur : List Rep), (j ≤ t.poss.length) ∧ (cur = stepI f t.poss (t.poss.take j)) ∧ m = t.poss.length - j ∧ s = ⟨60, [(2, .ptr 2 0 0 0), (3, .ptr 3 0 0 0), (4, .ptr 4 0 0 0), (7, .t (.sl (cur.map encR) false)), (8, .t (encI (j : Nat)))], [(2, some ⟨2, 64, 0, [.t (encT t)]⟩), (3, some ⟨5, 45, 0, [.t (encF f)]⟩), (4, some ⟨2, 64, 0, [.t z64]⟩)]⟩) (_) (⟨_, weak_keep (n := 60) (fr' := [(2, .ptr 2 0 0 0), (3, .ptr 3 0 0 0), (4, .ptr 4 0 0 0), (7, .t (.sl ((t.poss).map encR) false)), (8, .t (encI (0 : Nat)))]) (st' := [(2, some ⟨2, 64, 0, [.t (encT t)]⟩), (3, some ⟨5, 45, 0, [.t (encF f)]⟩), (4, some ⟨2, 64, 0, [.t z64]⟩)]) ⟨rfl, rfl, rfl, rfl, rfl, rfl, rfl, rfl, rfl, rfl, trivial⟩ ⟨rfl, okE_one rfl, rfl, okE_one rfl, rfl, okE_one rfl, trivial⟩, 0, t.poss, (by omega), (by simp [stepI]), rfl, rfl⟩) ?_
      rintro m s ⟨j, cur, hj, hc, rfl, rfl⟩
      have hcl := stepI_len f t.poss t.poss j hj
      rw [← hc] at hcl
      refine awp_seq ?_
      refine awp_seq ?_
      refine awp_rw rfl ?_
      refine mvT ?_
      refine faT tf64_1 ?_
      refine l1T ti33 rfl rfl rfl rfl rfl (.one rfl rfl rfl rfl) ?_
      refine RW.op rfl rfl (eff_lenM rfl rfl te33 rfl) ?_
      refine ioT ?_
      refine RW.nil ?_
      refine awp_cond rfl (fun h3 => ?_) (fun h3 => ?_)
      · try simp only [cl] at h3
        refine awp_skip ?_
        refine awp_seq ?_
        refine awp_block ?_
        refine awp_rd [(some 37, []), (some 38, []), (some 39, []), (some 40, []), (some 41, []), (some 42, []), (some 43, []), (some 44, []), (some 45, []), (some 7, [])] [[], [], [1], [], [1, 2, 3], [1, 2, 3, 4], [], [1, 2, 3, 4, 5, 6], [0, 1, 2, 3, 4, 5, 6, 7], [0, 1, 2, 3, 4, 5, 6, 7, 8]] tm rfl rfl rfl rfl ?_
        refine mvD ?_
        refine RD.op rfl rfl rfl (eff_fieldAddr rfl rfl tf64_1 (by decide) rfl rfl rfl (Nat.le_of_ble_eq_true rfl)) ?_
        refine RD.op rfl rfl rfl (eff_load (y := .t _) rfl rfl ti33 rfl (.one rfl rfl rfl rfl)) ?_
        refine mvD ?_
        refine RD.op rfl rfl rfl (eff_indexM rfl rfl te33 rfl rfl rfl (by first | assumption | exact List.getElem?_eq_getElem (by omega)) rfl (by decide)) ?_
        refine RD.op rfl rfl rfl (eff_loadW rfl rfl ti23 rfl rfl rfl) ?_
        refine RD.op rfl rfl rfl (eff_load rfl rfl ti45 rfl (.whole rfl rfl rfl rfl rfl rfl)) ?_
        refine RD.op rfl rfl rfl (eff_callT (rapply_ret _ _ (hp _ (List.getElem_mem _))) co37 rfl rfl rfl rfl) ?_
        refine RD.op rfl rfl rfl (eff_callT (put_ret cur _ (by omega)) co76 rfl rfl rfl rfl) ?_
        refine RD.op rfl rfl rfl (eff_assign (v := .t _) rfl rfl rfl) ?_
        refine RD.nil ?_
        refine awp_rw rfl ?_
        refine mvT ?_
        refine RW.op rfl rfl (eff_iop rfl rfl rfl rfl (iadd (by omega))) ?_
        refine asT ?_
        refine RW.nil ?_
        refine ⟨_, ?_, _, weak_keep (n := 60) (fr' := [(2, .ptr 2 0 0 0), (3, .ptr 3 0 0 0), (4, .ptr 4 0 0 0), (7, .t (.sl ((put cur (apply (t.poss[j]'(by omega)) f)).map encR) false)), (8, .t (encI ((j + 1) : Nat)))]) (st' := [(2, some ⟨2, 64, 0, [.t (encT t)]⟩), (3, some ⟨5, 45, 0, [.t (encF f)]⟩), (4, some ⟨2, 64, 0, [.t z64]⟩)]) ⟨rfl, rfl, rfl, rfl, rfl, rfl, rfl, rfl, rfl, rfl, trivial⟩ ⟨rfl, okE_one rfl, rfl, okE_one rfl, rfl, okE_one rfl, trivial⟩, j + 1, put cur (apply (t.poss[j]'(by omega)) f), (by omega), (by rw [stepI_take (by omega), hc]), rfl, rfl⟩
        omega
      · try simp only [cl] at h3
        refine awp_exit ?_
        refine awp_seq ?_
        refine awp_seq ?_
        refine awp_rw rfl ?_
        refine mvT ?_
        refine RW.op rfl rfl (eff_lenM rfl rfl te33 rfl) ?_
        refine ioT ?_
        refine RW.nil ?_
        refine awp_cond rfl (fun h4 => ?_) (fun h4 => ?_)
        · try simp only [cl] at h4
          refine awp_seq ?_
          refine awp_rw rfl ?_
          refine RW.op rfl rfl (eff_buildT (ys := [_, _]) rfl rfl tz64 tg64 rfl) ?_
          refine RW.store rfl rfl (eff_storeW (v := .t _) (els := [_]) (els' := [_]) rfl rfl ti64 rfl rfl rfl rfl rfl rfl rfl rfl rfl) ?_
          refine asT ?_
          refine RW.nil ?_
          refine awp_ret ?_
          first
            | (rw [send_late (by first | (rw [late_at (by omega)]; exact decide_eq_true (by first | assumption | omega)) | (exfalso; omega))]
               exact ⟨Or.inr rfl, [_, _], ⟨.cell rfl ti64 (.whole rfl rfl rfl rfl rfl rfl) (.t _), .tmp (.t _), trivial⟩, (by repeat' first | exact trivial | exact Wk.refl _ | exact Wk.sl _ | refine And.intro ?_ ?_ | refine Wk.tupP ?_ | refine Wk.aggP ?_)⟩)
            | (have hj2 : j = t.poss.length := by omega
               subst hj2
               rw [List.take_length] at hc
               have hst : stepF t.poss f = cur := hc.symm
               first
                 | (rw [send_many (by first | exact late_nil (by omega) | (rw [late_at (by omega)]; exact decide_eq_false (by first | assumption | omega))) (by rw [hst]; omega)]
                    exact ⟨Or.inr rfl, [_, _], ⟨.cell rfl ti64 (.whole rfl rfl rfl rfl rfl rfl) (.t _), .tmp (.t _), trivial⟩, (by repeat' first | exact trivial | exact Wk.refl _ | exact Wk.sl _ | refine And.intro ?_ ?_ | refine Wk.tupP ?_ | refine Wk.aggP ?_)⟩)
                 | (rw [send_ok (by first | exact late_nil (by omega) | (rw [late_at (by omega)]; exact decide_eq_false (by first | assumption | omega))) (by rw [hst]; omega), hst]
                    exact ⟨Or.inr rfl, [_, _], ⟨.cell rfl ti64 (.whole rfl rfl rfl rfl rfl rfl) (Res.aggP (xs := [_, _]) ⟨Res.ownT (xs := (t.sent ++ [f]).map encF) rfl rfl (by simp; rfl) (by simp), .t _, trivial⟩), .tmp (.t _), trivial⟩, .refl _⟩))
        · try simp only [cl] at h4
          refine awp_skip ?_
          refine awp_seq ?_
          refine awp_rw rfl ?_
          refine asT ?_
          refine RW.nil ?_
          show AWP _ _ _ _
          refine awp_weak (weak_adopt (d := 9) (id := 9) (k := 5) (ty := 45) rfl rfl) ?_
          refine awp_seq ?_
          refine awp_rw rfl ?_
          refine mvO ?_
          refine faT tf64_0 ?_
          refine l1T ti62 rfl rfl rfl rfl rfl (.one rfl rfl rfl rfl) ?_
          refine RW.new rfl rfl (eff_appendAny (id := 9) rfl rfl ta62 rfl rfl rfl rfl rfl rfl (srcM rfl (fun _ => rfl)) (by simp; omega) (by simp; omega)) ?_
          refine asO ?_
          refine RW.nil ?_
          refine awp_seq ?_
          refine awp_rw rfl ?_
          refine mvO ?_
          refine RW.op rfl rfl (eff_load rfl rfl ti45 rfl (.whole rfl rfl rfl rfl rfl rfl)) ?_
          refine RW.new rfl rfl (eff_buildSliceL (id := 56) (els := [.t (.agg [_, _, _, _, _])]) rfl rfl te62 tz45 rfl (by decide) (by decide) rfl rfl rfl rfl) ?_
          refine RW.new rfl rfl (eff_append (id := 9) (ys := [_]) rfl rfl ta62 rfl rfl rfl (by simp) rfl rfl (srcOwn rfl rfl rfl rfl rfl rfl) (by simp) (by simp; omega) (by simp; omega)) ?_
          refine mvT ?_
          refine RW.op rfl rfl (eff_buildA (ys := [_, _]) rfl rfl tz64 tg64 rfl rfl) ?_
          refine RW.store rfl rfl (eff_storeW (v := .agg _) (els := [_]) (els' := [_]) rfl rfl ti64 rfl rfl rfl rfl rfl rfl rfl rfl rfl) ?_
          refine asT ?_
          refine RW.nil ?_
          refine awp_ret ?_
          first
            | (rw [send_late (by first | (rw [late_at (by omega)]; exact decide_eq_true (by first | assumption | omega)) | (exfalso; omega))]
               exact ⟨Or.inr rfl, [_, _], ⟨.cell rfl ti64 (.whole rfl rfl rfl rfl rfl rfl) (.t _), .tmp (.t _), trivial⟩, (by repeat' first | exact trivial | exact Wk.refl _ | exact Wk.sl _ | refine And.intro ?_ ?_ | refine Wk.tupP ?_ | refine Wk.aggP ?_)⟩)
            | (have hj2 : j = t.poss.length := by omega
               subst hj2
               rw [List.take_length] at hc
               have hst : stepF t.poss f = cur := hc.symm
               first
                 | (rw [send_many (by first | exact late_nil (by omega) | (rw [late_at (by omega)]; exact decide_eq_false (by first | assumption | omega))) (by rw [hst]; omega)]
                    exact ⟨Or.inr rfl, [_, _], ⟨.cell rfl ti64 (.whole rfl rfl rfl rfl rfl rfl) (.t _), .tmp (.t _), trivial⟩, (by repeat' first | exact trivial | exact Wk.refl _ | exact Wk.sl _ | refine And.intro ?_ ?_ | refine Wk.tupP ?_ | refine Wk.aggP ?_)⟩)
                 | (rw [send_ok (by first | exact late_nil (by omega) | (rw [late_at (by omega)]; exact decide_eq_false (by first | assumption | omega))) (by rw [hst]; omega), hst]
                    exact ⟨Or.inr rfl, [_, _], ⟨.cell rfl ti64 (.whole rfl rfl rfl rfl rfl rfl) (Res.aggP (xs := [_, _]) ⟨Res.ownT (xs := (t.sent ++ [f]).map encF) rfl rfl (by simp; rfl) (by simp), .t _, trivial⟩), .tmp (.t _), trivial⟩, .refl _⟩))
  · refine awp_rd [(some 13, []), (some 14, []), (some 15, []), (some 16, []), (some 17, []), (some 18, []), (some 19, []), (some 20, []), (some 21, []), (some 22, []), (some 23, []), (some 24, []), (some 25, []), (some 26, [])] [[], [0], [0, 1], [0, 1, 2], [0, 1, 2, 3], [0, 1, 2], [0, 1, 2, 5], [0, 1, 2, 3, 4, 5, 6], [0, 1, 2, 3, 4, 5, 6, 7], [0, 1, 2, 3, 4, 5, 6, 7, 8], [0, 1, 2], [0, 1, 2, 10], [0, 1, 2, 3, 4, 5, 6, 7, 8, 9, 10, 11], [0, 1, 2, 3, 4, 5, 6, 7, 8, 9, 10, 11, 12]] tm rfl rfl rfl rfl ?_
    refine mvD ?_
    refine RD.op rfl rfl rfl (eff_iop (r := .bool false) rfl rfl rfl rfl (by show some (Tr.bool (decide _)) = _; rw [decide_eq_false (by omega)])) ?_
    refine mvD ?_
    refine gkD ?_
    refine gkD ?_
    refine gkD ?_
    refine gkD ?_
    refine gkD ?_
    refine gkD ?_
    refine gkD ?_
    refine gkD ?_
    refine gkD ?_
    refine gkD ?_
    refine RD.op rfl rfl rfl (eff_pick (v := .t _) rfl rfl rfl rfl) ?_
    refine RD.nil ?_
    refine awp_cond rfl (fun h => nomatch h) (fun _ => ?_)
    refine awp_skip ?_
    refine awp_seq ?_
    refine awp_rw rfl ?_
    refine faT tf64_1 ?_
    refine l1T ti33 rfl rfl rfl rfl rfl (.one rfl rfl rfl rfl) ?_
    refine asT ?_
    refine RW.nil ?_
    refine awp_seq ?_
    refine awp_seq ?_
    refine awp_rw rfl ?_
    refine asT ?_
    refine RW.nil ?_
    refine awp_block ?_
    refine awp_loopW (fun m s => ∃ (j : Nat) (cur : List Rep), (j ≤ t.poss.length) ∧ (cur = stepI f t.poss (t.poss.take j)) ∧ m = t.poss.length - j ∧ s = ⟨60, [(2, .ptr 2 0 0 0), (3, .ptr 3 0 0 0), (4, .ptr 4 0 0 0), (7, .t (.sl (cur.map encR) false)), (8, .t (encI (j : Nat)))], [(2, some ⟨2, 64, 0, [.t (encT t)]⟩), (3, some ⟨5, 45, 0, [.t (encF f)]⟩), (4, some ⟨2, 64, 0, [.t z64]⟩)]⟩) (_) (⟨_, weak_keep (n := 60) (fr' := [(2, .ptr 2 0 0 0), (3, .ptr 3 0 0 0), (4, .ptr 4 0 0 0), (7, .t (.sl ((t.poss).map encR) false)), (8, .t (encI (0 : Nat)))]) (st' := [(2, some ⟨2, 64, 0, [.t (encT t)]⟩), (3, some ⟨5, 45, 0, [.t (encF f)]⟩), (4, some ⟨2, 64, 0, [.t z64]⟩)]) ⟨rfl, rfl, rfl, rfl, rfl, rfl, rfl, rfl, rfl, rfl, trivial⟩ ⟨rfl, okE_one rfl, rfl, okE_one rfl, rfl, okE_one rfl, trivial⟩, 0, t.poss, (by omega), (by simp [stepI]), rfl, rfl⟩) ?_
    rintro m s ⟨j, cur, hj, hc, rfl, rfl⟩
    have hcl := stepI_len f t.poss t.poss j hj
    rw [← hc] at hcl
    refine awp_seq ?_
    refine awp_seq ?_
    refine awp_rw rfl ?_
    refine mvT ?_
    refine faT tf64_1 ?_
    refine l1T ti33 rfl rfl rfl rfl rfl (.one rfl rfl rfl rfl) ?_
    refine RW.op rfl rfl (eff_lenM rfl rfl te33 rfl) ?_
    refine ioT ?_
    refine RW.nil ?_
    refine awp_cond rfl (fun h5 => ?_) (fun h5 => ?_)
    · try simp only [cl] at h5
      refine awp_skip ?_
      refine awp_seq ?_
      refine awp_block ?_
      refine awp_rd [(some 37, []), (some 38, []), (some 39, []), (some 40, []), (some 41, []), (some 42, []), (some 43, []), (some 44, []), (some 45, []), (some 7, [])] [[], [], [1], [], [1, 2, 3], [1, 2, 3, 4], [], [1, 2, 3, 4, 5, 6], [0, 1, 2, 3, 4, 5, 6, 7], [0, 1, 2, 3, 4, 5, 6, 7, 8]] tm rfl rfl rfl rfl ?_
      refine mvD ?_
      refine RD.op rfl rfl rfl (eff_fieldAddr rfl rfl tf64_1 (by decide) rfl rfl rfl (Nat.le_of_ble_eq_true rfl)) ?_
      refine RD.op rfl rfl rfl (eff_load (y := .t _) rfl rfl ti33 rfl (.one rfl rfl rfl rfl)) ?_
      refine mvD ?_
      refine RD.op rfl rfl rfl (eff_indexM rfl rfl te33 rfl rfl rfl (by first | assumption | exact List.getElem?_eq_getElem (by omega)) rfl (by decide)) ?_
      refine RD.op rfl rfl rfl (eff_loadW rfl rfl ti23 rfl rfl rfl) ?_
      refine RD.op rfl rfl rfl (eff_load rfl rfl ti45 rfl (.whole rfl rfl rfl rfl rfl rfl)) ?_
      refine RD.op rfl rfl rfl (eff_callT (rapply_ret _ _ (hp _ (List.getElem_mem _))) co37 rfl rfl rfl rfl) ?_
      refine RD.op rfl rfl rfl (eff_callT (put_ret cur _ (by omega)) co76 rfl rfl rfl rfl) ?_
      refine RD.op rfl rfl rfl (eff_assign (v := .t _) rfl rfl rfl) ?_
      refine RD.nil ?_
      refine awp_rw rfl ?_
      refine mvT ?_
      refine RW.op rfl rfl (eff_iop rfl rfl rfl rfl (iadd (by omega))) ?_
      refine asT ?_
      refine RW.nil ?_
      refine ⟨_, ?_, _, weak_keep (n := 60) (fr' := [(2, .ptr 2 0 0 0), (3, .ptr 3 0 0 0), (4, .ptr 4 0 0 0), (7, .t (.sl ((put cur (apply (t.poss[j]'(by omega)) f)).map encR) false)), (8, .t (encI ((j + 1) : Nat)))]) (st' := [(2, some ⟨2, 64, 0, [.t (encT t)]⟩), (3, some ⟨5, 45, 0, [.t (encF f)]⟩), (4, some ⟨2, 64, 0, [.t z64]⟩)]) ⟨rfl, rfl, rfl, rfl, rfl, rfl, rfl, rfl, rfl, rfl, trivial⟩ ⟨rfl, okE_one rfl, rfl, okE_one rfl, rfl, okE_one rfl, trivial⟩, j + 1, put cur (apply (t.poss[j]'(by omega)) f), (by omega), (by rw [stepI_take (by omega), hc]), rfl, rfl⟩
      omega
    · try simp only [cl] at h5
      refine awp_exit ?_
      refine awp_seq ?_
      refine awp_seq ?_
      refine awp_rw rfl ?_
      refine mvT ?_
      refine RW.op rfl rfl (eff_lenM rfl rfl te33 rfl) ?_
      refine ioT ?_
      refine RW.nil ?_
      refine awp_cond rfl (fun h6 => ?_) (fun h6 => ?_)
      · try simp only [cl] at h6
        refine awp_seq ?_
        refine awp_rw rfl ?_
        refine RW.op rfl rfl (eff_buildT (ys := [_, _]) rfl rfl tz64 tg64 rfl) ?_
        refine RW.store rfl rfl (eff_storeW (v := .t _) (els := [_]) (els' := [_]) rfl rfl ti64 rfl rfl rfl rfl rfl rfl rfl rfl rfl) ?_
        refine asT ?_
        refine RW.nil ?_
        refine awp_ret ?_
        first
          | (rw [send_late (by first | (rw [late_at (by omega)]; exact decide_eq_true (by first | assumption | omega)) | (exfalso; omega))]
             exact ⟨Or.inr rfl, [_, _], ⟨.cell rfl ti64 (.whole rfl rfl rfl rfl rfl rfl) (.t _), .tmp (.t _), trivial⟩, (by repeat' first | exact trivial | exact Wk.refl _ | exact Wk.sl _ | refine And.intro ?_ ?_ | refine Wk.tupP ?_ | refine Wk.aggP ?_)⟩)
          | (have hj2 : j = t.poss.length := by omega
             subst hj2
             rw [List.take_length] at hc
             have hst : stepF t.poss f = cur := hc.symm
             first
               | (rw [send_many (by first | exact late_nil (by omega) | (rw [late_at (by omega)]; exact decide_eq_false (by first | assumption | omega))) (by rw [hst]; omega)]
                  exact ⟨Or.inr rfl, [_, _], ⟨.cell rfl ti64 (.whole rfl rfl rfl rfl rfl rfl) (.t _), .tmp (.t _), trivial⟩, (by repeat' first | exact trivial | exact Wk.refl _ | exact Wk.sl _ | refine And.intro ?_ ?_ | refine Wk.tupP ?_ | refine Wk.aggP ?_)⟩)
               | (rw [send_ok (by first | exact late_nil (by omega) | (rw [late_at (by omega)]; exact decide_eq_false (by first | assumption | omega))) (by rw [hst]; omega), hst]
                  exact ⟨Or.inr rfl, [_, _], ⟨.cell rfl ti64 (.whole rfl rfl rfl rfl rfl rfl) (Res.aggP (xs := [_, _]) ⟨Res.ownT (xs := (t.sent ++ [f]).map encF) rfl rfl (by simp; rfl) (by simp), .t _, trivial⟩), .tmp (.t _), trivial⟩, .refl _⟩))
      · try simp only [cl] at h6
        refine awp_skip ?_
        refine awp_seq ?_
        refine awp_rw rfl ?_
        refine asT ?_
        refine RW.nil ?_
        show AWP _ _ _ _
        refine awp_weak (weak_adopt (d := 9) (id := 9) (k := 5) (ty := 45) rfl rfl) ?_
        refine awp_seq ?_
        refine awp_rw rfl ?_
        refine mvO ?_
        refine faT tf64_0 ?_
        refine l1T ti62 rfl rfl rfl rfl rfl (.one rfl rfl rfl rfl) ?_
        refine RW.new rfl rfl (eff_appendAny (id := 9) rfl rfl ta62 rfl rfl rfl rfl rfl rfl (srcM rfl (fun _ => rfl)) (by simp; omega) (by simp; omega)) ?_
        refine asO ?_
        refine RW.nil ?_
        refine awp_seq ?_
        refine awp_rw rfl ?_
        refine mvO ?_
        refine RW.op rfl rfl (eff_load rfl rfl ti45 rfl (.whole rfl rfl rfl rfl rfl rfl)) ?_
        refine RW.new rfl rfl (eff_buildSliceL (id := 56) (els := [.t (.agg [_, _, _, _, _])]) rfl rfl te62 tz45 rfl (by decide) (by decide) rfl rfl rfl rfl) ?_
        refine RW.new rfl rfl (eff_append (id := 9) (ys := [_]) rfl rfl ta62 rfl rfl rfl (by simp) rfl rfl (srcOwn rfl rfl rfl rfl rfl rfl) (by simp) (by simp; omega) (by simp; omega)) ?_
        refine mvT ?_
        refine RW.op rfl rfl (eff_buildA (ys := [_, _]) rfl rfl tz64 tg64 rfl rfl) ?_
        refine RW.store rfl rfl (eff_storeW (v := .agg _) (els := [_]) (els' := [_]) rfl rfl ti64 rfl rfl rfl rfl rfl rfl rfl rfl rfl) ?_
        refine asT ?_
        refine RW.nil ?_
        refine awp_ret ?_
        first
          | (rw [send_late (by first | (rw [late_at (by omega)]; exact decide_eq_true (by first | assumption | omega)) | (exfalso; omega))]
             exact ⟨Or.inr rfl, [_, _], ⟨.cell rfl ti64 (.whole rfl rfl rfl rfl rfl rfl) (.t _), .tmp (.t _), trivial⟩, (by repeat' first | exact trivial | exact Wk.refl _ | exact Wk.sl _ | refine And.intro ?_ ?_ | refine Wk.tupP ?_ | refine Wk.aggP ?_)⟩)
          | (have hj2 : j = t.poss.length := by omega
             subst hj2
             rw [List.take_length] at hc
             have hst : stepF t.poss f = cur := hc.symm
             first
               | (rw [send_many (by first | exact late_nil (by omega) | (rw [late_at (by omega)]; exact decide_eq_false (by first | assumption | omega))) (by rw [hst]; omega)]
                  exact ⟨Or.inr rfl, [_, _], ⟨.cell rfl ti64 (.whole rfl rfl rfl rfl rfl rfl) (.t _), .tmp (.t _), trivial⟩, (by repeat' first | exact trivial | exact Wk.refl _ | exact Wk.sl _ | refine And.intro ?_ ?_ | refine Wk.tupP ?_ | refine Wk.aggP ?_)⟩)
               | (rw [send_ok (by first | exact late_nil (by omega) | (rw [late_at (by omega)]; exact decide_eq_false (by first | assumption | omega))) (by rw [hst]; omega), hst]
                  exact ⟨Or.inr rfl, [_, _], ⟨.cell rfl ti64 (.whole rfl rfl rfl rfl rfl rfl) (Res.aggP (xs := [_, _]) ⟨Res.ownT (xs := (t.sent ++ [f]).map encF) rfl rfl (by simp; rfl) (by simp), .t _, trivial⟩), .tmp (.t _), trivial⟩, .refl _⟩))

end Go.Tv.C36

end
section
open Go Go.Tv Go.Proofs
namespace Go.Tv.C36
set_option maxRecDepth 20000
set_option maxHeartbeats 2000000
set_option linter.unusedSimpArgs false
set_option linter.unusedVariables false
theorem rhear_ret (t : Twn) (r : Rep) (hr : HP r) (hl : t.poss.length ≤ 1000) (hs : t.sent.length ≤ 12) : Ret Tryd.prog 67 [encT t, encR r] (.tup [encT (hear t r).1, encI (hear t r).2]) := by
  refine ret_of_awp Tryd.func67 rfl (Nat.le_of_ble_eq_true rfl) ?_
  refine awp_seq ?_
  refine awp_rw rfl ?_
  refine RW.new rfl rfl (eff_boxK (v := .t _) (k := 2) (id := 2) rfl rfl rfl rfl rfl rfl) ?_
  refine RW.new rfl rfl (eff_boxK (v := .t _) (k := 4) (id := 3) rfl rfl rfl rfl rfl rfl) ?_
  refine RW.new rfl rfl (eff_allocK (k := 2) (id := 4) rfl rfl tz64 rfl rfl) ?_
  refine asT ?_
  refine RW.nil ?_
  refine awp_seq ?_
  refine awp_rw rfl ?_
  refine RW.op rfl rfl (eff_load rfl rfl ti23 rfl (.whole rfl rfl rfl rfl rfl rfl)) ?_
  refine RW.new rfl rfl (eff_buildSliceL (id := 14) (els := [.t (.agg [_, _, _, _])]) rfl rfl te33 tz23 rfl (by decide) (by decide) rfl rfl rfl rfl) ?_
  refine asO ?_
  refine RW.nil ?_
  refine awp_seq ?_
  refine awp_seq ?_
  refine awp_rw rfl ?_
  refine asT ?_
  refine RW.nil ?_
  refine awp_block ?_
  refine awp_loopW (fun m s => ∃ (i : Nat), (i ≤ t.sent.length) ∧ m = t.sent.length - i ∧ s = ⟨82, [(2, .ptr 2 0 0 0), (3, .ptr 3 0 0 0), (4, .ptr 4 0 0 0), (6, .t (.sl ((reachF r (open_ (t.sent.take i) r)).map encR) false)), (7, .t (encI (i : Nat)))], [(2, some ⟨2, 64, 0, [.t (encT t)]⟩), (3, some ⟨4, 23, 0, [.t (encR r)]⟩), (4, some ⟨2, 64, 0, [.t z64]⟩)]⟩) (_) (⟨_, weak_frz (n := 82) (fr' := [(2, .ptr 2 0 0 0), (3, .ptr 3 0 0 0), (4, .ptr 4 0 0 0), (6, .t (.sl ((reachF r (open_ (t.sent.take 0) r)).map encR) false)), (7, .t (encI (0 : Nat)))]) (st' := [(2, some ⟨2, 64, 0, [.t (encT t)]⟩), (3, some ⟨4, 23, 0, [.t (encR r)]⟩), (4, some ⟨2, 64, 0, [.t z64]⟩)]) [(14, some ⟨4, 23, 0, [.t (encR r)]⟩)] ⟨rfl, trivial⟩ ⟨rfl, rfl, rfl, trivial⟩ ⟨wa_eq rfl rfl, wa_eq rfl rfl, wa_eq rfl rfl, .res (Res.ownT (xs := [r].map encR) rfl rfl rfl rfl) (.refl _), wa_eq rfl rfl, trivial⟩ ⟨rfl, okE_one rfl, rfl, okE_one rfl, rfl, okE_one rfl, trivial⟩, 0, (by omega), rfl, rfl⟩) ?_
  rintro m s ⟨i, hi, rfl, rfl⟩
  have hpw := pow_le_12 hs
  have hnl : (reachF r (open_ (t.sent.take i) r)).length ≤ 2 ^ t.sent.length := reach_len _ _ _ (open_len _ _ _)
  have hnp : ∀ y, y ∈ (reachF r (open_ (t.sent.take i) r)) → HP y := reach_hp hr _
  refine awp_seq ?_
  refine awp_seq ?_
  refine awp_rw rfl ?_
  refine mvT ?_
  refine faT tf64_0 ?_
  refine l1T ti62 rfl rfl rfl rfl rfl (.one rfl rfl rfl rfl) ?_
  refine RW.op rfl rfl (eff_lenM rfl rfl te62 rfl) ?_
  refine ioT ?_
  refine RW.nil ?_
  refine awp_cond rfl (fun h1 => ?_) (fun h1 => ?_)
  · try simp only [cl] at h1
    refine awp_skip ?_
    refine awp_seq ?_
    refine awp_block ?_
    refine awp_seq ?_
    refine awp_seq ?_
    refine awp_rd [(some 22, []), (some 23, []), (some 24, []), (some 25, []), (some 26, []), (some 27, []), (some 28, []), (some 29, []), (some 30, [])] [[], [0], [], [0, 1, 2], [0, 1, 2, 3], [0, 1, 2, 3, 4], [], [6], [0, 1, 2, 3, 4, 5, 6, 7]] tm rfl rfl rfl rfl ?_
    have hil : i < t.sent.length := by omega
    refine RD.op rfl rfl rfl (eff_fieldAddr rfl rfl tf64_0 (by decide) rfl rfl rfl (Nat.le_of_ble_eq_true rfl)) ?_
    refine RD.op rfl rfl rfl (eff_load (y := .t _) rfl rfl ti62 rfl (.one rfl rfl rfl rfl)) ?_
    refine mvD ?_
    refine RD.op rfl rfl rfl (eff_indexM rfl rfl te62 rfl rfl rfl (by first | assumption | exact List.getElem?_eq_getElem (by omega)) rfl (by decide)) ?_
    refine RD.op rfl rfl rfl (eff_fieldAddrT rfl rfl tf45_1 (by decide) rfl) ?_
    refine RD.op rfl rfl rfl (eff_loadT1 rfl rfl ti3 rfl rfl) ?_
    refine RD.op rfl rfl rfl (eff_fieldAddr rfl rfl tf23_2 (by decide) rfl rfl rfl (Nat.le_of_ble_eq_true rfl)) ?_
    refine RD.op rfl rfl rfl (eff_load (y := .t _) rfl rfl ti3 rfl (.one rfl rfl rfl rfl)) ?_
    refine RD.op rfl rfl rfl (eff_iop rfl rfl rfl rfl rfl) ?_
    refine RD.nil ?_
    refine awp_cond rfl (fun h2 => ?_) (fun h2 => ?_)
    · try simp only [cl] at h2
      refine awp_exit ?_
      refine awp_rw rfl ?_
      refine mvT ?_
      refine RW.op rfl rfl (eff_iop rfl rfl rfl rfl (iadd (by omega))) ?_
      refine asT ?_
      refine RW.nil ?_
      first
        | have hnx : reachF r (open_ (t.sent.take (i + 1)) r) = (reachF r (open_ (t.sent.take i) r)) := reach_skip hil (by assumption)
        | (have hj2 : j = (reachF r (open_ (t.sent.take i) r)).length := by omega
           subst hj2
           rw [List.take_length] at hc
           have hnx : reachF r (open_ (t.sent.take (i + 1)) r) = cur := (reach_more hil (by assumption)).trans hc.symm)
      refine ⟨_, ?_, _, weak_frz (n := 82) (fr' := [(2, .ptr 2 0 0 0), (3, .ptr 3 0 0 0), (4, .ptr 4 0 0 0), (6, .t (.sl ((reachF r (open_ (t.sent.take (i + 1)) r)).map encR) false)), (7, .t (encI ((i + 1) : Nat)))]) (st' := [(2, some ⟨2, 64, 0, [.t (encT t)]⟩), (3, some ⟨4, 23, 0, [.t (encR r)]⟩), (4, some ⟨2, 64, 0, [.t z64]⟩)]) [] trivial ⟨rfl, rfl, rfl, trivial⟩ ⟨wa_eq rfl rfl, wa_eq rfl rfl, wa_eq rfl rfl, wa_eq (by rw [hnx]; rfl) rfl, wa_eq rfl rfl, trivial⟩ ⟨rfl, okE_one rfl, rfl, okE_one rfl, rfl, okE_one rfl, trivial⟩, i + 1, (by omega), rfl, rfl⟩
      omega
    · try simp only [cl] at h2
      refine awp_skip ?_
      refine awp_seq ?_
      refine awp_rw rfl ?_
      refine mvT ?_
      refine asT ?_
      refine RW.nil ?_
      refine awp_seq ?_
      refine awp_seq ?_
      refine awp_rw rfl ?_
      refine asT ?_
      refine RW.nil ?_
      refine awp_block ?_
      refine awp_loopW (fun m s => ∃ (j : Nat) (cur : List Rep), (j ≤ (reachF r (open_ (t.sent.take i) r)).length) ∧ (cur = stepI (t.sent[i]'hil) (reachF r (open_ (t.sent.take i) r)) ((reachF r (open_ (t.sent.take i) r)).take j)) ∧ m = (reachF r (open_ (t.sent.take i) r)).length - j ∧ s = ⟨82, [(2, .ptr 2 0 0 0), (3, .ptr 3 0 0 0), (4, .ptr 4 0 0 0), (6, .t (.sl ((reachF r (open_ (t.sent.take i) r)).map encR) false)), (7, .t (encI (i : Nat))), (8, .t (.sl (cur.map encR) false)), (9, .t (encI (j : Nat)))], [(2, some ⟨2, 64, 0, [.t (encT t)]⟩), (3, some ⟨4, 23, 0, [.t (encR r)]⟩), (4, some ⟨2, 64, 0, [.t z64]⟩)]⟩) (_) (⟨_, weak_keep (n := 82) (fr' := [(2, .ptr 2 0 0 0), (3, .ptr 3 0 0 0), (4, .ptr 4 0 0 0), (6, .t (.sl ((reachF r (open_ (t.sent.take i) r)).map encR) false)), (7, .t (encI (i : Nat))), (8, .t (.sl (((reachF r (open_ (t.sent.take i) r))).map encR) false)), (9, .t (encI (0 : Nat)))]) (st' := [(2, some ⟨2, 64, 0, [.t (encT t)]⟩), (3, some ⟨4, 23, 0, [.t (encR r)]⟩), (4, some ⟨2, 64, 0, [.t z64]⟩)]) ⟨rfl, rfl, rfl, rfl, rfl, rfl, rfl, rfl, rfl, rfl, rfl, rfl, rfl, rfl, trivial⟩ ⟨rfl, okE_one rfl, rfl, okE_one rfl, rfl, okE_one rfl, trivial⟩, 0, (reachF r (open_ (t.sent.take i) r)), (by omega), (by simp [stepI]), rfl, rfl⟩) ?_
      rintro m s ⟨j, cur, hj, hc, rfl, rfl⟩
      have hcl := stepI_len (t.sent[i]'hil) (reachF r (open_ (t.sent.take i) r)) (reachF r (open_ (t.sent.take i) r)) j hj
      rw [← hc] at hcl
      refine awp_seq ?_
      refine awp_seq ?_
      refine awp_rw rfl ?_
      refine mvT ?_
      refine mvT ?_
      refine RW.op rfl rfl (eff_lenM rfl rfl te33 rfl) ?_
      refine ioT ?_
      refine RW.nil ?_
      refine awp_cond rfl (fun h3 => ?_) (fun h3 => ?_)
      · try simp only [cl] at h3
        refine awp_skip ?_
        refine awp_seq ?_
        refine awp_block ?_
        refine awp_seq ?_
        refine awp_rd [(some 38, []), (some 39, []), (some 40, []), (some 41, []), (some 42, []), (some 43, []), (some 44, []), (some 45, []), (some 46, []), (some 47, []), (some 10, [10]), (none, [10])] [[], [], [0, 1], [0, 1, 2], [], [4], [], [4, 5, 6], [4, 5, 6, 7], [0, 1, 2, 3, 4, 5, 6, 7, 8], [], [0, 1, 2, 3, 4, 5, 6, 7, 8, 9, 10]] tm rfl rfl rfl rfl ?_
        refine mvD ?_
        refine mvD ?_
        refine RD.op rfl rfl rfl (eff_indexM rfl rfl te33 rfl rfl rfl (by first | assumption | exact List.getElem?_eq_getElem (by omega)) rfl (by decide)) ?_
        refine RD.op rfl rfl rfl (eff_loadW rfl rfl ti23 rfl rfl rfl) ?_
        refine RD.op rfl rfl rfl (eff_fieldAddr rfl rfl tf64_0 (by decide) rfl rfl rfl (Nat.le_of_ble_eq_true rfl)) ?_
        refine RD.op rfl rfl rfl (eff_load (y := .t _) rfl rfl ti62 rfl (.one rfl rfl rfl rfl)) ?_
        refine mvD ?_
        refine RD.op rfl rfl rfl (eff_indexM rfl rfl te62 rfl rfl rfl (by first | assumption | exact List.getElem?_eq_getElem (by omega)) rfl (by decide)) ?_
        refine RD.op rfl rfl rfl (eff_loadW rfl rfl ti45 rfl rfl rfl) ?_
        refine RD.op rfl rfl rfl (eff_callT (rapply_ret _ _ (hnp _ (List.getElem_mem _))) co37 rfl rfl rfl rfl) ?_
        refine RD.new rfl rfl rfl (eff_allocK (k := 4) (id := 10) rfl rfl tz23 rfl rfl) ?_
        refine RD.store rfl rfl rfl (eff_storeW (v := .t _) (els := [_]) (els' := [_]) rfl rfl ti23 rfl rfl rfl rfl rfl rfl rfl rfl rfl) ?_
        refine RD.nil ?_
        refine awp_rw rfl ?_
        refine mvT ?_
        refine RW.op rfl rfl (eff_load rfl rfl ti23 rfl (.whole rfl rfl rfl rfl rfl rfl)) ?_
        refine RW.op rfl rfl (eff_callT (put_ret cur _ (by omega)) co76 rfl rfl rfl rfl) ?_
        refine asT ?_
        refine RW.nil ?_
        refine awp_rw rfl ?_
        refine mvT ?_
        refine RW.op rfl rfl (eff_iop rfl rfl rfl rfl (iadd (by omega))) ?_
        refine asT ?_
        refine RW.nil ?_
        refine ⟨_, ?_, _, weak_keep (n := 82) (fr' := [(2, .ptr 2 0 0 0), (3, .ptr 3 0 0 0), (4, .ptr 4 0 0 0), (6, .t (.sl ((reachF r (open_ (t.sent.take i) r)).map encR) false)), (7, .t (encI (i : Nat))), (8, .t (.sl ((put cur (apply ((reachF r (open_ (t.sent.take i) r))[j]'(by omega)) (t.sent[i]'hil))).map encR) false)), (9, .t (encI ((j + 1) : Nat)))]) (st' := [(2, some ⟨2, 64, 0, [.t (encT t)]⟩), (3, some ⟨4, 23, 0, [.t (encR r)]⟩), (4, some ⟨2, 64, 0, [.t z64]⟩)]) ⟨rfl, rfl, rfl, rfl, rfl, rfl, rfl, rfl, rfl, rfl, rfl, rfl, rfl, rfl, trivial⟩ ⟨rfl, okE_one rfl, rfl, okE_one rfl, rfl, okE_one rfl, trivial⟩, j + 1, put cur (apply ((reachF r (open_ (t.sent.take i) r))[j]'(by omega)) (t.sent[i]'hil)), (by omega), (by rw [stepI_take (by omega), hc]), rfl, rfl⟩
        omega
      · try simp only [cl] at h3
        refine awp_exit ?_
        refine awp_rw rfl ?_
        refine mvT ?_
        refine asT ?_
        refine RW.nil ?_
        refine awp_rw rfl ?_
        refine mvT ?_
        refine RW.op rfl rfl (eff_iop rfl rfl rfl rfl (iadd (by omega))) ?_
        refine asT ?_
        refine RW.nil ?_
        first
          | have hnx : reachF r (open_ (t.sent.take (i + 1)) r) = (reachF r (open_ (t.sent.take i) r)) := reach_skip hil (by assumption)
          | (have hj2 : j = (reachF r (open_ (t.sent.take i) r)).length := by omega
             subst hj2
             rw [List.take_length] at hc
             have hnx : reachF r (open_ (t.sent.take (i + 1)) r) = cur := (reach_more hil (by assumption)).trans hc.symm)
        refine ⟨_, ?_, _, weak_frz (n := 82) (fr' := [(2, .ptr 2 0 0 0), (3, .ptr 3 0 0 0), (4, .ptr 4 0 0 0), (6, .t (.sl ((reachF r (open_ (t.sent.take (i + 1)) r)).map encR) false)), (7, .t (encI ((i + 1) : Nat)))]) (st' := [(2, some ⟨2, 64, 0, [.t (encT t)]⟩), (3, some ⟨4, 23, 0, [.t (encR r)]⟩), (4, some ⟨2, 64, 0, [.t z64]⟩)]) [] trivial ⟨rfl, rfl, rfl, trivial⟩ ⟨wa_eq rfl rfl, wa_eq rfl rfl, wa_eq rfl rfl, wa_eq (by rw [hnx]; rfl) rfl, wa_eq rfl rfl, trivial⟩ ⟨rfl, okE_one rfl, rfl, okE_one rfl, rfl, okE_one rfl, trivial⟩, i + 1, (by omega), rfl, rfl⟩
        omega
  · try simp only [cl] at h1
    refine awp_exit ?_
    refine awp_seq ?_
    refine awp_rw rfl ?_
    refine asT ?_
    refine RW.nil ?_
    show AWP _ _ _ _
    have hi2 : i = t.sent.length := by omega
    subst hi2
    rw [List.take_length]
    have hnl3 : (reachF r (open_ t.sent r)).length ≤ 4096 := by have := reach_len r (open_ t.sent r) t.sent.length (List.length_filter_le _ _); omega
    refine awp_weak (weak_adopt (d := 11) (id := 11) (k := 4) (ty := 23) rfl rfl) ?_
    refine awp_seq ?_
    refine awp_seq ?_
    refine awp_rw rfl ?_
    refine asT ?_
    refine RW.nil ?_
    refine awp_block ?_
    refine awp_loopW (fun m s => ∃ (k : Nat) (g : Nat) (n : Nat) (els : List AV), (k ≤ t.poss.length) ∧ (g ≤ k) ∧ (n = ((t.poss.take k).filter (fun x => decide (x ∈ reachF r (open_ t.sent r)))).length) ∧ (els = (((t.poss.take k).filter (fun x => decide (x ∈ reachF r (open_ t.sent r)))).map encR).map .t) ∧ m = t.poss.length - k ∧ s = ⟨82, [(2, .ptr 2 0 0 0), (4, .ptr 4 0 0 0), (6, .t (.sl ((reachF r (open_ t.sent r)).map encR) false)), (11, .own 11 g 0 n), (12, .t (encI (k : Nat)))], [(2, some ⟨2, 64, 0, [.t (encT t)]⟩), (4, some ⟨2, 64, 0, [.t z64]⟩), (11, some ⟨4, 23, g, els⟩)]⟩) (_) (⟨_, weak_keep (n := 82) (fr' := [(2, .ptr 2 0 0 0), (4, .ptr 4 0 0 0), (6, .t (.sl ((reachF r (open_ t.sent r)).map encR) false)), (11, .own 11 0 0 0), (12, .t (encI (0 : Nat)))]) (st' := [(2, some ⟨2, 64, 0, [.t (encT t)]⟩), (4, some ⟨2, 64, 0, [.t z64]⟩), (11, some ⟨4, 23, 0, ([])⟩)]) ⟨rfl, rfl, rfl, rfl, rfl, rfl, rfl, rfl, rfl, rfl, trivial⟩ ⟨rfl, okE_one rfl, rfl, okE_one rfl, rfl, (by first | exact okE_nil | (rw [he]; exact okE_t) | (rw [he]; intro x hx; simp only [List.mem_append, List.mem_map, List.mem_singleton] at hx; rcases hx with ⟨y, _, rfl⟩ | rfl <;> rfl)), trivial⟩, 0, 0, 0, [], (by omega), (by omega), (by simp), (by simp), rfl, rfl⟩) ?_
    rintro m s ⟨k, g, n, els, hk, hg, hnn, he, rfl, rfl⟩
    have hfl0 : n ≤ k := by rw [hnn]; exact Nat.le_trans (List.length_filter_le _ _) (by simp; omega)
    have hfl : ((t.poss.take k).filter (fun x => decide (x ∈ reachF r (open_ t.sent r)))).length ≤ k := Nat.le_trans (List.length_filter_le _ _) (by simp; omega)
    refine awp_seq ?_
    refine awp_seq ?_
    refine awp_rw rfl ?_
    refine mvT ?_
    refine faT tf64_1 ?_
    refine l1T ti33 rfl rfl rfl rfl rfl (.one rfl rfl rfl rfl) ?_
    refine RW.op rfl rfl (eff_lenM rfl rfl te33 rfl) ?_
    refine ioT ?_
    refine RW.nil ?_
    refine awp_cond rfl (fun h4 => ?_) (fun h4 => ?_)
    · try simp only [cl] at h4
      refine awp_skip ?_
      refine awp_seq ?_
      refine awp_block ?_
      refine awp_seq ?_
      refine awp_rw rfl ?_
      refine mvT ?_
      refine faT tf64_1 ?_
      refine l1T ti33 rfl rfl rfl rfl rfl (.one rfl rfl rfl rfl) ?_
      refine mvT ?_
      refine RW.op rfl rfl (eff_indexM rfl rfl te33 rfl rfl rfl (by first | assumption | exact List.getElem?_eq_getElem (by omega)) rfl (by decide)) ?_
      refine RW.op rfl rfl (eff_loadW rfl rfl ti23 rfl rfl rfl) ?_
      refine RW.op rfl rfl (eff_callT (has_ret (reachF r (open_ t.sent r)) _ (by omega)) co52 rfl rfl rfl rfl) ?_
      refine RW.nil ?_
      refine awp_cond rfl (fun h5 => ?_) (fun h5 => ?_)
      · try simp only [cl] at h5
        refine awp_rw rfl ?_
        refine mvO ?_
        refine faT tf64_1 ?_
        refine l1T ti33 rfl rfl rfl rfl rfl (.one rfl rfl rfl rfl) ?_
        refine mvT ?_
        refine RW.op rfl rfl (eff_indexM rfl rfl te33 rfl rfl rfl (by first | assumption | exact List.getElem?_eq_getElem (by omega)) rfl (by decide)) ?_
        refine RW.op rfl rfl (eff_loadW rfl rfl ti23 rfl rfl rfl) ?_
        refine RW.new rfl rfl (eff_buildSliceL (id := 72) (els := [.t (.agg [_, _, _, _])]) rfl rfl te33 tz23 rfl (by decide) (by decide) rfl rfl rfl rfl) ?_
        refine RW.new rfl rfl (eff_append (id := 11) (ys := [_]) rfl rfl ta33 rfl rfl rfl (by rw [he, hnn]; simp) rfl rfl (srcOwn rfl rfl rfl rfl rfl rfl) (by simp) (by simp; omega) (by simp; omega)) ?_
        refine asO ?_
        refine RW.nil ?_
        refine awp_rw rfl ?_
        refine mvT ?_
        refine RW.op rfl rfl (eff_iop rfl rfl rfl rfl (iadd (by omega))) ?_
        refine asT ?_
        refine RW.nil ?_
        have hft : (t.poss.take (k + 1)).filter (fun x => decide (x ∈ reachF r (open_ t.sent r))) = _ := (left_take (by omega)).trans (congrArg _ (by first | exact if_pos (by assumption) | exact if_neg (by assumption)))
        refine ⟨_, ?_, _, weak_keep (n := 82) (fr' := [(2, .ptr 2 0 0 0), (4, .ptr 4 0 0 0), (6, .t (.sl ((reachF r (open_ t.sent r)).map encR) false)), (11, .own 11 _ 0 _), (12, .t (encI ((k + 1) : Nat)))]) (st' := [(2, some ⟨2, 64, 0, [.t (encT t)]⟩), (4, some ⟨2, 64, 0, [.t z64]⟩), (11, some ⟨4, 23, _, _⟩)]) ⟨rfl, rfl, rfl, rfl, rfl, rfl, rfl, rfl, rfl, rfl, trivial⟩ ⟨rfl, okE_one rfl, rfl, okE_one rfl, rfl, (by first | exact okE_nil | (rw [he]; exact okE_t) | (rw [he]; intro x hx; simp only [List.mem_append, List.mem_map, List.mem_singleton] at hx; rcases hx with ⟨y, _, rfl⟩ | rfl <;> rfl)), trivial⟩, k + 1, _, _, _, (by omega), (by omega), (by rw [hft, hnn]; simp), (by rw [hft, he]; simp <;> rfl), rfl, rfl⟩
        omega
      · try simp only [cl] at h5
        refine awp_skip ?_
        refine awp_rw rfl ?_
        refine mvT ?_
        refine RW.op rfl rfl (eff_iop rfl rfl rfl rfl (iadd (by omega))) ?_
        refine asT ?_
        refine RW.nil ?_
        have hft : (t.poss.take (k + 1)).filter (fun x => decide (x ∈ reachF r (open_ t.sent r))) = _ := (left_take (by omega)).trans (congrArg _ (by first | exact if_pos (by assumption) | exact if_neg (by assumption)))
        refine ⟨_, ?_, _, weak_keep (n := 82) (fr' := [(2, .ptr 2 0 0 0), (4, .ptr 4 0 0 0), (6, .t (.sl ((reachF r (open_ t.sent r)).map encR) false)), (11, .own 11 _ 0 _), (12, .t (encI ((k + 1) : Nat)))]) (st' := [(2, some ⟨2, 64, 0, [.t (encT t)]⟩), (4, some ⟨2, 64, 0, [.t z64]⟩), (11, some ⟨4, 23, _, _⟩)]) ⟨rfl, rfl, rfl, rfl, rfl, rfl, rfl, rfl, rfl, rfl, trivial⟩ ⟨rfl, okE_one rfl, rfl, okE_one rfl, rfl, (by first | exact okE_nil | (rw [he]; exact okE_t) | (rw [he]; intro x hx; simp only [List.mem_append, List.mem_map, List.mem_singleton] at hx; rcases hx with ⟨y, _, rfl⟩ | rfl <;> rfl)), trivial⟩, k + 1, _, _, _, (by omega), (by omega), (by rw [hft, hnn]; simp), (by rw [hft, he]; simp <;> rfl), rfl, rfl⟩
        omega
    · try simp only [cl] at h4
      refine awp_exit ?_
      refine awp_seq ?_
      refine awp_seq ?_
      refine awp_rw rfl ?_
      refine mvO ?_
      refine RW.op rfl rfl (eff_len rfl rfl te33 rfl rfl rfl) ?_
      refine ioT ?_
      refine RW.nil ?_
      refine awp_cond rfl (fun h6 => ?_) (fun h6 => ?_)
      · try simp only [cl] at h6
        refine awp_seq ?_
        refine awp_rw rfl ?_
        refine RW.op rfl rfl (eff_buildT (ys := [_, _]) rfl rfl tz64 tg64 rfl) ?_
        refine RW.store rfl rfl (eff_storeW (v := .t _) (els := [_]) (els' := [_]) rfl rfl ti64 rfl rfl rfl rfl rfl rfl rfl rfl rfl) ?_
        refine asT ?_
        refine RW.nil ?_
        refine awp_ret ?_
        have hk2 : k = t.poss.length := by omega
        subst hk2
        have htl : t.poss.take t.poss.length = t.poss := List.take_length
        have hlf : left_ t r = (t.poss.take t.poss.length).filter (fun x => decide (x ∈ reachF r (open_ t.sent r))) := by rw [htl]; rfl
        first
          | (rw [hear_no (by rw [hlf]; omega)]
             exact ⟨Or.inr rfl, [_, _], ⟨.cell rfl ti64 (.whole rfl rfl rfl rfl rfl rfl) (.t _), .tmp (.t _), trivial⟩, (by repeat' first | exact trivial | exact Wk.refl _ | exact Wk.sl _ | refine And.intro ?_ ?_ | refine Wk.tupP ?_ | refine Wk.aggP ?_)⟩)
          | (rw [hear_ok (by rw [hlf]; omega), hlf]
             exact ⟨Or.inr rfl, [_, _], ⟨.cell rfl ti64 (.whole rfl rfl rfl rfl rfl rfl) (Res.aggP (xs := [_, _]) ⟨.t _, Res.ownT (xs := ((t.poss.take t.poss.length).filter (fun x => decide (x ∈ reachF r (open_ t.sent r)))).map encR) rfl rfl he (by rw [hnn]; simp), trivial⟩), .tmp (.t _), trivial⟩, .refl _⟩)
      · try simp only [cl] at h6
        refine awp_skip ?_
        refine awp_seq ?_
        refine awp_rw rfl ?_
        refine faT tf64_0 ?_
        refine l1T ti62 rfl rfl rfl rfl rfl (.one rfl rfl rfl rfl) ?_
        refine mvO ?_
        refine RW.op rfl rfl (eff_buildA (ys := [_, _]) rfl rfl tz64 tg64 rfl rfl) ?_
        refine RW.store rfl rfl (eff_storeW (v := .agg _) (els := [_]) (els' := [_]) rfl rfl ti64 rfl rfl rfl rfl rfl rfl rfl rfl rfl) ?_
        refine asT ?_
        refine RW.nil ?_
        refine awp_ret ?_
        have hk2 : k = t.poss.length := by omega
        subst hk2
        have htl : t.poss.take t.poss.length = t.poss := List.take_length
        have hlf : left_ t r = (t.poss.take t.poss.length).filter (fun x => decide (x ∈ reachF r (open_ t.sent r))) := by rw [htl]; rfl
        first
          | (rw [hear_no (by rw [hlf]; omega)]
             exact ⟨Or.inr rfl, [_, _], ⟨.cell rfl ti64 (.whole rfl rfl rfl rfl rfl rfl) (.t _), .tmp (.t _), trivial⟩, (by repeat' first | exact trivial | exact Wk.refl _ | exact Wk.sl _ | refine And.intro ?_ ?_ | refine Wk.tupP ?_ | refine Wk.aggP ?_)⟩)
          | (rw [hear_ok (by rw [hlf]; omega), hlf]
             exact ⟨Or.inr rfl, [_, _], ⟨.cell rfl ti64 (.whole rfl rfl rfl rfl rfl rfl) (Res.aggP (xs := [_, _]) ⟨.t _, Res.ownT (xs := ((t.poss.take t.poss.length).filter (fun x => decide (x ∈ reachF r (open_ t.sent r)))).map encR) rfl rfl he (by rw [hnn]; simp), trivial⟩), .tmp (.t _), trivial⟩, .refl _⟩)

end Go.Tv.C36

end
section
open Go Go.Tv Go.Proofs
namespace Go.Tv.C36
set_option maxRecDepth 20000
set_option maxHeartbeats 2000000
set_option linter.unusedSimpArgs false
set_option linter.unusedVariables false
theorem tzn_ret (h : Nat) (hh : h < 32768) : RetT Tryd.prog 83 [(1, deT)] [.int .u64 ((18446744073709551615 - h : Nat) : Int)] (encI (ones ((h : Nat) : Int) : Nat)) := by
  rw [← tz_ones hh]; exact tz_ret _ (by omega)

theorem apply_ret (S : Rep) (f : Frm) (hS : HP S) : RetT Tryd.prog 77 [(1, deT)] [encR S, encF f] (encR (apply S f)) := by
  obtain ⟨nx, hv0, ky, lk⟩ := S
  obtain ⟨h, rfl⟩ : ∃ h : Nat, hv0 = (h : Int) := ⟨hv0.toNat, by have := hS.1; simp only [] at this; omega⟩
  have hh : h < 32768 := by have := hS.2; simp only [] at this; omega
  have hdr := dist_range f ⟨nx, ((h : Nat) : Int), ky, lk⟩
  have hon := ones_le ((h : Nat) : Int)
  refine retT_of_awp Tryd.func77 rfl (Nat.le_of_ble_eq_true rfl) ?_
  refine awp_seq ?_
  refine awp_rw rfl ?_
  refine RW.new rfl rfl (eff_boxK (v := .t _) (k := 4) (id := 2) rfl rfl rfl rfl rfl rfl) ?_
  refine RW.new rfl rfl (eff_boxK (v := .t _) (k := 5) (id := 3) rfl rfl rfl rfl rfl rfl) ?_
  refine RW.new rfl rfl (eff_allocK (k := 4) (id := 4) rfl rfl tz23 rfl rfl) ?_
  refine RW.nil ?_
  refine awp_seq ?_
  refine awp_seq ?_
  refine awp_rw rfl ?_
  refine faT tf45_1 ?_
  refine l1T ti3 rfl rfl rfl rfl rfl (.one rfl rfl rfl rfl) ?_
  refine faT tf23_2 ?_
  refine l1T ti3 rfl rfl rfl rfl rfl (.one rfl rfl rfl rfl) ?_
  refine ioT ?_
  refine mvT ?_
  refine RW.split 12 rfl (fun h1 => ?_) (fun h1 => ?_)
  · try simp only [cl] at h1
    refine gkT ?_
    refine gkT ?_
    refine gkT ?_
    refine gkT ?_
    refine gkT ?_
    refine gkT ?_
    refine pkT ?_
    refine RW.nil ?_
    refine awp_cond rfl (fun _ => ?_) (fun h => nomatch h)
    refine awp_seq ?_
    refine awp_rw rfl ?_
    refine RW.op rfl rfl (eff_load rfl rfl ti23 rfl (.whole rfl rfl rfl rfl rfl rfl)) ?_
    refine RW.store rfl rfl (eff_storeW (v := .t _) (els := [_]) (els' := [_]) rfl rfl ti23 rfl rfl rfl rfl rfl rfl rfl rfl rfl) ?_
    refine RW.nil ?_
    refine awp_ret ?_
    (rw [apply_stay (Or.inl (by assumption))]; exact ⟨Or.inr rfl, [_], ⟨.cell rfl ti23 (.whole rfl rfl rfl rfl rfl rfl) (.t _), trivial⟩, .refl _⟩)
  · try simp only [cl] at h1
    refine RW.gop rfl rfl rfl rfl rfl rfl (eff_fieldAddr rfl rfl tf45_1 (by decide) rfl rfl rfl (Nat.le_of_ble_eq_true rfl)) ?_
    refine RW.gop rfl rfl rfl rfl rfl rfl (eff_load (y := .t _) rfl rfl ti3 rfl (.one rfl rfl rfl rfl)) ?_
    refine RW.gop rfl rfl rfl rfl rfl rfl (eff_fieldAddr rfl rfl tf23_2 (by decide) rfl rfl rfl (Nat.le_of_ble_eq_true rfl)) ?_
    refine RW.gop rfl rfl rfl rfl rfl rfl (eff_load (y := .t _) rfl rfl ti3 rfl (.one rfl rfl rfl rfl)) ?_
    refine RW.gop rfl rfl rfl rfl rfl rfl (eff_iop rfl rfl rfl rfl rfl) ?_
    refine RW.gop rfl rfl rfl rfl rfl rfl (eff_iop rfl rfl rfl rfl rfl) ?_
    refine pkT ?_
    refine RW.nil ?_
    refine awp_cond rfl (fun h2 => ?_) (fun h2 => ?_)
    · try simp only [cl] at h2
      refine awp_seq ?_
      refine awp_rw rfl ?_
      refine RW.op rfl rfl (eff_load rfl rfl ti23 rfl (.whole rfl rfl rfl rfl rfl rfl)) ?_
      refine RW.store rfl rfl (eff_storeW (v := .t _) (els := [_]) (els' := [_]) rfl rfl ti23 rfl rfl rfl rfl rfl rfl rfl rfl rfl) ?_
      refine RW.nil ?_
      refine awp_ret ?_
      (rw [apply_stay (Or.inr (by assumption))]; exact ⟨Or.inr rfl, [_], ⟨.cell rfl ti23 (.whole rfl rfl rfl rfl rfl rfl) (.t _), trivial⟩, .refl _⟩)
    · try simp only [cl] at h2
      refine awp_skip ?_
      refine awp_seq ?_
      refine awp_rw rfl ?_
      refine faT tf45_1 ?_
      refine l1T ti3 rfl rfl rfl rfl rfl (.one rfl rfl rfl rfl) ?_
      refine ioT ?_
      refine faT tf23_2 ?_
      refine RW.store rfl rfl (eff_storeS (v := .t _) (ys := [_, _, _, _]) (els := [_]) (els' := [_]) rfl rfl ti3 rfl rfl rfl rfl rfl rfl rfl (Nat.le_of_ble_eq_true rfl) rfl rfl) ?_
      refine RW.nil ?_
      refine awp_seq ?_
      refine awp_rw rfl ?_
      refine faT tf45_0 ?_
      refine l1T ti3 rfl rfl rfl rfl rfl (.one rfl rfl rfl rfl) ?_
      refine RW.op rfl rfl (eff_convInt rfl rfl (by rw [tu3]; rfl) tu5 rfl) ?_
      refine faT tf23_0 ?_
      refine l1T ti3 rfl rfl rfl rfl rfl (.one rfl rfl rfl rfl) ?_
      refine RW.op rfl rfl (eff_convInt rfl rfl (by rw [tu3]; rfl) tu5 rfl) ?_
      refine RW.op rfl rfl (eff_iop (r := .int .u8 (dist f ⟨nx, ((h : Nat) : Int), ky, lk⟩)) rfl rfl rfl rfl (congrArg (fun z => some (Tr.int .u8 z)) (dist_u8 f ⟨nx, ((h : Nat) : Int), ky, lk⟩))) ?_
      refine RW.op rfl rfl (eff_convIntE (m := dist f ⟨nx, ((h : Nat) : Int), ky, lk⟩) rfl rfl (by rw [tu5]; rfl) tu3 rfl (dist_i64 f ⟨nx, ((h : Nat) : Int), ky, lk⟩)) ?_
      refine asT ?_
      refine RW.nil ?_
      refine awp_seq ?_
      refine awp_block ?_
      refine awp_seq ?_
      refine awp_rw rfl ?_
      refine faT tf45_2 ?_
      refine l1T ti4 rfl rfl rfl rfl rfl (.one rfl rfl rfl rfl) ?_
      refine asT ?_
      refine RW.nil ?_
      refine awp_cond rfl (fun h3 => ?_) (fun h3 => ?_)
      · try simp only [cl] at h3
        refine awp_seq ?_
        refine awp_rw rfl ?_
        refine faT tf23_3 ?_
        refine RW.store rfl rfl (eff_storeS (v := .t _) (ys := [_, _, _, _]) (els := [_]) (els' := [_]) rfl rfl ti4 rfl rfl rfl rfl rfl rfl rfl (Nat.le_of_ble_eq_true rfl) rfl rfl) ?_
        refine faT tf23_1 ?_
        refine RW.store rfl rfl (eff_storeS (v := .t _) (ys := [_, _, _, _]) (els := [_]) (els' := [_]) rfl rfl ti3 rfl rfl rfl rfl rfl rfl rfl (Nat.le_of_ble_eq_true rfl) rfl rfl) ?_
        refine RW.nil ?_
        refine awp_seq ?_
        refine awp_rw rfl ?_
        refine mvT ?_
        refine ioT ?_
        refine RW.nil ?_
        refine awp_cond rfl (fun h4 => ?_) (fun h4 => ?_)
        · try simp only [cl] at h4
          refine awp_rw rfl ?_
          refine faT tf23_0 ?_
          refine l1T ti3 rfl rfl rfl rfl rfl (.one rfl rfl rfl rfl) ?_
          refine mvT ?_
          refine ioT ?_
          refine faT tf23_0 ?_
          refine RW.store rfl rfl (eff_storeS (v := .t _) (ys := [_, _, _, _]) (els := [_]) (els' := [_]) rfl rfl ti3 rfl rfl rfl rfl rfl rfl rfl (Nat.le_of_ble_eq_true rfl) rfl rfl) ?_
          refine RW.nil ?_
          refine awp_seq ?_
          refine awp_rw rfl ?_
          refine RW.op rfl rfl (eff_load rfl rfl ti23 rfl (.whole rfl rfl rfl rfl rfl rfl)) ?_
          refine RW.store rfl rfl (eff_storeW (v := .t _) (els := [_]) (els' := [_]) rfl rfl ti23 rfl rfl rfl rfl rfl rfl rfl rfl rfl) ?_
          refine RW.nil ?_
          refine awp_ret ?_
          (rw [apply_unl (by rintro (h | h) <;> (try dsimp only [w64] at h) <;> omega) (by assumption) (if_pos (by assumption))]; exact ⟨Or.inr rfl, [_], ⟨.cell rfl ti23 (.whole rfl rfl rfl rfl rfl rfl) (.t _), trivial⟩, .refl _⟩)
        · try simp only [cl] at h4
          refine awp_skip ?_
          refine awp_seq ?_
          refine awp_rw rfl ?_
          refine RW.op rfl rfl (eff_load rfl rfl ti23 rfl (.whole rfl rfl rfl rfl rfl rfl)) ?_
          refine RW.store rfl rfl (eff_storeW (v := .t _) (els := [_]) (els' := [_]) rfl rfl ti23 rfl rfl rfl rfl rfl rfl rfl rfl rfl) ?_
          refine RW.nil ?_
          refine awp_ret ?_
          (rw [apply_unl (by rintro (h | h) <;> (try dsimp only [w64] at h) <;> omega) (by assumption) (if_neg (by assumption))]; exact ⟨Or.inr rfl, [_], ⟨.cell rfl ti23 (.whole rfl rfl rfl rfl rfl rfl) (.t _), trivial⟩, .refl _⟩)
      · try simp only [cl] at h3
        refine awp_seq ?_
        refine awp_rw rfl ?_
        refine faT tf23_3 ?_
        refine l1T ti4 rfl rfl rfl rfl rfl (.one rfl rfl rfl rfl) ?_
        refine asT ?_
        refine RW.nil ?_
        refine awp_cond rfl (fun h5 => ?_) (fun h5 => ?_)
        · try simp only [cl] at h5
          refine awp_skip ?_
          refine awp_seq ?_
          refine awp_rw rfl ?_
          refine RW.op rfl rfl (eff_load rfl rfl ti23 rfl (.whole rfl rfl rfl rfl rfl rfl)) ?_
          refine RW.store rfl rfl (eff_storeW (v := .t _) (els := [_]) (els' := [_]) rfl rfl ti23 rfl rfl rfl rfl rfl rfl rfl rfl rfl) ?_
          refine RW.nil ?_
          refine awp_ret ?_
          (rw [apply_lock (by rintro (h | h) <;> (try dsimp only [w64] at h) <;> omega) (by assumption) (by assumption)]; exact ⟨Or.inr rfl, [_], ⟨.cell rfl ti23 (.whole rfl rfl rfl rfl rfl rfl) (.t _), trivial⟩, .refl _⟩)
        · try simp only [cl] at h5
          refine awp_seq ?_
          refine awp_rw rfl ?_
          refine mvT ?_
          refine ioT ?_
          refine asT ?_
          refine RW.nil ?_
          refine awp_cond rfl (fun h6 => ?_) (fun h6 => ?_)
          · try simp only [cl] at h6
            refine awp_seq ?_
            refine awp_rw rfl ?_
            refine faT tf23_1 ?_
            refine l1T ti3 rfl rfl rfl rfl rfl (.one rfl rfl rfl rfl) ?_
            refine RW.op rfl rfl (eff_convIntE (m := ((h : Nat) : Int)) rfl rfl (by rw [tu3]; rfl) tu109 rfl (by show IntKind.u64.wrap ((h : Nat) : Int) = _; rw [wu64]; omega)) ?_
            refine RW.op rfl rfl (eff_unop rfl rfl rfl (xor_ones (x := h) (by omega))) ?_
            refine RW.op rfl rfl (eff_callXT (tzn_ret h hh) co83 rfl rfl rfl ⟨rfl, trivial⟩ rfl) ?_
            refine RW.op rfl rfl (eff_iop rfl rfl rfl rfl (iadd (by omega))) ?_
            refine asT ?_
            refine RW.nil ?_
            refine awp_rd [(some 57, []), (some 58, []), (some 59, []), (some 60, []), (some 61, []), (some 62, []), (some 63, []), (some 64, []), (some 65, []), (none, [2]), (some 66, []), (none, [2])] [[], [0], [], [0, 1, 2], [], [4], [], [4, 5, 6], [0, 1, 2, 3, 4, 5], [0, 1, 2, 3, 4, 5, 8], [0, 1, 2, 3, 4, 5, 6, 7, 8, 9], [0, 1, 2, 3, 4, 5, 6, 7, 8, 9, 10]] tm rfl rfl rfl rfl ?_
            refine RD.op rfl rfl rfl (eff_fieldAddr rfl rfl tf23_0 (by decide) rfl rfl rfl (Nat.le_of_ble_eq_true rfl)) ?_
            refine RD.op rfl rfl rfl (eff_load (y := .t _) rfl rfl ti3 rfl (.one rfl rfl rfl rfl)) ?_
            refine mvD ?_
            refine RD.op rfl rfl rfl (eff_iop rfl rfl rfl rfl rfl) ?_
            refine RD.op rfl rfl rfl (eff_fieldAddr rfl rfl tf23_1 (by decide) rfl rfl rfl (Nat.le_of_ble_eq_true rfl)) ?_
            refine RD.op rfl rfl rfl (eff_load (y := .t _) rfl rfl ti3 rfl (.one rfl rfl rfl rfl)) ?_
            refine mvD ?_
            refine RD.op rfl rfl rfl (eff_shrE (r := ((h / 2 ^ (1 + ones ((h : Nat) : Int)) : Nat) : Int)) rfl rfl rfl rfl (by omega) (shr_have (s := ⟨nx, ((h : Nat) : Int), ky, lk⟩) hS (ones ((h : Nat) : Int)) (by omega))) ?_
            refine RD.op rfl rfl rfl (eff_fieldAddr rfl rfl tf23_0 (by decide) rfl rfl rfl (Nat.le_of_ble_eq_true rfl)) ?_
            refine RD.store rfl rfl rfl (eff_storeS (v := .t _) (ys := [_, _, _, _]) (els := [_]) (els' := [_]) rfl rfl ti3 rfl rfl rfl rfl rfl rfl rfl (Nat.le_of_ble_eq_true rfl) rfl rfl) ?_
            refine RD.op rfl rfl rfl (eff_fieldAddr rfl rfl tf23_1 (by decide) rfl rfl rfl (Nat.le_of_ble_eq_true rfl)) ?_
            refine RD.store rfl rfl rfl (eff_storeS (v := .t _) (ys := [_, _, _, _]) (els := [_]) (els' := [_]) rfl rfl ti3 rfl rfl rfl rfl rfl rfl rfl (Nat.le_of_ble_eq_true rfl) rfl rfl) ?_
            refine RD.nil ?_
            refine awp_seq ?_
            refine awp_rw rfl ?_
            refine RW.op rfl rfl (eff_load rfl rfl ti23 rfl (.whole rfl rfl rfl rfl rfl rfl)) ?_
            refine RW.store rfl rfl (eff_storeW (v := .t _) (els := [_]) (els' := [_]) rfl rfl ti23 rfl rfl rfl rfl rfl rfl rfl rfl rfl) ?_
            refine RW.nil ?_
            refine awp_ret ?_
            (rw [apply_zero (by rintro (h | h) <;> (try dsimp only [w64] at h) <;> omega) (by assumption) (by assumption) (by assumption)]; exact ⟨Or.inr rfl, [_], ⟨.cell rfl ti23 (.whole rfl rfl rfl rfl rfl rfl) (.t _), trivial⟩, .refl _⟩)
          · try simp only [cl] at h6
            refine awp_seq ?_
            refine awp_rw rfl ?_
            refine mvT ?_
            refine ioT ?_
            refine asT ?_
            refine RW.nil ?_
            refine awp_cond rfl (fun h7 => ?_) (fun h7 => ?_)
            · try simp only [cl] at h7
              refine awp_rd [(some 70, []), (some 71, []), (some 72, []), (some 73, []), (some 74, []), (some 75, []), (some 76, []), (none, [2])] [[], [0], [], [2], [2, 3], [0, 1, 2, 3, 4], [0, 1, 2, 3, 4, 5], [0, 1, 2, 3, 4, 5, 6]] tm rfl rfl rfl rfl ?_
              have hp15 : 2 ^ (dist f ⟨nx, ((h : Nat) : Int), ky, lk⟩ - 1).toNat < 2 ^ 15 := Nat.pow_lt_pow_right (by decide) (by omega)
              refine RD.op rfl rfl rfl (eff_fieldAddr rfl rfl tf23_1 (by decide) rfl rfl rfl (Nat.le_of_ble_eq_true rfl)) ?_
              refine RD.op rfl rfl rfl (eff_load (y := .t _) rfl rfl ti3 rfl (.one rfl rfl rfl rfl)) ?_
              refine mvD ?_
              refine RD.op rfl rfl rfl (eff_iop rfl rfl rfl rfl (isub (by omega))) ?_
              refine RD.op rfl rfl rfl (eff_shlE (r := ((2 ^ (dist f ⟨nx, ((h : Nat) : Int), ky, lk⟩ - 1).toNat : Nat) : Int)) rfl rfl rfl rfl (by omega) (shl_one (by omega) (by omega))) ?_
              refine RD.op rfl rfl rfl (eff_iop (r := encI ((h ||| 2 ^ (dist f ⟨nx, ((h : Nat) : Int), ky, lk⟩ - 1).toNat : Nat) : Int)) rfl rfl rfl rfl (or_nat (by omega) (by omega))) ?_
              refine RD.op rfl rfl rfl (eff_fieldAddr rfl rfl tf23_1 (by decide) rfl rfl rfl (Nat.le_of_ble_eq_true rfl)) ?_
              refine RD.store rfl rfl rfl (eff_storeS (v := .t _) (ys := [_, _, _, _]) (els := [_]) (els' := [_]) rfl rfl ti3 rfl rfl rfl rfl rfl rfl rfl (Nat.le_of_ble_eq_true rfl) rfl rfl) ?_
              refine RD.nil ?_
              refine awp_seq ?_
              refine awp_rw rfl ?_
              refine RW.op rfl rfl (eff_load rfl rfl ti23 rfl (.whole rfl rfl rfl rfl rfl rfl)) ?_
              refine RW.store rfl rfl (eff_storeW (v := .t _) (els := [_]) (els' := [_]) rfl rfl ti23 rfl rfl rfl rfl rfl rfl rfl rfl rfl) ?_
              refine RW.nil ?_
              refine awp_ret ?_
              (rw [apply_near (by rintro (h | h) <;> (try dsimp only [w64] at h) <;> omega) (by assumption) (by assumption) (by assumption) (by assumption)]; exact ⟨Or.inr rfl, [_], ⟨.cell rfl ti23 (.whole rfl rfl rfl rfl rfl rfl) (.t _), trivial⟩, .refl _⟩)
            · try simp only [cl] at h7
              refine awp_seq ?_
              refine awp_rw rfl ?_
              refine mvT ?_
              refine ioT ?_
              refine asT ?_
              refine RW.nil ?_
              refine awp_cond rfl (fun h8 => ?_) (fun h8 => ?_)
              · try simp only [cl] at h8
                refine awp_rw rfl ?_
                refine faT tf23_3 ?_
                refine RW.store rfl rfl (eff_storeS (v := .t _) (ys := [_, _, _, _]) (els := [_]) (els' := [_]) rfl rfl ti4 rfl rfl rfl rfl rfl rfl rfl (Nat.le_of_ble_eq_true rfl) rfl rfl) ?_
                refine RW.nil ?_
                refine awp_seq ?_
                refine awp_rw rfl ?_
                refine RW.op rfl rfl (eff_load rfl rfl ti23 rfl (.whole rfl rfl rfl rfl rfl rfl)) ?_
                refine RW.store rfl rfl (eff_storeW (v := .t _) (els := [_]) (els' := [_]) rfl rfl ti23 rfl rfl rfl rfl rfl rfl rfl rfl rfl) ?_
                refine RW.nil ?_
                refine awp_ret ?_
                (rw [apply_far (by rintro (h | h) <;> (try dsimp only [w64] at h) <;> omega) (by assumption) (by assumption) (by omega) (decide_eq_true (by omega))]; exact ⟨Or.inr rfl, [_], ⟨.cell rfl ti23 (.whole rfl rfl rfl rfl rfl rfl) (.t _), trivial⟩, .refl _⟩)
              · try simp only [cl] at h8
                refine awp_skip ?_
                refine awp_seq ?_
                refine awp_rw rfl ?_
                refine RW.op rfl rfl (eff_load rfl rfl ti23 rfl (.whole rfl rfl rfl rfl rfl rfl)) ?_
                refine RW.store rfl rfl (eff_storeW (v := .t _) (els := [_]) (els' := [_]) rfl rfl ti23 rfl rfl rfl rfl rfl rfl rfl rfl rfl) ?_
                refine RW.nil ?_
                refine awp_ret ?_
                (rw [apply_far (b := lk) (by rintro (h | h) <;> (try dsimp only [w64] at h) <;> omega) (by assumption) (by assumption) (by omega) (by rw [decide_eq_false (by omega)]; exact (show lk = false by assumption).symm)]; exact ⟨Or.inr rfl, [_], ⟨.cell rfl ti23 (.whole rfl rfl rfl rfl rfl rfl) (.t _), trivial⟩, .refl _⟩)

theorem own_ret (l : List Frm) (hl : l.length ≤ 1000000) (hb : ∀ f, f ∈ l → f.body.length ≤ 1000000) : Ret Tryd.prog 72 [.sl (l.map encF) false] (.sl (l.map encF) false) := by
  refine ret_of_awp Tryd.func72 rfl (Nat.le_of_ble_eq_true rfl) ?_
  refine awp_seq ?_
  refine awp_rw rfl ?_
  refine asT ?_
  refine RW.nil ?_
  refine awp_seq ?_
  refine awp_rw rfl ?_
  refine mvT ?_
  refine RW.new rfl rfl (eff_callG (cloneF_retG l hl) co78 (fun id => id + 0) rfl rfl rfl ⟨.t _, trivial⟩ (.own _ _ _ _ rfl rfl) rfl trivial ⟨⟨treeEls_t, .inr rfl⟩, trivial⟩) ?_
  refine asO ?_
  refine RW.nil ?_
  refine awp_seq ?_
  refine awp_seq ?_
  refine awp_rw rfl ?_
  refine mvO ?_
  refine RW.op rfl rfl (eff_len rfl rfl te62 rfl rfl rfl) ?_
  refine mvT ?_
  refine RW.nil ?_
  refine awp_block ?_
  refine awp_loopW (fun m s => ∃ (i : Nat), (i ≤ l.length) ∧ m = l.length - i ∧ s = ⟨23, [(0, .own 5 1 0 l.length), (7, .own 5 1 0 l.length), (8, .t (encI l.length)), (9, .t (encI (i : Nat)))], [(5, some ⟨5, 45, 1, (l.map encF).map .t⟩)]⟩) (_) (⟨_, weak_keep (n := 23) (fr' := [(0, .own 5 1 0 l.length), (7, .own 5 1 0 l.length), (8, .t (encI l.length)), (9, .t (encI (0 : Nat)))]) (st' := [(5, some ⟨5, 45, 1, (l.map encF).map .t⟩)]) ⟨rfl, rfl, rfl, rfl, rfl, rfl, rfl, rfl, trivial⟩ ⟨rfl, okE_t, trivial⟩, 0, (by omega), rfl, rfl⟩) ?_
  rintro m s ⟨i, hi, rfl, rfl⟩
  refine awp_seq ?_
  refine awp_rw rfl ?_
  refine ioT ?_
  refine RW.nil ?_
  refine awp_seq ?_
  refine awp_cond rfl (fun h1 => ?_) (fun h1 => ?_)
  · try simp only [cl] at h1
    refine awp_skip ?_
    refine awp_seq ?_
    refine awp_block ?_
    refine awp_seq ?_
    refine awp_rw rfl ?_
    have hil : i < l.length := by omega
    have hbl := hb _ (List.getElem_mem hil)
    refine mvT ?_
    refine RW.op rfl rfl (eff_indexAddr rfl rfl te62 rfl rfl rfl rfl rfl rfl (by omega)) ?_
    refine RW.op rfl rfl (eff_load (y := .t (encF (l[i]'hil))) rfl rfl ti45 rfl (.whole rfl rfl (by rw [Nat.zero_add]; exact elF hil) rfl rfl rfl)) ?_
    refine RW.new rfl rfl (eff_allocK (k := 5) (id := 4) rfl rfl tz45 rfl rfl) ?_
    refine asT ?_
    refine RW.store rfl rfl (eff_storeW (v := .t _) (els := [_]) (els' := [_]) rfl rfl ti45 rfl rfl rfl rfl rfl rfl rfl rfl rfl) ?_
    refine RW.nil ?_
    refine awp_rw rfl ?_
    refine mvO ?_
    refine mvT ?_
    refine faT tf45_3 ?_
    refine l1T ti42 rfl rfl rfl rfl rfl (.one rfl rfl rfl rfl) ?_
    refine RW.op rfl rfl (eff_callT (cloneB_ret _ hbl) co79 rfl rfl rfl rfl) ?_
    refine RW.op rfl rfl (eff_indexAddr rfl rfl te62 rfl rfl rfl rfl rfl rfl (by omega)) ?_
    refine faT tf45_3 ?_
    refine RW.store rfl rfl (eff_storeS (v := .t _) (el := .t (encF (l[i]'hil))) (ys := [encI (l[i]'hil).seq, encI (l[i]'hil).key, .bool (l[i]'hil).unlock, .sl ((l[i]'hil).body.map encBy) false, .int .u64 (l[i]'hil).tag]) (els := (l.map encF).map .t) (els' := (l.map encF).map .t) rfl rfl ti42 rfl rfl rfl rfl rfl rfl (by rw [Nat.zero_add]; exact elF hil) (Nat.le_of_ble_eq_true rfl) rfl (by rw [Nat.zero_add]; exact setF_same hil)) ?_
    refine RW.nil ?_
    refine awp_rw rfl ?_
    refine RW.op rfl rfl (eff_iop rfl rfl rfl rfl (iadd (by omega))) ?_
    refine mvT ?_
    refine RW.nil ?_
    refine ⟨_, ?_, _, weak_keep (n := 23) (fr' := [(0, .own 5 1 0 l.length), (7, .own 5 1 0 l.length), (8, .t (encI l.length)), (9, .t (encI ((i + 1) : Nat)))]) (st' := [(5, some ⟨5, 45, 1, (l.map encF).map .t⟩)]) ⟨rfl, rfl, rfl, rfl, rfl, rfl, rfl, rfl, trivial⟩ ⟨rfl, okE_t, trivial⟩, i + 1, (by omega), rfl, rfl⟩
    omega
  · try simp only [cl] at h1
    refine awp_exit ?_
    refine awp_seq ?_
    refine awp_rw rfl ?_
    refine mvO ?_
    refine asO ?_
    refine RW.nil ?_
    refine awp_ret ?_
    exact ⟨Or.inr rfl, [_], ⟨.tmp (Res.ownM (xs := l.map encF) rfl (by simp)), trivial⟩, .refl _⟩

end Go.Tv.C36

end
section
namespace Go.Proofs
open Go.Shelf
def Tryd.sortIv_ren : Go.Shelf.Ren := ⟨fun | 6 => 80 | 15 => 85 | 14 => 84 | 28 => 99 | 29 => 100 | 20 => 91 | 21 => 92 | 22 => 93 | 23 => 94 | 24 => 95 | 25 => 96 | 26 => 97 | 27 => 98 | 46 => 102 | 47 => 103 | 48 => 104 | 49 => 105 | 50 => 106 | 57 => 107 | n => n, fun | 22 => 33 | 24 => 23 | 25 => 106 | 3 => 3 | 39 => 109 | 0 => 0 | 53 => 114 | 55 => 43 | 4 => 4 | 46 => 118 | 45 => 117 | 50 => 122 | 5 => 5 | 9 => 9 | 66 => 126 | 70 => 130 | 76 => 132 | 77 => 133 | n => n, fun | n => n⟩
theorem Tryd.sortIv : Go.Proofs.SlLaysF0.n6 Tryd.prog Tryd.sortIv_ren := {
  mixed := by kernel_rfl
  f6 := ⟨Tryd.f80.name, by decide, Tryd.func80.trans (congrArg some (by kernel_rfl))⟩
  f14 := ⟨Tryd.f84.name, by decide, Tryd.func84.trans (congrArg some (by kernel_rfl))⟩
  f15 := Tryd.func85.trans (congrArg some (by kernel_rfl))
  f20 := ⟨Tryd.f91.name, by decide, Tryd.func91.trans (congrArg some (by kernel_rfl))⟩
  f21 := ⟨Tryd.f92.name, by decide, Tryd.func92.trans (congrArg some (by kernel_rfl))⟩
  f22 := ⟨Tryd.f93.name, by decide, Tryd.func93.trans (congrArg some (by kernel_rfl))⟩
  f23 := ⟨Tryd.f94.name, by decide, Tryd.func94.trans (congrArg some (by kernel_rfl))⟩
  f24 := ⟨Tryd.f95.name, by decide, Tryd.func95.trans (congrArg some (by kernel_rfl))⟩
  f25 := ⟨Tryd.f96.name, by decide, Tryd.func96.trans (congrArg some (by kernel_rfl))⟩
  f26 := ⟨Tryd.f97.name, by decide, Tryd.func97.trans (congrArg some (by kernel_rfl))⟩
  f27 := ⟨Tryd.f98.name, by decide, Tryd.func98.trans (congrArg some (by kernel_rfl))⟩
  f28 := Tryd.func99.trans (congrArg some (by kernel_rfl))
  f29 := Tryd.func100.trans (congrArg some (by kernel_rfl))
  f46 := ⟨Tryd.f102.name, by decide, Tryd.func102.trans (congrArg some (by kernel_rfl))⟩
  f47 := Tryd.func103.trans (congrArg some (by kernel_rfl))
  f48 := Tryd.func104.trans (congrArg some (by kernel_rfl))
  f49 := ⟨Tryd.f105.name, by decide, Tryd.func105.trans (congrArg some (by kernel_rfl))⟩
  f50 := ⟨Tryd.f106.name, by decide, Tryd.func106.trans (congrArg some (by kernel_rfl))⟩
  f57 := ⟨Tryd.f107.name, by decide, Tryd.func107.trans (congrArg some (by kernel_rfl))⟩
  t0 := Tryd.underlying0
  a0 := Tryd.isAgg0
  z0 := Tryd.sizeOf0
  v0 := Tryd.zeroValue0
  t3 := Tryd.underlying3
  a3 := Tryd.isAgg3
  z3 := Tryd.sizeOf3
  v3 := Tryd.zeroValue3
  t4 := Tryd.underlying4
  a4 := Tryd.isAgg4
  z4 := Tryd.sizeOf4
  v4 := Tryd.zeroValue4
  t5 := Tryd.underlying5
  a5 := Tryd.isAgg5
  z5 := Tryd.sizeOf5
  v5 := Tryd.zeroValue5
  t9 := Tryd.underlying9
  a9 := Tryd.isAgg9
  z9 := Tryd.sizeOf9
  v9 := Tryd.zeroValue9
  t22 := Tryd.underlying33
  a22 := Tryd.isAgg33
  z22 := Tryd.sizeOf33
  v22 := Tryd.zeroValue33
  t25 := Tryd.underlying106
  a25 := Tryd.isAgg106
  z25 := Tryd.sizeOf106
  v25 := Tryd.zeroValue106
  t39 := Tryd.underlying109
  a39 := Tryd.isAgg109
  z39 := Tryd.sizeOf109
  v39 := Tryd.zeroValue109
  t45 := Tryd.underlying117
  a45 := Tryd.isAgg117
  z45 := Tryd.sizeOf117
  v45 := Tryd.zeroValue117
  t46 := Tryd.underlying118
  a46 := Tryd.isAgg118
  z46 := Tryd.sizeOf118
  v46 := Tryd.zeroValue118
  t50 := Tryd.underlying122
  a50 := Tryd.isAgg122
  z50 := Tryd.sizeOf122
  v50 := Tryd.zeroValue122
  t53 := Tryd.underlying114
  a53 := Tryd.isAgg114
  z53 := Tryd.sizeOf114
  v53 := Tryd.zeroValue114
  t55 := Tryd.underlying43
  a55 := Tryd.isAgg43
  z55 := Tryd.sizeOf43
  v55 := Tryd.zeroValue43
  t66 := Tryd.underlying126
  a66 := Tryd.isAgg126
  z66 := Tryd.sizeOf126
  v66 := Tryd.zeroValue126
  t70 := Tryd.underlying130
  a70 := Tryd.isAgg130
  z70 := Tryd.sizeOf130
  v70 := Tryd.zeroValue130
  t76 := Tryd.underlying132
  a76 := Tryd.isAgg132
  z76 := Tryd.sizeOf132
  v76 := Tryd.zeroValue132
  t77 := Tryd.underlying133
  a77 := Tryd.isAgg133
  z77 := Tryd.sizeOf133
  v77 := Tryd.zeroValue133 }
end Go.Proofs

end
section
open Go Go.Tv Go.Proofs
namespace Go.Tv.C36
set_option maxRecDepth 20000
set_option maxHeartbeats 2000000
set_option linter.unusedSimpArgs false
set_option linter.unusedVariables false
theorem spread_ret (l : List Rep) (f : Frm) (hl : Srt l) (hp : ∀ y, y ∈ l → HP y) : RetT Tryd.prog 71 [(1, deT)] [mset l, encF f] (mset (stepF l f)) := by
  refine retT_of_awr Tryd.func71 rfl (Nat.le_of_ble_eq_true rfl) ?_
  intro F0 w0
  refine awj_openS 0 (l := l) rfl (fun b0 lp hperm => ?_)
  refine awj_seq ?_
  refine awj_rj rfl ?_
  refine RJ.new rfl rfl (eff_boxK (v := .t _) (k := 5) (id := 3) rfl rfl rfl rfl rfl rfl) ?_
  refine RJ.op rfl rfl (eff_assign (v := .junk) rfl rfl rfl) ?_
  refine RJ.nil ?_
  refine awj_seq ?_
  refine awj_rj rfl ?_
  refine RJ.sMake rfl rfl rfl rfl (fun rO hrO => ?_)
  refine RJ.op rfl rfl (eff_assign (v := .t _) rfl rfl rfl) ?_
  refine RJ.nil ?_
  refine awj_seq ?_
  refine awj_seq ?_
  refine awj_rj rfl ?_
  refine RJ.op rfl rfl (eff_move (v := .t _) rfl rfl rfl) ?_
  refine RJ.sRange rfl rfl rfl rfl Tryd.underlying98 rfl (fun rI hrI => ?_)
  refine RJ.nil ?_
  show AWJ _ _ _ _ _ _ _ _
  have hne : rO ≠ rI := by intro e; subst e; rw [gget_same] at hrI; cases hrI
  refine awj_block ?_
  refine awj_loopW (fun m s g => ∃ (seen : List Nat) (cur : List Rep), (gget g rO = some (mapO KR XU (setL cur))) ∧ (gget g rI = some (itM b0 lp.length seen)) ∧ (seen.Nodup) ∧ (∀ j, j ∈ seen → j < lp.length) ∧ (cameF lp f seen cur) ∧ m = lp.length - seen.length ∧ s = ⟨21, [(3, .ptr 3 0 0 0), (5, .t (.mp rO)), (8, .t (.mpx b0 (mapL KR XU (setL lp)))), (9, .t (.adr rI 0)), (22, .t deT)], [(3, some ⟨5, 45, 0, [.t (encF f)]⟩)]⟩) (_) (⟨_, weak_keep (n := 21) (fr' := [(3, .ptr 3 0 0 0), (5, .t (.mp rO)), (8, .t (.mpx b0 (mapL KR XU (setL lp)))), (9, .t (.adr rI 0)), (22, .t deT)]) (st' := [(3, some ⟨5, 45, 0, [.t (encF f)]⟩)]) ⟨rfl, rfl, rfl, rfl, rfl, rfl, rfl, rfl, rfl, rfl, trivial⟩ ⟨rfl, okE_one rfl, trivial⟩, [], [], (by rw [gget_ne _ _ (Ne.symm hne)]; exact gget_same _ _ _), (by exact gget_same _ _ _), (by exact List.nodup_nil), (by intro j hj; simp at hj), (by exact cameF_nil _ _), rfl, rfl⟩) ?_
  rintro m s g ⟨seen, cur, hgO, hgI, hsn, hsb, hcm, rfl, rfl⟩
  refine awj_seq ?_
  refine awj_rj rfl ?_
  refine RJ.sNext (.tmp 8) rfl rfl rfl rfl rfl rfl hgI ?_ ?_
  · intro hall
    refine RJ.op rfl rfl (eff_extract rfl rfl rfl rfl) ?_
    refine RJ.nil ?_
    refine awj_seq ?_
    refine awj_cond rfl (fun h => nomatch h) (fun _ => ?_)
    refine awj_exit ?_
    refine awj_seq ?_
    refine awj_rj rfl ?_
    refine RJ.op rfl rfl (eff_move (v := .t _) rfl rfl rfl) ?_
    refine RJ.op rfl rfl (eff_assign (v := .t _) rfl rfl rfl) ?_
    refine RJ.nil ?_
    show AWJ _ _ _ _ _ _ _ _
    refine awj_freezeS 4 (l0 := cur) (stepF l f) rfl hgO (cameF_end hl hperm hcm hall) ?_
    refine awj_ret ?_
    exact ⟨Or.inr rfl, [_], ⟨.tmp (.t _), trivial⟩, .refl _⟩
  · intro q hq hqs
    refine RJ.op rfl rfl (eff_extract rfl rfl rfl rfl) ?_
    refine RJ.nil ?_
    refine awj_seq ?_
    refine awj_cond rfl (fun _ => ?_) (fun h => nomatch h)
    refine awj_skip ?_
    refine awj_block ?_
    refine awj_seq ?_
    refine awj_rj rfl ?_
    refine RJ.sEntry (.tmp 8) (seen := seen) hq rfl rfl rfl rfl rfl rfl (gget_same _ _ _) ?_
    refine RJ.op rfl rfl (eff_extract rfl rfl rfl rfl) ?_
    refine RJ.new rfl rfl (eff_allocK (k := 4) (id := 6) rfl rfl tz23 rfl rfl) ?_
    refine RJ.store rfl rfl (eff_storeW (v := .t _) (els := [_]) (els' := [_]) rfl rfl ti23 rfl rfl rfl rfl rfl rfl rfl rfl rfl) ?_
    refine RJ.nil ?_
    refine awj_seq ?_
    refine awj_rj rfl ?_
    refine RJ.op rfl rfl (eff_move (v := .t _) rfl rfl rfl) ?_
    refine RJ.op rfl rfl (eff_load rfl rfl ti23 rfl (.whole rfl rfl rfl rfl rfl rfl)) ?_
    refine RJ.sPut lp[q] cur rfl rfl (.inl rfl) Tryd.underlying98 rfl rfl rfl (by rw [gget_ne _ _ (Ne.symm hne)]; exact hgO) ?_
    refine RJ.nil ?_
    refine awj_rj rfl ?_
    refine RJ.op rfl rfl (eff_move (v := .t _) rfl rfl rfl) ?_
    refine RJ.op rfl rfl (eff_load rfl rfl ti23 rfl (.whole rfl rfl rfl rfl rfl rfl)) ?_
    refine RJ.op rfl rfl (eff_load rfl rfl ti45 rfl (.whole rfl rfl rfl rfl rfl rfl)) ?_
    refine RJ.op rfl rfl (eff_callXT (apply_ret _ _ (hp _ (hperm.mem_iff.1 (List.getElem_mem _)))) co77 rfl rfl rfl ⟨rfl, trivial⟩ rfl) ?_
    refine RJ.sPut (apply lp[q] f) (ins cur lp[q]) rfl rfl (.inl rfl) Tryd.underlying98 rfl rfl rfl (gget_same _ _ _) ?_
    refine RJ.nil ?_
    refine ⟨_, ?_, _, weak_keep (n := 21) (fr' := [(3, .ptr 3 0 0 0), (5, .t (.mp rO)), (8, .t (.mpx b0 (mapL KR XU (setL lp)))), (9, .t (.adr rI 0)), (22, .t deT)]) (st' := [(3, some ⟨5, 45, 0, [.t (encF f)]⟩)]) ⟨rfl, rfl, rfl, rfl, rfl, rfl, rfl, rfl, rfl, rfl, trivial⟩ ⟨rfl, okE_one rfl, trivial⟩, seen ++ [q], ins (ins cur lp[q]) (apply lp[q] f), (by exact gget_same _ _ _), (by rw [gget_ne _ _ hne, gget_ne _ _ hne]; exact gget_same _ _ _), (by exact seen_nodup hsn hqs), (by exact seen_bound hsb hq), (by exact cameF_step hcm hq), rfl, rfl⟩
    have hsl := seen_lt hsn hsb hq hqs
    simp only [List.length_append, List.length_singleton]
    omega

end Go.Tv.C36

end
section
open Go Go.Tv Go.Proofs
namespace Go.Tv.C36
set_option maxRecDepth 20000
set_option maxHeartbeats 2000000
set_option linter.unusedSimpArgs false
set_option linter.unusedVariables false
theorem sorted_ret (l : List Rep) (hl : Srt l) (hll : l.length ≤ 100000) : Ret Tryd.prog 74 [mset l] (.sl (l.map encR) false) := by
  refine ret_of_awr Tryd.func74 rfl (Nat.le_of_ble_eq_true rfl) ?_
  intro F0 w0
  refine awj_openS 0 (l := l) rfl (fun b0 lp hperm => ?_)
  have hpl := hperm.length_eq
  refine awj_seq ?_
  refine awj_rj rfl ?_
  refine RJ.op rfl rfl (eff_assign (v := .t _) rfl rfl rfl) ?_
  refine RJ.nil ?_
  refine awj_seq ?_
  refine awj_rj rfl ?_
  refine RJ.op rfl rfl (eff_assign (v := .t _) rfl rfl rfl) ?_
  refine RJ.nil ?_
  show AWJ _ _ _ _ _ _ _ _
  refine awj_weak (weak_adopt (d := 3) (id := 3) (k := 4) (ty := 23) rfl rfl) ?_
  refine awj_seq ?_
  refine awj_seq ?_
  refine awj_rj rfl ?_
  refine RJ.op rfl rfl (eff_move (v := .t _) rfl rfl rfl) ?_
  refine RJ.sRange rfl rfl rfl rfl Tryd.underlying98 rfl (fun rI hrI => ?_)
  refine RJ.nil ?_
  refine awj_block ?_
  refine awj_loopW (fun m s g => ∃ (seen : List Nat) (gn : Nat) (n : Nat) (els : List AV), (gget g rI = some (itM b0 lp.length seen)) ∧ (seen.Nodup) ∧ (∀ j, j ∈ seen → j < lp.length) ∧ (n = seen.length) ∧ (els = ((pick lp seen).map encR).map .t) ∧ m = lp.length - seen.length ∧ s = ⟨18, [(3, .own 3 gn 0 n), (5, .t (.mpx b0 (mapL KR XU (setL lp)))), (6, .t (.adr rI 0))], [(3, some ⟨4, 23, gn, els⟩)]⟩) (_) (⟨_, weak_keep (n := 18) (fr' := [(3, .own 3 0 0 0), (5, .t (.mpx b0 (mapL KR XU (setL lp)))), (6, .t (.adr rI 0))]) (st' := [(3, some ⟨4, 23, 0, ([])⟩)]) ⟨rfl, rfl, rfl, rfl, rfl, rfl, trivial⟩ ⟨rfl, (by first | exact okE_nil | (rw [he]; exact okE_t) | (rw [he]; intro x hx; simp only [List.mem_append, List.mem_map, List.mem_singleton] at hx; rcases hx with ⟨y, _, rfl⟩ | rfl <;> rfl)), trivial⟩, [], 0, 0, [], (by exact gget_same _ _ _), (by exact List.nodup_nil), (by intro j hj; simp at hj), (by rfl), (by rfl), rfl, rfl⟩) ?_
  rintro m s g ⟨seen, gn, n, els, hgI, hsn, hsb, hnn, he, rfl, rfl⟩
  refine awj_seq ?_
  refine awj_rj rfl ?_
  refine RJ.sNext (.tmp 5) rfl rfl rfl rfl rfl rfl hgI ?_ ?_
  · intro hall
    refine RJ.op rfl rfl (eff_extract rfl rfl rfl rfl) ?_
    refine RJ.nil ?_
    refine awj_seq ?_
    refine awj_cond rfl (fun h => nomatch h) (fun _ => ?_)
    refine awj_exit ?_
    refine awj_seq ?_
    refine awj_rj rfl ?_
    have hpa := pick_all hsn hsb hall ((hperm.nodup_iff).2 (srt_nodup hl))
    have hso : sortA cmpR (pick lp seen) = l := sort_srt hl (hpa.trans hperm)
    have hpn : (pick lp seen).length = l.length := (hpa.trans hperm).length_eq
    have hnl : n = (pick lp seen).length := by rw [hnn, pick_len hsb]
    refine RJ.op rfl rfl (eff_move (v := .own _ _ _ _) rfl rfl rfl) ?_
    refine RJ.new rfl rfl (eff_sortFunc Tryd.sortIv (cells := cellsR) (k := 4) (fun _ => rfl) (by decide) (cf := cmpR) cmpR_swo (g := 81) compare_ret co81 ti23 (id := 3) (gen := gn) (pick lp seen) (by omega) rfl co80 rfl rfl rfl rfl rfl rfl (he.trans (sortEls_eq _).symm) hnl ((sortEls_eq _).trans (by rw [hso]))) ?_
    refine RJ.nil ?_
    refine awj_seq ?_
    refine awj_rj rfl ?_
    refine RJ.op rfl rfl (eff_move (v := .own _ _ _ _) rfl rfl rfl) ?_
    refine RJ.op rfl rfl (eff_assign (v := .own _ _ _ _) rfl rfl rfl) ?_
    refine RJ.nil ?_
    refine awj_ret ?_
    exact ⟨Or.inr rfl, [_], ⟨.tmp (Res.ownT (xs := l.map encR) rfl rfl rfl (by rw [hnl, hpn]; simp)), trivial⟩, .refl _⟩
  · intro q hq hqs
    refine RJ.op rfl rfl (eff_extract rfl rfl rfl rfl) ?_
    refine RJ.nil ?_
    refine awj_seq ?_
    refine awj_cond rfl (fun _ => ?_) (fun h => nomatch h)
    refine awj_skip ?_
    refine awj_block ?_
    refine awj_seq ?_
    refine awj_rj rfl ?_
    refine RJ.sEntry (.tmp 5) (seen := seen) hq rfl rfl rfl rfl rfl rfl (gget_same _ _ _) ?_
    refine RJ.op rfl rfl (eff_extract rfl rfl rfl rfl) ?_
    refine RJ.new rfl rfl (eff_allocK (k := 4) (id := 4) rfl rfl tz23 rfl rfl) ?_
    refine RJ.store rfl rfl (eff_storeW (v := .t _) (els := [_]) (els' := [_]) rfl rfl ti23 rfl rfl rfl rfl rfl rfl rfl rfl rfl) ?_
    refine RJ.nil ?_
    refine awj_rj rfl ?_
    have hsl2 := seen_lt hsn hsb hq hqs
    refine RJ.op rfl rfl (eff_move (v := .own _ _ _ _) rfl rfl rfl) ?_
    refine RJ.op rfl rfl (eff_load rfl rfl ti23 rfl (.whole rfl rfl rfl rfl rfl rfl)) ?_
    refine RJ.new rfl rfl (eff_buildSliceL (id := 13) (els := [.t (.agg [_, _, _, _])]) rfl rfl te33 tz23 rfl (by decide) (by decide) rfl rfl rfl rfl) ?_
    refine RJ.new rfl rfl (eff_append (id := 3) (ys := [_]) rfl rfl ta33 rfl rfl rfl (by rw [he, hnn]; simp [pick_len hsb]) rfl rfl (srcOwn rfl rfl rfl rfl rfl rfl) (by simp) (by simp; omega) (by simp; omega)) ?_
    refine RJ.op rfl rfl (eff_assign (v := .own _ _ _ _) rfl rfl rfl) ?_
    refine RJ.nil ?_
    refine ⟨_, ?_, _, weak_keep (n := 18) (fr' := [(3, .own 3 _ 0 _), (5, .t (.mpx b0 (mapL KR XU (setL lp)))), (6, .t (.adr rI 0))]) (st' := [(3, some ⟨4, 23, _, _⟩)]) ⟨rfl, rfl, rfl, rfl, rfl, rfl, trivial⟩ ⟨rfl, (by first | exact okE_nil | (rw [he]; exact okE_t) | (rw [he]; intro x hx; simp only [List.mem_append, List.mem_map, List.mem_singleton] at hx; rcases hx with ⟨y, _, rfl⟩ | rfl <;> rfl)), trivial⟩, seen ++ [q], _, _, _, (by exact gget_same _ _ _), (by exact seen_nodup hsn hqs), (by exact seen_bound hsb hq), (by rw [hnn]; simp), (by rw [pick_step hq, he]; simp <;> rfl), rfl, rfl⟩
    have hsl := seen_lt hsn hsb hq hqs
    simp only [List.length_append, List.length_singleton]
    omega

theorem reach_ret (x : Rep) (l : List Frm) (hx : HP x) (hl : l.length ≤ 1000000) : RetT Tryd.prog 75 [(1, deT)] [encR x, .sl (l.map encF) false] (mset (reachF x l)) := by
  refine retT_of_awr Tryd.func75 rfl (Nat.le_of_ble_eq_true rfl) ?_
  intro F0 w0
  refine awj_seq ?_
  refine awj_rj rfl ?_
  refine RJ.new rfl rfl (eff_boxK (v := .t _) (k := 4) (id := 2) rfl rfl rfl rfl rfl rfl) ?_
  refine RJ.op rfl rfl (eff_assign (v := .junk) rfl rfl rfl) ?_
  refine RJ.nil ?_
  refine awj_seq ?_
  refine awj_rj rfl ?_
  refine RJ.sMake rfl rfl rfl rfl (fun rO hrO => ?_)
  refine RJ.op rfl rfl (eff_load rfl rfl ti23 rfl (.whole rfl rfl rfl rfl rfl rfl)) ?_
  refine RJ.sPut x [] rfl rfl (.inr rfl) Tryd.underlying98 rfl rfl rfl (gget_same _ _ _) ?_
  refine RJ.op rfl rfl (eff_move (v := .t _) rfl rfl rfl) ?_
  refine RJ.op rfl rfl (eff_assign (v := .t _) rfl rfl rfl) ?_
  refine RJ.nil ?_
  show AWJ _ _ _ _ _ _ _ _
  refine awj_freezeS 5 (l0 := ins [] x) [x] rfl (gget_same _ _ _) (by simp [ins]) ?_
  refine awj_seq ?_
  refine awj_seq ?_
  refine awj_rj rfl ?_
  refine RJ.op rfl rfl (eff_move (v := .t _) rfl rfl rfl) ?_
  refine RJ.op rfl rfl (eff_lenM rfl rfl te62 rfl) ?_
  refine RJ.op rfl rfl (eff_move (v := .t _) rfl rfl rfl) ?_
  refine RJ.nil ?_
  refine awj_block ?_
  refine awj_loopW (fun m s g => ∃ (i : Nat) (cur : List Rep), (i ≤ l.length) ∧ (cur = reachF x (l.take i)) ∧ m = l.length - i ∧ s = ⟨22, [(5, .t (mset cur)), (11, .t (.sl (l.map encF) false)), (12, .t (encI l.length)), (13, .t (encI (i : Nat))), (23, .t deT)], []⟩) (_) (⟨_, weak_keep (n := 22) (fr' := [(5, .t (mset ([x]))), (11, .t (.sl (l.map encF) false)), (12, .t (encI l.length)), (13, .t (encI (0 : Nat))), (23, .t deT)]) (st' := []) ⟨rfl, rfl, rfl, rfl, rfl, rfl, rfl, rfl, rfl, rfl, trivial⟩ trivial, 0, [x], (by omega), (by rfl), rfl, rfl⟩) ?_
  rintro m s g ⟨i, cur, hi, ho, rfl, rfl⟩
  refine awj_seq ?_
  refine awj_rj rfl ?_
  refine RJ.op rfl rfl (eff_iop rfl rfl rfl rfl rfl) ?_
  refine RJ.nil ?_
  refine awj_seq ?_
  refine awj_cond rfl (fun h1 => ?_) (fun h1 => ?_)
  · try simp only [cl] at h1
    refine awj_skip ?_
    refine awj_seq ?_
    refine awj_block ?_
    refine awj_seq ?_
    refine awj_rj rfl ?_
    refine RJ.op rfl rfl (eff_indexM rfl rfl te62 rfl rfl rfl (by first | assumption | exact List.getElem?_eq_getElem (by omega)) rfl (by decide)) ?_
    refine RJ.op rfl rfl (eff_loadW rfl rfl ti45 rfl rfl rfl) ?_
    refine RJ.new rfl rfl (eff_allocK (k := 5) (id := 7) rfl rfl tz45 rfl rfl) ?_
    refine RJ.store rfl rfl (eff_storeW (v := .t _) (els := [_]) (els' := [_]) rfl rfl ti45 rfl rfl rfl rfl rfl rfl rfl rfl rfl) ?_
    refine RJ.nil ?_
    refine awj_rj rfl ?_
    refine RJ.op rfl rfl (eff_move (v := .t _) rfl rfl rfl) ?_
    refine RJ.op rfl rfl (eff_load rfl rfl ti45 rfl (.whole rfl rfl rfl rfl rfl rfl)) ?_
    refine RJ.op rfl rfl (eff_callXT (spread_ret cur _ (by rw [ho]; exact srt_reach _ _) (by rw [ho]; exact reach_hp hx _)) co71 rfl rfl rfl ⟨rfl, trivial⟩ rfl) ?_
    refine RJ.op rfl rfl (eff_assign (v := .t _) rfl rfl rfl) ?_
    refine RJ.nil ?_
    refine awj_rj rfl ?_
    refine RJ.op rfl rfl (eff_iop rfl rfl rfl rfl (iadd (by omega))) ?_
    refine RJ.op rfl rfl (eff_move (v := .t _) rfl rfl rfl) ?_
    refine RJ.nil ?_
    refine ⟨_, ?_, _, weak_keep (n := 22) (fr' := [(5, .t (mset (stepF cur (l[i]'(by omega))))), (11, .t (.sl (l.map encF) false)), (12, .t (encI l.length)), (13, .t (encI ((i + 1) : Nat))), (23, .t deT)]) (st' := []) ⟨rfl, rfl, rfl, rfl, rfl, rfl, rfl, rfl, rfl, rfl, trivial⟩ trivial, i + 1, stepF cur (l[i]'(by omega)), (by omega), (by rw [reachF_take (by omega), ho]), rfl, rfl⟩
    omega
  · try simp only [cl] at h1
    refine awj_exit ?_
    refine awj_seq ?_
    refine awj_rj rfl ?_
    refine RJ.op rfl rfl (eff_move (v := .t _) rfl rfl rfl) ?_
    refine RJ.op rfl rfl (eff_assign (v := .t _) rfl rfl rfl) ?_
    refine RJ.nil ?_
    refine awj_ret ?_
    have hi2 : i = l.length := by omega
    subst hi2
    rw [List.take_length] at ho
    rw [← ho]
    exact ⟨Or.inr rfl, [_], ⟨.tmp (.t _), trivial⟩, .refl _⟩

end Go.Tv.C36

end
section
open Go Go.Tv Go.Proofs
namespace Go.Tv.C36
set_option maxRecDepth 20000
set_option maxHeartbeats 2000000
set_option linter.unusedSimpArgs false
set_option linter.unusedVariables false
theorem cloneO_retG (l : List Frm) (g : Nat) (hl : l.length ≤ 100000) (h0 : 0 < l.length) : RetG Tryd.prog 78 [(0, some ⟨5, 45, g, (l.map encF).map .t⟩)] [.own 0 g 0 l.length] [(0, some ⟨5, 45, g + 1, (l.map encF).map .t⟩), (5, some ⟨5, 45, 1, (l.map encF).map .t⟩)] (.own 5 1 0 l.length) := by
  refine retG_of_awp Tryd.func78 rfl (Nat.le_of_ble_eq_true rfl) ?_
  refine awp_seq ?_
  refine awp_rw rfl ?_
  refine asT ?_
  refine RW.nil ?_
  refine awp_seq ?_
  refine awp_seq ?_
  refine awp_rw rfl ?_
  refine mvO ?_
  refine RW.op rfl rfl (eff_ownNotNil rfl rfl te62 rfl rfl rfl h0) ?_
  refine RW.nil ?_
  refine awp_cond rfl (fun h => nomatch h) (fun _ => ?_)
  refine awp_skip ?_
  refine awp_seq ?_
  refine awp_rw rfl ?_
  refine RW.new rfl rfl (eff_buildSliceL (id := 5) (els := []) rfl rfl te62 tz45 rfl (by decide) (by decide) rfl rfl rfl rfl) ?_
  refine mvO ?_
  refine RW.new rfl rfl (eff_appendAny (id := 5) rfl rfl ta62 rfl rfl rfl rfl rfl rfl (srcOwn' (ys := (l.map encF).map .t) rfl rfl rfl rfl (by simp) (by rw [List.take_of_length_le (by simp)]; rfl)) (by simp; omega) (by simp; omega)) ?_
  refine asO ?_
  refine RW.nil ?_
  refine awp_ret ?_
  refine ⟨Or.inr rfl, [_], [.own 5 1 0 l.length], ⟨.tmp rfl, trivial⟩, rfl, Weak.trans (weak_raise (id := 0) (g + 1) rfl (by omega)) ?_, rfl⟩
  exact weak_keep ⟨(by show AV.own 5 _ 0 _ = AV.own 5 1 0 l.length; congr 1; simp), rfl, trivial⟩ ⟨rfl, okE_t, rfl, okE_t, trivial⟩

theorem ownO_retG (l : List Frm) (g : Nat) (hl : l.length ≤ 100000) (h0 : 0 < l.length) (hb : ∀ f, f ∈ l → f.body.length ≤ 1000000) : RetG Tryd.prog 72 [(0, some ⟨5, 45, g, (l.map encF).map .t⟩)] [.own 0 g 0 l.length] [(0, some ⟨5, 45, g + 1, (l.map encF).map .t⟩), (5, some ⟨5, 45, 1, (l.map encF).map .t⟩)] (.own 5 1 0 l.length) := by
  refine retG_of_awp Tryd.func72 rfl (Nat.le_of_ble_eq_true rfl) ?_
  refine awp_seq ?_
  refine awp_rw rfl ?_
  refine asT ?_
  refine RW.nil ?_
  refine awp_seq ?_
  refine awp_rw rfl ?_
  refine mvO ?_
  refine RW.new2 rfl rfl (eff_callG (cloneO_retG l g hl h0) co78 (fun id => id) rfl rfl rfl ⟨.own _ _ _ _ rfl rfl, trivial⟩ (.own _ _ _ _ rfl rfl) rfl ⟨⟨rfl, treeEls_t, ⟨_, rfl, Nat.lt_succ_self _⟩⟩, trivial⟩ ⟨⟨treeEls_t, .inl rfl⟩, ⟨treeEls_t, .inr rfl⟩, trivial⟩) ?_
  refine asO ?_
  refine RW.nil ?_
  refine awp_seq ?_
  refine awp_seq ?_
  refine awp_rw rfl ?_
  refine mvO ?_
  refine RW.op rfl rfl (eff_len rfl rfl te62 rfl rfl rfl) ?_
  refine mvT ?_
  refine RW.nil ?_
  refine awp_block ?_
  refine awp_loopW (fun m s => ∃ (i : Nat), (i ≤ l.length) ∧ m = l.length - i ∧ s = ⟨23, [(0, .own 5 1 0 l.length), (7, .own 5 1 0 l.length), (8, .t (encI l.length)), (9, .t (encI (i : Nat)))], [(0, some ⟨5, 45, g + 1, (l.map encF).map .t⟩), (5, some ⟨5, 45, 1, (l.map encF).map .t⟩)]⟩) (_) (⟨_, weak_keep (n := 23) (fr' := [(0, .own 5 1 0 l.length), (7, .own 5 1 0 l.length), (8, .t (encI l.length)), (9, .t (encI (0 : Nat)))]) (st' := [(0, some ⟨5, 45, g + 1, (l.map encF).map .t⟩), (5, some ⟨5, 45, 1, (l.map encF).map .t⟩)]) ⟨rfl, rfl, rfl, rfl, rfl, rfl, rfl, rfl, trivial⟩ ⟨rfl, okE_t, rfl, okE_t, trivial⟩, 0, (by omega), rfl, rfl⟩) ?_
  rintro m s ⟨i, hi, rfl, rfl⟩
  refine awp_seq ?_
  refine awp_rw rfl ?_
  refine ioT ?_
  refine RW.nil ?_
  refine awp_seq ?_
  refine awp_cond rfl (fun h1 => ?_) (fun h1 => ?_)
  · try simp only [cl] at h1
    refine awp_skip ?_
    refine awp_seq ?_
    refine awp_block ?_
    refine awp_seq ?_
    refine awp_rw rfl ?_
    have hil : i < l.length := by omega
    have hbl := hb _ (List.getElem_mem hil)
    refine mvT ?_
    refine RW.op rfl rfl (eff_indexAddr rfl rfl te62 rfl rfl rfl rfl rfl rfl (by omega)) ?_
    refine RW.op rfl rfl (eff_load (y := .t (encF (l[i]'hil))) rfl rfl ti45 rfl (.whole rfl rfl (by rw [Nat.zero_add]; exact elF hil) rfl rfl rfl)) ?_
    refine RW.new rfl rfl (eff_allocK (k := 5) (id := 4) rfl rfl tz45 rfl rfl) ?_
    refine asT ?_
    refine RW.store rfl rfl (eff_storeW (v := .t _) (els := [_]) (els' := [_]) rfl rfl ti45 rfl rfl rfl rfl rfl rfl rfl rfl rfl) ?_
    refine RW.nil ?_
    refine awp_rw rfl ?_
    refine mvO ?_
    refine mvT ?_
    refine faT tf45_3 ?_
    refine l1T ti42 rfl rfl rfl rfl rfl (.one rfl rfl rfl rfl) ?_
    refine RW.op rfl rfl (eff_callT (cloneB_ret _ hbl) co79 rfl rfl rfl rfl) ?_
    refine RW.op rfl rfl (eff_indexAddr rfl rfl te62 rfl rfl rfl rfl rfl rfl (by omega)) ?_
    refine faT tf45_3 ?_
    refine RW.store rfl rfl (eff_storeS (v := .t _) (el := .t (encF (l[i]'hil))) (ys := [encI (l[i]'hil).seq, encI (l[i]'hil).key, .bool (l[i]'hil).unlock, .sl ((l[i]'hil).body.map encBy) false, .int .u64 (l[i]'hil).tag]) (els := (l.map encF).map .t) (els' := (l.map encF).map .t) rfl rfl ti42 rfl rfl rfl rfl rfl rfl (by rw [Nat.zero_add]; exact elF hil) (Nat.le_of_ble_eq_true rfl) rfl (by rw [Nat.zero_add]; exact setF_same hil)) ?_
    refine RW.nil ?_
    refine awp_rw rfl ?_
    refine RW.op rfl rfl (eff_iop rfl rfl rfl rfl (iadd (by omega))) ?_
    refine mvT ?_
    refine RW.nil ?_
    refine ⟨_, ?_, _, weak_keep (n := 23) (fr' := [(0, .own 5 1 0 l.length), (7, .own 5 1 0 l.length), (8, .t (encI l.length)), (9, .t (encI ((i + 1) : Nat)))]) (st' := [(0, some ⟨5, 45, g + 1, (l.map encF).map .t⟩), (5, some ⟨5, 45, 1, (l.map encF).map .t⟩)]) ⟨rfl, rfl, rfl, rfl, rfl, rfl, rfl, rfl, trivial⟩ ⟨rfl, okE_t, rfl, okE_t, trivial⟩, i + 1, (by omega), rfl, rfl⟩
    omega
  · try simp only [cl] at h1
    refine awp_exit ?_
    refine awp_seq ?_
    refine awp_rw rfl ?_
    refine mvO ?_
    refine asO ?_
    refine RW.nil ?_
    refine awp_ret ?_
    exact ⟨Or.inr rfl, [_], [.own 5 1 0 l.length], ⟨.tmp rfl, trivial⟩, rfl, weak_keep ⟨rfl, rfl, trivial⟩ ⟨rfl, okE_t, rfl, okE_t, trivial⟩, rfl⟩

theorem ownO (l : List Frm) (g n : Nat) (E : List AV) (hn : n = l.length) (hE : E = (l.map encF).map .t) (hl : l.length ≤ 100000) (h0 : 0 < l.length) (hb : ∀ f, f ∈ l → f.body.length ≤ 1000000) :
    RetG Tryd.prog 72 [(0, some ⟨5, 45, g, E⟩)] [.own 0 g 0 n] [(0, some ⟨5, 45, g + 1, E⟩), (5, some ⟨5, 45, 1, (l.map encF).map .t⟩)] (.own 5 1 0 l.length) := by
  subst hn hE; exact ownO_retG l g hl h0 hb
theorem treeEls_app {xs : List Tr} {y : Tr} {k g : Nat} {ty : TypeId} : treeEls ⟨k, ty, g, xs.map .t ++ [.t y]⟩ := by
  intro x hx
  rcases List.mem_append.1 hx with h | h
  · obtain ⟨z, _, rfl⟩ := List.mem_map.1 h; exact ⟨z, rfl⟩
  · rw [List.mem_singleton.1 h]; exact ⟨y, rfl⟩

theorem tsend_ret (t : Twn) (f : Frm) (hs : Srt t.poss) (hp : ∀ y, y ∈ t.poss → HP y) (hl : t.poss.length ≤ 1000) (hsl : t.sent.length ≤ 1000) (hb : ∀ x, x ∈ t.sent → x.body.length ≤ 1000000) (hbf : f.body.length ≤ 1000000) : RetT Tryd.prog 63 [(1, deT)] [encT t, encF f] (.tup [encT (send t f).1, encI (send t f).2]) := by
  refine retT_of_awr Tryd.func63 rfl (Nat.le_of_ble_eq_true rfl) ?_
  intro F0 w0
  refine awj_seq ?_
  refine awj_rj rfl ?_
  refine RJ.new rfl rfl (eff_boxK (v := .t _) (k := 2) (id := 2) rfl rfl rfl rfl rfl rfl) ?_
  refine RJ.new rfl rfl (eff_boxK (v := .t _) (k := 5) (id := 3) rfl rfl rfl rfl rfl rfl) ?_
  refine RJ.new rfl rfl (eff_allocK (k := 2) (id := 4) rfl rfl tz64 rfl rfl) ?_
  refine RJ.op rfl rfl (eff_assign (v := .t _) rfl rfl rfl) ?_
  refine RJ.nil ?_
  refine awj_seq ?_
  refine awj_seq ?_
  refine awj_rj rfl ?_
  refine RJ.op rfl rfl (eff_fieldAddr rfl rfl tf64_0 (by decide) rfl rfl rfl (Nat.le_of_ble_eq_true rfl)) ?_
  refine RJ.op rfl rfl (eff_load (y := .t _) rfl rfl ti62 rfl (.one rfl rfl rfl rfl)) ?_
  refine RJ.op rfl rfl (eff_lenM rfl rfl te62 rfl) ?_
  refine RJ.op rfl rfl (eff_assign (v := .t _) rfl rfl rfl) ?_
  refine RJ.nil ?_
  refine awj_seq ?_
  by_cases hc1 : 0 < t.sent.length
  · refine awj_rd [(some 13, []), (some 14, []), (some 15, []), (some 16, []), (some 17, []), (some 18, []), (some 19, []), (some 20, []), (some 21, []), (some 22, []), (some 23, []), (some 24, []), (some 25, []), (some 26, [])] [[], [0], [0, 1], [0, 1, 2], [0, 1, 2, 3], [0, 1, 2], [0, 1, 2, 5], [0, 1, 2, 3, 4, 5, 6], [0, 1, 2, 3, 4, 5, 6, 7], [0, 1, 2, 3, 4, 5, 6, 7, 8], [0, 1, 2], [0, 1, 2, 10], [0, 1, 2, 3, 4, 5, 6, 7, 8, 9, 10, 11], [0, 1, 2, 3, 4, 5, 6, 7, 8, 9, 10, 11, 12]] tm rfl rfl rfl rfl ?_
    refine mvD ?_
    refine RD.op rfl rfl rfl (eff_iop (r := .bool true) rfl rfl rfl rfl (by show some (Tr.bool (decide _)) = _; rw [decide_eq_true (by omega)])) ?_
    refine mvD ?_
    refine RD.gop rfl rfl rfl rfl rfl rfl rfl (eff_fieldAddr rfl rfl tf64_0 (by decide) rfl rfl rfl (Nat.le_of_ble_eq_true rfl)) ?_
    refine RD.gop rfl rfl rfl rfl rfl rfl rfl (eff_load (y := .t _) rfl rfl ti62 rfl (.one rfl rfl rfl rfl)) ?_
    refine RD.gop rfl rfl rfl rfl rfl rfl rfl (eff_move (v := .t _) rfl rfl rfl) ?_
    refine RD.gop rfl rfl rfl rfl rfl rfl rfl (eff_iop rfl rfl rfl rfl (isub (by omega))) ?_
    refine RD.gop rfl rfl rfl rfl rfl rfl rfl (eff_indexM (i := t.sent.length - 1) rfl rfl te62 rfl rfl (by first | rfl | omega) (by exact List.getElem?_eq_getElem (by omega)) rfl (by decide)) ?_
    refine RD.gop rfl rfl rfl rfl rfl rfl rfl (eff_fieldAddrT rfl rfl tf45_1 (by decide) rfl) ?_
    refine RD.gop rfl rfl rfl rfl rfl rfl rfl (eff_loadT1 rfl rfl ti3 rfl rfl) ?_
    refine RD.gop rfl rfl rfl rfl rfl rfl rfl (eff_fieldAddr rfl rfl tf45_1 (by decide) rfl rfl rfl (Nat.le_of_ble_eq_true rfl)) ?_
    refine RD.gop rfl rfl rfl rfl rfl rfl rfl (eff_load (y := .t _) rfl rfl ti3 rfl (.one rfl rfl rfl rfl)) ?_
    refine RD.gop rfl rfl rfl rfl rfl rfl rfl (eff_iop rfl rfl rfl rfl rfl) ?_
    refine RD.op rfl rfl rfl (eff_pick (v := .t _) rfl rfl rfl rfl) ?_
    refine RD.nil ?_
    refine awj_cond rfl (fun h2 => ?_) (fun h2 => ?_)
    · try simp only [cl] at h2
      refine awj_seq ?_
      refine awj_rj rfl ?_
      refine RJ.op rfl rfl (eff_buildT (ys := [_, _]) rfl rfl tz64 tg64 rfl) ?_
      refine RJ.store rfl rfl (eff_storeW (v := .t _) (els := [_]) (els' := [_]) rfl rfl ti64 rfl rfl rfl rfl rfl rfl rfl rfl rfl) ?_
      refine RJ.op rfl rfl (eff_assign (v := .t _) rfl rfl rfl) ?_
      refine RJ.nil ?_
      refine awj_ret ?_
      first
        | (rw [send_late (by first | (rw [late_at (by omega)]; exact decide_eq_true (by first | assumption | omega)) | (exfalso; omega))]
           exact ⟨Or.inr rfl, [_, _], ⟨.cell rfl ti64 (.whole rfl rfl rfl rfl rfl rfl) (.t _), .tmp (.t _), trivial⟩, (by repeat' first | exact trivial | exact Wk.refl _ | exact Wk.sl _ | refine And.intro ?_ ?_ | refine Wk.tupP ?_ | refine Wk.aggP ?_)⟩)
        | (rw [send_many (by first | exact late_nil (by omega) | (rw [late_at (by omega)]; exact decide_eq_false (by first | assumption | omega))) (by omega)]
           exact ⟨Or.inr rfl, [_, _], ⟨.cell rfl ti64 (.whole rfl rfl rfl rfl rfl rfl) (.t _), .tmp (.t _), trivial⟩, (by repeat' first | exact trivial | exact Wk.refl _ | exact Wk.sl _ | refine And.intro ?_ ?_ | refine Wk.tupP ?_ | refine Wk.aggP ?_)⟩)
        | (rw [send_ok (by first | exact late_nil (by omega) | (rw [late_at (by omega)]; exact decide_eq_false (by first | assumption | omega))) (by omega)]
           exact ⟨Or.inr rfl, [_, _], ⟨.cell rfl ti64 (.whole rfl rfl rfl rfl rfl rfl) (Res.aggP (xs := [_, _]) ⟨Res.ownT (xs := (t.sent ++ [f]).map encF) rfl rfl rfl (by simp), .t _, trivial⟩), .tmp (.t _), trivial⟩, .refl _⟩)
    · try simp only [cl] at h2
      refine awj_skip ?_
      refine awj_seq ?_
      refine awj_rj rfl ?_
      refine RJ.sMake rfl rfl rfl rfl (fun rO hrO => ?_)
      refine RJ.op rfl rfl (eff_assign (v := .t _) rfl rfl rfl) ?_
      refine RJ.nil ?_
      refine awj_seq ?_
      refine awj_seq ?_
      refine awj_rj rfl ?_
      refine RJ.op rfl rfl (eff_fieldAddr rfl rfl tf64_1 (by decide) rfl rfl rfl (Nat.le_of_ble_eq_true rfl)) ?_
      refine RJ.op rfl rfl (eff_load (y := .t _) rfl rfl ti33 rfl (.one rfl rfl rfl rfl)) ?_
      refine RJ.op rfl rfl (eff_lenM rfl rfl te33 rfl) ?_
      refine RJ.op rfl rfl (eff_move (v := .t _) rfl rfl rfl) ?_
      refine RJ.nil ?_
      refine awj_block ?_
      refine awj_loopW (fun m s g => ∃ (i : Nat), (i ≤ t.poss.length) ∧ (gget g rO = some (mapO KR XU (setL (t.poss.take i)))) ∧ m = t.poss.length - i ∧ s = ⟨56, [(2, .ptr 2 0 0 0), (3, .ptr 3 0 0 0), (4, .ptr 4 0 0 0), (7, .t (.mp rO)), (30, .t (.sl (t.poss.map encR) false)), (31, .t (encI t.poss.length)), (32, .t (encI (i : Nat))), (57, .t deT)], [(2, some ⟨2, 64, 0, [.t (encT t)]⟩), (3, some ⟨5, 45, 0, [.t (encF f)]⟩), (4, some ⟨2, 64, 0, [.t z64]⟩)]⟩) (_) (⟨_, weak_keep (n := 56) (fr' := [(2, .ptr 2 0 0 0), (3, .ptr 3 0 0 0), (4, .ptr 4 0 0 0), (7, .t (.mp rO)), (30, .t (.sl (t.poss.map encR) false)), (31, .t (encI t.poss.length)), (32, .t (encI (0 : Nat))), (57, .t deT)]) (st' := [(2, some ⟨2, 64, 0, [.t (encT t)]⟩), (3, some ⟨5, 45, 0, [.t (encF f)]⟩), (4, some ⟨2, 64, 0, [.t z64]⟩)]) ⟨rfl, rfl, rfl, rfl, rfl, rfl, rfl, rfl, rfl, rfl, rfl, rfl, rfl, rfl, rfl, rfl, trivial⟩ ⟨rfl, okE_one rfl, rfl, okE_one rfl, rfl, okE_one rfl, trivial⟩, 0, (by omega), (by exact gget_same _ _ _), rfl, rfl⟩) ?_
      rintro m s g ⟨i, hi, hgO, rfl, rfl⟩
      refine awj_seq ?_
      refine awj_rj rfl ?_
      refine RJ.op rfl rfl (eff_iop rfl rfl rfl rfl rfl) ?_
      refine RJ.nil ?_
      refine awj_seq ?_
      refine awj_cond rfl (fun h3 => ?_) (fun h3 => ?_)
      · try simp only [cl] at h3
        refine awj_skip ?_
        refine awj_seq ?_
        refine awj_block ?_
        refine awj_seq ?_
        refine awj_rj rfl ?_
        refine RJ.op rfl rfl (eff_indexM rfl rfl te33 rfl rfl rfl (by first | assumption | exact List.getElem?_eq_getElem (by omega)) rfl (by decide)) ?_
        refine RJ.op rfl rfl (eff_loadW rfl rfl ti23 rfl rfl rfl) ?_
        refine RJ.new rfl rfl (eff_allocK (k := 4) (id := 9) rfl rfl tz23 rfl rfl) ?_
        refine RJ.store rfl rfl (eff_storeW (v := .t _) (els := [_]) (els' := [_]) rfl rfl ti23 rfl rfl rfl rfl rfl rfl rfl rfl rfl) ?_
        refine RJ.nil ?_
        refine awj_rj rfl ?_
        refine RJ.op rfl rfl (eff_move (v := .t _) rfl rfl rfl) ?_
        refine RJ.op rfl rfl (eff_load rfl rfl ti23 rfl (.whole rfl rfl rfl rfl rfl rfl)) ?_
        refine RJ.sPut (t.poss[i]'(by omega)) (t.poss.take i) rfl rfl (.inl rfl) Tryd.underlying98 rfl rfl rfl hgO ?_
        refine RJ.nil ?_
        refine awj_rj rfl ?_
        refine RJ.op rfl rfl (eff_iop rfl rfl rfl rfl (iadd (by omega))) ?_
        refine RJ.op rfl rfl (eff_move (v := .t _) rfl rfl rfl) ?_
        refine RJ.nil ?_
        refine ⟨_, ?_, _, weak_keep (n := 56) (fr' := [(2, .ptr 2 0 0 0), (3, .ptr 3 0 0 0), (4, .ptr 4 0 0 0), (7, .t (.mp rO)), (30, .t (.sl (t.poss.map encR) false)), (31, .t (encI t.poss.length)), (32, .t (encI ((i + 1) : Nat))), (57, .t deT)]) (st' := [(2, some ⟨2, 64, 0, [.t (encT t)]⟩), (3, some ⟨5, 45, 0, [.t (encF f)]⟩), (4, some ⟨2, 64, 0, [.t z64]⟩)]) ⟨rfl, rfl, rfl, rfl, rfl, rfl, rfl, rfl, rfl, rfl, rfl, rfl, rfl, rfl, rfl, rfl, trivial⟩ ⟨rfl, okE_one rfl, rfl, okE_one rfl, rfl, okE_one rfl, trivial⟩, i + 1, (by omega), (by rw [gget_same, ins_take (srt_nodup hs) (by omega)]), rfl, rfl⟩
        omega
      · try simp only [cl] at h3
        refine awj_exit ?_
        refine awj_seq ?_
        have hi2 : i = t.poss.length := by omega
        subst hi2
        rw [List.take_length] at hgO
        refine awj_freezeS 7 (l0 := t.poss) t.poss rfl hgO (.refl _) ?_
        have hfl := stepF_len t.poss f
        refine awj_rj rfl ?_
        refine RJ.op rfl rfl (eff_move (v := .t _) rfl rfl rfl) ?_
        refine RJ.op rfl rfl (eff_load rfl rfl ti45 rfl (.whole rfl rfl rfl rfl rfl rfl)) ?_
        refine RJ.op rfl rfl (eff_callXT (spread_ret t.poss f hs hp) co71 rfl rfl rfl ⟨rfl, trivial⟩ rfl) ?_
        refine RJ.op rfl rfl (eff_assign (v := .t _) rfl rfl rfl) ?_
        refine RJ.nil ?_
        refine awj_seq ?_
        refine awj_seq ?_
        refine awj_rj rfl ?_
        refine RJ.op rfl rfl (eff_move (v := .t _) rfl rfl rfl) ?_
        refine RJ.op rfl rfl (eff_lenS rfl rfl Tryd.underlying98 rfl) ?_
        refine RJ.op rfl rfl (eff_iop rfl rfl rfl rfl rfl) ?_
        refine RJ.nil ?_
        refine awj_cond rfl (fun h4 => ?_) (fun h4 => ?_)
        · try simp only [cl] at h4
          refine awj_seq ?_
          refine awj_rj rfl ?_
          refine RJ.op rfl rfl (eff_buildT (ys := [_, _]) rfl rfl tz64 tg64 rfl) ?_
          refine RJ.store rfl rfl (eff_storeW (v := .t _) (els := [_]) (els' := [_]) rfl rfl ti64 rfl rfl rfl rfl rfl rfl rfl rfl rfl) ?_
          refine RJ.op rfl rfl (eff_assign (v := .t _) rfl rfl rfl) ?_
          refine RJ.nil ?_
          refine awj_ret ?_
          first
            | (rw [send_late (by first | (rw [late_at (by omega)]; exact decide_eq_true (by first | assumption | omega)) | (exfalso; omega))]
               exact ⟨Or.inr rfl, [_, _], ⟨.cell rfl ti64 (.whole rfl rfl rfl rfl rfl rfl) (.t _), .tmp (.t _), trivial⟩, (by repeat' first | exact trivial | exact Wk.refl _ | exact Wk.sl _ | refine And.intro ?_ ?_ | refine Wk.tupP ?_ | refine Wk.aggP ?_)⟩)
            | (rw [send_many (by first | exact late_nil (by omega) | (rw [late_at (by omega)]; exact decide_eq_false (by first | assumption | omega))) (by omega)]
               exact ⟨Or.inr rfl, [_, _], ⟨.cell rfl ti64 (.whole rfl rfl rfl rfl rfl rfl) (.t _), .tmp (.t _), trivial⟩, (by repeat' first | exact trivial | exact Wk.refl _ | exact Wk.sl _ | refine And.intro ?_ ?_ | refine Wk.tupP ?_ | refine Wk.aggP ?_)⟩)
            | (rw [send_ok (by first | exact late_nil (by omega) | (rw [late_at (by omega)]; exact decide_eq_false (by first | assumption | omega))) (by omega)]
               exact ⟨Or.inr rfl, [_, _], ⟨.cell rfl ti64 (.whole rfl rfl rfl rfl rfl rfl) (Res.aggP (xs := [_, _]) ⟨Res.ownT (xs := (t.sent ++ [f]).map encF) rfl rfl rfl (by simp), .t _, trivial⟩), .tmp (.t _), trivial⟩, .refl _⟩)
        · try simp only [cl] at h4
          refine awj_skip ?_
          refine awj_seq ?_
          refine awj_rd [(some 46, []), (some 47, []), (some 48, []), (some 49, []), (some 50, [50]), (some 51, [51]), (some 52, [51, 56]), (some 53, []), (some 54, []), (some 55, []), (none, [4]), (some 5, [])] [[], [0], [0, 1], [], [3], [0, 1, 2, 3, 4], [0, 1, 2, 3, 4, 5], [], [0, 1, 2, 3, 4, 5, 6, 7], [0, 1, 2, 3, 4, 5, 6, 7, 8], [0, 1, 2, 3, 4, 5, 6, 7, 8, 9], [0, 1, 2, 3, 4, 5, 6, 7, 8, 9, 10]] tm rfl rfl rfl rfl ?_
          refine RD.op rfl rfl rfl (eff_fieldAddr rfl rfl tf64_0 (by decide) rfl rfl rfl (Nat.le_of_ble_eq_true rfl)) ?_
          refine RD.op rfl rfl rfl (eff_load (y := .t _) rfl rfl ti62 rfl (.one rfl rfl rfl rfl)) ?_
          refine RD.op rfl rfl rfl (eff_callT (clip_ret t.sent) co73 rfl rfl rfl rfl) ?_
          refine RD.op rfl rfl rfl (eff_load rfl rfl ti45 rfl (.whole rfl rfl rfl rfl rfl rfl)) ?_
          refine RD.new rfl rfl rfl (eff_buildSliceL (id := 50) (els := [.t (.agg [_, _, _, _, _])]) rfl rfl te62 tz45 rfl (by decide) (by decide) rfl rfl rfl rfl) ?_
          refine RD.new rfl rfl rfl (eff_appendNew (id := 51) (ys := [_]) rfl rfl ta62 rfl rfl (fun z hz => by obtain ⟨q, _, rfl⟩ := List.mem_map.1 hz; rfl) (srcOwn rfl rfl rfl rfl rfl rfl) (Nat.le_of_ble_eq_true rfl) (by simp; omega) (by simp; omega)) ?_
          refine RD.new2 rfl rfl rfl (eff_callG (ownO (t.sent ++ [f]) 0 _ _ (by simp) (by simp; rfl) (by simp; omega) (by simp) (by intro q hq; rcases List.mem_append.1 hq with h | h; exact hb q h; rw [List.mem_singleton.1 h]; exact hbf)) co72 (fun id => id + 51) rfl rfl rfl ⟨.own _ _ _ _ rfl rfl, trivial⟩ (.own _ _ _ _ rfl rfl) rfl ⟨⟨rfl, treeEls_app, ⟨_, rfl, Nat.lt_succ_self _⟩⟩, trivial⟩ ⟨⟨treeEls_app, .inl rfl⟩, ⟨treeEls_t, .inr rfl⟩, trivial⟩) ?_
          refine mvD ?_
          refine RD.op rfl rfl rfl (eff_callT (sorted_ret _ (srt_stepF hs) (by omega)) co74 rfl rfl rfl rfl) ?_
          refine RD.op rfl rfl rfl (eff_buildA (ys := [_, _]) rfl rfl tz64 tg64 rfl rfl) ?_
          refine RD.store rfl rfl rfl (eff_storeW (v := .agg _) (els := [_]) (els' := [_]) rfl rfl ti64 rfl rfl rfl rfl rfl rfl rfl rfl rfl) ?_
          refine RD.op rfl rfl rfl (eff_assign (v := .t _) rfl rfl rfl) ?_
          refine RD.nil ?_
          refine awj_ret ?_
          first
            | (rw [send_late (by first | (rw [late_at (by omega)]; exact decide_eq_true (by first | assumption | omega)) | (exfalso; omega))]
               exact ⟨Or.inr rfl, [_, _], ⟨.cell rfl ti64 (.whole rfl rfl rfl rfl rfl rfl) (.t _), .tmp (.t _), trivial⟩, (by repeat' first | exact trivial | exact Wk.refl _ | exact Wk.sl _ | refine And.intro ?_ ?_ | refine Wk.tupP ?_ | refine Wk.aggP ?_)⟩)
            | (rw [send_many (by first | exact late_nil (by omega) | (rw [late_at (by omega)]; exact decide_eq_false (by first | assumption | omega))) (by omega)]
               exact ⟨Or.inr rfl, [_, _], ⟨.cell rfl ti64 (.whole rfl rfl rfl rfl rfl rfl) (.t _), .tmp (.t _), trivial⟩, (by repeat' first | exact trivial | exact Wk.refl _ | exact Wk.sl _ | refine And.intro ?_ ?_ | refine Wk.tupP ?_ | refine Wk.aggP ?_)⟩)
            | (rw [send_ok (by first | exact late_nil (by omega) | (rw [late_at (by omega)]; exact decide_eq_false (by first | assumption | omega))) (by omega)]
               exact ⟨Or.inr rfl, [_, _], ⟨.cell rfl ti64 (.whole rfl rfl rfl rfl rfl rfl) (Res.aggP (xs := [_, _]) ⟨Res.ownT (xs := (t.sent ++ [f]).map encF) rfl rfl rfl (by simp), .t _, trivial⟩), .tmp (.t _), trivial⟩, .refl _⟩)
  · refine awj_rd [(some 13, []), (some 14, []), (some 15, []), (some 16, []), (some 17, []), (some 18, []), (some 19, []), (some 20, []), (some 21, []), (some 22, []), (some 23, []), (some 24, []), (some 25, []), (some 26, [])] [[], [0], [0, 1], [0, 1, 2], [0, 1, 2, 3], [0, 1, 2], [0, 1, 2, 5], [0, 1, 2, 3, 4, 5, 6], [0, 1, 2, 3, 4, 5, 6, 7], [0, 1, 2, 3, 4, 5, 6, 7, 8], [0, 1, 2], [0, 1, 2, 10], [0, 1, 2, 3, 4, 5, 6, 7, 8, 9, 10, 11], [0, 1, 2, 3, 4, 5, 6, 7, 8, 9, 10, 11, 12]] tm rfl rfl rfl rfl ?_
    refine mvD ?_
    refine RD.op rfl rfl rfl (eff_iop (r := .bool false) rfl rfl rfl rfl (by show some (Tr.bool (decide _)) = _; rw [decide_eq_false (by omega)])) ?_
    refine mvD ?_
    refine gkD ?_
    refine gkD ?_
    refine gkD ?_
    refine gkD ?_
    refine gkD ?_
    refine gkD ?_
    refine gkD ?_
    refine gkD ?_
    refine gkD ?_
    refine gkD ?_
    refine RD.op rfl rfl rfl (eff_pick (v := .t _) rfl rfl rfl rfl) ?_
    refine RD.nil ?_
    refine awj_cond rfl (fun h => nomatch h) (fun _ => ?_)
    refine awj_skip ?_
    refine awj_seq ?_
    refine awj_rj rfl ?_
    refine RJ.sMake rfl rfl rfl rfl (fun rO hrO => ?_)
    refine RJ.op rfl rfl (eff_assign (v := .t _) rfl rfl rfl) ?_
    refine RJ.nil ?_
    refine awj_seq ?_
    refine awj_seq ?_
    refine awj_rj rfl ?_
    refine RJ.op rfl rfl (eff_fieldAddr rfl rfl tf64_1 (by decide) rfl rfl rfl (Nat.le_of_ble_eq_true rfl)) ?_
    refine RJ.op rfl rfl (eff_load (y := .t _) rfl rfl ti33 rfl (.one rfl rfl rfl rfl)) ?_
    refine RJ.op rfl rfl (eff_lenM rfl rfl te33 rfl) ?_
    refine RJ.op rfl rfl (eff_move (v := .t _) rfl rfl rfl) ?_
    refine RJ.nil ?_
    refine awj_block ?_
    refine awj_loopW (fun m s g => ∃ (i : Nat), (i ≤ t.poss.length) ∧ (gget g rO = some (mapO KR XU (setL (t.poss.take i)))) ∧ m = t.poss.length - i ∧ s = ⟨56, [(2, .ptr 2 0 0 0), (3, .ptr 3 0 0 0), (4, .ptr 4 0 0 0), (7, .t (.mp rO)), (30, .t (.sl (t.poss.map encR) false)), (31, .t (encI t.poss.length)), (32, .t (encI (i : Nat))), (57, .t deT)], [(2, some ⟨2, 64, 0, [.t (encT t)]⟩), (3, some ⟨5, 45, 0, [.t (encF f)]⟩), (4, some ⟨2, 64, 0, [.t z64]⟩)]⟩) (_) (⟨_, weak_keep (n := 56) (fr' := [(2, .ptr 2 0 0 0), (3, .ptr 3 0 0 0), (4, .ptr 4 0 0 0), (7, .t (.mp rO)), (30, .t (.sl (t.poss.map encR) false)), (31, .t (encI t.poss.length)), (32, .t (encI (0 : Nat))), (57, .t deT)]) (st' := [(2, some ⟨2, 64, 0, [.t (encT t)]⟩), (3, some ⟨5, 45, 0, [.t (encF f)]⟩), (4, some ⟨2, 64, 0, [.t z64]⟩)]) ⟨rfl, rfl, rfl, rfl, rfl, rfl, rfl, rfl, rfl, rfl, rfl, rfl, rfl, rfl, rfl, rfl, trivial⟩ ⟨rfl, okE_one rfl, rfl, okE_one rfl, rfl, okE_one rfl, trivial⟩, 0, (by omega), (by exact gget_same _ _ _), rfl, rfl⟩) ?_
    rintro m s g ⟨i, hi, hgO, rfl, rfl⟩
    refine awj_seq ?_
    refine awj_rj rfl ?_
    refine RJ.op rfl rfl (eff_iop rfl rfl rfl rfl rfl) ?_
    refine RJ.nil ?_
    refine awj_seq ?_
    refine awj_cond rfl (fun h5 => ?_) (fun h5 => ?_)
    · try simp only [cl] at h5
      refine awj_skip ?_
      refine awj_seq ?_
      refine awj_block ?_
      refine awj_seq ?_
      refine awj_rj rfl ?_
      refine RJ.op rfl rfl (eff_indexM rfl rfl te33 rfl rfl rfl (by first | assumption | exact List.getElem?_eq_getElem (by omega)) rfl (by decide)) ?_
      refine RJ.op rfl rfl (eff_loadW rfl rfl ti23 rfl rfl rfl) ?_
      refine RJ.new rfl rfl (eff_allocK (k := 4) (id := 9) rfl rfl tz23 rfl rfl) ?_
      refine RJ.store rfl rfl (eff_storeW (v := .t _) (els := [_]) (els' := [_]) rfl rfl ti23 rfl rfl rfl rfl rfl rfl rfl rfl rfl) ?_
      refine RJ.nil ?_
      refine awj_rj rfl ?_
      refine RJ.op rfl rfl (eff_move (v := .t _) rfl rfl rfl) ?_
      refine RJ.op rfl rfl (eff_load rfl rfl ti23 rfl (.whole rfl rfl rfl rfl rfl rfl)) ?_
      refine RJ.sPut (t.poss[i]'(by omega)) (t.poss.take i) rfl rfl (.inl rfl) Tryd.underlying98 rfl rfl rfl hgO ?_
      refine RJ.nil ?_
      refine awj_rj rfl ?_
      refine RJ.op rfl rfl (eff_iop rfl rfl rfl rfl (iadd (by omega))) ?_
      refine RJ.op rfl rfl (eff_move (v := .t _) rfl rfl rfl) ?_
      refine RJ.nil ?_
      refine ⟨_, ?_, _, weak_keep (n := 56) (fr' := [(2, .ptr 2 0 0 0), (3, .ptr 3 0 0 0), (4, .ptr 4 0 0 0), (7, .t (.mp rO)), (30, .t (.sl (t.poss.map encR) false)), (31, .t (encI t.poss.length)), (32, .t (encI ((i + 1) : Nat))), (57, .t deT)]) (st' := [(2, some ⟨2, 64, 0, [.t (encT t)]⟩), (3, some ⟨5, 45, 0, [.t (encF f)]⟩), (4, some ⟨2, 64, 0, [.t z64]⟩)]) ⟨rfl, rfl, rfl, rfl, rfl, rfl, rfl, rfl, rfl, rfl, rfl, rfl, rfl, rfl, rfl, rfl, trivial⟩ ⟨rfl, okE_one rfl, rfl, okE_one rfl, rfl, okE_one rfl, trivial⟩, i + 1, (by omega), (by rw [gget_same, ins_take (srt_nodup hs) (by omega)]), rfl, rfl⟩
      omega
    · try simp only [cl] at h5
      refine awj_exit ?_
      refine awj_seq ?_
      have hi2 : i = t.poss.length := by omega
      subst hi2
      rw [List.take_length] at hgO
      refine awj_freezeS 7 (l0 := t.poss) t.poss rfl hgO (.refl _) ?_
      have hfl := stepF_len t.poss f
      refine awj_rj rfl ?_
      refine RJ.op rfl rfl (eff_move (v := .t _) rfl rfl rfl) ?_
      refine RJ.op rfl rfl (eff_load rfl rfl ti45 rfl (.whole rfl rfl rfl rfl rfl rfl)) ?_
      refine RJ.op rfl rfl (eff_callXT (spread_ret t.poss f hs hp) co71 rfl rfl rfl ⟨rfl, trivial⟩ rfl) ?_
      refine RJ.op rfl rfl (eff_assign (v := .t _) rfl rfl rfl) ?_
      refine RJ.nil ?_
      refine awj_seq ?_
      refine awj_seq ?_
      refine awj_rj rfl ?_
      refine RJ.op rfl rfl (eff_move (v := .t _) rfl rfl rfl) ?_
      refine RJ.op rfl rfl (eff_lenS rfl rfl Tryd.underlying98 rfl) ?_
      refine RJ.op rfl rfl (eff_iop rfl rfl rfl rfl rfl) ?_
      refine RJ.nil ?_
      refine awj_cond rfl (fun h6 => ?_) (fun h6 => ?_)
      · try simp only [cl] at h6
        refine awj_seq ?_
        refine awj_rj rfl ?_
        refine RJ.op rfl rfl (eff_buildT (ys := [_, _]) rfl rfl tz64 tg64 rfl) ?_
        refine RJ.store rfl rfl (eff_storeW (v := .t _) (els := [_]) (els' := [_]) rfl rfl ti64 rfl rfl rfl rfl rfl rfl rfl rfl rfl) ?_
        refine RJ.op rfl rfl (eff_assign (v := .t _) rfl rfl rfl) ?_
        refine RJ.nil ?_
        refine awj_ret ?_
        first
          | (rw [send_late (by first | (rw [late_at (by omega)]; exact decide_eq_true (by first | assumption | omega)) | (exfalso; omega))]
             exact ⟨Or.inr rfl, [_, _], ⟨.cell rfl ti64 (.whole rfl rfl rfl rfl rfl rfl) (.t _), .tmp (.t _), trivial⟩, (by repeat' first | exact trivial | exact Wk.refl _ | exact Wk.sl _ | refine And.intro ?_ ?_ | refine Wk.tupP ?_ | refine Wk.aggP ?_)⟩)
          | (rw [send_many (by first | exact late_nil (by omega) | (rw [late_at (by omega)]; exact decide_eq_false (by first | assumption | omega))) (by omega)]
             exact ⟨Or.inr rfl, [_, _], ⟨.cell rfl ti64 (.whole rfl rfl rfl rfl rfl rfl) (.t _), .tmp (.t _), trivial⟩, (by repeat' first | exact trivial | exact Wk.refl _ | exact Wk.sl _ | refine And.intro ?_ ?_ | refine Wk.tupP ?_ | refine Wk.aggP ?_)⟩)
          | (rw [send_ok (by first | exact late_nil (by omega) | (rw [late_at (by omega)]; exact decide_eq_false (by first | assumption | omega))) (by omega)]
             exact ⟨Or.inr rfl, [_, _], ⟨.cell rfl ti64 (.whole rfl rfl rfl rfl rfl rfl) (Res.aggP (xs := [_, _]) ⟨Res.ownT (xs := (t.sent ++ [f]).map encF) rfl rfl rfl (by simp), .t _, trivial⟩), .tmp (.t _), trivial⟩, .refl _⟩)
      · try simp only [cl] at h6
        refine awj_skip ?_
        refine awj_seq ?_
        refine awj_rd [(some 46, []), (some 47, []), (some 48, []), (some 49, []), (some 50, [50]), (some 51, [51]), (some 52, [51, 56]), (some 53, []), (some 54, []), (some 55, []), (none, [4]), (some 5, [])] [[], [0], [0, 1], [], [3], [0, 1, 2, 3, 4], [0, 1, 2, 3, 4, 5], [], [0, 1, 2, 3, 4, 5, 6, 7], [0, 1, 2, 3, 4, 5, 6, 7, 8], [0, 1, 2, 3, 4, 5, 6, 7, 8, 9], [0, 1, 2, 3, 4, 5, 6, 7, 8, 9, 10]] tm rfl rfl rfl rfl ?_
        refine RD.op rfl rfl rfl (eff_fieldAddr rfl rfl tf64_0 (by decide) rfl rfl rfl (Nat.le_of_ble_eq_true rfl)) ?_
        refine RD.op rfl rfl rfl (eff_load (y := .t _) rfl rfl ti62 rfl (.one rfl rfl rfl rfl)) ?_
        refine RD.op rfl rfl rfl (eff_callT (clip_ret t.sent) co73 rfl rfl rfl rfl) ?_
        refine RD.op rfl rfl rfl (eff_load rfl rfl ti45 rfl (.whole rfl rfl rfl rfl rfl rfl)) ?_
        refine RD.new rfl rfl rfl (eff_buildSliceL (id := 50) (els := [.t (.agg [_, _, _, _, _])]) rfl rfl te62 tz45 rfl (by decide) (by decide) rfl rfl rfl rfl) ?_
        refine RD.new rfl rfl rfl (eff_appendNew (id := 51) (ys := [_]) rfl rfl ta62 rfl rfl (fun z hz => by obtain ⟨q, _, rfl⟩ := List.mem_map.1 hz; rfl) (srcOwn rfl rfl rfl rfl rfl rfl) (Nat.le_of_ble_eq_true rfl) (by simp; omega) (by simp; omega)) ?_
        refine RD.new2 rfl rfl rfl (eff_callG (ownO (t.sent ++ [f]) 0 _ _ (by simp) (by simp; rfl) (by simp; omega) (by simp) (by intro q hq; rcases List.mem_append.1 hq with h | h; exact hb q h; rw [List.mem_singleton.1 h]; exact hbf)) co72 (fun id => id + 51) rfl rfl rfl ⟨.own _ _ _ _ rfl rfl, trivial⟩ (.own _ _ _ _ rfl rfl) rfl ⟨⟨rfl, treeEls_app, ⟨_, rfl, Nat.lt_succ_self _⟩⟩, trivial⟩ ⟨⟨treeEls_app, .inl rfl⟩, ⟨treeEls_t, .inr rfl⟩, trivial⟩) ?_
        refine mvD ?_
        refine RD.op rfl rfl rfl (eff_callT (sorted_ret _ (srt_stepF hs) (by omega)) co74 rfl rfl rfl rfl) ?_
        refine RD.op rfl rfl rfl (eff_buildA (ys := [_, _]) rfl rfl tz64 tg64 rfl rfl) ?_
        refine RD.store rfl rfl rfl (eff_storeW (v := .agg _) (els := [_]) (els' := [_]) rfl rfl ti64 rfl rfl rfl rfl rfl rfl rfl rfl rfl) ?_
        refine RD.op rfl rfl rfl (eff_assign (v := .t _) rfl rfl rfl) ?_
        refine RD.nil ?_
        refine awj_ret ?_
        first
          | (rw [send_late (by first | (rw [late_at (by omega)]; exact decide_eq_true (by first | assumption | omega)) | (exfalso; omega))]
             exact ⟨Or.inr rfl, [_, _], ⟨.cell rfl ti64 (.whole rfl rfl rfl rfl rfl rfl) (.t _), .tmp (.t _), trivial⟩, (by repeat' first | exact trivial | exact Wk.refl _ | exact Wk.sl _ | refine And.intro ?_ ?_ | refine Wk.tupP ?_ | refine Wk.aggP ?_)⟩)
          | (rw [send_many (by first | exact late_nil (by omega) | (rw [late_at (by omega)]; exact decide_eq_false (by first | assumption | omega))) (by omega)]
             exact ⟨Or.inr rfl, [_, _], ⟨.cell rfl ti64 (.whole rfl rfl rfl rfl rfl rfl) (.t _), .tmp (.t _), trivial⟩, (by repeat' first | exact trivial | exact Wk.refl _ | exact Wk.sl _ | refine And.intro ?_ ?_ | refine Wk.tupP ?_ | refine Wk.aggP ?_)⟩)
          | (rw [send_ok (by first | exact late_nil (by omega) | (rw [late_at (by omega)]; exact decide_eq_false (by first | assumption | omega))) (by omega)]
             exact ⟨Or.inr rfl, [_, _], ⟨.cell rfl ti64 (.whole rfl rfl rfl rfl rfl rfl) (Res.aggP (xs := [_, _]) ⟨Res.ownT (xs := (t.sent ++ [f]).map encF) rfl rfl rfl (by simp), .t _, trivial⟩), .tmp (.t _), trivial⟩, .refl _⟩)

end Go.Tv.C36

end
section
open Go Go.Tv Go.Proofs
namespace Go.Tv.C36
set_option maxRecDepth 20000
set_option maxHeartbeats 2000000
set_option linter.unusedSimpArgs false
set_option linter.unusedVariables false
theorem thear_ret (t : Twn) (r : Rep) (hr : HP r) (hl : t.poss.length ≤ 1000) (hs : t.sent.length ≤ 1000) (hb : ∀ x, x ∈ t.sent → x.body.length ≤ 1000000) : RetT Tryd.prog 64 [(1, deT)] [encT t, encR r] (.tup [encT (hear t r).1, encI (hear t r).2]) := by
  refine retT_of_awp Tryd.func64 rfl (Nat.le_of_ble_eq_true rfl) ?_
  refine awp_seq ?_
  refine awp_rw rfl ?_
  refine RW.new rfl rfl (eff_boxK (v := .t _) (k := 2) (id := 2) rfl rfl rfl rfl rfl rfl) ?_
  refine RW.new rfl rfl (eff_boxK (v := .t _) (k := 4) (id := 3) rfl rfl rfl rfl rfl rfl) ?_
  refine RW.new rfl rfl (eff_allocK (k := 2) (id := 4) rfl rfl tz64 rfl rfl) ?_
  refine asT ?_
  refine RW.nil ?_
  refine awp_seq ?_
  refine awp_rw rfl ?_
  refine asT ?_
  refine RW.nil ?_
  show AWP _ _ _ _
  refine awp_weak (weak_adopt (d := 6) (id := 6) (k := 5) (ty := 45) rfl rfl) ?_
  refine awp_seq ?_
  refine awp_seq ?_
  refine awp_rw rfl ?_
  refine faT tf64_0 ?_
  refine l1T ti62 rfl rfl rfl rfl rfl (.one rfl rfl rfl rfl) ?_
  refine RW.op rfl rfl (eff_lenM rfl rfl te62 rfl) ?_
  refine mvT ?_
  refine RW.nil ?_
  refine awp_block ?_
  refine awp_loopW (fun m s => ∃ (i : Nat) (gn : Nat) (n : Nat) (els : List AV), (i ≤ t.sent.length) ∧ (n = (open_ (t.sent.take i) r).length) ∧ (els = ((open_ (t.sent.take i) r).map encF).map .t) ∧ m = t.sent.length - i ∧ s = ⟨57, [(2, .ptr 2 0 0 0), (3, .ptr 3 0 0 0), (4, .ptr 4 0 0 0), (6, .own 6 gn 0 n), (14, .t (.sl (t.sent.map encF) false)), (15, .t (encI t.sent.length)), (16, .t (encI (i : Nat))), (58, .t deT)], [(2, some ⟨2, 64, 0, [.t (encT t)]⟩), (3, some ⟨4, 23, 0, [.t (encR r)]⟩), (4, some ⟨2, 64, 0, [.t z64]⟩), (6, some ⟨5, 45, gn, els⟩)]⟩) (_) (⟨_, weak_keep (n := 57) (fr' := [(2, .ptr 2 0 0 0), (3, .ptr 3 0 0 0), (4, .ptr 4 0 0 0), (6, .own 6 0 0 0), (14, .t (.sl (t.sent.map encF) false)), (15, .t (encI t.sent.length)), (16, .t (encI (0 : Nat))), (58, .t deT)]) (st' := [(2, some ⟨2, 64, 0, [.t (encT t)]⟩), (3, some ⟨4, 23, 0, [.t (encR r)]⟩), (4, some ⟨2, 64, 0, [.t z64]⟩), (6, some ⟨5, 45, 0, ([])⟩)]) ⟨rfl, rfl, rfl, rfl, rfl, rfl, rfl, rfl, rfl, rfl, rfl, rfl, rfl, rfl, rfl, rfl, trivial⟩ ⟨rfl, okE_one rfl, rfl, okE_one rfl, rfl, okE_one rfl, rfl, (by first | exact okE_nil | (rw [he]; exact okE_t) | (rw [he]; intro x hx; simp only [List.mem_append, List.mem_map, List.mem_singleton] at hx; rcases hx with ⟨y, _, rfl⟩ | rfl <;> rfl)), trivial⟩, 0, 0, 0, [], (by omega), (by rfl), (by rfl), rfl, rfl⟩) ?_
  rintro m s ⟨i, gn, n, els, hi, hnn, he, rfl, rfl⟩
  have hol : (open_ (t.sent.take i) r).length ≤ t.sent.length := open_len _ _ _
  refine awp_seq ?_
  refine awp_rw rfl ?_
  refine ioT ?_
  refine RW.nil ?_
  refine awp_seq ?_
  refine awp_cond rfl (fun h1 => ?_) (fun h1 => ?_)
  · try simp only [cl] at h1
    refine awp_skip ?_
    refine awp_seq ?_
    refine awp_block ?_
    refine awp_seq ?_
    refine awp_rw rfl ?_
    refine RW.op rfl rfl (eff_indexM rfl rfl te62 rfl rfl rfl (by first | assumption | exact List.getElem?_eq_getElem (by omega)) rfl (by decide)) ?_
    refine RW.op rfl rfl (eff_loadW rfl rfl ti45 rfl rfl rfl) ?_
    refine RW.new rfl rfl (eff_allocK (k := 5) (id := 8) rfl rfl tz45 rfl rfl) ?_
    refine RW.store rfl rfl (eff_storeW (v := .t _) (els := [_]) (els' := [_]) rfl rfl ti45 rfl rfl rfl rfl rfl rfl rfl rfl rfl) ?_
    refine RW.nil ?_
    refine awp_seq ?_
    refine awp_rw rfl ?_
    refine faT tf45_1 ?_
    refine l1T ti3 rfl rfl rfl rfl rfl (.one rfl rfl rfl rfl) ?_
    refine faT tf23_2 ?_
    refine l1T ti3 rfl rfl rfl rfl rfl (.one rfl rfl rfl rfl) ?_
    refine ioT ?_
    refine RW.nil ?_
    refine awp_cond rfl (fun h2 => ?_) (fun h2 => ?_)
    · try simp only [cl] at h2
      refine awp_rw rfl ?_
      refine mvO ?_
      refine RW.op rfl rfl (eff_load rfl rfl ti45 rfl (.whole rfl rfl rfl rfl rfl rfl)) ?_
      refine RW.new rfl rfl (eff_buildSliceL (id := 27) (els := [.t (.agg [_, _, _, _, _])]) rfl rfl te62 tz45 rfl (by decide) (by decide) rfl rfl rfl rfl) ?_
      refine RW.new rfl rfl (eff_append (id := 6) (ys := [_]) rfl rfl ta62 rfl rfl rfl (by rw [he, hnn]; simp) rfl rfl (srcOwn rfl rfl rfl rfl rfl rfl) (by simp) (by simp; omega) (by simp; omega)) ?_
      refine asO ?_
      refine RW.nil ?_
      refine awp_rw rfl ?_
      refine RW.op rfl rfl (eff_iop rfl rfl rfl rfl (iadd (by omega))) ?_
      refine mvT ?_
      refine RW.nil ?_
      have hil : i < t.sent.length := by omega
      have ho : open_ (t.sent.take (i + 1)) r = (open_ (t.sent.take i) r) ++ [t.sent[i]'hil] := open_take hil (by omega)
      refine ⟨_, ?_, _, weak_keep (n := 57) (fr' := [(2, .ptr 2 0 0 0), (3, .ptr 3 0 0 0), (4, .ptr 4 0 0 0), (6, .own 6 _ 0 _), (14, .t (.sl (t.sent.map encF) false)), (15, .t (encI t.sent.length)), (16, .t (encI ((i + 1) : Nat))), (58, .t deT)]) (st' := [(2, some ⟨2, 64, 0, [.t (encT t)]⟩), (3, some ⟨4, 23, 0, [.t (encR r)]⟩), (4, some ⟨2, 64, 0, [.t z64]⟩), (6, some ⟨5, 45, _, _⟩)]) ⟨rfl, rfl, rfl, rfl, rfl, rfl, rfl, rfl, rfl, rfl, rfl, rfl, rfl, rfl, rfl, rfl, trivial⟩ ⟨rfl, okE_one rfl, rfl, okE_one rfl, rfl, okE_one rfl, rfl, (by first | exact okE_nil | (rw [he]; exact okE_t) | (rw [he]; intro x hx; simp only [List.mem_append, List.mem_map, List.mem_singleton] at hx; rcases hx with ⟨y, _, rfl⟩ | rfl <;> rfl)), trivial⟩, i + 1, _, _, _, (by omega), (by rw [ho]; simp [hnn]), (by rw [ho]; simp [he] <;> rfl), rfl, rfl⟩
      omega
    · try simp only [cl] at h2
      refine awp_skip ?_
      refine awp_rw rfl ?_
      refine RW.op rfl rfl (eff_iop rfl rfl rfl rfl (iadd (by omega))) ?_
      refine mvT ?_
      refine RW.nil ?_
      have hil : i < t.sent.length := by omega
      have ho : open_ (t.sent.take (i + 1)) r = (open_ (t.sent.take i) r) := open_skip hil (by omega)
      refine ⟨_, ?_, _, weak_keep (n := 57) (fr' := [(2, .ptr 2 0 0 0), (3, .ptr 3 0 0 0), (4, .ptr 4 0 0 0), (6, .own 6 _ 0 _), (14, .t (.sl (t.sent.map encF) false)), (15, .t (encI t.sent.length)), (16, .t (encI ((i + 1) : Nat))), (58, .t deT)]) (st' := [(2, some ⟨2, 64, 0, [.t (encT t)]⟩), (3, some ⟨4, 23, 0, [.t (encR r)]⟩), (4, some ⟨2, 64, 0, [.t z64]⟩), (6, some ⟨5, 45, _, _⟩)]) ⟨rfl, rfl, rfl, rfl, rfl, rfl, rfl, rfl, rfl, rfl, rfl, rfl, rfl, rfl, rfl, rfl, trivial⟩ ⟨rfl, okE_one rfl, rfl, okE_one rfl, rfl, okE_one rfl, rfl, (by first | exact okE_nil | (rw [he]; exact okE_t) | (rw [he]; intro x hx; simp only [List.mem_append, List.mem_map, List.mem_singleton] at hx; rcases hx with ⟨y, _, rfl⟩ | rfl <;> rfl)), trivial⟩, i + 1, _, _, _, (by omega), (by rw [ho]; simp [hnn]), (by rw [ho]; simp [he] <;> rfl), rfl, rfl⟩
      omega
  · try simp only [cl] at h1
    refine awp_exit ?_
    refine awp_seq ?_
    have hi2 : i = t.sent.length := by omega
    subst hi2
    rw [List.take_length] at hnn he
    refine awp_weak (weak_frz (n := 57) (fr' := [(2, .ptr 2 0 0 0), (3, .ptr 3 0 0 0), (4, .ptr 4 0 0 0), (6, .t (.sl ((open_ t.sent r).map encF) false)), (58, .t deT)]) (st' := [(2, some ⟨2, 64, 0, [.t (encT t)]⟩), (3, some ⟨4, 23, 0, [.t (encR r)]⟩), (4, some ⟨2, 64, 0, [.t z64]⟩)]) [(6, some ⟨5, 45, gn, els⟩)] ⟨rfl, trivial⟩ ⟨rfl, rfl, rfl, trivial⟩ ⟨wa_eq rfl rfl, wa_eq rfl rfl, wa_eq rfl rfl, .res (Res.ownT (xs := (open_ t.sent r).map encF) rfl rfl he (by rw [hnn]; simp)) (.refl _), wa_eq rfl rfl, trivial⟩ ⟨rfl, okE_one rfl, rfl, okE_one rfl, rfl, okE_one rfl, trivial⟩) ?_
    have hol2 : (open_ t.sent r).length ≤ t.sent.length := List.length_filter_le _ _
    refine awp_rw rfl ?_
    refine RW.op rfl rfl (eff_load rfl rfl ti23 rfl (.whole rfl rfl rfl rfl rfl rfl)) ?_
    refine mvT ?_
    refine RW.op rfl rfl (eff_callXT (reach_ret r (open_ t.sent r) hr (by omega)) co75 rfl rfl rfl ⟨rfl, trivial⟩ rfl) ?_
    refine asT ?_
    refine RW.nil ?_
    refine awp_seq ?_
    refine awp_rw rfl ?_
    refine asT ?_
    refine RW.nil ?_
    show AWP _ _ _ _
    refine awp_weak (weak_adopt (d := 10) (id := 10) (k := 4) (ty := 23) rfl rfl) ?_
    refine awp_seq ?_
    refine awp_seq ?_
    refine awp_rw rfl ?_
    refine faT tf64_1 ?_
    refine l1T ti33 rfl rfl rfl rfl rfl (.one rfl rfl rfl rfl) ?_
    refine RW.op rfl rfl (eff_lenM rfl rfl te33 rfl) ?_
    refine mvT ?_
    refine RW.nil ?_
    refine awp_block ?_
    refine awp_loopW (fun m s => ∃ (k : Nat) (gm : Nat) (n2 : Nat) (els2 : List AV), (k ≤ t.poss.length) ∧ (n2 = ((t.poss.take k).filter (fun x => decide (x ∈ reachF r (open_ t.sent r)))).length) ∧ (els2 = (((t.poss.take k).filter (fun x => decide (x ∈ reachF r (open_ t.sent r)))).map encR).map .t) ∧ m = t.poss.length - k ∧ s = ⟨57, [(2, .ptr 2 0 0 0), (4, .ptr 4 0 0 0), (9, .t (mset (reachF r (open_ t.sent r)))), (10, .own 10 gm 0 n2), (34, .t (.sl (t.poss.map encR) false)), (35, .t (encI t.poss.length)), (36, .t (encI (k : Nat))), (58, .t deT)], [(2, some ⟨2, 64, 0, [.t (encT t)]⟩), (4, some ⟨2, 64, 0, [.t z64]⟩), (10, some ⟨4, 23, gm, els2⟩)]⟩) (_) (⟨_, weak_keep (n := 57) (fr' := [(2, .ptr 2 0 0 0), (4, .ptr 4 0 0 0), (9, .t (mset (reachF r (open_ t.sent r)))), (10, .own 10 0 0 0), (34, .t (.sl (t.poss.map encR) false)), (35, .t (encI t.poss.length)), (36, .t (encI (0 : Nat))), (58, .t deT)]) (st' := [(2, some ⟨2, 64, 0, [.t (encT t)]⟩), (4, some ⟨2, 64, 0, [.t z64]⟩), (10, some ⟨4, 23, 0, ([])⟩)]) ⟨rfl, rfl, rfl, rfl, rfl, rfl, rfl, rfl, rfl, rfl, rfl, rfl, rfl, rfl, rfl, rfl, trivial⟩ ⟨rfl, okE_one rfl, rfl, okE_one rfl, rfl, (by first | exact okE_nil | (rw [he2]; exact okE_t) | (rw [he2]; intro x hx; simp only [List.mem_append, List.mem_map, List.mem_singleton] at hx; rcases hx with ⟨y, _, rfl⟩ | rfl <;> rfl)), trivial⟩, 0, 0, 0, [], (by omega), (by simp), (by simp), rfl, rfl⟩) ?_
    rintro m s ⟨k, gm, n2, els2, hk, hnn2, he2, rfl, rfl⟩
    have hfl0 : n2 ≤ k := by rw [hnn2]; exact Nat.le_trans (List.length_filter_le _ _) (by simp; omega)
    refine awp_seq ?_
    refine awp_rw rfl ?_
    refine ioT ?_
    refine RW.nil ?_
    refine awp_seq ?_
    refine awp_cond rfl (fun h3 => ?_) (fun h3 => ?_)
    · try simp only [cl] at h3
      refine awp_skip ?_
      refine awp_seq ?_
      refine awp_block ?_
      refine awp_seq ?_
      refine awp_rw rfl ?_
      refine RW.op rfl rfl (eff_indexM rfl rfl te33 rfl rfl rfl (by first | assumption | exact List.getElem?_eq_getElem (by omega)) rfl (by decide)) ?_
      refine RW.op rfl rfl (eff_loadW rfl rfl ti23 rfl rfl rfl) ?_
      refine RW.new rfl rfl (eff_allocK (k := 4) (id := 12) rfl rfl tz23 rfl rfl) ?_
      refine RW.store rfl rfl (eff_storeW (v := .t _) (els := [_]) (els' := [_]) rfl rfl ti23 rfl rfl rfl rfl rfl rfl rfl rfl rfl) ?_
      refine RW.nil ?_
      refine awp_seq ?_
      refine awp_rw rfl ?_
      refine mvT ?_
      refine RW.op rfl rfl (eff_load rfl rfl ti23 rfl (.whole rfl rfl rfl rfl rfl rfl)) ?_
      refine RW.op rfl rfl (eff_hasS (t.poss[k]'(by omega)) (srt_nodup (srt_reach r _)) Tryd.underlying98 tz4 rfl rfl rfl rfl) ?_
      refine RW.nil ?_
      refine awp_cond rfl (fun h4 => ?_) (fun h4 => ?_)
      · try simp only [cl] at h4
        refine awp_rw rfl ?_
        refine mvO ?_
        refine RW.op rfl rfl (eff_load rfl rfl ti23 rfl (.whole rfl rfl rfl rfl rfl rfl)) ?_
        refine RW.new rfl rfl (eff_buildSliceL (id := 45) (els := [.t (.agg [_, _, _, _])]) rfl rfl te33 tz23 rfl (by decide) (by decide) rfl rfl rfl rfl) ?_
        refine RW.new rfl rfl (eff_append (id := 10) (ys := [_]) rfl rfl ta33 rfl rfl rfl (by rw [he2, hnn2]; simp) rfl rfl (srcOwn rfl rfl rfl rfl rfl rfl) (by simp) (by simp; omega) (by simp; omega)) ?_
        refine asO ?_
        refine RW.nil ?_
        refine awp_rw rfl ?_
        refine RW.op rfl rfl (eff_iop rfl rfl rfl rfl (iadd (by omega))) ?_
        refine mvT ?_
        refine RW.nil ?_
        have hft : (t.poss.take (k + 1)).filter (fun x => decide (x ∈ reachF r (open_ t.sent r))) = _ := (left_take (by omega)).trans (congrArg _ (by first | exact if_pos (by assumption) | exact if_neg (by assumption)))
        refine ⟨_, ?_, _, weak_keep (n := 57) (fr' := [(2, .ptr 2 0 0 0), (4, .ptr 4 0 0 0), (9, .t (mset (reachF r (open_ t.sent r)))), (10, .own 10 _ 0 _), (34, .t (.sl (t.poss.map encR) false)), (35, .t (encI t.poss.length)), (36, .t (encI ((k + 1) : Nat))), (58, .t deT)]) (st' := [(2, some ⟨2, 64, 0, [.t (encT t)]⟩), (4, some ⟨2, 64, 0, [.t z64]⟩), (10, some ⟨4, 23, _, _⟩)]) ⟨rfl, rfl, rfl, rfl, rfl, rfl, rfl, rfl, rfl, rfl, rfl, rfl, rfl, rfl, rfl, rfl, trivial⟩ ⟨rfl, okE_one rfl, rfl, okE_one rfl, rfl, (by first | exact okE_nil | (rw [he2]; exact okE_t) | (rw [he2]; intro x hx; simp only [List.mem_append, List.mem_map, List.mem_singleton] at hx; rcases hx with ⟨y, _, rfl⟩ | rfl <;> rfl)), trivial⟩, k + 1, _, _, _, (by omega), (by rw [hft, hnn2]; simp), (by rw [hft, he2]; simp <;> rfl), rfl, rfl⟩
        omega
      · try simp only [cl] at h4
        refine awp_skip ?_
        refine awp_rw rfl ?_
        refine RW.op rfl rfl (eff_iop rfl rfl rfl rfl (iadd (by omega))) ?_
        refine mvT ?_
        refine RW.nil ?_
        have hft : (t.poss.take (k + 1)).filter (fun x => decide (x ∈ reachF r (open_ t.sent r))) = _ := (left_take (by omega)).trans (congrArg _ (by first | exact if_pos (by assumption) | exact if_neg (by assumption)))
        refine ⟨_, ?_, _, weak_keep (n := 57) (fr' := [(2, .ptr 2 0 0 0), (4, .ptr 4 0 0 0), (9, .t (mset (reachF r (open_ t.sent r)))), (10, .own 10 _ 0 _), (34, .t (.sl (t.poss.map encR) false)), (35, .t (encI t.poss.length)), (36, .t (encI ((k + 1) : Nat))), (58, .t deT)]) (st' := [(2, some ⟨2, 64, 0, [.t (encT t)]⟩), (4, some ⟨2, 64, 0, [.t z64]⟩), (10, some ⟨4, 23, _, _⟩)]) ⟨rfl, rfl, rfl, rfl, rfl, rfl, rfl, rfl, rfl, rfl, rfl, rfl, rfl, rfl, rfl, rfl, trivial⟩ ⟨rfl, okE_one rfl, rfl, okE_one rfl, rfl, (by first | exact okE_nil | (rw [he2]; exact okE_t) | (rw [he2]; intro x hx; simp only [List.mem_append, List.mem_map, List.mem_singleton] at hx; rcases hx with ⟨y, _, rfl⟩ | rfl <;> rfl)), trivial⟩, k + 1, _, _, _, (by omega), (by rw [hft, hnn2]; simp), (by rw [hft, he2]; simp <;> rfl), rfl, rfl⟩
        omega
    · try simp only [cl] at h3
      refine awp_exit ?_
      refine awp_seq ?_
      refine awp_seq ?_
      refine awp_rw rfl ?_
      refine mvO ?_
      refine RW.op rfl rfl (eff_len rfl rfl te33 rfl rfl rfl) ?_
      refine ioT ?_
      refine RW.nil ?_
      refine awp_cond rfl (fun h5 => ?_) (fun h5 => ?_)
      · try simp only [cl] at h5
        refine awp_seq ?_
        refine awp_rw rfl ?_
        refine RW.op rfl rfl (eff_buildT (ys := [_, _]) rfl rfl tz64 tg64 rfl) ?_
        refine RW.store rfl rfl (eff_storeW (v := .t _) (els := [_]) (els' := [_]) rfl rfl ti64 rfl rfl rfl rfl rfl rfl rfl rfl rfl) ?_
        refine asT ?_
        refine RW.nil ?_
        refine awp_ret ?_
        have hk2 : k = t.poss.length := by omega
        subst hk2
        have htl : t.poss.take t.poss.length = t.poss := List.take_length
        have hlf : left_ t r = (t.poss.take t.poss.length).filter (fun x => decide (x ∈ reachF r (open_ t.sent r))) := by rw [htl]; rfl
        first
          | (rw [hear_no (by rw [hlf]; omega)]
             exact ⟨Or.inr rfl, [_, _], ⟨.cell rfl ti64 (.whole rfl rfl rfl rfl rfl rfl) (.t _), .tmp (.t _), trivial⟩, (by repeat' first | exact trivial | exact Wk.refl _ | exact Wk.sl _ | refine And.intro ?_ ?_ | refine Wk.tupP ?_ | refine Wk.aggP ?_)⟩)
          | (rw [hear_ok (by rw [hlf]; omega), hlf]
             exact ⟨Or.inr rfl, [_, _], ⟨.cell rfl ti64 (.whole rfl rfl rfl rfl rfl rfl) (Res.aggP (xs := [_, _]) ⟨.t _, Res.ownT (xs := ((t.poss.take t.poss.length).filter (fun x => decide (x ∈ reachF r (open_ t.sent r)))).map encR) rfl rfl he2 (by rw [hnn2]; simp), trivial⟩), .tmp (.t _), trivial⟩, .refl _⟩)
      · try simp only [cl] at h5
        refine awp_skip ?_
        refine awp_seq ?_
        refine awp_rw rfl ?_
        refine faT tf64_0 ?_
        refine l1T ti62 rfl rfl rfl rfl rfl (.one rfl rfl rfl rfl) ?_
        refine RW.op rfl rfl (eff_callT (own_ret t.sent (by omega) hb) co72 rfl rfl rfl rfl) ?_
        refine mvO ?_
        refine RW.op rfl rfl (eff_buildA (ys := [_, _]) rfl rfl tz64 tg64 rfl rfl) ?_
        refine RW.store rfl rfl (eff_storeW (v := .agg _) (els := [_]) (els' := [_]) rfl rfl ti64 rfl rfl rfl rfl rfl rfl rfl rfl rfl) ?_
        refine asT ?_
        refine RW.nil ?_
        refine awp_ret ?_
        have hk2 : k = t.poss.length := by omega
        subst hk2
        have htl : t.poss.take t.poss.length = t.poss := List.take_length
        have hlf : left_ t r = (t.poss.take t.poss.length).filter (fun x => decide (x ∈ reachF r (open_ t.sent r))) := by rw [htl]; rfl
        first
          | (rw [hear_no (by rw [hlf]; omega)]
             exact ⟨Or.inr rfl, [_, _], ⟨.cell rfl ti64 (.whole rfl rfl rfl rfl rfl rfl) (.t _), .tmp (.t _), trivial⟩, (by repeat' first | exact trivial | exact Wk.refl _ | exact Wk.sl _ | refine And.intro ?_ ?_ | refine Wk.tupP ?_ | refine Wk.aggP ?_)⟩)
          | (rw [hear_ok (by rw [hlf]; omega), hlf]
             exact ⟨Or.inr rfl, [_, _], ⟨.cell rfl ti64 (.whole rfl rfl rfl rfl rfl rfl) (Res.aggP (xs := [_, _]) ⟨.t _, Res.ownT (xs := ((t.poss.take t.poss.length).filter (fun x => decide (x ∈ reachF r (open_ t.sent r)))).map encR) rfl rfl he2 (by rw [hnn2]; simp), trivial⟩), .tmp (.t _), trivial⟩, .refl _⟩)

end Go.Tv.C36

end
section
open Go Go.Tv Go.Proofs
namespace Go.Tv.C36
set_option maxRecDepth 20000
set_option maxHeartbeats 2000000
set_option linter.unusedSimpArgs false
set_option linter.unusedVariables false
theorem frames_ret (l : List Int) (mo : Nat) (hI : ∀ x, x ∈ l → I64 x) (hl : l.length ≤ 9223372036854775807) (hm : mo ≤ 20) : Ret Tryd.prog 36 [.sl (l.map encI) false, encI (mo : Nat)] (.sl ((frames l mo).map encF) false) := by
  refine ret_of_awp Tryd.func36 rfl (Nat.le_of_ble_eq_true rfl) ?_
  refine awp_seq ?_
  refine awp_rw rfl ?_
  refine asT ?_
  refine RW.nil ?_
  refine awp_seq ?_
  refine awp_rw rfl ?_
  refine asT ?_
  refine RW.nil ?_
  show AWP _ _ _ _
  refine awp_weak (weak_adopt (d := 5) (id := 5) (k := 5) (ty := 45) rfl rfl) ?_
  refine awp_seq ?_
  refine awp_rw rfl ?_
  refine asT ?_
  refine RW.nil ?_
  refine awp_seq ?_
  refine awp_seq ?_
  refine awp_rw rfl ?_
  refine asT ?_
  refine RW.nil ?_
  refine awp_block ?_
  refine awp_loopW (fun m s => ∃ (i : Nat) (gn : Nat) (n : Nat) (key : Int) (els : List AV), (i ≤ l.length) ∧ (i ≤ mo) ∧ (n = i) ∧ (key = keyAt l i) ∧ (els = (((List.range i).map (frameAt l)).map encF).map .t) ∧ m = l.length - i ∧ s = ⟨59, [(0, .t (.sl (l.map encI) false)), (1, .t (encI (mo : Nat))), (5, .own 5 gn 0 n), (6, .t (encI key)), (7, .t (encI (i : Nat)))], [(5, some ⟨5, 45, gn, els⟩)]⟩) (_) (⟨_, weak_keep (n := 59) (fr' := [(0, .t (.sl (l.map encI) false)), (1, .t (encI (mo : Nat))), (5, .own 5 0 0 0), (6, .t (encI 0)), (7, .t (encI (0 : Nat)))]) (st' := [(5, some ⟨5, 45, 0, ([])⟩)]) ⟨rfl, rfl, rfl, rfl, rfl, rfl, rfl, rfl, rfl, rfl, trivial⟩ ⟨rfl, (by first | exact okE_nil | (rw [he]; exact okE_t) | (rw [he]; intro x hx; simp only [List.mem_append, List.mem_map, List.mem_singleton] at hx; rcases hx with ⟨y, _, rfl⟩ | rfl <;> rfl)), trivial⟩, 0, 0, 0, 0, [], (by omega), (by omega), (by rfl), (by rfl), (by rfl), rfl, rfl⟩) ?_
  rintro m s ⟨i, gn, n, key, els, hi, him, hnn, hky, he, rfl, rfl⟩
  have hkr := keyAt_range l i
  rw [← hky] at hkr
  refine awp_seq ?_
  refine awp_seq ?_
  refine awp_rw rfl ?_
  refine mvT ?_
  refine mvT ?_
  refine RW.op rfl rfl (eff_lenM rfl rfl te26 rfl) ?_
  refine ioT ?_
  refine mvT ?_
  refine RW.split 14 rfl (fun h1 => ?_) (fun h1 => ?_)
  · try simp only [cl] at h1
    refine RW.gop rfl rfl rfl rfl rfl rfl (eff_move (v := .t _) rfl rfl rfl) ?_
    refine RW.gop rfl rfl rfl rfl rfl rfl (eff_move (v := .t _) rfl rfl rfl) ?_
    refine RW.gop rfl rfl rfl rfl rfl rfl (eff_iop rfl rfl rfl rfl rfl) ?_
    refine pkT ?_
    refine RW.nil ?_
    refine awp_cond rfl (fun h2 => ?_) (fun h2 => ?_)
    · try simp only [cl] at h2
      refine awp_skip ?_
      refine awp_seq ?_
      refine awp_block ?_
      refine awp_seq ?_
      refine awp_rw rfl ?_
      have hil : i < l.length := by omega
      refine mvT ?_
      refine mvT ?_
      refine RW.op rfl rfl (eff_indexM rfl rfl te26 rfl rfl rfl (by first | assumption | exact List.getElem?_eq_getElem (by omega)) rfl (by decide)) ?_
      refine RW.op rfl rfl (eff_loadW1 rfl rfl ti3 rfl rfl) ?_
      refine RW.op rfl rfl (eff_callT (around_ret _ _ (hI _ (List.getElem_mem _)) (by omega)) co13 rfl rfl rfl rfl) ?_
      refine asT ?_
      refine RW.nil ?_
      refine awp_seq ?_
      refine awp_rw rfl ?_
      have har := around_range (n := l[i]'hil) (m := 1000000) (by decide)
      have him2 : 0 ≤ imax 0 ((i : Int) - 3) ∧ imax 0 ((i : Int) - 3) ≤ 20 := by unfold imax; split <;> omega
      refine mvT ?_
      refine mvT ?_
      refine RW.op rfl rfl (eff_iop rfl rfl rfl rfl (isub (by omega))) ?_
      refine RW.op rfl rfl (eff_max rfl rfl rfl rfl) ?_
      refine mvT ?_
      refine RW.op rfl rfl (eff_remE (r := (around (l[i]'hil) 1000000) % 7) rfl rfl rfl rfl (by decide) (tmod_pos (by omega))) ?_
      refine RW.op rfl rfl (eff_iop rfl rfl rfl rfl (iadd (by omega))) ?_
      refine RW.op rfl rfl (eff_buildT (ys := [_, _, _, _, _]) rfl rfl tz45 tg45 rfl) ?_
      refine RW.new rfl rfl (eff_allocK (k := 5) (id := 9) rfl rfl tz45 rfl rfl) ?_
      refine RW.store rfl rfl (eff_storeW (v := .t _) (els := [_]) (els' := [_]) rfl rfl ti45 rfl rfl rfl rfl rfl rfl rfl rfl rfl) ?_
      refine RW.nil ?_
      refine awp_seq ?_
      refine awp_seq ?_
      refine awp_rw rfl ?_
      refine mvT ?_
      refine RW.op rfl rfl (eff_quoE (r := (around (l[i]'hil) 1000000) / 7) rfl rfl rfl rfl (by decide) (quoN (by omega) (by decide))) ?_
      refine RW.op rfl rfl (eff_remE (r := ((around (l[i]'hil) 1000000) / 7) % 12) rfl rfl rfl rfl (by decide) (tmod_pos (by omega))) ?_
      refine RW.nil ?_
      refine awp_block ?_
      refine awp_seq ?_
      refine awp_rw rfl ?_
      refine ioT ?_
      refine asT ?_
      refine RW.nil ?_
      refine awp_cond rfl (fun h3 => ?_) (fun h3 => ?_)
      · try simp only [cl] at h3
        refine awp_rw rfl ?_
        refine faT tf45_2 ?_
        refine RW.store rfl rfl (eff_storeS (v := .t _) (ys := [_, _, _, _, _]) (els := [_]) (els' := [_]) rfl rfl ti4 rfl rfl rfl rfl rfl rfl rfl (Nat.le_of_ble_eq_true rfl) rfl rfl) ?_
        refine RW.nil ?_
        refine awp_seq ?_
        refine awp_rw rfl ?_
        refine mvO ?_
        refine RW.op rfl rfl (eff_load rfl rfl ti45 rfl (.whole rfl rfl rfl rfl rfl rfl)) ?_
        first
          | (have hfr : frameAt l i = ⟨imax 0 ((i : Int) - 3) + (around (l[i]'hil) 1000000) % 7, key, true, [], 0⟩ := by unfold frameAt; rw [getD_get hil, ← hky]; exact frm_0 (by omega)
             refine RW.weak (weak_slot 47 (y := encF ⟨imax 0 ((i : Int) - 3) + (around (l[i]'hil) 1000000) % 7, key, true, [], 0⟩) rfl (by repeat' first | exact trivial | exact Wk.refl _ | exact Wk.sl _ | refine And.intro ?_ ?_ | refine Wk.tupP ?_ | refine Wk.aggP ?_)) rfl ?_)
          | (have hfr : frameAt l i = ⟨(around (l[i]'hil) 1000000) / 84 % 300, key, false, [], 0⟩ := by unfold frameAt; rw [getD_get hil, ← hky]; exact frm_1 (by omega) (by omega)
             refine RW.weak (weak_slot 47 (y := encF ⟨(around (l[i]'hil) 1000000) / 84 % 300, key, false, [], 0⟩) rfl (by repeat' first | exact trivial | exact Wk.refl _ | exact Wk.sl _ | refine And.intro ?_ ?_ | refine Wk.tupP ?_ | refine Wk.aggP ?_)) rfl ?_)
          | (have hfr : frameAt l i = ⟨imax 0 ((i : Int) - 3) + (around (l[i]'hil) 1000000) % 7, key, false, [], 0⟩ := by unfold frameAt; rw [getD_get hil, ← hky]; exact frm_2 (by omega) (by omega)
             refine RW.weak (weak_slot 47 (y := encF ⟨imax 0 ((i : Int) - 3) + (around (l[i]'hil) 1000000) % 7, key, false, [], 0⟩) rfl (by repeat' first | exact trivial | exact Wk.refl _ | exact Wk.sl _ | refine And.intro ?_ ?_ | refine Wk.tupP ?_ | refine Wk.aggP ?_)) rfl ?_)
        refine RW.new rfl rfl (eff_buildSliceL (id := 48) (els := [.t (.agg [_, _, _, _, _])]) rfl rfl te62 tz45 rfl (by decide) (by decide) rfl rfl rfl rfl) ?_
        refine RW.new rfl rfl (eff_append (id := 5) (ys := [_]) rfl rfl ta62 rfl rfl rfl (by rw [he, hnn]; simp) rfl rfl (srcOwn rfl rfl rfl rfl rfl rfl) (by simp) (by simp; omega) (by simp; omega)) ?_
        refine asO ?_
        refine RW.nil ?_
        refine awp_rw rfl ?_
        refine mvT ?_
        refine RW.op rfl rfl (eff_iop rfl rfl rfl rfl (iadd (by omega))) ?_
        refine mvT ?_
        refine RW.op rfl rfl (eff_quoE (r := (around (l[i]'hil) 1000000) / 84) rfl rfl rfl rfl (by decide) (quoN (by omega) (by decide))) ?_
        refine RW.op rfl rfl (eff_remE (r := ((around (l[i]'hil) 1000000) / 84) % 40) rfl rfl rfl rfl (by decide) (tmod_pos (by omega))) ?_
        refine RW.op rfl rfl (eff_quoE (r := ((around (l[i]'hil) 1000000) / 84 % 40) / 39) rfl rfl rfl rfl (by decide) (quoN (by omega) (by decide))) ?_
        refine RW.op rfl rfl (eff_iop rfl rfl rfl rfl (imul (by omega))) ?_
        refine RW.op rfl rfl (eff_iop rfl rfl rfl rfl (iadd (by omega))) ?_
        refine asT ?_
        refine RW.nil ?_
        refine awp_rw rfl ?_
        refine mvT ?_
        refine RW.op rfl rfl (eff_iop rfl rfl rfl rfl (iadd (by omega))) ?_
        refine asT ?_
        refine RW.nil ?_
        have hkn : keyAt l (i + 1) = key + 1 + (around (l[i]'hil) 1000000) / 84 % 40 / 39 * 5000 := by show nxt _ _ = _; rw [getD_get hil, ← hky]; rfl
        refine ⟨_, ?_, _, weak_keep (n := 59) (fr' := [(0, .t (.sl (l.map encI) false)), (1, .t (encI (mo : Nat))), (5, .own 5 _ 0 _), (6, .t (encI _)), (7, .t (encI ((i + 1) : Nat)))]) (st' := [(5, some ⟨5, 45, _, _⟩)]) ⟨rfl, rfl, rfl, rfl, rfl, rfl, rfl, rfl, rfl, rfl, trivial⟩ ⟨rfl, (by first | exact okE_nil | (rw [he]; exact okE_t) | (rw [he]; intro x hx; simp only [List.mem_append, List.mem_map, List.mem_singleton] at hx; rcases hx with ⟨y, _, rfl⟩ | rfl <;> rfl)), trivial⟩, i + 1, _, _, _, _, (by omega), (by omega), (by rw [hnn]; simp), (by exact hkn.symm), (by rw [range_succ, he]; simp only [List.map_append, List.map_cons, List.map_nil]; rw [hfr]; rfl), rfl, rfl⟩
        omega
      · try simp only [cl] at h3
        refine awp_seq ?_
        refine awp_rw rfl ?_
        refine ioT ?_
        refine asT ?_
        refine RW.nil ?_
        refine awp_cond rfl (fun h4 => ?_) (fun h4 => ?_)
        · try simp only [cl] at h4
          refine awp_rw rfl ?_
          refine mvT ?_
          refine RW.op rfl rfl (eff_quoE (r := (around (l[i]'hil) 1000000) / 84) rfl rfl rfl rfl (by decide) (quoN (by omega) (by decide))) ?_
          refine RW.op rfl rfl (eff_remE (r := ((around (l[i]'hil) 1000000) / 84) % 300) rfl rfl rfl rfl (by decide) (tmod_pos (by omega))) ?_
          refine faT tf45_0 ?_
          refine RW.store rfl rfl (eff_storeS (v := .t _) (ys := [_, _, _, _, _]) (els := [_]) (els' := [_]) rfl rfl ti3 rfl rfl rfl rfl rfl rfl rfl (Nat.le_of_ble_eq_true rfl) rfl rfl) ?_
          refine RW.nil ?_
          refine awp_seq ?_
          refine awp_rw rfl ?_
          refine mvO ?_
          refine RW.op rfl rfl (eff_load rfl rfl ti45 rfl (.whole rfl rfl rfl rfl rfl rfl)) ?_
          first
            | (have hfr : frameAt l i = ⟨imax 0 ((i : Int) - 3) + (around (l[i]'hil) 1000000) % 7, key, true, [], 0⟩ := by unfold frameAt; rw [getD_get hil, ← hky]; exact frm_0 (by omega)
               refine RW.weak (weak_slot 47 (y := encF ⟨imax 0 ((i : Int) - 3) + (around (l[i]'hil) 1000000) % 7, key, true, [], 0⟩) rfl (by repeat' first | exact trivial | exact Wk.refl _ | exact Wk.sl _ | refine And.intro ?_ ?_ | refine Wk.tupP ?_ | refine Wk.aggP ?_)) rfl ?_)
            | (have hfr : frameAt l i = ⟨(around (l[i]'hil) 1000000) / 84 % 300, key, false, [], 0⟩ := by unfold frameAt; rw [getD_get hil, ← hky]; exact frm_1 (by omega) (by omega)
               refine RW.weak (weak_slot 47 (y := encF ⟨(around (l[i]'hil) 1000000) / 84 % 300, key, false, [], 0⟩) rfl (by repeat' first | exact trivial | exact Wk.refl _ | exact Wk.sl _ | refine And.intro ?_ ?_ | refine Wk.tupP ?_ | refine Wk.aggP ?_)) rfl ?_)
            | (have hfr : frameAt l i = ⟨imax 0 ((i : Int) - 3) + (around (l[i]'hil) 1000000) % 7, key, false, [], 0⟩ := by unfold frameAt; rw [getD_get hil, ← hky]; exact frm_2 (by omega) (by omega)
               refine RW.weak (weak_slot 47 (y := encF ⟨imax 0 ((i : Int) - 3) + (around (l[i]'hil) 1000000) % 7, key, false, [], 0⟩) rfl (by repeat' first | exact trivial | exact Wk.refl _ | exact Wk.sl _ | refine And.intro ?_ ?_ | refine Wk.tupP ?_ | refine Wk.aggP ?_)) rfl ?_)
          refine RW.new rfl rfl (eff_buildSliceL (id := 48) (els := [.t (.agg [_, _, _, _, _])]) rfl rfl te62 tz45 rfl (by decide) (by decide) rfl rfl rfl rfl) ?_
          refine RW.new rfl rfl (eff_append (id := 5) (ys := [_]) rfl rfl ta62 rfl rfl rfl (by rw [he, hnn]; simp) rfl rfl (srcOwn rfl rfl rfl rfl rfl rfl) (by simp) (by simp; omega) (by simp; omega)) ?_
          refine asO ?_
          refine RW.nil ?_
          refine awp_rw rfl ?_
          refine mvT ?_
          refine RW.op rfl rfl (eff_iop rfl rfl rfl rfl (iadd (by omega))) ?_
          refine mvT ?_
          refine RW.op rfl rfl (eff_quoE (r := (around (l[i]'hil) 1000000) / 84) rfl rfl rfl rfl (by decide) (quoN (by omega) (by decide))) ?_
          refine RW.op rfl rfl (eff_remE (r := ((around (l[i]'hil) 1000000) / 84) % 40) rfl rfl rfl rfl (by decide) (tmod_pos (by omega))) ?_
          refine RW.op rfl rfl (eff_quoE (r := ((around (l[i]'hil) 1000000) / 84 % 40) / 39) rfl rfl rfl rfl (by decide) (quoN (by omega) (by decide))) ?_
          refine RW.op rfl rfl (eff_iop rfl rfl rfl rfl (imul (by omega))) ?_
          refine RW.op rfl rfl (eff_iop rfl rfl rfl rfl (iadd (by omega))) ?_
          refine asT ?_
          refine RW.nil ?_
          refine awp_rw rfl ?_
          refine mvT ?_
          refine RW.op rfl rfl (eff_iop rfl rfl rfl rfl (iadd (by omega))) ?_
          refine asT ?_
          refine RW.nil ?_
          have hkn : keyAt l (i + 1) = key + 1 + (around (l[i]'hil) 1000000) / 84 % 40 / 39 * 5000 := by show nxt _ _ = _; rw [getD_get hil, ← hky]; rfl
          refine ⟨_, ?_, _, weak_keep (n := 59) (fr' := [(0, .t (.sl (l.map encI) false)), (1, .t (encI (mo : Nat))), (5, .own 5 _ 0 _), (6, .t (encI _)), (7, .t (encI ((i + 1) : Nat)))]) (st' := [(5, some ⟨5, 45, _, _⟩)]) ⟨rfl, rfl, rfl, rfl, rfl, rfl, rfl, rfl, rfl, rfl, trivial⟩ ⟨rfl, (by first | exact okE_nil | (rw [he]; exact okE_t) | (rw [he]; intro x hx; simp only [List.mem_append, List.mem_map, List.mem_singleton] at hx; rcases hx with ⟨y, _, rfl⟩ | rfl <;> rfl)), trivial⟩, i + 1, _, _, _, _, (by omega), (by omega), (by rw [hnn]; simp), (by exact hkn.symm), (by rw [range_succ, he]; simp only [List.map_append, List.map_cons, List.map_nil]; rw [hfr]; rfl), rfl, rfl⟩
          omega
        · try simp only [cl] at h4
          refine awp_skip ?_
          refine awp_seq ?_
          refine awp_rw rfl ?_
          refine mvO ?_
          refine RW.op rfl rfl (eff_load rfl rfl ti45 rfl (.whole rfl rfl rfl rfl rfl rfl)) ?_
          first
            | (have hfr : frameAt l i = ⟨imax 0 ((i : Int) - 3) + (around (l[i]'hil) 1000000) % 7, key, true, [], 0⟩ := by unfold frameAt; rw [getD_get hil, ← hky]; exact frm_0 (by omega)
               refine RW.weak (weak_slot 47 (y := encF ⟨imax 0 ((i : Int) - 3) + (around (l[i]'hil) 1000000) % 7, key, true, [], 0⟩) rfl (by repeat' first | exact trivial | exact Wk.refl _ | exact Wk.sl _ | refine And.intro ?_ ?_ | refine Wk.tupP ?_ | refine Wk.aggP ?_)) rfl ?_)
            | (have hfr : frameAt l i = ⟨(around (l[i]'hil) 1000000) / 84 % 300, key, false, [], 0⟩ := by unfold frameAt; rw [getD_get hil, ← hky]; exact frm_1 (by omega) (by omega)
               refine RW.weak (weak_slot 47 (y := encF ⟨(around (l[i]'hil) 1000000) / 84 % 300, key, false, [], 0⟩) rfl (by repeat' first | exact trivial | exact Wk.refl _ | exact Wk.sl _ | refine And.intro ?_ ?_ | refine Wk.tupP ?_ | refine Wk.aggP ?_)) rfl ?_)
            | (have hfr : frameAt l i = ⟨imax 0 ((i : Int) - 3) + (around (l[i]'hil) 1000000) % 7, key, false, [], 0⟩ := by unfold frameAt; rw [getD_get hil, ← hky]; exact frm_2 (by omega) (by omega)
               refine RW.weak (weak_slot 47 (y := encF ⟨imax 0 ((i : Int) - 3) + (around (l[i]'hil) 1000000) % 7, key, false, [], 0⟩) rfl (by repeat' first | exact trivial | exact Wk.refl _ | exact Wk.sl _ | refine And.intro ?_ ?_ | refine Wk.tupP ?_ | refine Wk.aggP ?_)) rfl ?_)
          refine RW.new rfl rfl (eff_buildSliceL (id := 48) (els := [.t (.agg [_, _, _, _, _])]) rfl rfl te62 tz45 rfl (by decide) (by decide) rfl rfl rfl rfl) ?_
          refine RW.new rfl rfl (eff_append (id := 5) (ys := [_]) rfl rfl ta62 rfl rfl rfl (by rw [he, hnn]; simp) rfl rfl (srcOwn rfl rfl rfl rfl rfl rfl) (by simp) (by simp; omega) (by simp; omega)) ?_
          refine asO ?_
          refine RW.nil ?_
          refine awp_rw rfl ?_
          refine mvT ?_
          refine RW.op rfl rfl (eff_iop rfl rfl rfl rfl (iadd (by omega))) ?_
          refine mvT ?_
          refine RW.op rfl rfl (eff_quoE (r := (around (l[i]'hil) 1000000) / 84) rfl rfl rfl rfl (by decide) (quoN (by omega) (by decide))) ?_
          refine RW.op rfl rfl (eff_remE (r := ((around (l[i]'hil) 1000000) / 84) % 40) rfl rfl rfl rfl (by decide) (tmod_pos (by omega))) ?_
          refine RW.op rfl rfl (eff_quoE (r := ((around (l[i]'hil) 1000000) / 84 % 40) / 39) rfl rfl rfl rfl (by decide) (quoN (by omega) (by decide))) ?_
          refine RW.op rfl rfl (eff_iop rfl rfl rfl rfl (imul (by omega))) ?_
          refine RW.op rfl rfl (eff_iop rfl rfl rfl rfl (iadd (by omega))) ?_
          refine asT ?_
          refine RW.nil ?_
          refine awp_rw rfl ?_
          refine mvT ?_
          refine RW.op rfl rfl (eff_iop rfl rfl rfl rfl (iadd (by omega))) ?_
          refine asT ?_
          refine RW.nil ?_
          have hkn : keyAt l (i + 1) = key + 1 + (around (l[i]'hil) 1000000) / 84 % 40 / 39 * 5000 := by show nxt _ _ = _; rw [getD_get hil, ← hky]; rfl
          refine ⟨_, ?_, _, weak_keep (n := 59) (fr' := [(0, .t (.sl (l.map encI) false)), (1, .t (encI (mo : Nat))), (5, .own 5 _ 0 _), (6, .t (encI _)), (7, .t (encI ((i + 1) : Nat)))]) (st' := [(5, some ⟨5, 45, _, _⟩)]) ⟨rfl, rfl, rfl, rfl, rfl, rfl, rfl, rfl, rfl, rfl, trivial⟩ ⟨rfl, (by first | exact okE_nil | (rw [he]; exact okE_t) | (rw [he]; intro x hx; simp only [List.mem_append, List.mem_map, List.mem_singleton] at hx; rcases hx with ⟨y, _, rfl⟩ | rfl <;> rfl)), trivial⟩, i + 1, _, _, _, _, (by omega), (by omega), (by rw [hnn]; simp), (by exact hkn.symm), (by rw [range_succ, he]; simp only [List.map_append, List.map_cons, List.map_nil]; rw [hfr]; rfl), rfl, rfl⟩
          omega
    · try simp only [cl] at h2
      refine awp_exit ?_
      refine awp_seq ?_
      refine awp_rw rfl ?_
      refine mvO ?_
      refine asO ?_
      refine RW.nil ?_
      refine awp_ret ?_
      have hmi : i = min l.length mo := by omega
      exact ⟨Or.inr rfl, [_], ⟨.tmp (Res.ownT (xs := (frames l mo).map encF) rfl rfl (by unfold frames; rw [← hmi]; exact he) (by rw [hnn]; simp [frames_len]; omega)), trivial⟩, .refl _⟩
  · try simp only [cl] at h1
    refine gkT ?_
    refine gkT ?_
    refine gkT ?_
    refine pkT ?_
    refine RW.nil ?_
    refine awp_cond rfl (fun h => nomatch h) (fun _ => ?_)
    refine awp_exit ?_
    refine awp_seq ?_
    refine awp_rw rfl ?_
    refine mvO ?_
    refine asO ?_
    refine RW.nil ?_
    refine awp_ret ?_
    have hmi : i = min l.length mo := by omega
    exact ⟨Or.inr rfl, [_], ⟨.tmp (Res.ownT (xs := (frames l mo).map encF) rfl rfl (by unfold frames; rw [← hmi]; exact he) (by rw [hnn]; simp [frames_len]; omega)), trivial⟩, .refl _⟩

end Go.Tv.C36

end
