/- PlanPasses: for every input that reads as data, the call returns true and leaves its arguments as they were. No condition. -/
import Derived.Test.YtheklenmejhdoaaT3
import Derived.Test.YtheklenmejhdoaaT2
import Derived.Test.YtheklenmejhdoaaRows
set_option linter.unnecessarySimpa false
set_option linter.unusedVariables false
set_option linter.unusedSimpArgs false
section
open Go Go.Tv Go.Proofs
namespace Go.Tv.C35
set_option maxRecDepth 20000
set_option maxHeartbeats 2000000
set_option linter.unusedSimpArgs false
set_option linter.unusedVariables false
theorem eff_maxE {P : Program} {D : St} {o : Oper} {t t2 : TypeId} {x y : Operand} {k : IntKind} {n m r : Int} (hd : dstOK D.n o.dst = true)
    (ho : o.op = .call { callee := .builtin .max, args := #[x, y], argTypes := #[t, t2] }) (hx : D.ev x = .t (.int k n)) (hy : D.ev y = .t (.int k m)) (hr : imax n m = r) : Eff P o D ⟨.t (.int k r), []⟩ :=
  hr ▸ eff_max hd ho hx hy
theorem wk_boolR {a b : Bool} (h : a = b) : Wk (packT [.bool a]) (.bool b) := by rw [h]; exact .refl _
theorem beq_one (x : Nat) : (((x : Nat) : Int) == 1) = decide (x = 1) := by
  by_cases h : x = 1
  · subst h; rfl
  · rw [decide_eq_false h, beq_eq_false_iff_ne]; omega

theorem has65_ret (r : Rep) (n : Int) (hr : RepOK r) (hn : 0 ≤ n ∧ n ≤ 1000000) : Ret Try.prog 65 [encR r, encI n] (.bool (hasB r n)) := by
  obtain ⟨nx, hv0, ky, lk⟩ := r
  obtain ⟨h, rfl⟩ : ∃ h : Nat, hv0 = (h : Int) := ⟨hv0.toNat, by have := hr.2.1; simp only [] at this; omega⟩
  have hn1 := hr.1
  have hh := hr.2.2
  simp only [] at hn1 hh
  refine ret_of_awp Try.func65 rfl (Nat.le_of_ble_eq_true rfl) ?_
  refine awp_seq ?_
  refine awp_rw rfl ?_
  refine RW.new rfl rfl (eff_boxK (v := .t _) (k := 4) (id := 2) rfl rfl rfl rfl rfl rfl) ?_
  refine RW.op rfl rfl (eff_assign (v := .t _) rfl rfl rfl) ?_
  refine RW.nil ?_
  refine awp_seq ?_
  refine awp_seq ?_
  refine awp_rw rfl ?_
  refine RW.op rfl rfl (eff_move (v := .t _) rfl rfl rfl) ?_
  refine RW.op rfl rfl (eff_fieldAddr rfl rfl tf58_0 (by decide) rfl rfl rfl (Nat.le_of_ble_eq_true rfl)) ?_
  refine RW.op rfl rfl (eff_load (y := .t _) rfl rfl ti3 rfl (.one rfl rfl rfl rfl)) ?_
  refine RW.op rfl rfl (eff_iop rfl rfl rfl rfl rfl) ?_
  refine RW.nil ?_
  refine awp_cond rfl (fun h1 => ?_) (fun h1 => ?_)
  · try simp only [decide_eq_true_eq, decide_eq_false_iff_not, beq_iff_eq, bne_iff_ne, bne_eq_false_iff_eq, beq_eq_false_iff_ne, Bool.not_eq_true, Bool.not_eq_false, Bool.not_eq_true', Bool.not_eq_false', ne_eq] at h1
    refine awp_seq ?_
    refine awp_rw rfl ?_
    refine RW.op rfl rfl (eff_move (v := .t _) rfl rfl rfl) ?_
    refine RW.op rfl rfl (eff_fieldAddr rfl rfl tf58_0 (by decide) rfl rfl rfl (Nat.le_of_ble_eq_true rfl)) ?_
    refine RW.op rfl rfl (eff_load (y := .t _) rfl rfl ti3 rfl (.one rfl rfl rfl rfl)) ?_
    refine RW.op rfl rfl (eff_iop rfl rfl rfl rfl rfl) ?_
    refine RW.op rfl rfl (eff_assign (v := .t _) rfl rfl rfl) ?_
    refine RW.nil ?_
    refine awp_ret ?_
    (rw [show hasB ⟨nx, ((h : Nat) : Int), ky, lk⟩ n = decide (n < nx) from has_lowN (by omega)]; exact ⟨Or.inr rfl, [_], ⟨.tmp (.t _), trivial⟩, .refl _⟩)
  · try simp only [decide_eq_true_eq, decide_eq_false_iff_not, beq_iff_eq, bne_iff_ne, bne_eq_false_iff_eq, beq_eq_false_iff_ne, Bool.not_eq_true, Bool.not_eq_false, Bool.not_eq_true', Bool.not_eq_false', ne_eq] at h1
    refine awp_skip ?_
    refine awp_seq ?_
    refine awp_rw rfl ?_
    refine RW.op rfl rfl (eff_fieldAddr rfl rfl tf58_1 (by decide) rfl rfl rfl (Nat.le_of_ble_eq_true rfl)) ?_
    refine RW.op rfl rfl (eff_load (y := .t _) rfl rfl ti3 rfl (.one rfl rfl rfl rfl)) ?_
    refine RW.op rfl rfl (eff_convIntE (m := ((h : Nat) : Int)) rfl rfl (by rw [tu3]; rfl) tu86 rfl (wrapU64 (n := ((h : Nat) : Int)) (by omega) (by omega))) ?_
    refine RW.op rfl rfl (eff_move (v := .t _) rfl rfl rfl) ?_
    refine RW.op rfl rfl (eff_fieldAddr rfl rfl tf58_0 (by decide) rfl rfl rfl (Nat.le_of_ble_eq_true rfl)) ?_
    refine RW.op rfl rfl (eff_load (y := .t _) rfl rfl ti3 rfl (.one rfl rfl rfl rfl)) ?_
    refine RW.op rfl rfl (eff_iop (r := encI (n - nx)) rfl rfl rfl rfl (isub (a := n) (b := nx) (by omega))) ?_
    refine RW.op rfl rfl (eff_iop (r := encI (n - nx - 1)) rfl rfl rfl rfl (isub (by omega))) ?_
    refine RW.op rfl rfl (eff_convIntE (m := (n - nx - 1)) rfl rfl (by rw [tu3]; rfl) tu86 rfl (wrapU64 (by omega) (by omega))) ?_
    refine RW.op rfl rfl (eff_shrE (r := ((h / 2 ^ (min (n - nx - 1).toNat 64) : Nat) : Int)) rfl rfl rfl rfl (by omega) (shr_nat rfl h (by omega))) ?_
    refine RW.op rfl rfl (eff_iop (r := .int .u64 ((bitN h (n - nx - 1).toNat : Nat) : Int)) rfl rfl rfl rfl (and_one (by have := Nat.div_le_self h (2 ^ (min (n - nx - 1).toNat 64)); omega))) ?_
    refine RW.op rfl rfl (eff_iop rfl rfl rfl rfl rfl) ?_
    refine RW.op rfl rfl (eff_assign (v := .t _) rfl rfl rfl) ?_
    refine RW.nil ?_
    refine awp_ret ?_
    (rw [show hasB ⟨nx, ((h : Nat) : Int), ky, lk⟩ n = decide (bitN h (n - nx - 1).toNat = 1) from has_bitN (by omega)]; exact ⟨Or.inr rfl, [_], ⟨.tmp (.t _), trivial⟩, wk_boolR (beq_one _)⟩)

theorem lack64_ret (r : Rep) (n : Int) (hr : RepOK r) (hn : 0 ≤ n ∧ n ≤ 1000000) : Ret Try.prog 64 [encR r, .ptr [encI n]] (.bool (!hasB r n)) := by
  refine ret_of_awp Try.func64 rfl (Nat.le_of_ble_eq_true rfl) ?_
  refine awp_seq ?_
  refine awp_rw rfl ?_
  refine RW.new rfl rfl (eff_boxK (v := .t _) (k := 4) (id := 2) rfl rfl rfl rfl rfl rfl) ?_
  refine RW.op rfl rfl (eff_assign (v := .t _) rfl rfl rfl) ?_
  refine RW.nil ?_
  refine awp_seq ?_
  refine awp_rw rfl ?_
  refine RW.op rfl rfl (eff_load rfl rfl ti58 rfl (.whole rfl rfl rfl rfl rfl rfl)) ?_
  refine RW.op rfl rfl (eff_loadT1 rfl rfl ti3 rfl rfl) ?_
  refine RW.op rfl rfl (eff_callT (has65_ret r n hr hn) co65 rfl rfl rfl rfl) ?_
  refine RW.op rfl rfl (eff_unop rfl rfl rfl rfl) ?_
  refine RW.op rfl rfl (eff_assign (v := .t _) rfl rfl rfl) ?_
  refine RW.nil ?_
  refine awp_ret ?_
  exact ⟨Or.inr rfl, [_], ⟨.tmp (.t _), trivial⟩, .refl _⟩

theorem ixfR_ret (l : List Rep) (fn : Nat) (caps : List Tr) (p : Rep → Bool) (hl : l.length ≤ 100000) (hco : callOK Try.prog fn = true) (hp : ∀ x, x ∈ l → Ret Try.prog fn (encR x :: caps) (.bool (p x))) : Ret Try.prog 87 [.sl (l.map encR) false, .fn fn caps] (encI (fIx p l)) := by
  refine ret_of_awp Try.func87 rfl (Nat.le_of_ble_eq_true rfl) ?_
  refine awp_seq ?_
  refine awp_rw rfl ?_
  refine RW.op rfl rfl (eff_assign (v := .t _) rfl rfl rfl) ?_
  refine RW.nil ?_
  refine awp_seq ?_
  refine awp_seq ?_
  refine awp_rw rfl ?_
  refine RW.op rfl rfl (eff_move (v := .t _) rfl rfl rfl) ?_
  refine RW.op rfl rfl (eff_lenM rfl rfl te49 rfl) ?_
  refine RW.op rfl rfl (eff_move (v := .t _) rfl rfl rfl) ?_
  refine RW.nil ?_
  refine awp_block ?_
  refine awp_loopW (fun m s => ∃ (i : Nat), (i ≤ l.length) ∧ (∀ b, b ∈ l.take i → p b = false) ∧ m = l.length - i ∧ s = ⟨19, [(0, .t (.sl (l.map encR) false)), (1, .t (.fn fn caps)), (7, .t (encI l.length)), (8, .t (encI (i : Nat)))], []⟩) (_) (⟨_, weak_keep (n := 19) (fr' := [(0, .t (.sl (l.map encR) false)), (1, .t (.fn fn caps)), (7, .t (encI l.length)), (8, .t (encI (0 : Nat)))]) (st' := []) ⟨rfl, rfl, rfl, rfl, rfl, rfl, rfl, rfl, trivial⟩ trivial, 0, (by omega), (by simp), rfl, rfl⟩) ?_
  rintro m s ⟨i, hi, ha, rfl, rfl⟩
  refine awp_seq ?_
  refine awp_rw rfl ?_
  refine RW.op rfl rfl (eff_iop rfl rfl rfl rfl rfl) ?_
  refine RW.nil ?_
  refine awp_seq ?_
  refine awp_cond rfl (fun h1 => ?_) (fun h1 => ?_)
  · try simp only [decide_eq_true_eq, decide_eq_false_iff_not, beq_iff_eq, bne_iff_ne, bne_eq_false_iff_eq, beq_eq_false_iff_ne, Bool.not_eq_true, Bool.not_eq_false, Bool.not_eq_true', Bool.not_eq_false', ne_eq] at h1
    refine awp_skip ?_
    refine awp_seq ?_
    refine awp_block ?_
    refine awp_seq ?_
    refine awp_rw rfl ?_
    refine RW.op rfl rfl (eff_move (v := .t _) rfl rfl rfl) ?_
    refine RW.op rfl rfl (eff_assign (v := .t _) rfl rfl rfl) ?_
    refine RW.nil ?_
    refine awp_seq ?_
    refine awp_rw rfl ?_
    refine RW.op rfl rfl (eff_move (v := .t _) rfl rfl rfl) ?_
    refine RW.op rfl rfl (eff_move (v := .t _) rfl rfl rfl) ?_
    refine RW.op rfl rfl (eff_move (v := .t _) rfl rfl rfl) ?_
    refine RW.op rfl rfl (eff_indexM rfl rfl te49 rfl rfl rfl (by first | assumption | exact List.getElem?_eq_getElem (by omega)) rfl (by decide)) ?_
    refine RW.op rfl rfl (eff_loadW rfl rfl ti58 rfl rfl rfl) ?_
    refine RW.op rfl rfl (eff_call (f := fn) (xs := [_]) (ys := [_]) (caps := caps) rfl rfl rfl hco rfl (WkL.cons (.refl _) .nil) (hp _ (List.getElem_mem (show i < l.length by omega)))) ?_
    refine RW.nil ?_
    refine awp_cond rfl (fun h2 => ?_) (fun h2 => ?_)
    · try simp only [decide_eq_true_eq, decide_eq_false_iff_not, beq_iff_eq, bne_iff_ne, bne_eq_false_iff_eq, beq_eq_false_iff_ne, Bool.not_eq_true, Bool.not_eq_false, Bool.not_eq_true', Bool.not_eq_false', ne_eq] at h2
      refine awp_seq ?_
      refine awp_rw rfl ?_
      refine RW.op rfl rfl (eff_move (v := .t _) rfl rfl rfl) ?_
      refine RW.op rfl rfl (eff_assign (v := .t _) rfl rfl rfl) ?_
      refine RW.nil ?_
      refine awp_ret ?_
      rw [fIx_hit (by omega) ha h2]
      exact ⟨Or.inr rfl, [_], ⟨.tmp (.t _), trivial⟩, .refl _⟩
    · try simp only [decide_eq_true_eq, decide_eq_false_iff_not, beq_iff_eq, bne_iff_ne, bne_eq_false_iff_eq, beq_eq_false_iff_ne, Bool.not_eq_true, Bool.not_eq_false, Bool.not_eq_true', Bool.not_eq_false', ne_eq] at h2
      refine awp_skip ?_
      refine awp_rw rfl ?_
      refine RW.op rfl rfl (eff_iop rfl rfl rfl rfl (iadd (by omega))) ?_
      refine RW.op rfl rfl (eff_move (v := .t _) rfl rfl rfl) ?_
      refine RW.nil ?_
      refine ⟨_, ?_, _, weak_keep (n := 19) (fr' := [(0, .t (.sl (l.map encR) false)), (1, .t (.fn fn caps)), (7, .t (encI l.length)), (8, .t (encI ((i + 1) : Nat)))]) (st' := []) ⟨rfl, rfl, rfl, rfl, rfl, rfl, rfl, rfl, trivial⟩ trivial, i + 1, (by omega), (by intro b hb; rcases (mem_take_succ (by omega)).1 hb with h | h; exact ha b h; rw [h]; exact h2), rfl, rfl⟩
      omega
  · try simp only [decide_eq_true_eq, decide_eq_false_iff_not, beq_iff_eq, bne_iff_ne, bne_eq_false_iff_eq, beq_eq_false_iff_ne, Bool.not_eq_true, Bool.not_eq_false, Bool.not_eq_true', Bool.not_eq_false', ne_eq] at h1
    refine awp_exit ?_
    refine awp_seq ?_
    refine awp_rw rfl ?_
    refine RW.op rfl rfl (eff_assign (v := .t _) rfl rfl rfl) ?_
    refine RW.nil ?_
    refine awp_ret ?_
    have hi2 : i = l.length := by omega
    subst hi2
    rw [List.take_length] at ha
    rw [fIx_none ha]
    exact ⟨Or.inr rfl, [_], ⟨.tmp (.t _), trivial⟩, .refl _⟩

theorem anyR_ret (l : List Rep) (fn : Nat) (caps : List Tr) (p : Rep → Bool) (hl : l.length ≤ 100000) (hco : callOK Try.prog fn = true) (hp : ∀ x, x ∈ l → Ret Try.prog fn (encR x :: caps) (.bool (p x))) : Ret Try.prog 63 [.sl (l.map encR) false, .fn fn caps] (.bool (l.any p)) := by
  refine ret_of_awp Try.func63 rfl (Nat.le_of_ble_eq_true rfl) ?_
  refine awp_seq ?_
  refine awp_rw rfl ?_
  refine RW.op rfl rfl (eff_assign (v := .t _) rfl rfl rfl) ?_
  refine RW.nil ?_
  refine awp_seq ?_
  refine awp_rw rfl ?_
  refine RW.op rfl rfl (eff_move (v := .t _) rfl rfl rfl) ?_
  refine RW.op rfl rfl (eff_move (v := .t _) rfl rfl rfl) ?_
  refine RW.op rfl rfl (eff_callT (ixfR_ret l fn caps p hl hco hp) co87 rfl rfl rfl rfl) ?_
  refine RW.op rfl rfl (eff_iop rfl rfl rfl rfl rfl) ?_
  refine RW.op rfl rfl (eff_assign (v := .t _) rfl rfl rfl) ?_
  refine RW.nil ?_
  refine awp_ret ?_
  rw [← any_fIx]
  exact ⟨Or.inr rfl, [_], ⟨.tmp (.t _), trivial⟩, .refl _⟩

theorem needed_ret (l : List Rep) (ss : List Tr) (fl : Bool) (q : Nat) (hl : l.length ≤ 100000) (hR : ∀ r, r ∈ l → RepOK r) (hq : q ≤ 1000) : Ret Try.prog 34 [.agg [.sl ss fl, .sl (l.map encR) false], encI (q : Nat)] (.sl ((neededN l q).map encN) false) := by
  refine ret_of_awp Try.func34 rfl (Nat.le_of_ble_eq_true rfl) ?_
  refine awp_seq ?_
  refine awp_rw rfl ?_
  refine RW.new rfl rfl (eff_boxK (v := .t _) (k := 2) (id := 2) rfl rfl rfl rfl rfl rfl) ?_
  refine RW.op rfl rfl (eff_assign (v := .t _) rfl rfl rfl) ?_
  refine RW.nil ?_
  refine awp_seq ?_
  refine awp_rw rfl ?_
  refine RW.op rfl rfl (eff_assign (v := .t _) rfl rfl rfl) ?_
  refine RW.nil ?_
  show AWP _ _ _ _
  refine awp_weak (weak_adopt (d := 5) (id := 5) (k := 1) (ty := 3) rfl rfl) ?_
  refine awp_seq ?_
  refine awp_seq ?_
  refine awp_rw rfl ?_
  refine RW.op rfl rfl (eff_move (v := .t _) rfl rfl rfl) ?_
  refine RW.op rfl rfl (eff_maxE (r := (q : Int)) rfl rfl rfl rfl (by unfold imax; split <;> omega)) ?_
  refine RW.op rfl rfl (eff_move (v := .t _) rfl rfl rfl) ?_
  refine RW.nil ?_
  refine awp_block ?_
  refine awp_loopW (fun m s => ∃ (i : Nat) (gn : Nat) (n : Nat) (els : List AV), (i ≤ q) ∧ (n = (neededN l i).length) ∧ (els = ((neededN l i).map encN).map .t) ∧ m = q - i ∧ s = ⟨22, [(2, .ptr 2 0 0 0), (5, .own 5 gn 0 n), (8, .t (encI (q : Nat))), (9, .t (encI (i : Nat)))], [(2, some ⟨2, 54, 0, [.t (.agg [.sl ss fl, .sl (l.map encR) false])]⟩), (5, some ⟨1, 3, gn, els⟩)]⟩) (_) (⟨_, weak_keep (n := 22) (fr' := [(2, .ptr 2 0 0 0), (5, .own 5 0 0 0), (8, .t (encI (q : Nat))), (9, .t (encI (0 : Nat)))]) (st' := [(2, some ⟨2, 54, 0, [.t (.agg [.sl ss fl, .sl (l.map encR) false])]⟩), (5, some ⟨1, 3, 0, ([])⟩)]) ⟨rfl, rfl, rfl, rfl, rfl, rfl, rfl, rfl, trivial⟩ ⟨rfl, okE_one rfl, rfl, (by first | exact okE_nil | (rw [he]; exact okE_t) | (rw [he]; intro x hx; simp only [List.mem_append, List.mem_map, List.mem_singleton] at hx; rcases hx with ⟨y, _, rfl⟩ | rfl <;> rfl)), trivial⟩, 0, 0, 0, [], (by omega), (by rfl), (by rfl), rfl, rfl⟩) ?_
  rintro m s ⟨i, gn, n, els, hi, hnn, he, rfl, rfl⟩
  have hnl := needed_len l i
  refine awp_seq ?_
  refine awp_rw rfl ?_
  refine RW.op rfl rfl (eff_iop rfl rfl rfl rfl rfl) ?_
  refine RW.nil ?_
  refine awp_seq ?_
  refine awp_cond rfl (fun h1 => ?_) (fun h1 => ?_)
  · try simp only [decide_eq_true_eq, decide_eq_false_iff_not, beq_iff_eq, bne_iff_ne, bne_eq_false_iff_eq, beq_eq_false_iff_ne, Bool.not_eq_true, Bool.not_eq_false, Bool.not_eq_true', Bool.not_eq_false', ne_eq] at h1
    refine awp_skip ?_
    refine awp_seq ?_
    refine awp_block ?_
    refine awp_seq ?_
    refine awp_rw rfl ?_
    refine RW.op rfl rfl (eff_move (v := .t _) rfl rfl rfl) ?_
    refine RW.new rfl rfl (eff_allocK (k := 1) (id := 6) rfl rfl tz3 rfl rfl) ?_
    refine RW.store rfl rfl (eff_storeW (v := .t _) (els := [_]) (els' := [_]) rfl rfl ti3 rfl rfl rfl rfl rfl rfl rfl rfl rfl) ?_
    refine RW.nil ?_
    show AWP _ _ _ _
    refine awp_weak (weak_frz (n := 22) (fr' := [(2, .ptr 2 0 0 0), (5, .own 5 gn 0 n), (8, .t (encI (q : Nat))), (9, .t (encI (i : Nat))), (6, .t (.ptr [encI (i : Nat)]))]) (st' := [(2, some ⟨2, 54, 0, [.t (.agg [.sl ss fl, .sl (l.map encR) false])]⟩), (5, some ⟨1, 3, gn, els⟩)]) [(6, some ⟨1, 3, 0, [.t (encI (i : Nat))]⟩)] ⟨rfl, trivial⟩ ⟨rfl, rfl, trivial⟩ ⟨wa_eq rfl rfl, wa_eq rfl rfl, wa_eq rfl rfl, wa_eq rfl rfl, .res (Res.ptrT (x := encI (i : Nat)) rfl rfl rfl) (.refl _), trivial⟩ ⟨rfl, okE_one rfl, rfl, (by first | exact okE_nil | (rw [he]; exact okE_t) | (rw [he]; intro x hx; simp only [List.mem_append, List.mem_map, List.mem_singleton] at hx; rcases hx with ⟨y, _, rfl⟩ | rfl <;> rfl)), trivial⟩) ?_
    refine awp_seq ?_
    refine awp_rw rfl ?_
    refine RW.op rfl rfl (eff_fieldAddr rfl rfl tf54_1 (by decide) rfl rfl rfl (Nat.le_of_ble_eq_true rfl)) ?_
    refine RW.op rfl rfl (eff_load (y := .t _) rfl rfl ti49 rfl (.one rfl rfl rfl rfl)) ?_
    refine RW.op rfl rfl (eff_makeFunc rfl rfl rfl rfl) ?_
    refine RW.op rfl rfl (eff_callT (anyR_ret l 64 [.ptr [encI (i : Nat)]] (fun r => !hasB r (i : Nat)) hl co64 (fun r hr => lack64_ret r (i : Nat) (hR r hr) (by omega))) co63 rfl rfl rfl rfl) ?_
    refine RW.nil ?_
    have hla : lackN l i = (l.any fun r => !hasB r (i : Nat)) := rfl
    refine awp_cond rfl (fun h2 => ?_) (fun h2 => ?_)
    · try simp only [decide_eq_true_eq, decide_eq_false_iff_not, beq_iff_eq, bne_iff_ne, bne_eq_false_iff_eq, beq_eq_false_iff_ne, Bool.not_eq_true, Bool.not_eq_false, Bool.not_eq_true', Bool.not_eq_false', ne_eq] at h2
      refine awp_rw rfl ?_
      refine RW.op rfl rfl (eff_move (v := .own _ _ _ _) rfl rfl rfl) ?_
      refine RW.op rfl rfl (eff_loadT1 rfl rfl ti3 rfl rfl) ?_
      refine RW.new rfl rfl (eff_buildSlice1 (id := 18) (els := [_]) rfl rfl te22 tz3 rfl (by decide) rfl rfl rfl rfl) ?_
      refine RW.new rfl rfl (eff_append (id := 5) (ys := [_]) rfl rfl ta22 rfl rfl rfl (by rw [he, hnn]; simp) rfl rfl (srcOwn rfl rfl rfl rfl rfl rfl) (by simp) (by simp; omega) (by simp; omega)) ?_
      refine RW.op rfl rfl (eff_assign (v := .own _ _ _ _) rfl rfl rfl) ?_
      refine RW.nil ?_
      refine awp_rw rfl ?_
      refine RW.op rfl rfl (eff_iop rfl rfl rfl rfl (iadd (by omega))) ?_
      refine RW.op rfl rfl (eff_move (v := .t _) rfl rfl rfl) ?_
      refine RW.nil ?_
      refine ⟨_, ?_, _, weak_keep (n := 22) (fr' := [(2, .ptr 2 0 0 0), (5, .own 5 _ 0 _), (8, .t (encI (q : Nat))), (9, .t (encI ((i + 1) : Nat)))]) (st' := [(2, some ⟨2, 54, 0, [.t (.agg [.sl ss fl, .sl (l.map encR) false])]⟩), (5, some ⟨1, 3, _, _⟩)]) ⟨rfl, rfl, rfl, rfl, rfl, rfl, rfl, rfl, trivial⟩ ⟨rfl, okE_one rfl, rfl, (by first | exact okE_nil | (rw [he]; exact okE_t) | (rw [he]; intro x hx; simp only [List.mem_append, List.mem_map, List.mem_singleton] at hx; rcases hx with ⟨y, _, rfl⟩ | rfl <;> rfl)), trivial⟩, i + 1, _, _, _, (by omega), (by first | (rw [needed_yes (by first | assumption | exact hla.trans (by assumption)), hnn]; simp <;> rfl) | (rw [needed_no (by first | assumption | exact hla.trans (by assumption))]; exact hnn)), (by first | (rw [needed_yes (by first | assumption | exact hla.trans (by assumption)), he]; simp <;> rfl) | (rw [needed_no (by first | assumption | exact hla.trans (by assumption))]; exact he)), rfl, rfl⟩
      omega
    · try simp only [decide_eq_true_eq, decide_eq_false_iff_not, beq_iff_eq, bne_iff_ne, bne_eq_false_iff_eq, beq_eq_false_iff_ne, Bool.not_eq_true, Bool.not_eq_false, Bool.not_eq_true', Bool.not_eq_false', ne_eq] at h2
      refine awp_skip ?_
      refine awp_rw rfl ?_
      refine RW.op rfl rfl (eff_iop rfl rfl rfl rfl (iadd (by omega))) ?_
      refine RW.op rfl rfl (eff_move (v := .t _) rfl rfl rfl) ?_
      refine RW.nil ?_
      refine ⟨_, ?_, _, weak_keep (n := 22) (fr' := [(2, .ptr 2 0 0 0), (5, .own 5 _ 0 _), (8, .t (encI (q : Nat))), (9, .t (encI ((i + 1) : Nat)))]) (st' := [(2, some ⟨2, 54, 0, [.t (.agg [.sl ss fl, .sl (l.map encR) false])]⟩), (5, some ⟨1, 3, _, _⟩)]) ⟨rfl, rfl, rfl, rfl, rfl, rfl, rfl, rfl, trivial⟩ ⟨rfl, okE_one rfl, rfl, (by first | exact okE_nil | (rw [he]; exact okE_t) | (rw [he]; intro x hx; simp only [List.mem_append, List.mem_map, List.mem_singleton] at hx; rcases hx with ⟨y, _, rfl⟩ | rfl <;> rfl)), trivial⟩, i + 1, _, _, _, (by omega), (by first | (rw [needed_yes (by first | assumption | exact hla.trans (by assumption)), hnn]; simp <;> rfl) | (rw [needed_no (by first | assumption | exact hla.trans (by assumption))]; exact hnn)), (by first | (rw [needed_yes (by first | assumption | exact hla.trans (by assumption)), he]; simp <;> rfl) | (rw [needed_no (by first | assumption | exact hla.trans (by assumption))]; exact he)), rfl, rfl⟩
      omega
  · try simp only [decide_eq_true_eq, decide_eq_false_iff_not, beq_iff_eq, bne_iff_ne, bne_eq_false_iff_eq, beq_eq_false_iff_ne, Bool.not_eq_true, Bool.not_eq_false, Bool.not_eq_true', Bool.not_eq_false', ne_eq] at h1
    refine awp_exit ?_
    refine awp_seq ?_
    refine awp_rw rfl ?_
    refine RW.op rfl rfl (eff_move (v := .own _ _ _ _) rfl rfl rfl) ?_
    refine RW.op rfl rfl (eff_assign (v := .own _ _ _ _) rfl rfl rfl) ?_
    refine RW.nil ?_
    refine awp_ret ?_
    obtain rfl : i = q := by omega
    exact ⟨Or.inr rfl, [_], ⟨.tmp (Res.ownT (xs := (neededN l i).map encN) rfl rfl he (by rw [hnn]; simp)), trivial⟩, .refl _⟩

theorem cmp67_ret (x y : Rep) : Ret Try.prog 67 [encR x, encR y] (encI (cmpI x.next y.next)) := by
  refine ret_of_awp Try.func67 rfl (Nat.le_of_ble_eq_true rfl) ?_
  refine awp_seq ?_
  refine awp_rw rfl ?_
  refine RW.new rfl rfl (eff_boxK (v := .t _) (k := 4) (id := 2) rfl rfl rfl rfl rfl rfl) ?_
  refine RW.new rfl rfl (eff_boxK (v := .t _) (k := 4) (id := 3) rfl rfl rfl rfl rfl rfl) ?_
  refine RW.op rfl rfl (eff_assign (v := .t _) rfl rfl rfl) ?_
  refine RW.nil ?_
  refine awp_seq ?_
  refine awp_rw rfl ?_
  refine RW.op rfl rfl (eff_fieldAddr rfl rfl tf58_0 (by decide) rfl rfl rfl (Nat.le_of_ble_eq_true rfl)) ?_
  refine RW.op rfl rfl (eff_load (y := .t _) rfl rfl ti3 rfl (.one rfl rfl rfl rfl)) ?_
  refine RW.op rfl rfl (eff_fieldAddr rfl rfl tf58_0 (by decide) rfl rfl rfl (Nat.le_of_ble_eq_true rfl)) ?_
  refine RW.op rfl rfl (eff_load (y := .t _) rfl rfl ti3 rfl (.one rfl rfl rfl rfl)) ?_
  refine RW.op rfl rfl (eff_callT (cmp_ret x.next y.next) co68 rfl rfl rfl rfl) ?_
  refine RW.op rfl rfl (eff_assign (v := .t _) rfl rfl rfl) ?_
  refine RW.nil ?_
  refine awp_ret ?_
  exact ⟨Or.inr rfl, [_], ⟨.tmp (.t _), trivial⟩, .refl _⟩

theorem min_ret (l : List Rep) (h0 : 0 < l.length) (hl : l.length ≤ 100000) : Ret Try.prog 66 [.sl (l.map encR) false, .fn 67 []] (encR (leastR l (l[0]'h0))) := by
  refine ret_of_awp Try.func66 rfl (Nat.le_of_ble_eq_true rfl) ?_
  refine awp_seq ?_
  refine awp_rw rfl ?_
  refine RW.new rfl rfl (eff_allocK (k := 4) (id := 4) rfl rfl tz58 rfl rfl) ?_
  refine RW.nil ?_
  refine awp_seq ?_
  refine awp_seq ?_
  refine awp_rw rfl ?_
  refine RW.op rfl rfl (eff_move (v := .t _) rfl rfl rfl) ?_
  refine RW.op rfl rfl (eff_lenM rfl rfl te49 rfl) ?_
  refine RW.op rfl rfl (eff_iop (r := .bool false) rfl rfl rfl rfl (by exact iop_lss_f (by omega))) ?_
  refine RW.nil ?_
  refine awp_cond rfl (fun h => nomatch h) (fun _ => ?_)
  refine awp_skip ?_
  refine awp_seq ?_
  refine awp_rw rfl ?_
  refine RW.op rfl rfl (eff_move (v := .t _) rfl rfl rfl) ?_
  refine RW.op rfl rfl (eff_indexAddrT (i := 0) rfl rfl te49 rfl rfl (by first | rfl | omega) (by rw [List.getElem?_map, List.getElem?_eq_getElem h0]; rfl) rfl (by decide)) ?_
  refine RW.op rfl rfl (eff_loadW rfl rfl ti58 rfl rfl rfl) ?_
  refine RW.new rfl rfl (eff_allocK (k := 4) (id := 5) rfl rfl tz58 rfl rfl) ?_
  refine RW.store rfl rfl (eff_storeW (v := .t _) (els := [_]) (els' := [_]) rfl rfl ti58 rfl rfl rfl rfl rfl rfl rfl rfl rfl) ?_
  refine RW.nil ?_
  refine awp_seq ?_
  refine awp_seq ?_
  refine awp_rw rfl ?_
  refine RW.op rfl rfl (eff_assign (v := .t _) rfl rfl rfl) ?_
  refine RW.nil ?_
  refine awp_block ?_
  refine awp_loopW (fun m s => ∃ (i : Nat), (i ≤ l.length) ∧ (1 ≤ i) ∧ m = l.length - i ∧ s = ⟨33, [(0, .t (.sl (l.map encR) false)), (1, .t (.fn 67 [])), (4, .ptr 4 0 0 0), (5, .ptr 5 0 0 0), (6, .t (encI (i : Nat)))], [(4, some ⟨4, 58, 0, [.t z58]⟩), (5, some ⟨4, 58, 0, [.t (encR (leastR (l.take i) (l[0]'h0)))]⟩)]⟩) (_) (⟨_, weak_keep (n := 33) (fr' := [(0, .t (.sl (l.map encR) false)), (1, .t (.fn 67 [])), (4, .ptr 4 0 0 0), (5, .ptr 5 0 0 0), (6, .t (encI (1 : Nat)))]) (st' := [(4, some ⟨4, 58, 0, [.t z58]⟩), (5, some ⟨4, 58, 0, [.t (encR (leastR (l.take 1) (l[0]'h0)))]⟩)]) ⟨rfl, rfl, rfl, rfl, rfl, rfl, rfl, rfl, rfl, rfl, trivial⟩ ⟨rfl, okE_one rfl, by first | rfl | (rw [show leastR (l.take 1) (l[0]'h0) = l[0]'h0 from by rw [show (1 : Nat) = 0 + 1 from rfl, least_step h0]; exact minR_self _]; rfl) | (rw [show leastR (l.take (i + 1)) (l[0]'h0) = (l[i]'hil) from by rw [least_step hil]; exact if_pos (cmpI_neg.1 (by assumption))]; rfl) | (rw [show leastR (l.take (i + 1)) (l[0]'h0) = (leastR (l.take i) (l[0]'h0)) from by rw [least_step hil]; exact if_neg (fun hh => (by assumption : ¬ _) (cmpI_neg.2 hh))]; rfl), okE_one rfl, trivial⟩, 1, (by omega), (by omega), rfl, rfl⟩) ?_
  rintro m s ⟨i, hi, hi1, rfl, rfl⟩
  refine awp_seq ?_
  refine awp_seq ?_
  refine awp_rw rfl ?_
  refine RW.op rfl rfl (eff_move (v := .t _) rfl rfl rfl) ?_
  refine RW.op rfl rfl (eff_move (v := .t _) rfl rfl rfl) ?_
  refine RW.op rfl rfl (eff_lenM rfl rfl te49 rfl) ?_
  refine RW.op rfl rfl (eff_iop rfl rfl rfl rfl rfl) ?_
  refine RW.nil ?_
  refine awp_cond rfl (fun h1 => ?_) (fun h1 => ?_)
  · try simp only [decide_eq_true_eq, decide_eq_false_iff_not, beq_iff_eq, bne_iff_ne, bne_eq_false_iff_eq, beq_eq_false_iff_ne, Bool.not_eq_true, Bool.not_eq_false, Bool.not_eq_true', Bool.not_eq_false', ne_eq] at h1
    refine awp_skip ?_
    refine awp_seq ?_
    refine awp_block ?_
    refine awp_seq ?_
    have hil : i < l.length := by omega
    refine awp_rd [(some 20, []), (some 21, []), (some 22, []), (some 23, []), (some 24, []), (some 25, []), (some 26, []), (some 27, [])] [[], [], [], [1, 2], [1, 2, 3], [], [0, 1, 2, 3, 4, 5], [0, 1, 2, 3, 4, 5, 6]] tm rfl rfl rfl rfl ?_
    refine RD.op rfl rfl rfl (eff_move (v := .t _) rfl rfl rfl) ?_
    refine RD.op rfl rfl rfl (eff_move (v := .t _) rfl rfl rfl) ?_
    refine RD.op rfl rfl rfl (eff_move (v := .t _) rfl rfl rfl) ?_
    refine RD.op rfl rfl rfl (eff_indexAddrT (i := i) rfl rfl te49 rfl rfl (by first | rfl | omega) (by rw [List.getElem?_map, List.getElem?_eq_getElem hil]; rfl) rfl (by decide)) ?_
    refine RD.op rfl rfl rfl (eff_loadW rfl rfl ti58 rfl rfl rfl) ?_
    refine RD.op rfl rfl rfl (eff_load rfl rfl ti58 rfl (.whole rfl rfl rfl rfl rfl rfl)) ?_
    refine RD.op rfl rfl rfl (eff_callT (cmp67_ret (l[i]'hil) (leastR (l.take i) (l[0]'h0))) co67 rfl rfl rfl rfl) ?_
    refine RD.op rfl rfl rfl (eff_iop rfl rfl rfl rfl rfl) ?_
    refine RD.nil ?_
    refine awp_cond rfl (fun h2 => ?_) (fun h2 => ?_)
    · try simp only [decide_eq_true_eq, decide_eq_false_iff_not, beq_iff_eq, bne_iff_ne, bne_eq_false_iff_eq, beq_eq_false_iff_ne, Bool.not_eq_true, Bool.not_eq_false, Bool.not_eq_true', Bool.not_eq_false', ne_eq] at h2
      refine awp_rw rfl ?_
      refine RW.op rfl rfl (eff_move (v := .t _) rfl rfl rfl) ?_
      refine RW.op rfl rfl (eff_move (v := .t _) rfl rfl rfl) ?_
      refine RW.op rfl rfl (eff_indexAddrT (i := i) rfl rfl te49 rfl rfl (by first | rfl | omega) (by rw [List.getElem?_map, List.getElem?_eq_getElem hil]; rfl) rfl (by decide)) ?_
      refine RW.op rfl rfl (eff_loadW rfl rfl ti58 rfl rfl rfl) ?_
      refine RW.store rfl rfl (eff_storeW (v := .t _) (els := [_]) (els' := [_]) rfl rfl ti58 rfl rfl rfl rfl rfl rfl rfl rfl rfl) ?_
      refine RW.nil ?_
      refine awp_rw rfl ?_
      refine RW.op rfl rfl (eff_move (v := .t _) rfl rfl rfl) ?_
      refine RW.op rfl rfl (eff_iop rfl rfl rfl rfl (iadd (by omega))) ?_
      refine RW.op rfl rfl (eff_assign (v := .t _) rfl rfl rfl) ?_
      refine RW.nil ?_
      refine ⟨_, ?_, _, weak_keep (n := 33) (fr' := [(0, .t (.sl (l.map encR) false)), (1, .t (.fn 67 [])), (4, .ptr 4 0 0 0), (5, .ptr 5 0 0 0), (6, .t (encI ((i + 1) : Nat)))]) (st' := [(4, some ⟨4, 58, 0, [.t z58]⟩), (5, some ⟨4, 58, 0, [.t (encR (leastR (l.take (i + 1)) (l[0]'h0)))]⟩)]) ⟨rfl, rfl, rfl, rfl, rfl, rfl, rfl, rfl, rfl, rfl, trivial⟩ ⟨rfl, okE_one rfl, by first | rfl | (rw [show leastR (l.take 1) (l[0]'h0) = l[0]'h0 from by rw [show (1 : Nat) = 0 + 1 from rfl, least_step h0]; exact minR_self _]; rfl) | (rw [show leastR (l.take (i + 1)) (l[0]'h0) = (l[i]'hil) from by rw [least_step hil]; exact if_pos (cmpI_neg.1 (by assumption))]; rfl) | (rw [show leastR (l.take (i + 1)) (l[0]'h0) = (leastR (l.take i) (l[0]'h0)) from by rw [least_step hil]; exact if_neg (fun hh => (by assumption : ¬ _) (cmpI_neg.2 hh))]; rfl), okE_one rfl, trivial⟩, i + 1, (by omega), (by omega), rfl, rfl⟩
      omega
    · try simp only [decide_eq_true_eq, decide_eq_false_iff_not, beq_iff_eq, bne_iff_ne, bne_eq_false_iff_eq, beq_eq_false_iff_ne, Bool.not_eq_true, Bool.not_eq_false, Bool.not_eq_true', Bool.not_eq_false', ne_eq] at h2
      refine awp_skip ?_
      refine awp_rw rfl ?_
      refine RW.op rfl rfl (eff_move (v := .t _) rfl rfl rfl) ?_
      refine RW.op rfl rfl (eff_iop rfl rfl rfl rfl (iadd (by omega))) ?_
      refine RW.op rfl rfl (eff_assign (v := .t _) rfl rfl rfl) ?_
      refine RW.nil ?_
      refine ⟨_, ?_, _, weak_keep (n := 33) (fr' := [(0, .t (.sl (l.map encR) false)), (1, .t (.fn 67 [])), (4, .ptr 4 0 0 0), (5, .ptr 5 0 0 0), (6, .t (encI ((i + 1) : Nat)))]) (st' := [(4, some ⟨4, 58, 0, [.t z58]⟩), (5, some ⟨4, 58, 0, [.t (encR (leastR (l.take (i + 1)) (l[0]'h0)))]⟩)]) ⟨rfl, rfl, rfl, rfl, rfl, rfl, rfl, rfl, rfl, rfl, trivial⟩ ⟨rfl, okE_one rfl, by first | rfl | (rw [show leastR (l.take 1) (l[0]'h0) = l[0]'h0 from by rw [show (1 : Nat) = 0 + 1 from rfl, least_step h0]; exact minR_self _]; rfl) | (rw [show leastR (l.take (i + 1)) (l[0]'h0) = (l[i]'hil) from by rw [least_step hil]; exact if_pos (cmpI_neg.1 (by assumption))]; rfl) | (rw [show leastR (l.take (i + 1)) (l[0]'h0) = (leastR (l.take i) (l[0]'h0)) from by rw [least_step hil]; exact if_neg (fun hh => (by assumption : ¬ _) (cmpI_neg.2 hh))]; rfl), okE_one rfl, trivial⟩, i + 1, (by omega), (by omega), rfl, rfl⟩
      omega
  · try simp only [decide_eq_true_eq, decide_eq_false_iff_not, beq_iff_eq, bne_iff_ne, bne_eq_false_iff_eq, beq_eq_false_iff_ne, Bool.not_eq_true, Bool.not_eq_false, Bool.not_eq_true', Bool.not_eq_false', ne_eq] at h1
    refine awp_exit ?_
    refine awp_seq ?_
    obtain rfl : i = l.length := by omega
    rw [List.take_length]
    refine awp_rw rfl ?_
    refine RW.op rfl rfl (eff_load rfl rfl ti58 rfl (.whole rfl rfl rfl rfl rfl rfl)) ?_
    refine RW.store rfl rfl (eff_storeW (v := .t _) (els := [_]) (els' := [_]) rfl rfl ti58 rfl rfl rfl rfl rfl rfl rfl rfl rfl) ?_
    refine RW.nil ?_
    refine awp_ret ?_
    exact ⟨Or.inr rfl, [_], ⟨.cell rfl ti58 (.whole rfl rfl rfl rfl rfl rfl) (.t _), trivial⟩, .refl _⟩

theorem settled_ret (l : List Rep) (ss : List Tr) (fl : Bool) (hl : l.length ≤ 100000) : Ret Try.prog 37 [.agg [.sl ss fl, .sl (l.map encR) false]] (encI (settledF l)) := by
  refine ret_of_awp Try.func37 rfl (Nat.le_of_ble_eq_true rfl) ?_
  refine awp_seq ?_
  refine awp_rw rfl ?_
  refine RW.new rfl rfl (eff_boxK (v := .t _) (k := 2) (id := 1) rfl rfl rfl rfl rfl rfl) ?_
  refine RW.op rfl rfl (eff_assign (v := .t _) rfl rfl rfl) ?_
  refine RW.nil ?_
  refine awp_seq ?_
  refine awp_seq ?_
  by_cases hc1 : l.length = 0
  · refine awp_rw rfl ?_
    refine RW.op rfl rfl (eff_fieldAddr rfl rfl tf54_1 (by decide) rfl rfl rfl (Nat.le_of_ble_eq_true rfl)) ?_
    refine RW.op rfl rfl (eff_load (y := .t _) rfl rfl ti49 rfl (.one rfl rfl rfl rfl)) ?_
    refine RW.op rfl rfl (eff_lenM rfl rfl te49 rfl) ?_
    refine RW.op rfl rfl (eff_iop (r := .bool true) rfl rfl rfl rfl (by exact congrArg (fun x => some (Tr.bool x)) (beq_iff_eq.2 (by rw [hc1]; rfl)))) ?_
    refine RW.nil ?_
    refine awp_cond rfl (fun _ => ?_) (fun h => nomatch h)
    refine awp_seq ?_
    refine awp_rw rfl ?_
    refine RW.op rfl rfl (eff_assign (v := .t _) rfl rfl rfl) ?_
    refine RW.nil ?_
    refine awp_ret ?_
    rw [List.length_eq_zero_iff.1 hc1]
    exact ⟨Or.inr rfl, [_], ⟨.tmp (.t _), trivial⟩, .refl _⟩
  · refine awp_rw rfl ?_
    refine RW.op rfl rfl (eff_fieldAddr rfl rfl tf54_1 (by decide) rfl rfl rfl (Nat.le_of_ble_eq_true rfl)) ?_
    refine RW.op rfl rfl (eff_load (y := .t _) rfl rfl ti49 rfl (.one rfl rfl rfl rfl)) ?_
    refine RW.op rfl rfl (eff_lenM rfl rfl te49 rfl) ?_
    refine RW.op rfl rfl (eff_iop (r := .bool false) rfl rfl rfl rfl (by exact congrArg (fun x => some (Tr.bool x)) (beq_eq_false_iff_ne.2 (by omega)))) ?_
    refine RW.nil ?_
    refine awp_cond rfl (fun h => nomatch h) (fun _ => ?_)
    refine awp_skip ?_
    refine awp_seq ?_
    refine awp_rw rfl ?_
    refine RW.op rfl rfl (eff_fieldAddr rfl rfl tf54_1 (by decide) rfl rfl rfl (Nat.le_of_ble_eq_true rfl)) ?_
    refine RW.op rfl rfl (eff_load (y := .t _) rfl rfl ti49 rfl (.one rfl rfl rfl rfl)) ?_
    refine RW.op rfl rfl (eff_callT (min_ret l (by omega) hl) co66 rfl rfl rfl rfl) ?_
    refine RW.op rfl rfl (eff_field rfl rfl tf58_0 rfl rfl) ?_
    refine RW.op rfl rfl (eff_assign (v := .t _) rfl rfl rfl) ?_
    refine RW.nil ?_
    refine awp_ret ?_
    rw [settled_is (by omega)]
    exact ⟨Or.inr rfl, [_], ⟨.tmp (.t _), trivial⟩, .refl _⟩

end Go.Tv.C35

end
section
open Go Go.Tv Go.Proofs
namespace Go.Tv.C35
set_option linter.unusedVariables false

def tailsC (B : List Bid) (s : Int) : Nat → List Nat → Nat → List (List Nat)
  | 0, _, _ => []
  | n + 1, head, i => if i < B.length then (if compI B s (head ++ [i]) then (head ++ [i]) :: tailsC B s n (head ++ [i]) (i + 1) else []) ++ tailsC B s n head (i + 1) else []
theorem tailsC_eq {B : List Bid} {s : Int} : ∀ (n : Nat) (head : List Nat) (i : Nat), B.length - i ≤ n → tailsC B s n head i = tailsF B s head i
  | 0, head, i, h => by rw [tailsF, dif_neg (by omega)]; rfl
  | n + 1, head, i, h => by
    unfold tailsC
    by_cases hi : i < B.length
    · rw [if_pos hi, tailsF, dif_pos hi, tailsC_eq n _ _ (by omega), tailsC_eq n _ _ (by omega)]
    · rw [if_neg hi, tailsF, dif_neg hi]
def bestC (B : List Bid) (s : Int) : List Nat := pick B [] ([] :: tailsC B s B.length [] 0)
theorem best_C {B : List Bid} {s : Int} (ho : ∀ b, b ∈ B → Ok b) : bestF B s = bestC B s := by
  rw [← pick_best ho]
  unfold bestC
  rw [tailsC_eq _ _ _ (by omega)]; rfl
theorem opt_C {B : List Bid} {s : Int} (ho : ∀ b, b ∈ B → Ok b) : optOf (atS B s) = vI B (bestC B s) := by
  rw [← best_val ho, best_C ho]
def outC (B : List Bid) : Nat → List Nat
  | 0 => []
  | s + 1 => outC B s ++ bestC (blockF B (outC B s) s) s
theorem out_C {B : List Bid} (ho : ∀ b, b ∈ B → Ok b) : ∀ s : Nat, outF B s = outC B s
  | 0 => rfl
  | s + 1 => by
    show outF B s ++ bestF (blockF B (outF B s) s) s = outC B s ++ bestC (blockF B (outC B s) s) s
    rw [out_C ho s, best_C (block_ok ho)]
def threeF (v : Int) : List Bid := [⟨0, 0, 0, 10, 5⟩, ⟨1, 0, 5, 15, v⟩, ⟨2, 0, 10, 20, 4⟩]
theorem three_ok {v : Int} (h : 1 ≤ v) : ∀ b, b ∈ threeF v → Ok b := by
  intro b hb
  simp only [threeF, List.mem_cons, List.not_mem_nil, or_false] at hb
  rcases hb with rfl | rfl | rfl
  · exact ⟨by decide, by decide⟩
  · exact ⟨(by show (5 : Int) < 15; decide), h⟩
  · exact ⟨by decide, by decide⟩
theorem three_okl {v : Int} (h : 1 ≤ v ∧ v ≤ 1000000) : OkL (threeF v) := ⟨three_ok h.1, by simp [threeF], fun b hb => by
  simp only [threeF, List.mem_cons, List.not_mem_nil, or_false] at hb
  rcases hb with rfl | rfl | rfl
  · exact ⟨by decide, by decide, by decide⟩
  · exact ⟨h.2, (by show (0 : Int) ≤ 5; decide), (by show (5 : Int) ≤ 1000000; decide)⟩
  · exact ⟨by decide, by decide, by decide⟩⟩
theorem lb8 : bestF (threeF 8) 0 = [0, 2] := by rw [best_C (three_ok (by decide))]; decide +kernel
theorem lb9 : bestF (threeF 9) 0 = [0, 2] := by rw [best_C (three_ok (by decide))]; decide +kernel
theorem lb10 : bestF (threeF 10) 0 = [1] := by rw [best_C (three_ok (by decide))]; decide +kernel
theorem lb81 : bestF (threeF 8) 1 = [] := by rw [best_C (three_ok (by decide))]; decide +kernel
theorem lo8 (i : Nat) : ∀ b, b ∈ othersF (threeF 8) i → Ok b := fun b hb => three_ok (by decide) b (others_mem hb)
theorem lp0 : priceZ (threeF 8) 0 0 = 4 := by
  unfold priceZ priceF oF
  rw [lb8, opt_C (lo8 _), opt_C (three_ok (by decide))]
  decide +kernel
theorem lp2 : priceZ (threeF 8) 0 2 = 3 := by
  unfold priceZ priceF oF
  rw [lb8, opt_C (lo8 _), opt_C (three_ok (by decide))]
  decide +kernel
theorem lp1 : priceZ (threeF 8) 0 1 = 0 := by
  unfold priceZ
  rw [lb8]
  decide
theorem lv14 : valZ (threeF 8) [0, 2, 7, 0] = 14 := by decide +kernel
theorem la8 : sortI (toI (outF (threeF 8) 9)) = [0, 2] := by
  have h : outF (threeF 8) 9 = [0, 2] := by rw [out_C (three_ok (by decide))]; decide +kernel
  rw [h]
  exact (sortI_eq (l := toI [0, 2]) (X := [0, 2]) (by decide) (List.Perm.refl _)).symm
def winF : List Win := [⟨1, 0, 0, 0, 12, 1⟩, ⟨1, 1, 0, 5, 15, 1⟩, ⟨1, 2, 0, 10, 19, 1⟩]
def repF : List Rep := [⟨2, 2, 0, false⟩, ⟨3, 0, 0, false⟩]
theorem repF_ok : ∀ r, r ∈ repF → RepOK r := by
  intro r hr
  simp only [repF, List.mem_cons, List.not_mem_nil, or_false] at hr
  rcases hr with rfl | rfl <;> exact ⟨⟨by decide, by decide⟩, by decide, by decide⟩
theorem ln6 : neededN repF 6 = [2, 3, 4, 5] := by decide +kernel
theorem lset : settledF repF = 2 := by decide +kernel
theorem lpa : passesF winF 1 14 = [⟨1, 1, 0, 5, 15, 1⟩] := by decide +kernel
theorem lpb : passesF winF 1 15 = [] := by decide +kernel
theorem lc2 : errF (atB winF) ((threeF 8).take 2) = 0 := by decide +kernel
theorem lc3 : errF (atB winF) (threeF 8) = 32 := by decide +kernel
theorem lc0 : errF (atB winF) (threeF 0) = 5 := by decide +kernel
theorem lc65 : errF (atB winF) (List.replicate 65 zb) = 2 := by decide +kernel
theorem same_true {l q : List Int} (hl : l.length ≤ 1000000) (hq : q.length ≤ 1000000) (h : l = q) : Ret Try.prog 19 [.sl (l.map encI) false, .sl (q.map encI) false] (.bool true) := by
  have := sameInts_ret l q hl hq
  rwa [decide_eq_true h] at this
end Go.Tv.C35

end
section
open Go Go.Tv Go.Proofs
namespace Go.Tv.C35
set_option maxRecDepth 20000
set_option maxHeartbeats 2000000
set_option linter.unusedSimpArgs false
set_option linter.unusedVariables false
theorem around_ret (n m : Int) (hn : I64 n) (hm : 0 < m ∧ m ≤ 4294967296) : Ret Try.prog 48 [encI n, encI m] (encI (around n m)) := by
  unfold I64 at hn
  refine ret_of_awp Try.func48 rfl (Nat.le_of_ble_eq_true rfl) ?_
  refine awp_seq ?_
  refine awp_rw rfl ?_
  refine RW.op rfl rfl (eff_assign (v := .t _) rfl rfl rfl) ?_
  refine RW.nil ?_
  refine awp_seq ?_
  refine awp_seq ?_
  refine awp_rw rfl ?_
  refine RW.op rfl rfl (eff_move (v := .t _) rfl rfl rfl) ?_
  refine RW.op rfl rfl (eff_iop rfl rfl rfl rfl rfl) ?_
  refine RW.nil ?_
  refine awp_cond rfl (fun h1 => ?_) (fun h1 => ?_)
  · try simp only [decide_eq_true_eq, decide_eq_false_iff_not, beq_iff_eq, bne_iff_ne, bne_eq_false_iff_eq, beq_eq_false_iff_ne, Bool.not_eq_true, Bool.not_eq_false, Bool.not_eq_true', Bool.not_eq_false', ne_eq] at h1
    refine awp_rw rfl ?_
    refine RW.op rfl rfl (eff_move (v := .t _) rfl rfl rfl) ?_
    refine RW.op rfl rfl (eff_iop (r := encI (n + 1)) rfl rfl rfl rfl (iadd (by omega))) ?_
    refine RW.op rfl rfl (eff_unop (r := encI (-(n + 1))) rfl rfl rfl (uneg (by omega))) ?_
    refine RW.op rfl rfl (eff_assign (v := .t _) rfl rfl rfl) ?_
    refine RW.nil ?_
    refine awp_seq ?_
    refine awp_rw rfl ?_
    refine RW.op rfl rfl (eff_move (v := .t _) rfl rfl rfl) ?_
    refine RW.op rfl rfl (eff_move (v := .t _) rfl rfl rfl) ?_
    refine RW.op rfl rfl (eff_rem rfl rfl rfl rfl (by first | decide | omega)) ?_
    refine RW.op rfl rfl (eff_assign (v := .t _) rfl rfl rfl) ?_
    refine RW.nil ?_
    refine awp_ret ?_
    (rw [show around n m = Int.tmod (-(n + 1)) m from by unfold around; rw [if_pos (by omega), tmod_pos (by omega)]]; exact ⟨Or.inr rfl, [_], ⟨.tmp (.t _), trivial⟩, .refl _⟩)
  · try simp only [decide_eq_true_eq, decide_eq_false_iff_not, beq_iff_eq, bne_iff_ne, bne_eq_false_iff_eq, beq_eq_false_iff_ne, Bool.not_eq_true, Bool.not_eq_false, Bool.not_eq_true', Bool.not_eq_false', ne_eq] at h1
    refine awp_skip ?_
    refine awp_seq ?_
    refine awp_rw rfl ?_
    refine RW.op rfl rfl (eff_move (v := .t _) rfl rfl rfl) ?_
    refine RW.op rfl rfl (eff_move (v := .t _) rfl rfl rfl) ?_
    refine RW.op rfl rfl (eff_rem rfl rfl rfl rfl (by first | decide | omega)) ?_
    refine RW.op rfl rfl (eff_assign (v := .t _) rfl rfl rfl) ?_
    refine RW.nil ?_
    refine awp_ret ?_
    (rw [show around n m = Int.tmod n m from by unfold around; rw [if_neg (by omega), tmod_pos (by omega)]]; exact ⟨Or.inr rfl, [_], ⟨.tmp (.t _), trivial⟩, .refl _⟩)

theorem three_ret (v : Int) : Ret Try.prog 40 [encI v] (.sl ((threeF v).map encB) false) := by
  refine ret_of_awp Try.func40 rfl (Nat.le_of_ble_eq_true rfl) ?_
  refine awp_seq ?_
  refine awp_rw rfl ?_
  refine RW.op rfl rfl (eff_assign (v := .t _) rfl rfl rfl) ?_
  refine RW.nil ?_
  refine awp_seq ?_
  refine awp_rw rfl ?_
  refine RW.op rfl rfl (eff_buildT (ys := [_, _, _, _, _]) rfl rfl tz42 tg42 rfl) ?_
  refine RW.op rfl rfl (eff_move (v := .t _) rfl rfl rfl) ?_
  refine RW.op rfl rfl (eff_buildT (ys := [_, _, _, _, _]) rfl rfl tz42 tg42 rfl) ?_
  refine RW.op rfl rfl (eff_buildT (ys := [_, _, _, _, _]) rfl rfl tz42 tg42 rfl) ?_
  refine RW.new rfl rfl (eff_buildSliceL (id := 7) (els := [.t (.agg [_, _, _, _, _]), .t (.agg [_, _, _, _, _]), .t (.agg [_, _, _, _, _])]) rfl rfl te23 tz42 rfl (by decide) (by decide) rfl rfl rfl rfl) ?_
  refine RW.op rfl rfl (eff_assign (v := .own _ _ _ _) rfl rfl rfl) ?_
  refine RW.nil ?_
  refine awp_ret ?_
  exact ⟨Or.inr rfl, [_], ⟨.tmp (Res.ownT (xs := (threeF v).map encB) rfl rfl rfl rfl), trivial⟩, .refl _⟩

theorem needed_reti (l : List Rep) (ss : List Tr) (fl : Bool) (q : Nat) (hl : l.length ≤ 100000) (hR : ∀ r, r ∈ l → RepOK r) (hq : q ≤ 1000) : Ret Try.prog 34 [.agg [.sl ss fl, .sl (l.map encR) false], encI (q : Nat)] (.sl ((toI (neededN l q)).map encI) false) := by
  have h := needed_ret l ss fl q hl hR hq
  rw [encN_map] at h
  exact h

theorem lives_ret  : Ret Try.prog 12 [] (.bool true) := by
  refine ret_of_awp Try.func12 rfl (Nat.le_of_ble_eq_true rfl) ?_
  refine awp_seq ?_
  refine awp_rw rfl ?_
  refine RW.op rfl rfl (eff_assign (v := .t _) rfl rfl rfl) ?_
  refine RW.nil ?_
  refine awp_seq ?_
  refine awp_rw rfl ?_
  refine RW.op rfl rfl (eff_callT (three_ret 8) co40 rfl rfl rfl rfl) ?_
  refine RW.op rfl rfl (eff_assign (v := .t _) rfl rfl rfl) ?_
  refine RW.nil ?_
  refine awp_seq ?_
  refine awp_rw rfl ?_
  refine RW.op rfl rfl (eff_buildT (ys := [_, _, _, _]) rfl rfl tz58 tg58 rfl) ?_
  refine RW.op rfl rfl (eff_buildT (ys := [_, _, _, _]) rfl rfl tz58 tg58 rfl) ?_
  refine RW.new rfl rfl (eff_buildSliceL (id := 8) (els := [.t (.agg [_, _, _, _]), .t (.agg [_, _, _, _])]) rfl rfl te49 tz58 rfl (by decide) (by decide) rfl rfl rfl rfl) ?_
  refine RW.op rfl rfl (eff_buildA (ys := [_, _]) rfl rfl tz54 tg54 rfl rfl) ?_
  refine RW.new rfl rfl (eff_allocK (k := 2) (id := 2) rfl rfl tz54 rfl rfl) ?_
  refine RW.store rfl rfl (eff_storeW (v := .agg _) (els := [_]) (els' := [_]) rfl rfl ti54 rfl rfl rfl rfl rfl rfl rfl rfl rfl) ?_
  refine RW.nil ?_
  show AWP _ _ _ _
  refine awp_weak (weak_frz (n := 124) (fr' := [(0, .t (.bool false)), (1, .t (.sl ((threeF 8).map encB) false)), (2, .t (.ptr [.sl [] true, .sl (repF.map encR) false]))]) (st' := []) [(2, some ⟨2, 54, 0, [.agg [.t (.sl [] true), .own 8 0 0 2]]⟩), (8, some ⟨4, 58, 0, (repF.map encR).map .t⟩)] ⟨rfl, rfl, trivial⟩ trivial ⟨wa_eq rfl rfl, wa_eq rfl rfl, .res (.ptr 2 0 0 0 _ _ [.sl [] true, .sl (repF.map encR) false] rfl rfl rfl (Nat.le_refl 2) (fun n e x he hx => ResP.get [.t (.sl [] true), .own 8 0 0 2] [.sl [] true, .sl (repF.map encR) false] ⟨.t _, Res.ownT (xs := repF.map encR) rfl rfl rfl rfl, trivial⟩ n e x (by simpa [AV.cells] using he) hx)) (.refl _), trivial⟩ trivial) ?_
  refine awp_seq ?_
  refine awp_rw rfl ?_
  refine RW.op rfl rfl (eff_buildT (ys := [_, _, _, _, _, _]) rfl rfl tz29 tg29 rfl) ?_
  refine RW.op rfl rfl (eff_buildT (ys := [_, _, _, _, _, _]) rfl rfl tz29 tg29 rfl) ?_
  refine RW.op rfl rfl (eff_buildT (ys := [_, _, _, _, _, _]) rfl rfl tz29 tg29 rfl) ?_
  refine RW.new rfl rfl (eff_buildSliceL (id := 13) (els := [.t (.agg [_, _, _, _, _, _]), .t (.agg [_, _, _, _, _, _]), .t (.agg [_, _, _, _, _, _])]) rfl rfl te25 tz29 rfl (by decide) (by decide) rfl rfl rfl rfl) ?_
  refine RW.op rfl rfl (eff_assign (v := .own _ _ _ _) rfl rfl rfl) ?_
  refine RW.nil ?_
  show AWP _ _ _ _
  refine awp_weak (weak_frz (n := 124) (fr' := [(0, .t (.bool false)), (1, .t (.sl ((threeF 8).map encB) false)), (2, .t (.ptr [.sl [] true, .sl (repF.map encR) false])), (3, .t (.sl (winF.map encW) false))]) (st' := []) [(13, some ⟨6, 29, 0, (winF.map encW).map .t⟩)] ⟨rfl, trivial⟩ trivial ⟨wa_eq rfl rfl, wa_eq rfl rfl, wa_eq rfl rfl, .res (Res.ownT (xs := winF.map encW) rfl rfl rfl rfl) (.refl _), trivial⟩ trivial) ?_
  refine awp_seq ?_
  refine awp_rw rfl ?_
  refine RW.op rfl rfl (eff_move (v := .t _) rfl rfl rfl) ?_
  refine RW.op rfl rfl (eff_callT (passes_ret winF 1 14 (by decide)) co14 rfl rfl rfl rfl) ?_
  refine RW.op rfl rfl (eff_assign (v := .t _) rfl rfl rfl) ?_
  refine RW.nil ?_
  refine awp_seq ?_
  refine awp_seq ?_
  rw [lpa]
  refine awp_rd [(some 16, []), (some 17, []), (some 18, []), (some 19, []), (some 20, []), (some 21, []), (some 22, []), (some 23, []), (some 24, []), (some 25, []), (some 26, []), (some 27, []), (some 28, []), (some 29, []), (some 30, []), (some 31, []), (some 32, []), (some 33, [])] [[], [0], [0, 1], [0, 1, 2], [0, 1, 2, 3], [0, 1, 2, 3, 4], [0, 1, 2, 3, 4, 5], [0, 1, 2, 3], [0, 1, 2, 3, 7], [0, 1, 2, 3, 7, 8], [0, 1, 2, 3, 4, 5, 6, 7, 8, 9], [0, 1, 2, 3, 4, 5, 6, 7, 8, 9, 10], [0, 1, 2, 3, 4, 5, 6, 7, 8, 9, 10, 11], [0, 1, 2, 3, 4, 5, 6, 7, 8, 9, 10, 11, 12], [0, 1, 2, 3, 4, 5, 6, 7, 8, 9, 10, 11, 12, 13], [0, 1, 2, 3, 4, 5, 6, 7, 8, 9, 10, 11, 12, 13, 14], [0, 1, 2, 3, 4, 5, 6, 7, 8, 9, 10, 11, 12, 13, 14, 15], [0, 1, 2, 3, 4, 5, 6, 7, 8, 9, 10, 11, 12, 13, 14, 15, 16]] tm rfl rfl rfl rfl ?_
  refine RD.op rfl rfl rfl (eff_move (v := .t _) rfl rfl rfl) ?_
  refine RD.op rfl rfl rfl (eff_lenM rfl rfl te25 rfl) ?_
  refine RD.op rfl rfl rfl (eff_iop (r := .bool false) rfl rfl rfl rfl (by rfl)) ?_
  refine RD.op rfl rfl rfl (eff_move (v := .t _) rfl rfl rfl) ?_
  refine RD.gop rfl rfl rfl rfl rfl rfl rfl (eff_move (v := .t _) rfl rfl rfl) ?_
  refine RD.gop rfl rfl rfl rfl rfl rfl rfl (eff_indexM (i := 0) rfl rfl te25 rfl rfl (by first | rfl | omega) (by rfl) rfl (by decide)) ?_
  refine RD.gop rfl rfl rfl rfl rfl rfl rfl (eff_loadW rfl rfl ti29 rfl rfl rfl) ?_
  refine RD.gop rfl rfl rfl rfl rfl rfl rfl (eff_move (v := .t _) rfl rfl rfl) ?_
  refine RD.gop rfl rfl rfl rfl rfl rfl rfl (eff_indexM (i := 1) rfl rfl te25 rfl rfl (by first | rfl | omega) (by rfl) rfl (by decide)) ?_
  refine RD.gop rfl rfl rfl rfl rfl rfl rfl (eff_loadW rfl rfl ti29 rfl rfl rfl) ?_
  refine RD.gop rfl rfl rfl rfl rfl rfl rfl (eff_structNeqA (cells := cellsW) (a := ⟨1, 1, 0, 5, 15, 1⟩) (b := ⟨1, 1, 0, 5, 15, 1⟩) rfl rfl ts29s ti29 th29 cellsW_inj cellsW_kind rfl rfl) ?_
  refine RD.op rfl rfl rfl (eff_pick (v := .t _) rfl rfl rfl rfl) ?_
  refine RD.op rfl rfl rfl (eff_move (v := .t _) rfl rfl rfl) ?_
  refine RD.gop rfl rfl rfl rfl rfl rfl rfl (eff_move (v := .t _) rfl rfl rfl) ?_
  refine RD.gop rfl rfl rfl rfl rfl rfl rfl (eff_callT (passes_ret winF 1 15 (by decide)) co14 rfl rfl rfl rfl) ?_
  refine RD.gop rfl rfl rfl rfl rfl rfl rfl (eff_lenM rfl rfl te25 rfl) ?_
  refine RD.gop rfl rfl rfl rfl rfl rfl rfl (eff_iop (r := .bool false) rfl rfl rfl rfl (by rw [lpb]; rfl)) ?_
  refine RD.op rfl rfl rfl (eff_pick (v := .t _) rfl rfl rfl rfl) ?_
  refine RD.nil ?_
  refine awp_cond rfl (fun h => nomatch h) (fun _ => ?_)
  refine awp_skip ?_
  refine awp_seq ?_
  refine awp_rw rfl ?_
  refine RW.op rfl rfl (eff_move (v := .t _) rfl rfl rfl) ?_
  refine RW.op rfl rfl (eff_callT (best_reti (threeF 8) 0 (three_okl (by decide))) co20 rfl rfl rfl rfl) ?_
  refine RW.op rfl rfl (eff_buildSliceT (xs := ([0, 2] : List Int).map encI) rfl rfl te22 tz3 rfl (by decide) rfl rfl rfl (by decide)) ?_
  refine RW.op rfl rfl (eff_callW (xs := [_, _]) (same_true (l := toI (bestF (threeF 8) 0)) (q := [0, 2]) (by rw [lb8]; decide) (by decide) (by rw [lb8]; rfl)) co19 rfl rfl rfl rfl (by repeat' first | exact trivial | exact Wk.refl _ | exact Wk.sl _ | refine And.intro ?_ ?_ | refine Wk.aggP ?_)) ?_
  refine RW.op rfl rfl (eff_move (v := .t _) rfl rfl rfl) ?_
  refine RW.gop rfl rfl rfl rfl rfl rfl (eff_callT (three_ret 9) co40 rfl rfl rfl rfl) ?_
  refine RW.gop rfl rfl rfl rfl rfl rfl (eff_callT (best_reti (threeF 9) 0 (three_okl (by decide))) co20 rfl rfl rfl rfl) ?_
  refine RW.gop rfl rfl rfl rfl rfl rfl (eff_buildSliceT (xs := ([0, 2] : List Int).map encI) rfl rfl te22 tz3 rfl (by decide) rfl rfl rfl (by decide)) ?_
  refine RW.gop rfl rfl rfl rfl rfl rfl (eff_callW (xs := [_, _]) (same_true (l := toI (bestF (threeF 9) 0)) (q := [0, 2]) (by rw [lb9]; decide) (by decide) (by rw [lb9]; rfl)) co19 rfl rfl rfl rfl (by repeat' first | exact trivial | exact Wk.refl _ | exact Wk.sl _ | refine And.intro ?_ ?_ | refine Wk.aggP ?_)) ?_
  refine RW.op rfl rfl (eff_pick (v := .t _) rfl rfl rfl rfl) ?_
  refine RW.op rfl rfl (eff_move (v := .t _) rfl rfl rfl) ?_
  refine RW.gop rfl rfl rfl rfl rfl rfl (eff_callT (three_ret 10) co40 rfl rfl rfl rfl) ?_
  refine RW.gop rfl rfl rfl rfl rfl rfl (eff_callT (best_reti (threeF 10) 0 (three_okl (by decide))) co20 rfl rfl rfl rfl) ?_
  refine RW.gop rfl rfl rfl rfl rfl rfl (eff_buildSliceT (xs := ([1] : List Int).map encI) rfl rfl te22 tz3 rfl (by decide) rfl rfl rfl (by decide)) ?_
  refine RW.gop rfl rfl rfl rfl rfl rfl (eff_callW (xs := [_, _]) (same_true (l := toI (bestF (threeF 10) 0)) (q := [1]) (by rw [lb10]; decide) (by decide) (by rw [lb10]; rfl)) co19 rfl rfl rfl rfl (by repeat' first | exact trivial | exact Wk.refl _ | exact Wk.sl _ | refine And.intro ?_ ?_ | refine Wk.aggP ?_)) ?_
  refine RW.op rfl rfl (eff_pick (v := .t _) rfl rfl rfl rfl) ?_
  refine RW.op rfl rfl (eff_move (v := .t _) rfl rfl rfl) ?_
  refine RW.gop rfl rfl rfl rfl rfl rfl (eff_move (v := .t _) rfl rfl rfl) ?_
  refine RW.gop rfl rfl rfl rfl rfl rfl (eff_callT (best_reti (threeF 8) 1 (three_okl (by decide))) co20 rfl rfl rfl rfl) ?_
  refine RW.gop rfl rfl rfl rfl rfl rfl (eff_lenM rfl rfl te22 rfl) ?_
  refine RW.gop rfl rfl rfl rfl rfl rfl (eff_iop (r := .bool true) rfl rfl rfl rfl (by rw [lb81]; rfl)) ?_
  refine RW.op rfl rfl (eff_pick (v := .t _) rfl rfl rfl rfl) ?_
  refine RW.op rfl rfl (eff_move (v := .t _) rfl rfl rfl) ?_
  refine RW.gop rfl rfl rfl rfl rfl rfl (eff_move (v := .t _) rfl rfl rfl) ?_
  refine RW.gop rfl rfl rfl rfl rfl rfl (eff_buildSliceT (xs := ([0, 2, 7, 0] : List Int).map encI) rfl rfl te22 tz3 rfl (by decide) rfl rfl rfl (by decide)) ?_
  refine RW.gop rfl rfl rfl rfl rfl rfl (eff_callW (xs := [_, _]) (value_ret (threeF 8) [0, 2, 7, 0] (three_okl (by decide)).vb (by decide) (by decide)) co22 rfl rfl rfl rfl (by repeat' first | exact trivial | exact Wk.refl _ | exact Wk.sl _ | refine And.intro ?_ ?_ | refine Wk.aggP ?_)) ?_
  refine RW.gop rfl rfl rfl rfl rfl rfl (eff_iop (r := .bool true) rfl rfl rfl rfl (by rw [lv14]; rfl)) ?_
  refine RW.op rfl rfl (eff_pick (v := .t _) rfl rfl rfl rfl) ?_
  refine RW.op rfl rfl (eff_move (v := .t _) rfl rfl rfl) ?_
  refine RW.gop rfl rfl rfl rfl rfl rfl (eff_move (v := .t _) rfl rfl rfl) ?_
  refine RW.gop rfl rfl rfl rfl rfl rfl (eff_callT (price_ret (threeF 8) 0 0 (three_okl (by decide))) co24 rfl rfl rfl rfl) ?_
  refine RW.gop rfl rfl rfl rfl rfl rfl (eff_iop (r := .bool true) rfl rfl rfl rfl (by rw [lp0]; rfl)) ?_
  refine RW.op rfl rfl (eff_pick (v := .t _) rfl rfl rfl rfl) ?_
  refine RW.op rfl rfl (eff_move (v := .t _) rfl rfl rfl) ?_
  refine RW.gop rfl rfl rfl rfl rfl rfl (eff_move (v := .t _) rfl rfl rfl) ?_
  refine RW.gop rfl rfl rfl rfl rfl rfl (eff_callT (price_ret (threeF 8) 0 2 (three_okl (by decide))) co24 rfl rfl rfl rfl) ?_
  refine RW.gop rfl rfl rfl rfl rfl rfl (eff_iop (r := .bool true) rfl rfl rfl rfl (by rw [lp2]; rfl)) ?_
  refine RW.op rfl rfl (eff_pick (v := .t _) rfl rfl rfl rfl) ?_
  refine RW.op rfl rfl (eff_move (v := .t _) rfl rfl rfl) ?_
  refine RW.gop rfl rfl rfl rfl rfl rfl (eff_move (v := .t _) rfl rfl rfl) ?_
  refine RW.gop rfl rfl rfl rfl rfl rfl (eff_callT (price_ret (threeF 8) 0 1 (three_okl (by decide))) co24 rfl rfl rfl rfl) ?_
  refine RW.gop rfl rfl rfl rfl rfl rfl (eff_iop (r := .bool true) rfl rfl rfl rfl (by rw [lp1]; rfl)) ?_
  refine RW.op rfl rfl (eff_pick (v := .t _) rfl rfl rfl rfl) ?_
  refine RW.op rfl rfl (eff_move (v := .t _) rfl rfl rfl) ?_
  refine RW.gop rfl rfl rfl rfl rfl rfl (eff_move (v := .t _) rfl rfl rfl) ?_
  refine RW.gop rfl rfl rfl rfl rfl rfl (eff_callT (assign_ret (threeF 8) (three_okl (by decide))) co26 rfl rfl rfl rfl) ?_
  refine RW.gop rfl rfl rfl rfl rfl rfl (eff_buildSliceT (xs := ([0, 2] : List Int).map encI) rfl rfl te22 tz3 rfl (by decide) rfl rfl rfl (by decide)) ?_
  refine RW.gop rfl rfl rfl rfl rfl rfl (eff_callW (xs := [_, _]) (same_true (l := sortI (toI (outF (threeF 8) 9))) (q := [0, 2]) (by rw [la8]; decide) (by decide) la8) co19 rfl rfl rfl rfl (by repeat' first | exact trivial | exact Wk.refl _ | exact Wk.sl _ | refine And.intro ?_ ?_ | refine Wk.aggP ?_)) ?_
  refine RW.op rfl rfl (eff_pick (v := .t _) rfl rfl rfl rfl) ?_
  refine RW.op rfl rfl (eff_move (v := .t _) rfl rfl rfl) ?_
  refine RW.gop rfl rfl rfl rfl rfl rfl (eff_loadT (ys := [_, _]) rfl rfl ti54 rfl rfl rfl) ?_
  refine RW.gop rfl rfl rfl rfl rfl rfl (eff_callT (needed_reti repF [] true 6 (by decide) repF_ok (by decide)) co34 rfl rfl rfl rfl) ?_
  refine RW.gop rfl rfl rfl rfl rfl rfl (eff_buildSliceT (xs := ([2, 3, 4, 5] : List Int).map encI) rfl rfl te22 tz3 rfl (by decide) rfl rfl rfl (by decide)) ?_
  refine RW.gop rfl rfl rfl rfl rfl rfl (eff_callW (xs := [_, _]) (same_true (l := toI (neededN repF 6)) (q := [2, 3, 4, 5]) (by rw [ln6]; decide) (by decide) (by rw [ln6]; rfl)) co19 rfl rfl rfl rfl (by repeat' first | exact trivial | exact Wk.refl _ | exact Wk.sl _ | refine And.intro ?_ ?_ | refine Wk.aggP ?_)) ?_
  refine RW.op rfl rfl (eff_pick (v := .t _) rfl rfl rfl rfl) ?_
  refine RW.op rfl rfl (eff_move (v := .t _) rfl rfl rfl) ?_
  refine RW.gop rfl rfl rfl rfl rfl rfl (eff_loadT (ys := [_, _]) rfl rfl ti54 rfl rfl rfl) ?_
  refine RW.gop rfl rfl rfl rfl rfl rfl (eff_callT (settled_ret repF [] true (by decide)) co37 rfl rfl rfl rfl) ?_
  refine RW.gop rfl rfl rfl rfl rfl rfl (eff_iop (r := .bool true) rfl rfl rfl rfl (by rw [lset]; rfl)) ?_
  refine RW.op rfl rfl (eff_pick (v := .t _) rfl rfl rfl rfl) ?_
  refine RW.op rfl rfl (eff_move (v := .t _) rfl rfl rfl) ?_
  refine RW.gop rfl rfl rfl rfl rfl rfl (eff_buildT (ys := [_, _]) rfl rfl tz54 tg54 rfl) ?_
  refine RW.gop rfl rfl rfl rfl rfl rfl (eff_callW (xs := [_]) (settled_ret [] [] true (by decide)) co37 rfl rfl rfl rfl (by repeat' first | exact trivial | exact Wk.refl _ | exact Wk.sl _ | refine And.intro ?_ ?_ | refine Wk.aggP ?_)) ?_
  refine RW.gop rfl rfl rfl rfl rfl rfl (eff_iop (r := .bool true) rfl rfl rfl rfl (by rfl)) ?_
  refine RW.op rfl rfl (eff_pick (v := .t _) rfl rfl rfl rfl) ?_
  refine RW.op rfl rfl (eff_move (v := .t _) rfl rfl rfl) ?_
  refine RW.gop rfl rfl rfl rfl rfl rfl (eff_move (v := .t _) rfl rfl rfl) ?_
  refine RW.gop rfl rfl rfl rfl rfl rfl (eff_move (v := .t _) rfl rfl rfl) ?_
  refine RW.gop rfl rfl rfl rfl rfl rfl (eff_sliceM (l := none) (h := some 2) (r := (threeF 8).take 2) rfl rfl te23 rfl (fun _ => rfl) .no (.yes rfl rfl) (Nat.zero_le _) (by decide) (by rfl)) ?_
  refine RW.gop rfl rfl rfl rfl rfl rfl (eff_callT (check_ret winF ((threeF 8).take 2) (by decide) (by decide)) co16 rfl rfl rfl rfl) ?_
  refine RW.gop rfl rfl rfl rfl rfl rfl (eff_iop (r := .bool true) rfl rfl rfl rfl (by rw [lc2]; rfl)) ?_
  refine RW.op rfl rfl (eff_pick (v := .t _) rfl rfl rfl rfl) ?_
  refine RW.op rfl rfl (eff_move (v := .t _) rfl rfl rfl) ?_
  refine RW.gop rfl rfl rfl rfl rfl rfl (eff_move (v := .t _) rfl rfl rfl) ?_
  refine RW.gop rfl rfl rfl rfl rfl rfl (eff_move (v := .t _) rfl rfl rfl) ?_
  refine RW.gop rfl rfl rfl rfl rfl rfl (eff_callT (check_ret winF (threeF 8) (by decide) (by decide)) co16 rfl rfl rfl rfl) ?_
  refine RW.gop rfl rfl rfl rfl rfl rfl (eff_iop (r := .bool true) rfl rfl rfl rfl (by rw [lc3]; rfl)) ?_
  refine RW.op rfl rfl (eff_pick (v := .t _) rfl rfl rfl rfl) ?_
  refine RW.op rfl rfl (eff_move (v := .t _) rfl rfl rfl) ?_
  refine RW.gop rfl rfl rfl rfl rfl rfl (eff_move (v := .t _) rfl rfl rfl) ?_
  refine RW.gop rfl rfl rfl rfl rfl rfl (eff_callT (three_ret 0) co40 rfl rfl rfl rfl) ?_
  refine RW.gop rfl rfl rfl rfl rfl rfl (eff_callT (check_ret winF (threeF 0) (by decide) (by decide)) co16 rfl rfl rfl rfl) ?_
  refine RW.gop rfl rfl rfl rfl rfl rfl (eff_iop (r := .bool true) rfl rfl rfl rfl (by rw [lc0]; rfl)) ?_
  refine RW.op rfl rfl (eff_pick (v := .t _) rfl rfl rfl rfl) ?_
  refine RW.op rfl rfl (eff_move (v := .t _) rfl rfl rfl) ?_
  refine RW.gop rfl rfl rfl rfl rfl rfl (eff_move (v := .t _) rfl rfl rfl) ?_
  refine RW.gnew rfl rfl rfl rfl rfl rfl (eff_makeSliceM (id := 120) (l := 65) rfl rfl te23 tz42 rfl (by decide) tb42 rfl rfl rfl rfl (by decide) (by decide) rfl rfl) ?_
  refine RW.gop rfl rfl rfl rfl rfl rfl (eff_callB (ys := [.sl (winF.map encW) false, .sl ((List.replicate 65 zb).map encB) false]) (caps := []) rfl rfl rfl (.t _) co16 (ResL.cons (.t _) (.refl _) (ResL.cons (Res.ownT (xs := (List.replicate 65 zb).map encB) rfl rfl rfl rfl) (.refl _) .nil)) (by rw [List.append_nil]; exact check_ret winF (List.replicate 65 zb) (by decide) (by decide)) rfl) ?_
  refine RW.gop rfl rfl rfl rfl rfl rfl (eff_iop (r := .bool true) rfl rfl rfl rfl (by rw [lc65]; rfl)) ?_
  refine RW.op rfl rfl (eff_pick (v := .t _) rfl rfl rfl rfl) ?_
  refine RW.op rfl rfl (eff_assign (v := .t _) rfl rfl rfl) ?_
  refine RW.nil ?_
  refine awp_ret ?_
  exact ⟨Or.inr rfl, [_], ⟨.tmp (.t _), trivial⟩, .refl _⟩

end Go.Tv.C35

end
section
open Go Go.Tv Go.Proofs
namespace Go.Tv.C35
set_option maxRecDepth 20000

theorem map_of {α : Type} {f : α → Tr} {p : α → Prop} : ∀ {els : List Tr}, (∀ x, x ∈ els → ∃ n, p n ∧ x = f n) → ∃ l : List α, els = l.map f ∧ ∀ n, n ∈ l → p n
  | [], _ => ⟨[], rfl, fun n h => by simp at h⟩
  | x :: els, h => by
    obtain ⟨n, hp, rfl⟩ := h x List.mem_cons_self
    obtain ⟨l, rfl, hl⟩ := map_of (els := els) (fun y hy => h y (List.mem_cons_of_mem _ hy))
    exact ⟨n :: l, rfl, fun m hm => (List.mem_cons.1 hm).elim (fun e => e ▸ hp) (hl m)⟩
theorem rd3 : Reads Try.prog 3 1 (fun ts => ∃ n, ts = [encI n] ∧ I64 n) := (reads_int Try.underlying3 (by kernel_rfl)).mono (fun ts ⟨n, h, hw⟩ => ⟨n, h, wf_i64 hw⟩)
theorem rd22 : Reads Try.prog 22 1 (fun ts => ∃ l : List Int, ts = [.sl (l.map encI) false] ∧ l.length ≤ maxLen ∧ ∀ n, n ∈ l → I64 n) :=
  (reads_slice Try.underlying22 (by kernel_rfl) (by decide) (.inr rfl) rd3 (g := false)).mono (by
    rintro ts ⟨els, rfl, hm, h⟩
    obtain ⟨l, rfl, hl⟩ := map_of (f := encI) (p := I64) (fun x hx => by obtain ⟨_, ⟨n, rfl, hn⟩, rfl⟩ := h x hx; exact ⟨n, hn, rfl⟩)
    exact ⟨l, rfl, by simpa using hm, hl⟩)
end Go.Tv.C35

end
section
open Go Go.Tv Go.Proofs
namespace Go.Tv.C35
set_option linter.unusedVariables false

def beforeB (x y : Win) : Bool :=
  if x.frm ≠ y.frm then decide (x.frm < y.frm) else if x.kind ≠ y.kind then decide (x.kind < y.kind) else if x.a ≠ y.a then decide (x.a < y.a) else decide (x.b < y.b)
def meetB (x y : Win) : Bool := decide ((x.kind = y.kind ∧ x.a = y.a ∧ x.b = y.b) ∧ x.frm < y.til ∧ y.frm < x.til)
def atP (t : List Win) (w : Win) : Nat → Nat
  | 0 => 0
  | i + 1 => if beforeB (t.getD i zw) w = true then i + 1 else atP t w i
def insF (t : List Win) (w : Win) : List Win := if (t.any fun x => meetB x w) = true then t else t.take (atP t w t.length) ++ [w] ++ t.drop (atP t w t.length)
def WinR (x y : Win) : Prop := x.frm ≤ y.frm ∧ (x.kind = y.kind → x.a = y.a → x.b = y.b → x.til ≤ y.frm)
def WOK (w : Win) : Prop := 0 ≤ w.frm ∧ w.frm < w.til ∧ w.til ≤ 1000
structure TabOK (t : List Win) : Prop where
  pw : t.Pairwise WinR
  ok : ∀ w, w ∈ t → WOK w
theorem tab_nil : TabOK [] := ⟨List.Pairwise.nil, fun w h => by simp at h⟩
theorem atP_le (t : List Win) (w : Win) : ∀ n, atP t w n ≤ n
  | 0 => Nat.le_refl 0
  | n + 1 => by
    unfold atP
    split
    · exact Nat.le_refl _
    · exact Nat.le_succ_of_le (atP_le t w n)
theorem atP_spec (t : List Win) (w : Win) : ∀ n, (∀ i, atP t w n ≤ i → i < n → beforeB (t.getD i zw) w = false) ∧ (0 < atP t w n → beforeB (t.getD (atP t w n - 1) zw) w = true)
  | 0 => ⟨fun i _ h => absurd h (Nat.not_lt_zero _), fun h => absurd h (Nat.lt_irrefl 0)⟩
  | n + 1 => by
    obtain ⟨h1, h2⟩ := atP_spec t w n
    unfold atP
    by_cases h : beforeB (t.getD n zw) w = true
    · rw [if_pos h]
      exact ⟨fun i ha hb => absurd hb (by omega), fun _ => h⟩
    · rw [if_neg h]
      refine ⟨fun i ha hb => ?_, h2⟩
      by_cases hi : i = n
      · subst hi; simpa using h
      · exact h1 i ha (by omega)
theorem before_le {x y : Win} (h : beforeB x y = true) : x.frm ≤ y.frm := by
  unfold beforeB at h
  by_cases h1 : x.frm = y.frm
  · omega
  · rw [if_pos h1] at h; have := of_decide_eq_true h; omega
theorem not_before {x y : Win} (h : beforeB x y = false) : y.frm ≤ x.frm := by
  unfold beforeB at h
  by_cases h1 : x.frm = y.frm
  · omega
  · rw [if_pos h1] at h; have := of_decide_eq_false h; omega
theorem getD_zw {t : List Win} {i : Nat} (h : i < t.length) : t.getD i zw = t[i] := by simp [List.getD, h]
theorem ins_ok {t : List Win} {w : Win} (ht : TabOK t) (hw : WOK w) : TabOK (insF t w) := by
  unfold insF
  by_cases hm : (t.any fun x => meetB x w) = true
  · rw [if_pos hm]; exact ht
  · rw [if_neg hm]
    have hno : ∀ x, x ∈ t → meetB x w = false := fun x hx => by
      cases h : meetB x w with
      | false => rfl
      | true => exact absurd (List.any_eq_true.2 ⟨x, hx, h⟩) hm
    have hk := atP_le t w t.length
    obtain ⟨hB, hA⟩ := atP_spec t w t.length
    generalize atP t w t.length = k at hk hB hA ⊢
    have hlow : ∀ x, x ∈ t.take k → x.frm ≤ w.frm := by
      intro x hx
      obtain ⟨i, hi, rfl⟩ := List.mem_take_iff_getElem.1 hx
      have h1 := hA (by omega)
      rw [getD_zw (by omega)] at h1
      have h2 := before_le h1
      by_cases hik : i = k - 1
      · subst hik; exact h2
      · have := (List.pairwise_iff_getElem.1 ht.pw i (k - 1) (by omega) (by omega) (by omega)).1
        omega
    have hhigh : ∀ x, x ∈ t.drop k → w.frm ≤ x.frm := by
      intro x hx
      obtain ⟨i, hi, rfl⟩ := List.mem_drop_iff_getElem.1 hx
      have h1 := hB (i + k) (by omega) (by omega)
      rw [getD_zw (by omega)] at h1
      have h2 := not_before h1
      have e : t[k + i]'(by omega) = t[i + k]'(by omega) := by congr 1; omega
      first | exact h2 | (rw [e]; exact h2)
    have hsp : (t.take k ++ t.drop k).Pairwise WinR := by rw [List.take_append_drop]; exact ht.pw
    rw [List.pairwise_append] at hsp
    obtain ⟨p1, p2, p3⟩ := hsp
    have hap : ∀ x, x ∈ t → (x.kind = w.kind → x.a = w.a → x.b = w.b → ¬ (x.frm < w.til ∧ w.frm < x.til)) := fun x hx e1 e2 e3 hh => by
      have := of_decide_eq_false (hno x hx)
      exact this ⟨⟨e1, e2, e3⟩, hh⟩
    have hmt : ∀ x, x ∈ t.take k → x ∈ t := fun x hx => List.mem_of_mem_take hx
    have hmd : ∀ x, x ∈ t.drop k → x ∈ t := fun x hx => List.mem_of_mem_drop hx
    obtain ⟨w1, w2, w3⟩ := hw
    refine ⟨?_, ?_⟩
    · rw [List.pairwise_append, List.pairwise_append]
      refine ⟨⟨p1, List.pairwise_singleton _ _, ?_⟩, p2, ?_⟩
      · intro x hx y hy
        obtain rfl := List.mem_singleton.1 hy
        have h1 := hlow x hx
        exact ⟨h1, fun e1 e2 e3 => by have := hap x (hmt x hx) e1 e2 e3; omega⟩
      · intro x hx y hy
        rcases List.mem_append.1 hx with h | h
        · exact p3 x h y hy
        · obtain rfl := List.mem_singleton.1 h
          have h1 := hhigh y hy
          obtain ⟨y1, y2, y3⟩ := ht.ok y (hmd y hy)
          exact ⟨h1, fun e1 e2 e3 => by have := hap y (hmd y hy) e1.symm e2.symm e3.symm; omega⟩
    · intro x hx
      rcases List.mem_append.1 hx with h | h
      · rcases List.mem_append.1 h with h | h
        · exact ht.ok x (hmt x h)
        · obtain rfl := List.mem_singleton.1 h; exact ⟨w1, w2, w3⟩
      · exact ht.ok x (hmd x h)
theorem ins_len (t : List Win) (w : Win) : (insF t w).length ≤ t.length + 1 := by
  unfold insF
  split
  · omega
  · have := atP_le t w t.length
    simp only [List.length_append, List.length_take, List.length_drop, List.length_singleton]; omega

/-! The windows that numbers stand for. -/
def pickF (l : List Int) (k m : Int) : Int := if 0 ≤ k ∧ k < (l.length : Int) then around (l.getD k.toNat 0) m else 0
theorem pick_range (l : List Int) (k : Int) {m : Int} (hm : 0 < m) : 0 ≤ pickF l k m ∧ pickF l k m < m := by
  unfold pickF
  split
  · exact around_range hm
  · exact ⟨Int.le_refl _, hm⟩
abbrev wI (n : Int) : Int := IntKind.i64.wrap n
theorem wI_add (n c : Int) : wI (wI n + c) = wI (n + c) := by unfold wI; rw [wi64, wi64, wi64]; omega
/-- The numbers' place of window j, as the machine counts. -/
def ix (j : Nat) (c : Int) : Int := wI (7 * (j : Int) + c)
theorem ix_add (j : Nat) (c : Int) : wI (ix j 0 + c) = ix j c := by unfold ix; rw [wI_add, Int.add_zero]
theorem ix_next (j : Nat) : wI (ix j 0 + 7) = ix (j + 1) 0 := by unfold ix; rw [wI_add, show 7 * (j : Int) + 0 + 7 = 7 * ((j + 1 : Nat) : Int) + 0 by omega]
theorem tab_end : ∃ N : Nat, ∀ L : Int, L ≤ 9223372036854775807 → ¬ ix N 5 < L := by
  refine ⟨17129119497016012214, fun L hL => ?_⟩
  unfold ix wI
  rw [wi64]
  omega
def w0F (l : List Int) (sp : Int) (j : Nat) : Win := ⟨1 + pickF l (ix j 0) 4, pickF l (ix j 1) 4, pickF l (ix j 2) 4, pickF l (ix j 3) sp, pickF l (ix j 3) sp + 1 + pickF l (ix j 4) 30, 1 + pickF l (ix j 5) 40⟩
def rateW (w : Win) : Win := if w.kind = 3 ∨ w.kind = 4 then { w with rate := 0 } else w
def starW (w : Win) : Win := if w.kind = 3 then { w with b := 0 } else w
def crossW (w : Win) : Win := if w.kind = 2 ∧ w.a ≥ w.b then { w with b := w.a + 1 + w.b } else w
def winOf (l : List Int) (sp : Int) (j : Nat) : Win := crossW (starW (rateW (w0F l sp j)))
def ABok (w : Win) : Prop := (0 ≤ w.a ∧ w.a ≤ 3) ∧ (0 ≤ w.b ∧ w.b ≤ 3)
theorem ab0 (l : List Int) (sp : Int) (j : Nat) : ABok (w0F l sp j) := by
  have h1 := pick_range l (ix j 1) (m := 4) (by decide)
  have h2 := pick_range l (ix j 2) (m := 4) (by decide)
  unfold ABok w0F
  simp only []
  omega
theorem ab1 {w : Win} (h : ABok w) : ABok (rateW w) := by unfold rateW; split <;> exact h
theorem ab2 {w : Win} (h : ABok w) : ABok (starW w) := by
  unfold starW
  split
  · exact ⟨h.1, Int.le_refl 0, (by decide : (0 : Int) ≤ 3)⟩
  · exact h
theorem win_ok (l : List Int) {sp : Int} (j : Nat) (hs : 0 < sp ∧ sp ≤ 400) : WOK (winOf l sp j) := by
  have h1 := pick_range l (ix j 3) hs.1
  have h2 := pick_range l (ix j 4) (m := 30) (by decide)
  have h0 : WOK (w0F l sp j) := by unfold WOK w0F; simp only []; omega
  have k1 : WOK (rateW (w0F l sp j)) := by unfold rateW; split <;> exact h0
  have k2 : WOK (starW (rateW (w0F l sp j))) := by unfold starW; split <;> exact k1
  unfold winOf crossW
  split <;> exact k2
theorem rate_yes {k a b f u r : Int} (h : k = 3 ∨ k = 4) : rateW ⟨k, a, b, f, u, r⟩ = ⟨k, a, b, f, u, 0⟩ := if_pos h
theorem rate_no {k a b f u r : Int} (h : ¬ (k = 3 ∨ k = 4)) : rateW ⟨k, a, b, f, u, r⟩ = ⟨k, a, b, f, u, r⟩ := if_neg h
theorem star_yes {k a b f u r : Int} (h : k = 3) : starW ⟨k, a, b, f, u, r⟩ = ⟨k, a, 0, f, u, r⟩ := if_pos h
theorem star_no {k a b f u r : Int} (h : ¬ k = 3) : starW ⟨k, a, b, f, u, r⟩ = ⟨k, a, b, f, u, r⟩ := if_neg h
theorem cross_yes {k a b f u r : Int} (h : k = 2 ∧ a ≥ b) : crossW ⟨k, a, b, f, u, r⟩ = ⟨k, a, a + 1 + b, f, u, r⟩ := if_pos h
theorem cross_no {k a b f u r : Int} (h : ¬ (k = 2 ∧ a ≥ b)) : crossW ⟨k, a, b, f, u, r⟩ = ⟨k, a, b, f, u, r⟩ := if_neg h
def spF (l : List Int) : Int := 40 + pickF l 6 300
theorem sp_range (l : List Int) : 40 ≤ spF l ∧ spF l ≤ 339 := by
  have := pick_range l 6 (m := 300) (by decide)
  unfold spF; omega
def tabG (l : List Int) (sp : Int) : Nat → Nat → List Win → List Win
  | 0, _, out => out
  | n + 1, j, out => if ix j 5 < (l.length : Int) ∧ out.length < 60 then tabG l sp n (j + 1) (insF out (winOf l sp j)) else out
theorem tabG_yes {l : List Int} {sp : Int} {N j : Nat} {out : List Win} (hj : j < N) (h : ix j 5 < (l.length : Int) ∧ out.length < 60) : tabG l sp (N - j) j out = tabG l sp (N - (j + 1)) (j + 1) (insF out (winOf l sp j)) := by
  have e : N - j = (N - (j + 1)) + 1 := by omega
  rw [e]
  exact if_pos h
theorem tabG_no {l : List Int} {sp : Int} {n j : Nat} {out : List Win} (h : ¬ (ix j 5 < (l.length : Int) ∧ out.length < 60)) : tabG l sp n j out = out := by
  cases n with
  | zero => rfl
  | succ n => exact if_neg h
theorem tabG_ok {l : List Int} {sp : Int} (hs : 0 < sp ∧ sp ≤ 400) : ∀ (n j : Nat) (out : List Win), TabOK out → out.length ≤ 60 → TabOK (tabG l sp n j out) ∧ (tabG l sp n j out).length ≤ 60
  | 0, j, out, h, hl => ⟨h, hl⟩
  | n + 1, j, out, h, hl => by
    unfold tabG
    split
    · exact tabG_ok hs n (j + 1) _ (ins_ok h (win_ok l j hs)) (by have := ins_len out (winOf l sp j); omega)
    · exact ⟨h, hl⟩

/-! What a table tells. -/
theorem filter_pw {t : List Win} (h : TabOK t) (k a b : Int) : (t.filter (keyB k a b)).Pairwise (fun x y => x.til ≤ y.frm) := by
  have h1 : (t.filter (keyB k a b)).Pairwise WinR := h.pw.filter _
  rw [List.pairwise_iff_getElem] at h1 ⊢
  intro i j hi hj hij
  have m1 := (List.mem_filter.1 (List.getElem_mem hi)).2
  have m2 := (List.mem_filter.1 (List.getElem_mem hj)).2
  have d1 := of_decide_eq_true m1
  have d2 := of_decide_eq_true m2
  exact (h1 i j hi hj hij).2 (d1.1.trans d2.1.symm) (d1.2.1.trans d2.2.1.symm) (d1.2.2.trans d2.2.2.symm)
/-- The window of a key that holds a tick is the one that At finds. -/
theorem at_hold {t : List Win} (h : TabOK t) {x : Win} (hx : x ∈ t) {tick : Int} (h1 : x.frm ≤ tick) (h2 : tick < x.til) : atF t x.kind x.a x.b tick = (x, true) := by
  have hm : x ∈ t.filter (keyB x.kind x.a x.b) := List.mem_filter.2 ⟨hx, decide_eq_true ⟨rfl, rfl, rfl⟩⟩
  obtain ⟨i, hi, he⟩ := List.mem_iff_getElem.1 hm
  have hp := filter_pw h x.kind x.a x.b
  have hn : nextF t x.kind x.a x.b tick = (x, true) := by
    refine next_first (i := i) (by rw [List.getElem?_eq_getElem hi, he]) (fun y hy => ?_) (by omega)
    obtain ⟨j, hj, rfl⟩ := List.mem_take_iff_getElem.1 hy
    have := List.pairwise_iff_getElem.1 hp j i (by omega) hi (by omega)
    rw [he] at this
    omega
  unfold atF
  rw [hn]
  exact if_pos ⟨rfl, h1⟩
theorem at_is {t : List Win} {k a b tick : Int} (h : (atF t k a b tick).2 = true) : (atF t k a b tick).1 ∈ t ∧ (keyB k a b (atF t k a b tick).1 = true ∧ (atF t k a b tick).1.til > tick ∧ (atF t k a b tick).1.frm ≤ tick) := by
  unfold atF at h ⊢
  by_cases hc : (nextF t k a b tick).2 = true ∧ (nextF t k a b tick).1.frm ≤ tick
  · rw [if_pos hc]
    obtain ⟨c1, c2⟩ := hc
    refine ⟨?_, ?_, ?_, c2⟩ <;> revert c1 <;> unfold nextF <;> cases hf : (t.filter (keyB k a b)).find? (fun w => decide (w.til > tick)) with
    | none => intro c1; exact absurd c1 (by decide)
    | some w =>
      intro _
      first
        | exact (List.mem_filter.1 (List.mem_of_find?_eq_some hf)).1
        | exact (List.mem_filter.1 (List.mem_of_find?_eq_some hf)).2
        | (have h9 := List.find?_some hf; exact of_decide_eq_true h9)
  · rw [if_neg hc] at h; exact absurd h (by decide)
theorem pass_mem {t : List Win} {c k : Int} {x : Win} (h : x ∈ passesF t c k) : x ∈ t ∧ x.kind = 1 ∧ x.a = c ∧ x.til > k := by
  obtain ⟨h1, h2⟩ := List.mem_filter.1 h
  have h3 := of_decide_eq_true h2
  exact ⟨h1, h3.1, h3.2.1, h3.2.2⟩
theorem pass_at {t : List Win} (h : TabOK t) {c k : Int} {x : Win} (hx : x ∈ passesF t c k) : atF t 1 c x.b (x.til - 1) = (x, true) := by
  obtain ⟨h1, h2, h3, h4⟩ := pass_mem hx
  have hw := h.ok x h1
  unfold WOK at hw
  have := at_hold h h1 (tick := x.til - 1) (by omega) (by omega)
  rwa [h2, h3] at this
theorem pass_sorted {t : List Win} (h : TabOK t) {c k : Int} {i j : Nat} (hj : j < (passesF t c k).length) (hi : i < j) : ((passesF t c k)[i]'(by omega)).frm ≤ ((passesF t c k)[j]).frm := by
  have h1 : (passesF t c k).Pairwise WinR := h.pw.filter _
  exact (List.pairwise_iff_getElem.1 h1 i j (by omega) hj hi).1
theorem pass_found {t : List Win} {c s k : Int} (h : (atF t 1 c s k).2 = true) : (atF t 1 c s k).1 ∈ passesF t c k := by
  obtain ⟨m, k', u, f⟩ := at_is h
  have k2 := of_decide_eq_true k'
  exact List.mem_filter.2 ⟨m, decide_eq_true ⟨k2.1, k2.2.1, u⟩⟩
def laterB (n : Int) (w : Win) : Bool := decide (w.til > n)
theorem later_filter {t : List Win} {c k n : Int} (hn : k ≤ n) : passesF t c n = (passesF t c k).filter (laterB n) := by
  unfold passesF
  rw [List.filter_filter]
  apply List.filter_congr
  intro x _
  unfold passB laterB
  rw [Bool.eq_iff_iff, Bool.and_eq_true, decide_eq_true_iff, decide_eq_true_iff, decide_eq_true_iff]
  constructor
  · rintro ⟨h1, h2, h3⟩; exact ⟨h3, h1, h2, by omega⟩
  · rintro ⟨h1, h2, h3, h4⟩; exact ⟨h2, h3, h1⟩
end Go.Tv.C35

end
section
open Go Go.Tv Go.Proofs
namespace Go.Tv.C35
set_option maxRecDepth 20000
set_option maxHeartbeats 2000000
set_option linter.unusedSimpArgs false
set_option linter.unusedVariables false
theorem pick_yes {l : List Int} {k : Nat} {m : Int} (h : k < l.length) : pickF l (k : Nat) m = around l[k] m := by
  unfold pickF; rw [if_pos ⟨by omega, by omega⟩, Int.toNat_natCast]; simp [List.getD, h]
theorem pick_no {l : List Int} {k m : Int} (h : ¬ (0 ≤ k ∧ k < (l.length : Int))) : pickF l k m = 0 := if_neg h
theorem meet_no1 {x y : Win} (h : keyB y.kind y.a y.b x = false) : meetB x y = false := decide_eq_false (fun hh => of_decide_eq_false h hh.1)
theorem meet_no2 {x y : Win} (h : ¬ x.frm < y.til) : meetB x y = false := decide_eq_false (fun hh => h hh.2.1)
theorem meet_yes {x y : Win} (h : keyB y.kind y.a y.b x = true) (h2 : x.frm < y.til) : meetB x y = decide (y.frm < x.til) := decide_eq_decide.2 ⟨fun hh => hh.2.2, fun hh => ⟨of_decide_eq_true h, h2, hh⟩⟩
theorem key_no {w : Win} {k a b : Int} (h : ¬ (w.kind = k ∧ w.a = a)) : keyB k a b w = false := decide_eq_false (fun hh => h ⟨hh.1, hh.2.1⟩)
theorem key_yes {w : Win} {k a b : Int} (h1 : w.kind = k) (h2 : w.a = a) : keyB k a b w = (w.b == b) := by
  unfold keyB; rw [Bool.eq_iff_iff, decide_eq_true_iff, beq_iff_eq]; exact ⟨fun h => h.2.2, fun h => ⟨h1, h2, h⟩⟩
theorem before1 {x y : Win} (h : ¬ x.frm = y.frm) : beforeB x y = decide (x.frm < y.frm) := if_pos h
theorem before2 {x y : Win} (h : x.frm = y.frm) (h2 : ¬ x.kind = y.kind) : beforeB x y = decide (x.kind < y.kind) := by unfold beforeB; rw [if_neg (by omega), if_pos h2]
theorem before3 {x y : Win} (h : x.frm = y.frm) (h2 : x.kind = y.kind) (h3 : ¬ x.a = y.a) : beforeB x y = decide (x.a < y.a) := by unfold beforeB; rw [if_neg (by omega), if_neg (by omega), if_pos h3]
theorem before4 {x y : Win} (h : x.frm = y.frm) (h2 : x.kind = y.kind) (h3 : x.a = y.a) : beforeB x y = decide (x.b < y.b) := by unfold beforeB; rw [if_neg (by omega), if_neg (by omega), if_neg (by omega)]
theorem atP_yes {t : List Win} {w : Win} {i : Nat} (h : i < t.length) (hb : beforeB t[i] w = true) : (i : Int) + 1 = ((atP t w (i + 1) : Nat) : Int) := by
  show _ = ((if beforeB (t.getD i zw) w = true then i + 1 else atP t w i : Nat) : Int)
  rw [getD_zw h, if_pos hb]; rfl
theorem atP_no {t : List Win} {w : Win} {i : Nat} (h : i < t.length) (hb : beforeB t[i] w = false) : ((atP t w i : Nat) : Int) = ((atP t w (i + 1) : Nat) : Int) := by
  show _ = ((if beforeB (t.getD i zw) w = true then i + 1 else atP t w i : Nat) : Int)
  rw [getD_zw h, if_neg (by rw [hb]; decide)]
theorem ins_yes {t : List Win} {w : Win} {i : Nat} (h : i < t.length) (hm : meetB t[i] w = true) : insF t w = t := if_pos (List.any_eq_true.2 ⟨_, List.getElem_mem h, hm⟩)
theorem ins_no {t : List Win} {w : Win} (h : ∀ x, x ∈ t → meetB x w = false) : insF t w = t.take (atP t w t.length) ++ [w] ++ t.drop (atP t w t.length) := if_neg (fun hh => by
  obtain ⟨x, hx, hm⟩ := List.any_eq_true.1 hh
  rw [h x hx] at hm; exact absurd hm (by decide))
theorem ix_iadd (j : Nat) (c : Int) : iop .add .i64 (ix j 0) c = some (.int .i64 (ix j c)) := congrArg (fun n => some (Tr.int .i64 n)) (ix_add j c)
theorem ix_inext (j : Nat) : iop .add .i64 (ix j 0) 7 = some (.int .i64 (ix (j + 1) 0)) := congrArg (fun n => some (Tr.int .i64 n)) (ix_next j)
theorem ix0 : (0 : Int) = ix 0 0 := by decide

theorem pick_ret (l : List Int) (k m : Int) (hI : ∀ n, n ∈ l → I64 n) (hl : l.length ≤ 9223372036854775807) (hm : 0 < m ∧ m ≤ 4294967296) : Ret Try.prog 41 [.sl (l.map encI) false, encI k, encI m] (encI (pickF l k m)) := by
  refine ret_of_awp Try.func41 rfl (Nat.le_of_ble_eq_true rfl) ?_
  refine awp_seq ?_
  refine awp_rw rfl ?_
  refine RW.op rfl rfl (eff_assign (v := .t _) rfl rfl rfl) ?_
  refine RW.nil ?_
  refine awp_seq ?_
  refine awp_seq ?_
  refine awp_rw rfl ?_
  refine RW.op rfl rfl (eff_move (v := .t _) rfl rfl rfl) ?_
  refine RW.op rfl rfl (eff_iop rfl rfl rfl rfl rfl) ?_
  refine RW.op rfl rfl (eff_move (v := .t _) rfl rfl rfl) ?_
  refine RW.split 9 rfl (fun h1 => ?_) (fun h1 => ?_)
  · try simp only [decide_eq_true_eq, decide_eq_false_iff_not, beq_iff_eq, bne_iff_ne, bne_eq_false_iff_eq, beq_eq_false_iff_ne, Bool.not_eq_true, Bool.not_eq_false, Bool.not_eq_true', Bool.not_eq_false', ne_eq] at h1
    refine RW.gskip rfl rfl rfl rfl rfl (by decide) ?_
    refine RW.gskip rfl rfl rfl rfl rfl (by decide) ?_
    refine RW.gskip rfl rfl rfl rfl rfl (by decide) ?_
    refine RW.gskip rfl rfl rfl rfl rfl (by decide) ?_
    refine RW.op rfl rfl (eff_pick (v := .t _) rfl rfl rfl rfl) ?_
    refine RW.nil ?_
    refine awp_cond rfl (fun _ => ?_) (fun h => nomatch h)
    refine awp_seq ?_
    refine awp_rw rfl ?_
    refine RW.op rfl rfl (eff_assign (v := .t _) rfl rfl rfl) ?_
    refine RW.nil ?_
    refine awp_ret ?_
    (rw [pick_no (l := l) (k := k) (by omega)]; exact ⟨Or.inr rfl, [_], ⟨.tmp (.t _), trivial⟩, .refl _⟩)
  · try simp only [decide_eq_true_eq, decide_eq_false_iff_not, beq_iff_eq, bne_iff_ne, bne_eq_false_iff_eq, beq_eq_false_iff_ne, Bool.not_eq_true, Bool.not_eq_false, Bool.not_eq_true', Bool.not_eq_false', ne_eq] at h1
    refine RW.gop rfl rfl rfl rfl rfl rfl (eff_move (v := .t _) rfl rfl rfl) ?_
    refine RW.gop rfl rfl rfl rfl rfl rfl (eff_move (v := .t _) rfl rfl rfl) ?_
    refine RW.gop rfl rfl rfl rfl rfl rfl (eff_lenM rfl rfl te22 rfl) ?_
    refine RW.gop rfl rfl rfl rfl rfl rfl (eff_iop rfl rfl rfl rfl rfl) ?_
    refine RW.op rfl rfl (eff_pick (v := .t _) rfl rfl rfl rfl) ?_
    refine RW.nil ?_
    refine awp_cond rfl (fun h2 => ?_) (fun h2 => ?_)
    · try simp only [decide_eq_true_eq, decide_eq_false_iff_not, beq_iff_eq, bne_iff_ne, bne_eq_false_iff_eq, beq_eq_false_iff_ne, Bool.not_eq_true, Bool.not_eq_false, Bool.not_eq_true', Bool.not_eq_false', ne_eq] at h2
      refine awp_seq ?_
      refine awp_rw rfl ?_
      refine RW.op rfl rfl (eff_assign (v := .t _) rfl rfl rfl) ?_
      refine RW.nil ?_
      refine awp_ret ?_
      (rw [pick_no (l := l) (k := k) (by omega)]; exact ⟨Or.inr rfl, [_], ⟨.tmp (.t _), trivial⟩, .refl _⟩)
    · try simp only [decide_eq_true_eq, decide_eq_false_iff_not, beq_iff_eq, bne_iff_ne, bne_eq_false_iff_eq, beq_eq_false_iff_ne, Bool.not_eq_true, Bool.not_eq_false, Bool.not_eq_true', Bool.not_eq_false', ne_eq] at h2
      refine awp_skip ?_
      refine awp_seq ?_
      refine awp_rw rfl ?_
      obtain ⟨kn, rfl⟩ := Int.eq_ofNat_of_zero_le (show 0 ≤ k by omega)
      have hkl : kn < l.length := by omega
      refine RW.op rfl rfl (eff_move (v := .t _) rfl rfl rfl) ?_
      refine RW.op rfl rfl (eff_move (v := .t _) rfl rfl rfl) ?_
      refine RW.op rfl rfl (eff_indexAddrT (i := kn) rfl rfl te22 rfl rfl (by first | rfl | omega) (by rw [List.getElem?_map, List.getElem?_eq_getElem hkl]; rfl) rfl (by decide)) ?_
      refine RW.op rfl rfl (eff_loadW1 rfl rfl ti3 rfl rfl) ?_
      refine RW.op rfl rfl (eff_move (v := .t _) rfl rfl rfl) ?_
      refine RW.op rfl rfl (eff_callT (around_ret (l[kn]'hkl) m (hI _ (List.getElem_mem hkl)) hm) co48 rfl rfl rfl rfl) ?_
      refine RW.op rfl rfl (eff_assign (v := .t _) rfl rfl rfl) ?_
      refine RW.nil ?_
      refine awp_ret ?_
      (rw [pick_yes hkl]; exact ⟨Or.inr rfl, [_], ⟨.tmp (.t _), trivial⟩, .refl _⟩)

theorem key_ret (w : Win) (k a b : Int) : Ret Try.prog 90 [encW w, encI k, encI a, encI b] (.bool (keyB k a b w)) := by
  refine ret_of_awp Try.func90 rfl (Nat.le_of_ble_eq_true rfl) ?_
  refine awp_seq ?_
  refine awp_rw rfl ?_
  refine RW.new rfl rfl (eff_boxK (v := .t _) (k := 6) (id := 4) rfl rfl rfl rfl rfl rfl) ?_
  refine RW.op rfl rfl (eff_assign (v := .t _) rfl rfl rfl) ?_
  refine RW.nil ?_
  refine awp_seq ?_
  refine awp_rw rfl ?_
  refine RW.op rfl rfl (eff_fieldAddr rfl rfl tf29_0 (by decide) rfl rfl rfl (Nat.le_of_ble_eq_true rfl)) ?_
  refine RW.op rfl rfl (eff_load (y := .t _) rfl rfl ti3 rfl (.one rfl rfl rfl rfl)) ?_
  refine RW.op rfl rfl (eff_move (v := .t _) rfl rfl rfl) ?_
  refine RW.op rfl rfl (eff_iop rfl rfl rfl rfl rfl) ?_
  refine RW.op rfl rfl (eff_move (v := .t _) rfl rfl rfl) ?_
  refine RW.split 13 rfl (fun h1 => ?_) (fun h1 => ?_)
  · try simp only [decide_eq_true_eq, decide_eq_false_iff_not, beq_iff_eq, bne_iff_ne, bne_eq_false_iff_eq, beq_eq_false_iff_ne, Bool.not_eq_true, Bool.not_eq_false, Bool.not_eq_true', Bool.not_eq_false', ne_eq] at h1
    refine RW.gop rfl rfl rfl rfl rfl rfl (eff_fieldAddr rfl rfl tf29_1 (by decide) rfl rfl rfl (Nat.le_of_ble_eq_true rfl)) ?_
    refine RW.gop rfl rfl rfl rfl rfl rfl (eff_load (y := .t _) rfl rfl ti3 rfl (.one rfl rfl rfl rfl)) ?_
    refine RW.gop rfl rfl rfl rfl rfl rfl (eff_move (v := .t _) rfl rfl rfl) ?_
    refine RW.gop rfl rfl rfl rfl rfl rfl (eff_iop rfl rfl rfl rfl rfl) ?_
    refine RW.op rfl rfl (eff_pick (v := .t _) rfl rfl rfl rfl) ?_
    refine RW.op rfl rfl (eff_move (v := .t _) rfl rfl rfl) ?_
    refine RW.split 19 rfl (fun h2 => ?_) (fun h2 => ?_)
    · try simp only [decide_eq_true_eq, decide_eq_false_iff_not, beq_iff_eq, bne_iff_ne, bne_eq_false_iff_eq, beq_eq_false_iff_ne, Bool.not_eq_true, Bool.not_eq_false, Bool.not_eq_true', Bool.not_eq_false', ne_eq] at h2
      refine RW.gop rfl rfl rfl rfl rfl rfl (eff_fieldAddr rfl rfl tf29_2 (by decide) rfl rfl rfl (Nat.le_of_ble_eq_true rfl)) ?_
      refine RW.gop rfl rfl rfl rfl rfl rfl (eff_load (y := .t _) rfl rfl ti3 rfl (.one rfl rfl rfl rfl)) ?_
      refine RW.gop rfl rfl rfl rfl rfl rfl (eff_move (v := .t _) rfl rfl rfl) ?_
      refine RW.gop rfl rfl rfl rfl rfl rfl (eff_iop rfl rfl rfl rfl rfl) ?_
      refine RW.op rfl rfl (eff_pick (v := .t _) rfl rfl rfl rfl) ?_
      refine RW.op rfl rfl (eff_assign (v := .t _) rfl rfl rfl) ?_
      refine RW.nil ?_
      refine awp_ret ?_
      (rw [key_yes (w := w) (k := k) (a := a) (b := b) (by assumption) (by assumption)]; exact ⟨Or.inr rfl, [_], ⟨.tmp (.t _), trivial⟩, .refl _⟩)
    · try simp only [decide_eq_true_eq, decide_eq_false_iff_not, beq_iff_eq, bne_iff_ne, bne_eq_false_iff_eq, beq_eq_false_iff_ne, Bool.not_eq_true, Bool.not_eq_false, Bool.not_eq_true', Bool.not_eq_false', ne_eq] at h2
      refine RW.gskip rfl rfl rfl rfl rfl (by decide) ?_
      refine RW.gskip rfl rfl rfl rfl rfl (by decide) ?_
      refine RW.gskip rfl rfl rfl rfl rfl (by decide) ?_
      refine RW.gskip rfl rfl rfl rfl rfl (by decide) ?_
      refine RW.op rfl rfl (eff_pick (v := .t _) rfl rfl rfl rfl) ?_
      refine RW.op rfl rfl (eff_assign (v := .t _) rfl rfl rfl) ?_
      refine RW.nil ?_
      refine awp_ret ?_
      (rw [key_no (w := w) (k := k) (a := a) (by omega)]; exact ⟨Or.inr rfl, [_], ⟨.tmp (.t _), trivial⟩, .refl _⟩)
  · try simp only [decide_eq_true_eq, decide_eq_false_iff_not, beq_iff_eq, bne_iff_ne, bne_eq_false_iff_eq, beq_eq_false_iff_ne, Bool.not_eq_true, Bool.not_eq_false, Bool.not_eq_true', Bool.not_eq_false', ne_eq] at h1
    refine RW.gskip rfl rfl rfl rfl rfl (by decide) ?_
    refine RW.gskip rfl rfl rfl rfl rfl (by decide) ?_
    refine RW.gskip rfl rfl rfl rfl rfl (by decide) ?_
    refine RW.gskip rfl rfl rfl rfl rfl (by decide) ?_
    refine RW.op rfl rfl (eff_pick (v := .t _) rfl rfl rfl rfl) ?_
    refine RW.op rfl rfl (eff_move (v := .t _) rfl rfl rfl) ?_
    refine RW.gskip rfl rfl rfl rfl rfl (by decide) ?_
    refine RW.gskip rfl rfl rfl rfl rfl (by decide) ?_
    refine RW.gskip rfl rfl rfl rfl rfl (by decide) ?_
    refine RW.gskip rfl rfl rfl rfl rfl (by decide) ?_
    refine RW.op rfl rfl (eff_pick (v := .t _) rfl rfl rfl rfl) ?_
    refine RW.op rfl rfl (eff_assign (v := .t _) rfl rfl rfl) ?_
    refine RW.nil ?_
    refine awp_ret ?_
    (rw [key_no (w := w) (k := k) (a := a) (by omega)]; exact ⟨Or.inr rfl, [_], ⟨.tmp (.t _), trivial⟩, .refl _⟩)

theorem meet_ret (x y : Win) : Ret Try.prog 70 [encW x, encW y] (.bool (meetB x y)) := by
  refine ret_of_awp Try.func70 rfl (Nat.le_of_ble_eq_true rfl) ?_
  refine awp_seq ?_
  refine awp_rw rfl ?_
  refine RW.new rfl rfl (eff_boxK (v := .t _) (k := 6) (id := 2) rfl rfl rfl rfl rfl rfl) ?_
  refine RW.new rfl rfl (eff_boxK (v := .t _) (k := 6) (id := 3) rfl rfl rfl rfl rfl rfl) ?_
  refine RW.op rfl rfl (eff_assign (v := .t _) rfl rfl rfl) ?_
  refine RW.nil ?_
  refine awp_seq ?_
  refine awp_rw rfl ?_
  refine RW.op rfl rfl (eff_load rfl rfl ti29 rfl (.whole rfl rfl rfl rfl rfl rfl)) ?_
  refine RW.op rfl rfl (eff_fieldAddr rfl rfl tf29_0 (by decide) rfl rfl rfl (Nat.le_of_ble_eq_true rfl)) ?_
  refine RW.op rfl rfl (eff_load (y := .t _) rfl rfl ti3 rfl (.one rfl rfl rfl rfl)) ?_
  refine RW.op rfl rfl (eff_fieldAddr rfl rfl tf29_1 (by decide) rfl rfl rfl (Nat.le_of_ble_eq_true rfl)) ?_
  refine RW.op rfl rfl (eff_load (y := .t _) rfl rfl ti3 rfl (.one rfl rfl rfl rfl)) ?_
  refine RW.op rfl rfl (eff_fieldAddr rfl rfl tf29_2 (by decide) rfl rfl rfl (Nat.le_of_ble_eq_true rfl)) ?_
  refine RW.op rfl rfl (eff_load (y := .t _) rfl rfl ti3 rfl (.one rfl rfl rfl rfl)) ?_
  refine RW.op rfl rfl (eff_callT (key_ret x y.kind y.a y.b) co90 rfl rfl rfl rfl) ?_
  refine RW.op rfl rfl (eff_move (v := .t _) rfl rfl rfl) ?_
  refine RW.split 13 rfl (fun h1 => ?_) (fun h1 => ?_)
  · try simp only [decide_eq_true_eq, decide_eq_false_iff_not, beq_iff_eq, bne_iff_ne, bne_eq_false_iff_eq, beq_eq_false_iff_ne, Bool.not_eq_true, Bool.not_eq_false, Bool.not_eq_true', Bool.not_eq_false', ne_eq] at h1
    refine RW.gop rfl rfl rfl rfl rfl rfl (eff_fieldAddr rfl rfl tf29_3 (by decide) rfl rfl rfl (Nat.le_of_ble_eq_true rfl)) ?_
    refine RW.gop rfl rfl rfl rfl rfl rfl (eff_load (y := .t _) rfl rfl ti3 rfl (.one rfl rfl rfl rfl)) ?_
    refine RW.gop rfl rfl rfl rfl rfl rfl (eff_fieldAddr rfl rfl tf29_4 (by decide) rfl rfl rfl (Nat.le_of_ble_eq_true rfl)) ?_
    refine RW.gop rfl rfl rfl rfl rfl rfl (eff_load (y := .t _) rfl rfl ti3 rfl (.one rfl rfl rfl rfl)) ?_
    refine RW.gop rfl rfl rfl rfl rfl rfl (eff_iop rfl rfl rfl rfl rfl) ?_
    refine RW.op rfl rfl (eff_pick (v := .t _) rfl rfl rfl rfl) ?_
    refine RW.op rfl rfl (eff_move (v := .t _) rfl rfl rfl) ?_
    refine RW.split 20 rfl (fun h2 => ?_) (fun h2 => ?_)
    · try simp only [decide_eq_true_eq, decide_eq_false_iff_not, beq_iff_eq, bne_iff_ne, bne_eq_false_iff_eq, beq_eq_false_iff_ne, Bool.not_eq_true, Bool.not_eq_false, Bool.not_eq_true', Bool.not_eq_false', ne_eq] at h2
      refine RW.gop rfl rfl rfl rfl rfl rfl (eff_fieldAddr rfl rfl tf29_3 (by decide) rfl rfl rfl (Nat.le_of_ble_eq_true rfl)) ?_
      refine RW.gop rfl rfl rfl rfl rfl rfl (eff_load (y := .t _) rfl rfl ti3 rfl (.one rfl rfl rfl rfl)) ?_
      refine RW.gop rfl rfl rfl rfl rfl rfl (eff_fieldAddr rfl rfl tf29_4 (by decide) rfl rfl rfl (Nat.le_of_ble_eq_true rfl)) ?_
      refine RW.gop rfl rfl rfl rfl rfl rfl (eff_load (y := .t _) rfl rfl ti3 rfl (.one rfl rfl rfl rfl)) ?_
      refine RW.gop rfl rfl rfl rfl rfl rfl (eff_iop rfl rfl rfl rfl rfl) ?_
      refine RW.op rfl rfl (eff_pick (v := .t _) rfl rfl rfl rfl) ?_
      refine RW.op rfl rfl (eff_assign (v := .t _) rfl rfl rfl) ?_
      refine RW.nil ?_
      refine awp_ret ?_
      (rw [meet_yes (x := x) (y := y) (by assumption) (by assumption)]; exact ⟨Or.inr rfl, [_], ⟨.tmp (.t _), trivial⟩, .refl _⟩)
    · try simp only [decide_eq_true_eq, decide_eq_false_iff_not, beq_iff_eq, bne_iff_ne, bne_eq_false_iff_eq, beq_eq_false_iff_ne, Bool.not_eq_true, Bool.not_eq_false, Bool.not_eq_true', Bool.not_eq_false', ne_eq] at h2
      refine RW.gskip rfl rfl rfl rfl rfl (by decide) ?_
      refine RW.gskip rfl rfl rfl rfl rfl (by decide) ?_
      refine RW.gskip rfl rfl rfl rfl rfl (by decide) ?_
      refine RW.gskip rfl rfl rfl rfl rfl (by decide) ?_
      refine RW.gskip rfl rfl rfl rfl rfl (by decide) ?_
      refine RW.op rfl rfl (eff_pick (v := .t _) rfl rfl rfl rfl) ?_
      refine RW.op rfl rfl (eff_assign (v := .t _) rfl rfl rfl) ?_
      refine RW.nil ?_
      refine awp_ret ?_
      (rw [meet_no2 (x := x) (y := y) (by omega)]; exact ⟨Or.inr rfl, [_], ⟨.tmp (.t _), trivial⟩, .refl _⟩)
  · try simp only [decide_eq_true_eq, decide_eq_false_iff_not, beq_iff_eq, bne_iff_ne, bne_eq_false_iff_eq, beq_eq_false_iff_ne, Bool.not_eq_true, Bool.not_eq_false, Bool.not_eq_true', Bool.not_eq_false', ne_eq] at h1
    refine RW.gskip rfl rfl rfl rfl rfl (by decide) ?_
    refine RW.gskip rfl rfl rfl rfl rfl (by decide) ?_
    refine RW.gskip rfl rfl rfl rfl rfl (by decide) ?_
    refine RW.gskip rfl rfl rfl rfl rfl (by decide) ?_
    refine RW.gskip rfl rfl rfl rfl rfl (by decide) ?_
    refine RW.op rfl rfl (eff_pick (v := .t _) rfl rfl rfl rfl) ?_
    refine RW.op rfl rfl (eff_move (v := .t _) rfl rfl rfl) ?_
    refine RW.gskip rfl rfl rfl rfl rfl (by decide) ?_
    refine RW.gskip rfl rfl rfl rfl rfl (by decide) ?_
    refine RW.gskip rfl rfl rfl rfl rfl (by decide) ?_
    refine RW.gskip rfl rfl rfl rfl rfl (by decide) ?_
    refine RW.gskip rfl rfl rfl rfl rfl (by decide) ?_
    refine RW.op rfl rfl (eff_pick (v := .t _) rfl rfl rfl rfl) ?_
    refine RW.op rfl rfl (eff_assign (v := .t _) rfl rfl rfl) ?_
    refine RW.nil ?_
    refine awp_ret ?_
    (rw [meet_no1 (x := x) (y := y) (by assumption)]; exact ⟨Or.inr rfl, [_], ⟨.tmp (.t _), trivial⟩, .refl _⟩)

theorem before_ret (x y : Win) : Ret Try.prog 71 [encW x, encW y] (.bool (beforeB x y)) := by
  refine ret_of_awp Try.func71 rfl (Nat.le_of_ble_eq_true rfl) ?_
  refine awp_seq ?_
  refine awp_rw rfl ?_
  refine RW.new rfl rfl (eff_boxK (v := .t _) (k := 6) (id := 2) rfl rfl rfl rfl rfl rfl) ?_
  refine RW.new rfl rfl (eff_boxK (v := .t _) (k := 6) (id := 3) rfl rfl rfl rfl rfl rfl) ?_
  refine RW.op rfl rfl (eff_assign (v := .t _) rfl rfl rfl) ?_
  refine RW.nil ?_
  refine awp_seq ?_
  refine awp_seq ?_
  refine awp_rw rfl ?_
  refine RW.op rfl rfl (eff_fieldAddr rfl rfl tf29_3 (by decide) rfl rfl rfl (Nat.le_of_ble_eq_true rfl)) ?_
  refine RW.op rfl rfl (eff_load (y := .t _) rfl rfl ti3 rfl (.one rfl rfl rfl rfl)) ?_
  refine RW.op rfl rfl (eff_fieldAddr rfl rfl tf29_3 (by decide) rfl rfl rfl (Nat.le_of_ble_eq_true rfl)) ?_
  refine RW.op rfl rfl (eff_load (y := .t _) rfl rfl ti3 rfl (.one rfl rfl rfl rfl)) ?_
  refine RW.op rfl rfl (eff_iop rfl rfl rfl rfl rfl) ?_
  refine RW.nil ?_
  refine awp_cond rfl (fun h1 => ?_) (fun h1 => ?_)
  · try simp only [decide_eq_true_eq, decide_eq_false_iff_not, beq_iff_eq, bne_iff_ne, bne_eq_false_iff_eq, beq_eq_false_iff_ne, Bool.not_eq_true, Bool.not_eq_false, Bool.not_eq_true', Bool.not_eq_false', ne_eq] at h1
    refine awp_seq ?_
    refine awp_rw rfl ?_
    refine RW.op rfl rfl (eff_fieldAddr rfl rfl tf29_3 (by decide) rfl rfl rfl (Nat.le_of_ble_eq_true rfl)) ?_
    refine RW.op rfl rfl (eff_load (y := .t _) rfl rfl ti3 rfl (.one rfl rfl rfl rfl)) ?_
    refine RW.op rfl rfl (eff_fieldAddr rfl rfl tf29_3 (by decide) rfl rfl rfl (Nat.le_of_ble_eq_true rfl)) ?_
    refine RW.op rfl rfl (eff_load (y := .t _) rfl rfl ti3 rfl (.one rfl rfl rfl rfl)) ?_
    refine RW.op rfl rfl (eff_iop rfl rfl rfl rfl rfl) ?_
    refine RW.op rfl rfl (eff_assign (v := .t _) rfl rfl rfl) ?_
    refine RW.nil ?_
    refine awp_ret ?_
    (rw [before1 (x := x) (y := y) (by assumption)]; exact ⟨Or.inr rfl, [_], ⟨.tmp (.t _), trivial⟩, .refl _⟩)
  · try simp only [decide_eq_true_eq, decide_eq_false_iff_not, beq_iff_eq, bne_iff_ne, bne_eq_false_iff_eq, beq_eq_false_iff_ne, Bool.not_eq_true, Bool.not_eq_false, Bool.not_eq_true', Bool.not_eq_false', ne_eq] at h1
    refine awp_skip ?_
    refine awp_seq ?_
    refine awp_seq ?_
    refine awp_rw rfl ?_
    refine RW.op rfl rfl (eff_fieldAddr rfl rfl tf29_0 (by decide) rfl rfl rfl (Nat.le_of_ble_eq_true rfl)) ?_
    refine RW.op rfl rfl (eff_load (y := .t _) rfl rfl ti3 rfl (.one rfl rfl rfl rfl)) ?_
    refine RW.op rfl rfl (eff_fieldAddr rfl rfl tf29_0 (by decide) rfl rfl rfl (Nat.le_of_ble_eq_true rfl)) ?_
    refine RW.op rfl rfl (eff_load (y := .t _) rfl rfl ti3 rfl (.one rfl rfl rfl rfl)) ?_
    refine RW.op rfl rfl (eff_iop rfl rfl rfl rfl rfl) ?_
    refine RW.nil ?_
    refine awp_cond rfl (fun h2 => ?_) (fun h2 => ?_)
    · try simp only [decide_eq_true_eq, decide_eq_false_iff_not, beq_iff_eq, bne_iff_ne, bne_eq_false_iff_eq, beq_eq_false_iff_ne, Bool.not_eq_true, Bool.not_eq_false, Bool.not_eq_true', Bool.not_eq_false', ne_eq] at h2
      refine awp_seq ?_
      refine awp_rw rfl ?_
      refine RW.op rfl rfl (eff_fieldAddr rfl rfl tf29_0 (by decide) rfl rfl rfl (Nat.le_of_ble_eq_true rfl)) ?_
      refine RW.op rfl rfl (eff_load (y := .t _) rfl rfl ti3 rfl (.one rfl rfl rfl rfl)) ?_
      refine RW.op rfl rfl (eff_fieldAddr rfl rfl tf29_0 (by decide) rfl rfl rfl (Nat.le_of_ble_eq_true rfl)) ?_
      refine RW.op rfl rfl (eff_load (y := .t _) rfl rfl ti3 rfl (.one rfl rfl rfl rfl)) ?_
      refine RW.op rfl rfl (eff_iop rfl rfl rfl rfl rfl) ?_
      refine RW.op rfl rfl (eff_assign (v := .t _) rfl rfl rfl) ?_
      refine RW.nil ?_
      refine awp_ret ?_
      (rw [before2 (x := x) (y := y) (by assumption) (by assumption)]; exact ⟨Or.inr rfl, [_], ⟨.tmp (.t _), trivial⟩, .refl _⟩)
    · try simp only [decide_eq_true_eq, decide_eq_false_iff_not, beq_iff_eq, bne_iff_ne, bne_eq_false_iff_eq, beq_eq_false_iff_ne, Bool.not_eq_true, Bool.not_eq_false, Bool.not_eq_true', Bool.not_eq_false', ne_eq] at h2
      refine awp_skip ?_
      refine awp_seq ?_
      refine awp_seq ?_
      refine awp_rw rfl ?_
      refine RW.op rfl rfl (eff_fieldAddr rfl rfl tf29_1 (by decide) rfl rfl rfl (Nat.le_of_ble_eq_true rfl)) ?_
      refine RW.op rfl rfl (eff_load (y := .t _) rfl rfl ti3 rfl (.one rfl rfl rfl rfl)) ?_
      refine RW.op rfl rfl (eff_fieldAddr rfl rfl tf29_1 (by decide) rfl rfl rfl (Nat.le_of_ble_eq_true rfl)) ?_
      refine RW.op rfl rfl (eff_load (y := .t _) rfl rfl ti3 rfl (.one rfl rfl rfl rfl)) ?_
      refine RW.op rfl rfl (eff_iop rfl rfl rfl rfl rfl) ?_
      refine RW.nil ?_
      refine awp_cond rfl (fun h3 => ?_) (fun h3 => ?_)
      · try simp only [decide_eq_true_eq, decide_eq_false_iff_not, beq_iff_eq, bne_iff_ne, bne_eq_false_iff_eq, beq_eq_false_iff_ne, Bool.not_eq_true, Bool.not_eq_false, Bool.not_eq_true', Bool.not_eq_false', ne_eq] at h3
        refine awp_seq ?_
        refine awp_rw rfl ?_
        refine RW.op rfl rfl (eff_fieldAddr rfl rfl tf29_1 (by decide) rfl rfl rfl (Nat.le_of_ble_eq_true rfl)) ?_
        refine RW.op rfl rfl (eff_load (y := .t _) rfl rfl ti3 rfl (.one rfl rfl rfl rfl)) ?_
        refine RW.op rfl rfl (eff_fieldAddr rfl rfl tf29_1 (by decide) rfl rfl rfl (Nat.le_of_ble_eq_true rfl)) ?_
        refine RW.op rfl rfl (eff_load (y := .t _) rfl rfl ti3 rfl (.one rfl rfl rfl rfl)) ?_
        refine RW.op rfl rfl (eff_iop rfl rfl rfl rfl rfl) ?_
        refine RW.op rfl rfl (eff_assign (v := .t _) rfl rfl rfl) ?_
        refine RW.nil ?_
        refine awp_ret ?_
        (rw [before3 (x := x) (y := y) (by assumption) (by assumption) (by assumption)]; exact ⟨Or.inr rfl, [_], ⟨.tmp (.t _), trivial⟩, .refl _⟩)
      · try simp only [decide_eq_true_eq, decide_eq_false_iff_not, beq_iff_eq, bne_iff_ne, bne_eq_false_iff_eq, beq_eq_false_iff_ne, Bool.not_eq_true, Bool.not_eq_false, Bool.not_eq_true', Bool.not_eq_false', ne_eq] at h3
        refine awp_skip ?_
        refine awp_seq ?_
        refine awp_rw rfl ?_
        refine RW.op rfl rfl (eff_fieldAddr rfl rfl tf29_2 (by decide) rfl rfl rfl (Nat.le_of_ble_eq_true rfl)) ?_
        refine RW.op rfl rfl (eff_load (y := .t _) rfl rfl ti3 rfl (.one rfl rfl rfl rfl)) ?_
        refine RW.op rfl rfl (eff_fieldAddr rfl rfl tf29_2 (by decide) rfl rfl rfl (Nat.le_of_ble_eq_true rfl)) ?_
        refine RW.op rfl rfl (eff_load (y := .t _) rfl rfl ti3 rfl (.one rfl rfl rfl rfl)) ?_
        refine RW.op rfl rfl (eff_iop rfl rfl rfl rfl rfl) ?_
        refine RW.op rfl rfl (eff_assign (v := .t _) rfl rfl rfl) ?_
        refine RW.nil ?_
        refine awp_ret ?_
        (rw [before4 (x := x) (y := y) (by assumption) (by assumption) (by assumption)]; exact ⟨Or.inr rfl, [_], ⟨.tmp (.t _), trivial⟩, .refl _⟩)

theorem insert_ret (t : List Win) (w : Win) (ht : t.length ≤ 100000) : Ret Try.prog 42 [.sl (t.map encW) false, encW w] (.sl ((insF t w).map encW) false) := by
  refine ret_of_awp Try.func42 rfl (Nat.le_of_ble_eq_true rfl) ?_
  refine awp_seq ?_
  refine awp_rw rfl ?_
  refine RW.new rfl rfl (eff_boxK (v := .t _) (k := 6) (id := 3) rfl rfl rfl rfl rfl rfl) ?_
  refine RW.op rfl rfl (eff_assign (v := .t _) rfl rfl rfl) ?_
  refine RW.nil ?_
  refine awp_seq ?_
  refine awp_rw rfl ?_
  refine RW.op rfl rfl (eff_assign (v := .t _) rfl rfl rfl) ?_
  refine RW.nil ?_
  refine awp_seq ?_
  refine awp_seq ?_
  refine awp_rw rfl ?_
  refine RW.op rfl rfl (eff_assign (v := .t _) rfl rfl rfl) ?_
  refine RW.nil ?_
  refine awp_block ?_
  refine awp_loopW (fun m s => ∃ (i : Nat) (c : Int), (i ≤ t.length) ∧ (c = ((atP t w i : Nat) : Int)) ∧ (∀ x, x ∈ t.take i → meetB x w = false) ∧ m = t.length - i ∧ s = ⟨42, [(0, .t (.sl (t.map encW) false)), (3, .ptr 3 0 0 0), (5, .t (encI c)), (6, .t (encI (i : Nat)))], [(3, some ⟨6, 29, 0, [.t (encW w)]⟩)]⟩) (_) (⟨_, weak_keep (n := 42) (fr' := [(0, .t (.sl (t.map encW) false)), (3, .ptr 3 0 0 0), (5, .t (encI _)), (6, .t (encI (0 : Nat)))]) (st' := [(3, some ⟨6, 29, 0, [.t (encW w)]⟩)]) ⟨rfl, rfl, rfl, rfl, rfl, rfl, rfl, rfl, trivial⟩ ⟨rfl, okE_one rfl, trivial⟩, 0, _, (by omega), (by rfl), (by simp), rfl, rfl⟩) ?_
  rintro m s ⟨i, c, hi, hc, hno, rfl, rfl⟩
  subst hc
  refine awp_seq ?_
  refine awp_seq ?_
  refine awp_rw rfl ?_
  refine RW.op rfl rfl (eff_move (v := .t _) rfl rfl rfl) ?_
  refine RW.op rfl rfl (eff_move (v := .t _) rfl rfl rfl) ?_
  refine RW.op rfl rfl (eff_lenM rfl rfl te25 rfl) ?_
  refine RW.op rfl rfl (eff_iop rfl rfl rfl rfl rfl) ?_
  refine RW.nil ?_
  refine awp_cond rfl (fun h1 => ?_) (fun h1 => ?_)
  · try simp only [decide_eq_true_eq, decide_eq_false_iff_not, beq_iff_eq, bne_iff_ne, bne_eq_false_iff_eq, beq_eq_false_iff_ne, Bool.not_eq_true, Bool.not_eq_false, Bool.not_eq_true', Bool.not_eq_false', ne_eq] at h1
    refine awp_skip ?_
    refine awp_seq ?_
    refine awp_block ?_
    refine awp_seq ?_
    refine awp_seq ?_
    have hil : i < t.length := by omega
    refine awp_rd [(some 14, []), (some 15, []), (some 16, []), (some 17, []), (some 18, []), (some 19, [])] [[], [], [0, 1], [0, 1, 2], [], [0, 1, 2, 3, 4]] tm rfl rfl rfl rfl ?_
    refine RD.op rfl rfl rfl (eff_move (v := .t _) rfl rfl rfl) ?_
    refine RD.op rfl rfl rfl (eff_move (v := .t _) rfl rfl rfl) ?_
    refine RD.op rfl rfl rfl (eff_indexAddrT (i := i) rfl rfl te25 rfl rfl (by first | rfl | omega) (by rw [List.getElem?_map, List.getElem?_eq_getElem hil]; rfl) rfl (by decide)) ?_
    refine RD.op rfl rfl rfl (eff_loadW rfl rfl ti29 rfl rfl rfl) ?_
    refine RD.op rfl rfl rfl (eff_load rfl rfl ti29 rfl (.whole rfl rfl rfl rfl rfl rfl)) ?_
    refine RD.op rfl rfl rfl (eff_callT (meet_ret (t[i]'hil) w) co70 rfl rfl rfl rfl) ?_
    refine RD.nil ?_
    refine awp_cond rfl (fun h2 => ?_) (fun h2 => ?_)
    · try simp only [decide_eq_true_eq, decide_eq_false_iff_not, beq_iff_eq, bne_iff_ne, bne_eq_false_iff_eq, beq_eq_false_iff_ne, Bool.not_eq_true, Bool.not_eq_false, Bool.not_eq_true', Bool.not_eq_false', ne_eq] at h2
      refine awp_seq ?_
      refine awp_rw rfl ?_
      refine RW.op rfl rfl (eff_move (v := .t _) rfl rfl rfl) ?_
      refine RW.op rfl rfl (eff_assign (v := .t _) rfl rfl rfl) ?_
      refine RW.nil ?_
      refine awp_ret ?_
      rw [ins_yes hil (by assumption)]
      exact ⟨Or.inr rfl, [_], ⟨.tmp (.t _), trivial⟩, .refl _⟩
    · try simp only [decide_eq_true_eq, decide_eq_false_iff_not, beq_iff_eq, bne_iff_ne, bne_eq_false_iff_eq, beq_eq_false_iff_ne, Bool.not_eq_true, Bool.not_eq_false, Bool.not_eq_true', Bool.not_eq_false', ne_eq] at h2
      refine awp_skip ?_
      refine awp_seq ?_
      refine awp_rd [(some 21, []), (some 22, []), (some 23, []), (some 24, []), (some 25, []), (some 26, [])] [[], [], [0, 1], [0, 1, 2], [], [0, 1, 2, 3, 4]] tm rfl rfl rfl rfl ?_
      refine RD.op rfl rfl rfl (eff_move (v := .t _) rfl rfl rfl) ?_
      refine RD.op rfl rfl rfl (eff_move (v := .t _) rfl rfl rfl) ?_
      refine RD.op rfl rfl rfl (eff_indexAddrT (i := i) rfl rfl te25 rfl rfl (by first | rfl | omega) (by rw [List.getElem?_map, List.getElem?_eq_getElem hil]; rfl) rfl (by decide)) ?_
      refine RD.op rfl rfl rfl (eff_loadW rfl rfl ti29 rfl rfl rfl) ?_
      refine RD.op rfl rfl rfl (eff_load rfl rfl ti29 rfl (.whole rfl rfl rfl rfl rfl rfl)) ?_
      refine RD.op rfl rfl rfl (eff_callT (before_ret (t[i]'hil) w) co71 rfl rfl rfl rfl) ?_
      refine RD.nil ?_
      refine awp_cond rfl (fun h3 => ?_) (fun h3 => ?_)
      · try simp only [decide_eq_true_eq, decide_eq_false_iff_not, beq_iff_eq, bne_iff_ne, bne_eq_false_iff_eq, beq_eq_false_iff_ne, Bool.not_eq_true, Bool.not_eq_false, Bool.not_eq_true', Bool.not_eq_false', ne_eq] at h3
        refine awp_rw rfl ?_
        refine RW.op rfl rfl (eff_move (v := .t _) rfl rfl rfl) ?_
        refine RW.op rfl rfl (eff_iop rfl rfl rfl rfl (iadd (by omega))) ?_
        refine RW.op rfl rfl (eff_assign (v := .t _) rfl rfl rfl) ?_
        refine RW.nil ?_
        refine awp_rw rfl ?_
        refine RW.op rfl rfl (eff_move (v := .t _) rfl rfl rfl) ?_
        refine RW.op rfl rfl (eff_iop rfl rfl rfl rfl (iadd (by omega))) ?_
        refine RW.op rfl rfl (eff_assign (v := .t _) rfl rfl rfl) ?_
        refine RW.nil ?_
        refine ⟨_, ?_, _, weak_keep (n := 42) (fr' := [(0, .t (.sl (t.map encW) false)), (3, .ptr 3 0 0 0), (5, .t (encI _)), (6, .t (encI ((i + 1) : Nat)))]) (st' := [(3, some ⟨6, 29, 0, [.t (encW w)]⟩)]) ⟨rfl, rfl, rfl, rfl, rfl, rfl, rfl, rfl, trivial⟩ ⟨rfl, okE_one rfl, trivial⟩, i + 1, _, (by omega), (by first | exact atP_yes hil (by assumption) | exact atP_no hil (by assumption)), (by intro x hx; rcases (mem_take_succ hil).1 hx with h | h; exact hno x h; rw [h]; assumption), rfl, rfl⟩
        omega
      · try simp only [decide_eq_true_eq, decide_eq_false_iff_not, beq_iff_eq, bne_iff_ne, bne_eq_false_iff_eq, beq_eq_false_iff_ne, Bool.not_eq_true, Bool.not_eq_false, Bool.not_eq_true', Bool.not_eq_false', ne_eq] at h3
        refine awp_skip ?_
        refine awp_rw rfl ?_
        refine RW.op rfl rfl (eff_move (v := .t _) rfl rfl rfl) ?_
        refine RW.op rfl rfl (eff_iop rfl rfl rfl rfl (iadd (by omega))) ?_
        refine RW.op rfl rfl (eff_assign (v := .t _) rfl rfl rfl) ?_
        refine RW.nil ?_
        refine ⟨_, ?_, _, weak_keep (n := 42) (fr' := [(0, .t (.sl (t.map encW) false)), (3, .ptr 3 0 0 0), (5, .t (encI _)), (6, .t (encI ((i + 1) : Nat)))]) (st' := [(3, some ⟨6, 29, 0, [.t (encW w)]⟩)]) ⟨rfl, rfl, rfl, rfl, rfl, rfl, rfl, rfl, trivial⟩ ⟨rfl, okE_one rfl, trivial⟩, i + 1, _, (by omega), (by first | exact atP_yes hil (by assumption) | exact atP_no hil (by assumption)), (by intro x hx; rcases (mem_take_succ hil).1 hx with h | h; exact hno x h; rw [h]; assumption), rfl, rfl⟩
        omega
  · try simp only [decide_eq_true_eq, decide_eq_false_iff_not, beq_iff_eq, bne_iff_ne, bne_eq_false_iff_eq, beq_eq_false_iff_ne, Bool.not_eq_true, Bool.not_eq_false, Bool.not_eq_true', Bool.not_eq_false', ne_eq] at h1
    refine awp_exit ?_
    refine awp_seq ?_
    obtain rfl : i = t.length := by omega
    rw [List.take_length] at hno
    have hkl := atP_le t w t.length
    refine awp_rw rfl ?_
    refine RW.op rfl rfl (eff_assign (v := .t _) rfl rfl rfl) ?_
    refine RW.nil ?_
    show AWP _ _ _ _
    refine awp_weak (weak_adopt (d := 7) (id := 7) (k := 6) (ty := 29) rfl rfl) ?_
    refine awp_seq ?_
    refine awp_rd [(some 29, []), (some 30, []), (some 31, []), (some 32, []), (some 33, [7]), (some 34, []), (some 35, [35]), (some 36, [7]), (some 7, [])] [[], [], [], [1, 2], [0, 1, 2, 3], [], [5], [0, 1, 2, 3, 4, 5, 6], [0, 1, 2, 3, 4, 5, 6, 7]] tm rfl rfl rfl rfl ?_
    refine RD.op rfl rfl rfl (eff_move (v := .own _ _ _ _) rfl rfl rfl) ?_
    refine RD.op rfl rfl rfl (eff_move (v := .t _) rfl rfl rfl) ?_
    refine RD.op rfl rfl rfl (eff_move (v := .t _) rfl rfl rfl) ?_
    refine RD.op rfl rfl rfl (eff_sliceM (l := none) (h := some (atP t w t.length)) (r := t.take (atP t w t.length)) rfl rfl te25 rfl (fun _ => rfl) .no (.yes rfl rfl) (Nat.zero_le _) (by show (atP t w t.length) ≤ t.length; omega) (by simp)) ?_
    refine RD.new rfl rfl rfl (eff_appendAny (id := 7) rfl rfl ta25 rfl rfl rfl rfl rfl rfl (srcM (l := t.take (atP t w t.length)) (g := encW) rfl (fun _ => rfl)) (by simp only [List.length_map, List.length_nil, List.length_take]; omega) (by simp only [List.length_map, List.length_nil, List.length_take]; omega)) ?_
    refine RD.op rfl rfl rfl (eff_load rfl rfl ti29 rfl (.whole rfl rfl rfl rfl rfl rfl)) ?_
    refine RD.new rfl rfl rfl (eff_buildSliceL (id := 35) (els := [.t (.agg [_, _, _, _, _, _])]) rfl rfl te25 tz29 rfl (by decide) (by decide) rfl rfl rfl rfl) ?_
    refine RD.new rfl rfl rfl (eff_append (id := 7) (ys := [_]) rfl rfl ta25 rfl rfl rfl (by simp) rfl rfl (srcOwn rfl rfl rfl rfl rfl rfl) (by simp) (by simp; omega) (by simp; omega)) ?_
    refine RD.op rfl rfl rfl (eff_assign (v := .own _ _ _ _) rfl rfl rfl) ?_
    refine RD.nil ?_
    refine awp_seq ?_
    refine awp_rw rfl ?_
    refine RW.op rfl rfl (eff_move (v := .own _ _ _ _) rfl rfl rfl) ?_
    refine RW.op rfl rfl (eff_move (v := .t _) rfl rfl rfl) ?_
    refine RW.op rfl rfl (eff_move (v := .t _) rfl rfl rfl) ?_
    refine RW.op rfl rfl (eff_sliceM (l := some (atP t w t.length)) (h := none) (r := t.drop (atP t w t.length)) rfl rfl te25 rfl (fun _ => rfl) (.yes rfl rfl) .no (by show (atP t w t.length) ≤ t.length; omega) (Nat.le_refl _) (by simp)) ?_
    refine RW.new rfl rfl (eff_appendAny (id := 7) rfl rfl ta25 rfl rfl rfl (by simp) rfl rfl (srcM (l := t.drop (atP t w t.length)) (g := encW) rfl (fun _ => rfl)) (by simp; omega) (by simp; omega)) ?_
    refine RW.op rfl rfl (eff_assign (v := .own _ _ _ _) rfl rfl rfl) ?_
    refine RW.nil ?_
    refine awp_ret ?_
    rw [ins_no hno]
    exact ⟨Or.inr rfl, [_], ⟨.tmp (Res.ownT (xs := (t.take (atP t w t.length) ++ [w] ++ t.drop (atP t w t.length)).map encW) rfl rfl (by simp <;> rfl) (by simp <;> omega)), trivial⟩, .refl _⟩

end Go.Tv.C35

end
section
open Go Go.Tv Go.Proofs
namespace Go.Tv.C35
set_option maxRecDepth 20000
set_option maxHeartbeats 2000000
set_option linter.unusedSimpArgs false
set_option linter.unusedVariables false
theorem table_ret (l : List Int) (N : Nat) (hN : ∀ L : Int, L ≤ 9223372036854775807 → ¬ ix N 5 < L) (hI : ∀ n, n ∈ l → I64 n) (hl : l.length ≤ 9223372036854775807) : Ret Try.prog 13 [.sl (l.map encI) false] (.sl ((tabG l (spF l) N 0 []).map encW) false) := by
  have hsp := sp_range l
  have hp6 := pick_range l 6 (m := 300) (by decide)
  refine ret_of_awp Try.func13 rfl (Nat.le_of_ble_eq_true rfl) ?_
  refine awp_seq ?_
  refine awp_rw rfl ?_
  refine RW.op rfl rfl (eff_assign (v := .t _) rfl rfl rfl) ?_
  refine RW.nil ?_
  refine awp_seq ?_
  refine awp_rw rfl ?_
  refine RW.op rfl rfl (eff_assign (v := .t _) rfl rfl rfl) ?_
  refine RW.nil ?_
  show AWP _ _ _ _
  refine awp_weak (weak_frz (n := 90) (fr' := [(0, .t (.sl (l.map encI) false)), (3, .t (.sl [] false))]) (st' := []) [] trivial trivial ⟨wa_eq rfl rfl, .res (.t _) (.sl _), trivial⟩ trivial) ?_
  refine awp_seq ?_
  refine awp_rw rfl ?_
  refine RW.op rfl rfl (eff_move (v := .t _) rfl rfl rfl) ?_
  refine RW.op rfl rfl (eff_callT (pick_ret l 6 300 hI hl (by decide)) co41 rfl rfl rfl rfl) ?_
  refine RW.op rfl rfl (eff_iop (r := encI (spF l)) rfl rfl rfl rfl (iadd (by omega))) ?_
  refine RW.op rfl rfl (eff_assign (v := .t _) rfl rfl rfl) ?_
  refine RW.nil ?_
  refine awp_seq ?_
  refine awp_seq ?_
  refine awp_rw rfl ?_
  refine RW.op rfl rfl (eff_assign (v := .t _) rfl rfl rfl) ?_
  refine RW.nil ?_
  refine awp_block ?_
  refine awp_loopW (fun m s => ∃ (j : Nat) (x : Int) (out : List Win), (j ≤ N) ∧ (x = ix j 0) ∧ (out.length ≤ 60) ∧ (tabG l (spF l) N 0 [] = tabG l (spF l) (N - j) j out) ∧ m = N - j ∧ s = ⟨90, [(0, .t (.sl (l.map encI) false)), (3, .t (.sl (out.map encW) false)), (4, .t (encI (spF l))), (5, .t (encI x))], []⟩) (_) (⟨_, weak_keep (n := 90) (fr' := [(0, .t (.sl (l.map encI) false)), (3, .t (.sl (([]).map encW) false)), (4, .t (encI (spF l))), (5, .t (encI _))]) (st' := []) ⟨rfl, rfl, rfl, rfl, rfl, rfl, rfl, rfl, trivial⟩ trivial, 0, _, [], (by omega), (by exact ix0), (by exact Nat.zero_le _), (by rw [Nat.sub_zero]), rfl, rfl⟩) ?_
  rintro m s ⟨j, x, out, hj, hx, hob, ht, rfl, rfl⟩
  subst hx
  refine awp_seq ?_
  refine awp_seq ?_
  refine awp_rw rfl ?_
  refine RW.op rfl rfl (eff_move (v := .t _) rfl rfl rfl) ?_
  refine RW.op rfl rfl (eff_iop (r := encI (ix j 5)) rfl rfl rfl rfl (ix_iadd j 5)) ?_
  refine RW.op rfl rfl (eff_move (v := .t _) rfl rfl rfl) ?_
  refine RW.op rfl rfl (eff_lenM rfl rfl te22 rfl) ?_
  refine RW.op rfl rfl (eff_iop rfl rfl rfl rfl rfl) ?_
  refine RW.op rfl rfl (eff_move (v := .t _) rfl rfl rfl) ?_
  refine RW.split 15 rfl (fun h1 => ?_) (fun h1 => ?_)
  · try simp only [decide_eq_true_eq, decide_eq_false_iff_not, beq_iff_eq, bne_iff_ne, bne_eq_false_iff_eq, beq_eq_false_iff_ne, Bool.not_eq_true, Bool.not_eq_false, Bool.not_eq_true', Bool.not_eq_false', ne_eq] at h1
    refine RW.gop rfl rfl rfl rfl rfl rfl (eff_move (v := .t _) rfl rfl rfl) ?_
    refine RW.gop rfl rfl rfl rfl rfl rfl (eff_lenM rfl rfl te25 rfl) ?_
    refine RW.gop rfl rfl rfl rfl rfl rfl (eff_iop rfl rfl rfl rfl rfl) ?_
    refine RW.op rfl rfl (eff_pick (v := .t _) rfl rfl rfl rfl) ?_
    refine RW.nil ?_
    refine awp_cond rfl (fun h2 => ?_) (fun h2 => ?_)
    · try simp only [decide_eq_true_eq, decide_eq_false_iff_not, beq_iff_eq, bne_iff_ne, bne_eq_false_iff_eq, beq_eq_false_iff_ne, Bool.not_eq_true, Bool.not_eq_false, Bool.not_eq_true', Bool.not_eq_false', ne_eq] at h2
      refine awp_skip ?_
      refine awp_seq ?_
      refine awp_block ?_
      refine awp_seq ?_
      refine awp_rw rfl ?_
      have hjN : j < N := Nat.lt_of_le_of_ne hj (fun e => hN (l.length : Int) (by omega) (by rw [← e]; assumption))
      have hstep := tabG_yes (sp := (spF l)) (out := out) hjN ⟨by assumption, by omega⟩
      have p0 := pick_range l (ix j 0) (m := 4) (by decide)
      have p3 := pick_range l (ix j 3) (m := (spF l)) (by omega)
      have p4 := pick_range l (ix j 4) (m := 30) (by decide)
      have p5 := pick_range l (ix j 5) (m := 40) (by decide)
      refine RW.op rfl rfl (eff_move (v := .t _) rfl rfl rfl) ?_
      refine RW.op rfl rfl (eff_move (v := .t _) rfl rfl rfl) ?_
      refine RW.op rfl rfl (eff_callT (pick_ret l (ix j 0) 4 hI hl (by first | decide | omega)) co41 rfl rfl rfl rfl) ?_
      refine RW.op rfl rfl (eff_iop rfl rfl rfl rfl (iadd (by omega))) ?_
      refine RW.op rfl rfl (eff_move (v := .t _) rfl rfl rfl) ?_
      refine RW.op rfl rfl (eff_move (v := .t _) rfl rfl rfl) ?_
      refine RW.op rfl rfl (eff_iop (r := encI (ix j 1)) rfl rfl rfl rfl (ix_iadd j 1)) ?_
      refine RW.op rfl rfl (eff_callT (pick_ret l (ix j 1) 4 hI hl (by first | decide | omega)) co41 rfl rfl rfl rfl) ?_
      refine RW.op rfl rfl (eff_move (v := .t _) rfl rfl rfl) ?_
      refine RW.op rfl rfl (eff_move (v := .t _) rfl rfl rfl) ?_
      refine RW.op rfl rfl (eff_iop (r := encI (ix j 2)) rfl rfl rfl rfl (ix_iadd j 2)) ?_
      refine RW.op rfl rfl (eff_callT (pick_ret l (ix j 2) 4 hI hl (by first | decide | omega)) co41 rfl rfl rfl rfl) ?_
      refine RW.op rfl rfl (eff_buildT (ys := [_, _, _, _, _, _]) rfl rfl tz29 tg29 rfl) ?_
      refine RW.new rfl rfl (eff_allocK (k := 6) (id := 6) rfl rfl tz29 rfl rfl) ?_
      refine RW.store rfl rfl (eff_storeW (v := .t _) (els := [_]) (els' := [_]) rfl rfl ti29 rfl rfl rfl rfl rfl rfl rfl rfl rfl) ?_
      refine RW.nil ?_
      refine awp_seq ?_
      refine awp_rw rfl ?_
      refine RW.op rfl rfl (eff_move (v := .t _) rfl rfl rfl) ?_
      refine RW.op rfl rfl (eff_move (v := .t _) rfl rfl rfl) ?_
      refine RW.op rfl rfl (eff_iop (r := encI (ix j 3)) rfl rfl rfl rfl (ix_iadd j 3)) ?_
      refine RW.op rfl rfl (eff_move (v := .t _) rfl rfl rfl) ?_
      refine RW.op rfl rfl (eff_callT (pick_ret l (ix j 3) (spF l) hI hl (by first | decide | omega)) co41 rfl rfl rfl rfl) ?_
      refine RW.op rfl rfl (eff_fieldAddr rfl rfl tf29_3 (by decide) rfl rfl rfl (Nat.le_of_ble_eq_true rfl)) ?_
      refine RW.store rfl rfl (eff_storeS (v := .t _) (ys := [_, _, _, _, _, _]) (els := [_]) (els' := [_]) rfl rfl ti3 rfl rfl rfl rfl rfl rfl rfl (Nat.le_of_ble_eq_true rfl) rfl rfl) ?_
      refine RW.nil ?_
      refine awp_seq ?_
      refine awp_rd [(some 41, []), (some 42, []), (some 43, []), (some 44, []), (some 45, []), (some 46, []), (some 47, []), (some 48, []), (some 49, []), (none, [6])] [[], [0], [0, 1], [], [], [4], [3, 4, 5], [0, 1, 2, 3, 4, 5, 6], [0, 1, 2, 3, 4, 5, 6, 7], [0, 1, 2, 3, 4, 5, 6, 7, 8]] tm rfl rfl rfl rfl ?_
      refine RD.op rfl rfl rfl (eff_fieldAddr rfl rfl tf29_3 (by decide) rfl rfl rfl (Nat.le_of_ble_eq_true rfl)) ?_
      refine RD.op rfl rfl rfl (eff_load (y := .t _) rfl rfl ti3 rfl (.one rfl rfl rfl rfl)) ?_
      refine RD.op rfl rfl rfl (eff_iop rfl rfl rfl rfl (iadd (by omega))) ?_
      refine RD.op rfl rfl rfl (eff_move (v := .t _) rfl rfl rfl) ?_
      refine RD.op rfl rfl rfl (eff_move (v := .t _) rfl rfl rfl) ?_
      refine RD.op rfl rfl rfl (eff_iop (r := encI (ix j 4)) rfl rfl rfl rfl (ix_iadd j 4)) ?_
      refine RD.op rfl rfl rfl (eff_callT (pick_ret l (ix j 4) 30 hI hl (by first | decide | omega)) co41 rfl rfl rfl rfl) ?_
      refine RD.op rfl rfl rfl (eff_iop rfl rfl rfl rfl (iadd (by omega))) ?_
      refine RD.op rfl rfl rfl (eff_fieldAddr rfl rfl tf29_4 (by decide) rfl rfl rfl (Nat.le_of_ble_eq_true rfl)) ?_
      refine RD.store rfl rfl rfl (eff_storeS (v := .t _) (ys := [_, _, _, _, _, _]) (els := [_]) (els' := [_]) rfl rfl ti3 rfl rfl rfl rfl rfl rfl rfl (Nat.le_of_ble_eq_true rfl) rfl rfl) ?_
      refine RD.nil ?_
      refine awp_seq ?_
      refine awp_rw rfl ?_
      refine RW.op rfl rfl (eff_move (v := .t _) rfl rfl rfl) ?_
      refine RW.op rfl rfl (eff_move (v := .t _) rfl rfl rfl) ?_
      refine RW.op rfl rfl (eff_iop (r := encI (ix j 5)) rfl rfl rfl rfl (ix_iadd j 5)) ?_
      refine RW.op rfl rfl (eff_callT (pick_ret l (ix j 5) 40 hI hl (by first | decide | omega)) co41 rfl rfl rfl rfl) ?_
      refine RW.op rfl rfl (eff_iop rfl rfl rfl rfl (iadd (by omega))) ?_
      refine RW.op rfl rfl (eff_fieldAddr rfl rfl tf29_5 (by decide) rfl rfl rfl (Nat.le_of_ble_eq_true rfl)) ?_
      refine RW.store rfl rfl (eff_storeS (v := .t _) (ys := [_, _, _, _, _, _]) (els := [_]) (els' := [_]) rfl rfl ti3 rfl rfl rfl rfl rfl rfl rfl (Nat.le_of_ble_eq_true rfl) rfl rfl) ?_
      refine RW.nil ?_
      show AWP _ _ _ _
      refine awp_weak (weak_keep (n := 90) (fr' := [(0, .t (.sl (l.map encI) false)), (3, .t (.sl (out.map encW) false)), (4, .t (encI (spF l))), (5, .t (encI (ix j 0))), (6, .ptr 6 0 0 0)]) (st' := [(6, some ⟨6, 29, 0, [.t (encW (w0F l (spF l) j))]⟩)]) ⟨rfl, rfl, rfl, rfl, rfl, rfl, rfl, rfl, rfl, rfl, trivial⟩ ⟨rfl, okE_one rfl, trivial⟩) ?_
      have hab := ab0 l (spF l) j
      have hww : winOf l (spF l) j = crossW (starW (rateW (w0F l (spF l) j))) := rfl
      generalize w0F l (spF l) j = w0 at hab hww ⊢
      obtain ⟨k0, a0, b0, f0, u0, r0⟩ := w0
      refine awp_seq_mid (fun s => Weak s ⟨90, [(0, .t (.sl (l.map encI) false)), (3, .t (.sl (out.map encW) false)), (4, .t (encI (spF l))), (5, .t (encI (ix j 0))), (6, .ptr 6 0 0 0)], [(6, some ⟨6, 29, 0, [.t (encW (rateW ⟨k0, a0, b0, f0, u0, r0⟩))]⟩)]⟩) ?_ ?_
      · refine awp_seq ?_
        refine awp_rw rfl ?_
        refine RW.op rfl rfl (eff_fieldAddr rfl rfl tf29_0 (by decide) rfl rfl rfl (Nat.le_of_ble_eq_true rfl)) ?_
        refine RW.op rfl rfl (eff_load (y := .t _) rfl rfl ti3 rfl (.one rfl rfl rfl rfl)) ?_
        refine RW.op rfl rfl (eff_iop rfl rfl rfl rfl rfl) ?_
        refine RW.op rfl rfl (eff_move (v := .t _) rfl rfl rfl) ?_
        refine RW.split 59 rfl (fun h3 => ?_) (fun h3 => ?_)
        · try simp only [decide_eq_true_eq, decide_eq_false_iff_not, beq_iff_eq, bne_iff_ne, bne_eq_false_iff_eq, beq_eq_false_iff_ne, Bool.not_eq_true, Bool.not_eq_false, Bool.not_eq_true', Bool.not_eq_false', ne_eq] at h3
          refine RW.gskip rfl rfl rfl rfl rfl (by decide) ?_
          refine RW.gskip rfl rfl rfl rfl rfl (by decide) ?_
          refine RW.gskip rfl rfl rfl rfl rfl (by decide) ?_
          refine RW.op rfl rfl (eff_pick (v := .t _) rfl rfl rfl rfl) ?_
          refine RW.nil ?_
          refine awp_cond rfl (fun _ => ?_) (fun h => nomatch h)
          refine awp_rw rfl ?_
          refine RW.op rfl rfl (eff_fieldAddr rfl rfl tf29_5 (by decide) rfl rfl rfl (Nat.le_of_ble_eq_true rfl)) ?_
          refine RW.store rfl rfl (eff_storeS (v := .t _) (ys := [_, _, _, _, _, _]) (els := [_]) (els' := [_]) rfl rfl ti3 rfl rfl rfl rfl rfl rfl rfl (Nat.le_of_ble_eq_true rfl) rfl rfl) ?_
          refine RW.nil ?_
          show Weak _ _
          (rw [rate_yes (k := k0) (a := a0) (b := b0) (by omega)]; exact weak_keep (n := 90) ⟨rfl, rfl, rfl, rfl, rfl, rfl, rfl, rfl, rfl, rfl, trivial⟩ ⟨rfl, okE_one rfl, trivial⟩)
        · try simp only [decide_eq_true_eq, decide_eq_false_iff_not, beq_iff_eq, bne_iff_ne, bne_eq_false_iff_eq, beq_eq_false_iff_ne, Bool.not_eq_true, Bool.not_eq_false, Bool.not_eq_true', Bool.not_eq_false', ne_eq] at h3
          refine RW.gop rfl rfl rfl rfl rfl rfl (eff_fieldAddr rfl rfl tf29_0 (by decide) rfl rfl rfl (Nat.le_of_ble_eq_true rfl)) ?_
          refine RW.gop rfl rfl rfl rfl rfl rfl (eff_load (y := .t _) rfl rfl ti3 rfl (.one rfl rfl rfl rfl)) ?_
          refine RW.gop rfl rfl rfl rfl rfl rfl (eff_iop rfl rfl rfl rfl rfl) ?_
          refine RW.op rfl rfl (eff_pick (v := .t _) rfl rfl rfl rfl) ?_
          refine RW.nil ?_
          refine awp_cond rfl (fun h4 => ?_) (fun h4 => ?_)
          · try simp only [decide_eq_true_eq, decide_eq_false_iff_not, beq_iff_eq, bne_iff_ne, bne_eq_false_iff_eq, beq_eq_false_iff_ne, Bool.not_eq_true, Bool.not_eq_false, Bool.not_eq_true', Bool.not_eq_false', ne_eq] at h4
            refine awp_rw rfl ?_
            refine RW.op rfl rfl (eff_fieldAddr rfl rfl tf29_5 (by decide) rfl rfl rfl (Nat.le_of_ble_eq_true rfl)) ?_
            refine RW.store rfl rfl (eff_storeS (v := .t _) (ys := [_, _, _, _, _, _]) (els := [_]) (els' := [_]) rfl rfl ti3 rfl rfl rfl rfl rfl rfl rfl (Nat.le_of_ble_eq_true rfl) rfl rfl) ?_
            refine RW.nil ?_
            show Weak _ _
            (rw [rate_yes (k := k0) (a := a0) (b := b0) (by omega)]; exact weak_keep (n := 90) ⟨rfl, rfl, rfl, rfl, rfl, rfl, rfl, rfl, rfl, rfl, trivial⟩ ⟨rfl, okE_one rfl, trivial⟩)
          · try simp only [decide_eq_true_eq, decide_eq_false_iff_not, beq_iff_eq, bne_iff_ne, bne_eq_false_iff_eq, beq_eq_false_iff_ne, Bool.not_eq_true, Bool.not_eq_false, Bool.not_eq_true', Bool.not_eq_false', ne_eq] at h4
            refine awp_skip ?_
            show Weak _ _
            (rw [rate_no (k := k0) (a := a0) (b := b0) (by omega)]; exact weak_keep (n := 90) ⟨rfl, rfl, rfl, rfl, rfl, rfl, rfl, rfl, rfl, rfl, trivial⟩ ⟨rfl, okE_one rfl, trivial⟩)
      · rintro s1 hw
        refine awp_weak hw ?_
        clear hw
        replace hab := ab1 hab
        generalize rateW ⟨k0, a0, b0, f0, u0, r0⟩ = w1 at hab hww ⊢
        obtain ⟨k1, a1, b1, f1, u1, r1⟩ := w1
        refine awp_seq_mid (fun s => Weak s ⟨90, [(0, .t (.sl (l.map encI) false)), (3, .t (.sl (out.map encW) false)), (4, .t (encI (spF l))), (5, .t (encI (ix j 0))), (6, .ptr 6 0 0 0)], [(6, some ⟨6, 29, 0, [.t (encW (starW ⟨k1, a1, b1, f1, u1, r1⟩))]⟩)]⟩) ?_ ?_
        · refine awp_seq ?_
          refine awp_rw rfl ?_
          refine RW.op rfl rfl (eff_fieldAddr rfl rfl tf29_0 (by decide) rfl rfl rfl (Nat.le_of_ble_eq_true rfl)) ?_
          refine RW.op rfl rfl (eff_load (y := .t _) rfl rfl ti3 rfl (.one rfl rfl rfl rfl)) ?_
          refine RW.op rfl rfl (eff_iop rfl rfl rfl rfl rfl) ?_
          refine RW.nil ?_
          refine awp_cond rfl (fun h5 => ?_) (fun h5 => ?_)
          · try simp only [decide_eq_true_eq, decide_eq_false_iff_not, beq_iff_eq, bne_iff_ne, bne_eq_false_iff_eq, beq_eq_false_iff_ne, Bool.not_eq_true, Bool.not_eq_false, Bool.not_eq_true', Bool.not_eq_false', ne_eq] at h5
            refine awp_rw rfl ?_
            refine RW.op rfl rfl (eff_fieldAddr rfl rfl tf29_2 (by decide) rfl rfl rfl (Nat.le_of_ble_eq_true rfl)) ?_
            refine RW.store rfl rfl (eff_storeS (v := .t _) (ys := [_, _, _, _, _, _]) (els := [_]) (els' := [_]) rfl rfl ti3 rfl rfl rfl rfl rfl rfl rfl (Nat.le_of_ble_eq_true rfl) rfl rfl) ?_
            refine RW.nil ?_
            show Weak _ _
            (rw [star_yes (k := k1) (a := a1) (b := b1) (by omega)]; exact weak_keep (n := 90) ⟨rfl, rfl, rfl, rfl, rfl, rfl, rfl, rfl, rfl, rfl, trivial⟩ ⟨rfl, okE_one rfl, trivial⟩)
          · try simp only [decide_eq_true_eq, decide_eq_false_iff_not, beq_iff_eq, bne_iff_ne, bne_eq_false_iff_eq, beq_eq_false_iff_ne, Bool.not_eq_true, Bool.not_eq_false, Bool.not_eq_true', Bool.not_eq_false', ne_eq] at h5
            refine awp_skip ?_
            show Weak _ _
            (rw [star_no (k := k1) (a := a1) (b := b1) (by omega)]; exact weak_keep (n := 90) ⟨rfl, rfl, rfl, rfl, rfl, rfl, rfl, rfl, rfl, rfl, trivial⟩ ⟨rfl, okE_one rfl, trivial⟩)
        · rintro s1 hw
          refine awp_weak hw ?_
          clear hw
          replace hab := ab2 hab
          generalize starW ⟨k1, a1, b1, f1, u1, r1⟩ = w2 at hab hww ⊢
          obtain ⟨k2, a2, b2, f2, u2, r2⟩ := w2
          have hab2 : (0 ≤ a2 ∧ a2 ≤ 3) ∧ (0 ≤ b2 ∧ b2 ≤ 3) := hab
          refine awp_seq_mid (fun s => Weak s ⟨90, [(0, .t (.sl (l.map encI) false)), (3, .t (.sl (out.map encW) false)), (4, .t (encI (spF l))), (5, .t (encI (ix j 0))), (6, .ptr 6 0 0 0)], [(6, some ⟨6, 29, 0, [.t (encW (winOf l (spF l) j))]⟩)]⟩) ?_ ?_
          · refine awp_seq ?_
            refine awp_rw rfl ?_
            refine RW.op rfl rfl (eff_fieldAddr rfl rfl tf29_0 (by decide) rfl rfl rfl (Nat.le_of_ble_eq_true rfl)) ?_
            refine RW.op rfl rfl (eff_load (y := .t _) rfl rfl ti3 rfl (.one rfl rfl rfl rfl)) ?_
            refine RW.op rfl rfl (eff_iop rfl rfl rfl rfl rfl) ?_
            refine RW.op rfl rfl (eff_move (v := .t _) rfl rfl rfl) ?_
            refine RW.split 72 rfl (fun h6 => ?_) (fun h6 => ?_)
            · try simp only [decide_eq_true_eq, decide_eq_false_iff_not, beq_iff_eq, bne_iff_ne, bne_eq_false_iff_eq, beq_eq_false_iff_ne, Bool.not_eq_true, Bool.not_eq_false, Bool.not_eq_true', Bool.not_eq_false', ne_eq] at h6
              refine RW.gop rfl rfl rfl rfl rfl rfl (eff_fieldAddr rfl rfl tf29_1 (by decide) rfl rfl rfl (Nat.le_of_ble_eq_true rfl)) ?_
              refine RW.gop rfl rfl rfl rfl rfl rfl (eff_load (y := .t _) rfl rfl ti3 rfl (.one rfl rfl rfl rfl)) ?_
              refine RW.gop rfl rfl rfl rfl rfl rfl (eff_fieldAddr rfl rfl tf29_2 (by decide) rfl rfl rfl (Nat.le_of_ble_eq_true rfl)) ?_
              refine RW.gop rfl rfl rfl rfl rfl rfl (eff_load (y := .t _) rfl rfl ti3 rfl (.one rfl rfl rfl rfl)) ?_
              refine RW.gop rfl rfl rfl rfl rfl rfl (eff_iop rfl rfl rfl rfl rfl) ?_
              refine RW.op rfl rfl (eff_pick (v := .t _) rfl rfl rfl rfl) ?_
              refine RW.nil ?_
              refine awp_cond rfl (fun h7 => ?_) (fun h7 => ?_)
              · try simp only [decide_eq_true_eq, decide_eq_false_iff_not, beq_iff_eq, bne_iff_ne, bne_eq_false_iff_eq, beq_eq_false_iff_ne, Bool.not_eq_true, Bool.not_eq_false, Bool.not_eq_true', Bool.not_eq_false', ne_eq] at h7
                refine awp_rw rfl ?_
                refine RW.op rfl rfl (eff_fieldAddr rfl rfl tf29_1 (by decide) rfl rfl rfl (Nat.le_of_ble_eq_true rfl)) ?_
                refine RW.op rfl rfl (eff_load (y := .t _) rfl rfl ti3 rfl (.one rfl rfl rfl rfl)) ?_
                refine RW.op rfl rfl (eff_iop (r := encI (a2 + 1)) rfl rfl rfl rfl (iadd (a := a2) (b := 1) (by omega))) ?_
                refine RW.op rfl rfl (eff_fieldAddr rfl rfl tf29_2 (by decide) rfl rfl rfl (Nat.le_of_ble_eq_true rfl)) ?_
                refine RW.op rfl rfl (eff_load (y := .t _) rfl rfl ti3 rfl (.one rfl rfl rfl rfl)) ?_
                refine RW.op rfl rfl (eff_iop (r := encI (a2 + 1 + b2)) rfl rfl rfl rfl (iadd (a := a2 + 1) (b := b2) (by omega))) ?_
                refine RW.op rfl rfl (eff_fieldAddr rfl rfl tf29_2 (by decide) rfl rfl rfl (Nat.le_of_ble_eq_true rfl)) ?_
                refine RW.store rfl rfl (eff_storeS (v := .t _) (ys := [_, _, _, _, _, _]) (els := [_]) (els' := [_]) rfl rfl ti3 rfl rfl rfl rfl rfl rfl rfl (Nat.le_of_ble_eq_true rfl) rfl rfl) ?_
                refine RW.nil ?_
                show Weak _ _
                (rw [hww, cross_yes (k := k2) (a := a2) (b := b2) (by omega)]; exact weak_keep (n := 90) ⟨rfl, rfl, rfl, rfl, rfl, rfl, rfl, rfl, rfl, rfl, trivial⟩ ⟨rfl, okE_one rfl, trivial⟩)
              · try simp only [decide_eq_true_eq, decide_eq_false_iff_not, beq_iff_eq, bne_iff_ne, bne_eq_false_iff_eq, beq_eq_false_iff_ne, Bool.not_eq_true, Bool.not_eq_false, Bool.not_eq_true', Bool.not_eq_false', ne_eq] at h7
                refine awp_skip ?_
                show Weak _ _
                (rw [hww, cross_no (k := k2) (a := a2) (b := b2) (by omega)]; exact weak_keep (n := 90) ⟨rfl, rfl, rfl, rfl, rfl, rfl, rfl, rfl, rfl, rfl, trivial⟩ ⟨rfl, okE_one rfl, trivial⟩)
            · try simp only [decide_eq_true_eq, decide_eq_false_iff_not, beq_iff_eq, bne_iff_ne, bne_eq_false_iff_eq, beq_eq_false_iff_ne, Bool.not_eq_true, Bool.not_eq_false, Bool.not_eq_true', Bool.not_eq_false', ne_eq] at h6
              refine RW.gskip rfl rfl rfl rfl rfl (by decide) ?_
              refine RW.gskip rfl rfl rfl rfl rfl (by decide) ?_
              refine RW.gskip rfl rfl rfl rfl rfl (by decide) ?_
              refine RW.gskip rfl rfl rfl rfl rfl (by decide) ?_
              refine RW.gskip rfl rfl rfl rfl rfl (by decide) ?_
              refine RW.op rfl rfl (eff_pick (v := .t _) rfl rfl rfl rfl) ?_
              refine RW.nil ?_
              refine awp_cond rfl (fun h => nomatch h) (fun _ => ?_)
              refine awp_skip ?_
              show Weak _ _
              (rw [hww, cross_no (k := k2) (a := a2) (b := b2) (by omega)]; exact weak_keep (n := 90) ⟨rfl, rfl, rfl, rfl, rfl, rfl, rfl, rfl, rfl, rfl, trivial⟩ ⟨rfl, okE_one rfl, trivial⟩)
          · rintro s1 hw
            refine awp_weak hw ?_
            refine awp_rw rfl ?_
            refine RW.op rfl rfl (eff_move (v := .t _) rfl rfl rfl) ?_
            refine RW.op rfl rfl (eff_load rfl rfl ti29 rfl (.whole rfl rfl rfl rfl rfl rfl)) ?_
            refine RW.op rfl rfl (eff_callT (insert_ret out (winOf l (spF l) j) (by omega)) co42 rfl rfl rfl rfl) ?_
            refine RW.op rfl rfl (eff_assign (v := .t _) rfl rfl rfl) ?_
            refine RW.nil ?_
            refine awp_rw rfl ?_
            refine RW.op rfl rfl (eff_move (v := .t _) rfl rfl rfl) ?_
            refine RW.op rfl rfl (eff_iop (r := encI (ix (j + 1) 0)) rfl rfl rfl rfl (ix_inext j)) ?_
            refine RW.op rfl rfl (eff_assign (v := .t _) rfl rfl rfl) ?_
            refine RW.nil ?_
            refine ⟨_, ?_, _, weak_keep (n := 90) (fr' := [(0, .t (.sl (l.map encI) false)), (3, .t (.sl ((insF out (winOf l (spF l) j)).map encW) false)), (4, .t (encI (spF l))), (5, .t (encI _))]) (st' := []) ⟨rfl, rfl, rfl, rfl, rfl, rfl, rfl, rfl, trivial⟩ trivial, j + 1, _, insF out (winOf l (spF l) j), (by omega), (by rfl), (by have := ins_len out (winOf l (spF l) j); omega), (by exact ht.trans hstep), rfl, rfl⟩
            omega
    · try simp only [decide_eq_true_eq, decide_eq_false_iff_not, beq_iff_eq, bne_iff_ne, bne_eq_false_iff_eq, beq_eq_false_iff_ne, Bool.not_eq_true, Bool.not_eq_false, Bool.not_eq_true', Bool.not_eq_false', ne_eq] at h2
      refine awp_exit ?_
      refine awp_seq ?_
      refine awp_rw rfl ?_
      refine RW.op rfl rfl (eff_move (v := .t _) rfl rfl rfl) ?_
      refine RW.op rfl rfl (eff_assign (v := .t _) rfl rfl rfl) ?_
      refine RW.nil ?_
      refine awp_ret ?_
      rw [ht, tabG_no (l := l) (sp := (spF l)) (j := j) (out := out) (by omega)]
      exact ⟨Or.inr rfl, [_], ⟨.tmp (.t _), trivial⟩, .refl _⟩
  · try simp only [decide_eq_true_eq, decide_eq_false_iff_not, beq_iff_eq, bne_iff_ne, bne_eq_false_iff_eq, beq_eq_false_iff_ne, Bool.not_eq_true, Bool.not_eq_false, Bool.not_eq_true', Bool.not_eq_false', ne_eq] at h1
    refine RW.gskip rfl rfl rfl rfl rfl (by decide) ?_
    refine RW.gskip rfl rfl rfl rfl rfl (by decide) ?_
    refine RW.gskip rfl rfl rfl rfl rfl (by decide) ?_
    refine RW.op rfl rfl (eff_pick (v := .t _) rfl rfl rfl rfl) ?_
    refine RW.nil ?_
    refine awp_cond rfl (fun h => nomatch h) (fun _ => ?_)
    refine awp_exit ?_
    refine awp_seq ?_
    refine awp_rw rfl ?_
    refine RW.op rfl rfl (eff_move (v := .t _) rfl rfl rfl) ?_
    refine RW.op rfl rfl (eff_assign (v := .t _) rfl rfl rfl) ?_
    refine RW.nil ?_
    refine awp_ret ?_
    rw [ht, tabG_no (l := l) (sp := (spF l)) (j := j) (out := out) (by omega)]
    exact ⟨Or.inr rfl, [_], ⟨.tmp (.t _), trivial⟩, .refl _⟩

theorem table_ex (l : List Int) (hI : ∀ n, n ∈ l → I64 n) (hl : l.length ≤ 9223372036854775807) : ∃ t, TabOK t ∧ t.length ≤ 60 ∧ Ret Try.prog 13 [.sl (l.map encI) false] (.sl (t.map encW) false) := by
  obtain ⟨N, hN⟩ := tab_end
  have hs := sp_range l
  obtain ⟨h1, h2⟩ := tabG_ok (l := l) (sp := spF l) (by omega) N 0 [] tab_nil (Nat.zero_le _)
  exact ⟨_, h1, h2, table_ret l N hN hI hl⟩

end Go.Tv.C35

end
section
open Go Go.Tv Go.Proofs
namespace Go.Tv.C35
set_option maxRecDepth 20000
set_option maxHeartbeats 2000000
set_option linter.unusedSimpArgs false
set_option linter.unusedVariables false
theorem tmod_nat (a b : Nat) : Int.tmod (a : Int) (b : Int) = ((a % b : Nat) : Int) := by
  rw [tmod_pos (Int.natCast_nonneg a)]; simp
end Go.Tv.C35

end
section
open Go Go.Tv Go.Proofs
namespace Go.Tv.C35
set_option maxRecDepth 20000
set_option maxHeartbeats 2000000
set_option linter.unusedSimpArgs false
set_option linter.unusedVariables false
theorem eff_neqW {D : St} {op : Oper} {x y : Operand} {a : Win} (hd : dstOK D.n op.dst = true) (ho : op.op = .binOp .neq 29 x y 29) (hx : D.ev x = .t (encW a)) (hy : D.ev y = .t (encW a)) : Eff Try.prog op D ⟨.t (.bool false), []⟩ := by
  have h := eff_structNeqA (cells := cellsW) (a := a) (b := a) hd ho ts29s ti29 th29 cellsW_inj cellsW_kind hx hy
  simpa using h
def cntL (P : List Win) (L : Win → Bool) (q : Nat) : Nat := ((P.take q).filter L).length
theorem cnt_yes {P : List Win} {L : Win → Bool} {q : Nat} (hq : q < P.length) (h : L P[q] = true) : cntL P L (q + 1) = cntL P L q + 1 := by
  unfold cntL; rw [filter_take_yes hq h, List.length_append]; rfl
theorem cnt_no {P : List Win} {L : Win → Bool} {q : Nat} (hq : q < P.length) (h : L P[q] = false) : cntL P L (q + 1) = cntL P L q := by
  unfold cntL; rw [filter_take_no hq h]
theorem cnt_get {P : List Win} {L : Win → Bool} {q : Nat} (hq : q < P.length) (h : L P[q] = true) : ∃ hc : cntL P L q < (P.filter L).length, (P.filter L)[cntL P L q] = P[q] := by
  obtain ⟨hc, e⟩ := List.getElem?_eq_some_iff.1 (filter_get hq h); exact ⟨hc, e⟩
theorem late_yes {P : List Win} {L : Win → Bool} {q : Nat} (hq : q < P.length) (hc : cntL P L q < (P.filter L).length) (e : P[q] = (P.filter L)[cntL P L q]) : ((cntL P L q : Nat) : Int) + 1 = ((cntL P L (q + 1) : Nat) : Int) := by
  have : L P[q] = true := by rw [e]; exact (List.mem_filter.1 (List.getElem_mem hc)).2
  rw [cnt_yes hq this]; rfl
theorem late_ne {P : List Win} {L : Win → Bool} {q : Nat} (hq : q < P.length) (hc : cntL P L q < (P.filter L).length) (e : ¬ P[q] = (P.filter L)[cntL P L q]) : ((cntL P L q : Nat) : Int) = ((cntL P L (q + 1) : Nat) : Int) := by
  rw [cnt_no hq]
  cases h : L P[q] with
  | false => rfl
  | true => obtain ⟨_, e2⟩ := cnt_get hq h; exact absurd e2.symm e
theorem late_no {P : List Win} {L : Win → Bool} {q : Nat} (hq : q < P.length) (hc : ¬ cntL P L q < (P.filter L).length) : ((cntL P L q : Nat) : Int) = ((cntL P L (q + 1) : Nat) : Int) := by
  rw [cnt_no hq]
  cases h : L P[q] with
  | false => rfl
  | true => obtain ⟨h2, _⟩ := cnt_get hq h; exact absurd h2 hc
theorem cnt_all (P : List Win) (L : Win → Bool) : cntL P L P.length = (P.filter L).length := by unfold cntL; rw [List.take_length]

theorem fd_yes {P : List Win} {x : Win} {i : Nat} (h : i < P.length) (hb : true = decide (x ∈ P.take i)) : true = decide (x ∈ P.take (i + 1)) :=
  (decide_eq_true ((mem_take_succ h).2 (.inl (of_decide_eq_true hb.symm)))).symm
theorem fd_no {P : List Win} {x : Win} {i : Nat} (h : i < P.length) (hb : false = decide (x ∈ P.take i)) : decide (P[i] = x) = decide (x ∈ P.take (i + 1)) :=
  decide_eq_decide.2 ⟨fun e => (mem_take_succ h).2 (.inr e.symm), fun e => ((mem_take_succ h).1 e).elim (fun h2 => absurd h2 (of_decide_eq_false hb.symm)) (fun h2 => h2.symm)⟩

theorem law11 (l : List Int) (cr st tk mo : Nat) (hI : ∀ n, n ∈ l → I64 n) (hl : l.length ≤ 9223372036854775807) (hcr : cr < 256) (hst : st < 256) (htk : tk < 65536) (hmo : mo < 65536) : Ret Try.prog 11 [.sl (l.map encI) false, .int .u8 (cr : Nat), .int .u8 (st : Nat), .int .u16 (tk : Nat), .int .u16 (mo : Nat)] (.bool true) := by
  obtain ⟨t, hT, htl, hret⟩ := table_ex l hI hl
  obtain ⟨⟨A1, A2⟩, hA⟩ : ∃ A, atF t 1 ((cr % 12 : Nat) : Int) ((st % 9 : Nat) : Int) ((tk : Nat) : Int) = A := ⟨_, rfl⟩
  have hat2 : Ret Try.prog 39 [.sl (t.map encW) false, encI 1, encI ((cr % 12 : Nat) : Int), encI ((st % 9 : Nat) : Int), encI ((tk : Nat) : Int)] (.tup [encW A1, .bool A2]) := by
    have h := at_ret39 t 1 ((cr % 12 : Nat) : Int) ((st % 9 : Nat) : Int) ((tk : Nat) : Int) (by omega)
    rwa [hA] at h
  have hfnd : A2 = true → A1 ∈ (passesF t ((cr % 12 : Nat) : Int) ((tk : Nat) : Int)) := fun h => by
    have h2 := pass_found (t := t) (c := ((cr % 12 : Nat) : Int)) (s := ((st % 9 : Nat) : Int)) (k := ((tk : Nat) : Int)) (by rw [hA]; exact h)
    rwa [hA] at h2
  have hlate : Ret Try.prog 14 [.sl (t.map encW) false, encI ((cr % 12 : Nat) : Int), encI (((tk : Nat) : Int) + ((mo : Nat) : Int))] (.sl ((List.filter (laterB (((tk : Nat) : Int) + ((mo : Nat) : Int))) (passesF t ((cr % 12 : Nat) : Int) ((tk : Nat) : Int))).map encW) false) := by
    have h := passes_ret t ((cr % 12 : Nat) : Int) (((tk : Nat) : Int) + ((mo : Nat) : Int)) (by omega)
    rwa [later_filter (k := ((tk : Nat) : Int)) (by omega)] at h
  have hPl : (passesF t ((cr % 12 : Nat) : Int) ((tk : Nat) : Int)).length ≤ t.length := passes_len t _ _
  have hFl : (List.filter (laterB (((tk : Nat) : Int) + ((mo : Nat) : Int))) (passesF t ((cr % 12 : Nat) : Int) ((tk : Nat) : Int))).length ≤ (passesF t ((cr % 12 : Nat) : Int) ((tk : Nat) : Int)).length := List.length_filter_le _ _
  refine ret_of_awp Try.func11 rfl (Nat.le_of_ble_eq_true rfl) ?_
  refine awp_seq ?_
  refine awp_rw rfl ?_
  refine RW.op rfl rfl (eff_assign (v := .t _) rfl rfl rfl) ?_
  refine RW.nil ?_
  refine awp_seq ?_
  refine awp_rw rfl ?_
  refine RW.op rfl rfl (eff_move (v := .t _) rfl rfl rfl) ?_
  refine RW.op rfl rfl (eff_callT (hret) co13 rfl rfl rfl rfl) ?_
  refine RW.op rfl rfl (eff_move (v := .t _) rfl rfl rfl) ?_
  refine RW.op rfl rfl (eff_remE (r := ((cr % 12 : Nat) : Int)) rfl rfl rfl rfl (by decide) (tmod_nat cr 12)) ?_
  refine RW.op rfl rfl (eff_convIntE (m := ((cr % 12 : Nat) : Int)) rfl rfl (by rw [tu5]; rfl) tu3 rfl (wrap64 (by omega) (by omega))) ?_
  refine RW.op rfl rfl (eff_move (v := .t _) rfl rfl rfl) ?_
  refine RW.op rfl rfl (eff_convIntE (m := ((tk : Nat) : Int)) rfl rfl (by rw [tu50]; rfl) tu3 rfl (wrap64 (by omega) (by omega))) ?_
  refine RW.op rfl rfl (eff_assign (v := .t _) rfl rfl rfl) ?_
  refine RW.op rfl rfl (eff_assign (v := .t _) rfl rfl rfl) ?_
  refine RW.op rfl rfl (eff_assign (v := .t _) rfl rfl rfl) ?_
  refine RW.nil ?_
  refine awp_seq ?_
  refine awp_rw rfl ?_
  refine RW.op rfl rfl (eff_move (v := .t _) rfl rfl rfl) ?_
  refine RW.op rfl rfl (eff_move (v := .t _) rfl rfl rfl) ?_
  refine RW.op rfl rfl (eff_move (v := .t _) rfl rfl rfl) ?_
  refine RW.op rfl rfl (eff_remE (r := ((st % 9 : Nat) : Int)) rfl rfl rfl rfl (by decide) (tmod_nat st 9)) ?_
  refine RW.op rfl rfl (eff_convIntE (m := ((st % 9 : Nat) : Int)) rfl rfl (by rw [tu5]; rfl) tu3 rfl (wrap64 (by omega) (by omega))) ?_
  refine RW.op rfl rfl (eff_move (v := .t _) rfl rfl rfl) ?_
  refine RW.op rfl rfl (eff_callT (hat2) co39 rfl rfl rfl rfl) ?_
  refine RW.op rfl rfl (eff_move (v := .t _) rfl rfl rfl) ?_
  refine RW.op rfl rfl (eff_extract rfl rfl rfl rfl) ?_
  refine RW.op rfl rfl (eff_extract rfl rfl rfl rfl) ?_
  refine RW.new rfl rfl (eff_allocK (k := 6) (id := 14) rfl rfl tz29 rfl rfl) ?_
  refine RW.store rfl rfl (eff_storeW (v := .t _) (els := [_]) (els' := [_]) rfl rfl ti29 rfl rfl rfl rfl rfl rfl rfl rfl rfl) ?_
  refine RW.op rfl rfl (eff_assign (v := .t _) rfl rfl rfl) ?_
  refine RW.nil ?_
  refine awp_seq ?_
  refine awp_rw rfl ?_
  refine RW.op rfl rfl (eff_move (v := .t _) rfl rfl rfl) ?_
  refine RW.op rfl rfl (eff_move (v := .t _) rfl rfl rfl) ?_
  refine RW.op rfl rfl (eff_move (v := .t _) rfl rfl rfl) ?_
  refine RW.op rfl rfl (eff_callT (passes_ret t ((cr % 12 : Nat) : Int) ((tk : Nat) : Int) (by omega)) co14 rfl rfl rfl rfl) ?_
  refine RW.op rfl rfl (eff_assign (v := .t _) rfl rfl rfl) ?_
  refine RW.op rfl rfl (eff_assign (v := .t _) rfl rfl rfl) ?_
  refine RW.nil ?_
  refine awp_seq ?_
  refine awp_seq ?_
  refine awp_rw rfl ?_
  refine RW.op rfl rfl (eff_assign (v := .t _) rfl rfl rfl) ?_
  refine RW.nil ?_
  refine awp_block ?_
  refine awp_loopW (fun m s => ∃ (i : Nat) (fd : Bool), (i ≤ (passesF t ((cr % 12 : Nat) : Int) ((tk : Nat) : Int)).length) ∧ (fd = decide (A1 ∈ (passesF t ((cr % 12 : Nat) : Int) ((tk : Nat) : Int)).take i)) ∧ m = (passesF t ((cr % 12 : Nat) : Int) ((tk : Nat) : Int)).length - i ∧ s = ⟨149, [(4, .t (.int .u16 (mo : Nat))), (11, .t (.sl (t.map encW) false)), (12, .t (encI ((cr % 12 : Nat) : Int))), (13, .t (encI ((tk : Nat) : Int))), (14, .ptr 14 0 0 0), (15, .t (.bool A2)), (16, .t (.sl ((passesF t ((cr % 12 : Nat) : Int) ((tk : Nat) : Int)).map encW) false)), (17, .t (.bool fd)), (18, .t (encI (i : Nat)))], [(14, some ⟨6, 29, 0, [.t (encW A1)]⟩)]⟩) (_) (⟨_, weak_keep (n := 149) (fr' := [(4, .t (.int .u16 (mo : Nat))), (11, .t (.sl (t.map encW) false)), (12, .t (encI ((cr % 12 : Nat) : Int))), (13, .t (encI ((tk : Nat) : Int))), (14, .ptr 14 0 0 0), (15, .t (.bool A2)), (16, .t (.sl ((passesF t ((cr % 12 : Nat) : Int) ((tk : Nat) : Int)).map encW) false)), (17, .t (.bool _)), (18, .t (encI (0 : Nat)))]) (st' := [(14, some ⟨6, 29, 0, [.t (encW A1)]⟩)]) ⟨rfl, rfl, rfl, rfl, rfl, rfl, rfl, rfl, rfl, rfl, rfl, rfl, rfl, rfl, rfl, rfl, rfl, rfl, trivial⟩ ⟨rfl, okE_one rfl, trivial⟩, 0, _, (by omega), (by simp), rfl, rfl⟩) ?_
  rintro m s ⟨i, fd, hi, hfd, rfl, rfl⟩
  refine awp_seq ?_
  refine awp_seq ?_
  refine awp_rw rfl ?_
  refine RW.op rfl rfl (eff_move (v := .t _) rfl rfl rfl) ?_
  refine RW.op rfl rfl (eff_move (v := .t _) rfl rfl rfl) ?_
  refine RW.op rfl rfl (eff_lenM rfl rfl te25 rfl) ?_
  refine RW.op rfl rfl (eff_iop rfl rfl rfl rfl rfl) ?_
  refine RW.nil ?_
  refine awp_cond rfl (fun h1 => ?_) (fun h1 => ?_)
  · try simp only [decide_eq_true_eq, decide_eq_false_iff_not, beq_iff_eq, bne_iff_ne, bne_eq_false_iff_eq, beq_eq_false_iff_ne, Bool.not_eq_true, Bool.not_eq_false, Bool.not_eq_true', Bool.not_eq_false', ne_eq] at h1
    refine awp_skip ?_
    refine awp_seq ?_
    refine awp_block ?_
    refine awp_seq ?_
    by_cases hc2 : fd = true
    · subst hc2
      have hil : i < (passesF t ((cr % 12 : Nat) : Int) ((tk : Nat) : Int)).length := by omega
      refine awp_rd [(some 51, []), (some 52, []), (some 53, []), (some 54, []), (some 55, []), (some 56, []), (some 57, []), (some 58, []), (some 59, []), (some 17, [])] [[], [0], [0, 1], [0, 1], [0, 1, 2, 3], [0, 1, 2, 3, 4], [0, 1], [0, 1, 2, 3, 4, 5, 6], [0, 1, 2, 3, 4, 5, 6, 7], [0, 1, 2, 3, 4, 5, 6, 7, 8]] tm rfl rfl rfl rfl ?_
      refine RD.op rfl rfl rfl (eff_move (v := .t _) rfl rfl rfl) ?_
      refine RD.op rfl rfl rfl (eff_move (v := .t _) rfl rfl rfl) ?_
      refine RD.gskip rfl rfl rfl rfl rfl rfl (by decide) ?_
      refine RD.gskip rfl rfl rfl rfl rfl rfl (by decide) ?_
      refine RD.gskip rfl rfl rfl rfl rfl rfl (by decide) ?_
      refine RD.gskip rfl rfl rfl rfl rfl rfl (by decide) ?_
      refine RD.gskip rfl rfl rfl rfl rfl rfl (by decide) ?_
      refine RD.gskip rfl rfl rfl rfl rfl rfl (by decide) ?_
      refine RD.op rfl rfl rfl (eff_pick (v := .t _) rfl rfl rfl rfl) ?_
      refine RD.op rfl rfl rfl (eff_assign (v := .t _) rfl rfl rfl) ?_
      refine RD.nil ?_
      refine awp_seq ?_
      have hxo := hT.ok _ (pass_mem (List.getElem_mem hil)).1
      unfold WOK at hxo
      have hat : Ret Try.prog 39 [.sl (t.map encW) false, encI 1, encI ((cr % 12 : Nat) : Int), encI ((passesF t ((cr % 12 : Nat) : Int) ((tk : Nat) : Int))[i]'hil).b, encI (((passesF t ((cr % 12 : Nat) : Int) ((tk : Nat) : Int))[i]'hil).til - 1)] (.tup [encW ((passesF t ((cr % 12 : Nat) : Int) ((tk : Nat) : Int))[i]'hil), .bool true]) := by
        have h := at_ret39 t 1 ((cr % 12 : Nat) : Int) ((passesF t ((cr % 12 : Nat) : Int) ((tk : Nat) : Int))[i]'hil).b (((passesF t ((cr % 12 : Nat) : Int) ((tk : Nat) : Int))[i]'hil).til - 1) (by omega)
        rwa [pass_at hT (List.getElem_mem hil)] at h
      refine awp_rd [(some 61, []), (some 62, []), (some 63, []), (some 64, []), (some 65, []), (some 66, []), (some 67, []), (some 68, []), (some 69, []), (some 70, []), (some 71, []), (some 72, []), (some 73, []), (some 74, []), (some 60, []), (some 75, []), (some 76, []), (some 19, [19]), (none, [19]), (some 20, [])] [[], [], [], [], [2, 3], [2, 3, 4], [2, 3, 4, 5], [], [], [7, 8], [7, 8, 9], [7, 8, 9, 10], [7, 8, 9, 10, 11], [0, 1, 2, 3, 4, 5, 6, 7, 8, 9, 10, 11, 12], [0, 1, 2, 3, 4, 5, 6, 7, 8, 9, 10, 11, 12, 13], [0, 1, 2, 3, 4, 5, 6, 7, 8, 9, 10, 11, 12, 13, 14], [0, 1, 2, 3, 4, 5, 6, 7, 8, 9, 10, 11, 12, 13, 14], [], [0, 1, 2, 3, 4, 5, 6, 7, 8, 9, 10, 11, 12, 13, 14, 15, 17], [0, 1, 2, 3, 4, 5, 6, 7, 8, 9, 10, 11, 12, 13, 14, 15, 16, 17, 18]] tm rfl rfl rfl rfl ?_
      refine RD.op rfl rfl rfl (eff_move (v := .t _) rfl rfl rfl) ?_
      refine RD.op rfl rfl rfl (eff_move (v := .t _) rfl rfl rfl) ?_
      refine RD.op rfl rfl rfl (eff_move (v := .t _) rfl rfl rfl) ?_
      refine RD.op rfl rfl rfl (eff_move (v := .t _) rfl rfl rfl) ?_
      refine RD.op rfl rfl rfl (eff_indexAddrT (i := i) rfl rfl te25 rfl rfl (by first | rfl | omega) (by rw [List.getElem?_map, List.getElem?_eq_getElem hil]; rfl) rfl (by decide)) ?_
      refine RD.op rfl rfl rfl (eff_fieldAddrT rfl rfl tf29_2 (by decide) rfl) ?_
      refine RD.op rfl rfl rfl (eff_loadT1 rfl rfl ti3 rfl rfl) ?_
      refine RD.op rfl rfl rfl (eff_move (v := .t _) rfl rfl rfl) ?_
      refine RD.op rfl rfl rfl (eff_move (v := .t _) rfl rfl rfl) ?_
      refine RD.op rfl rfl rfl (eff_indexAddrT (i := i) rfl rfl te25 rfl rfl (by first | rfl | omega) (by rw [List.getElem?_map, List.getElem?_eq_getElem hil]; rfl) rfl (by decide)) ?_
      refine RD.op rfl rfl rfl (eff_fieldAddrT rfl rfl tf29_4 (by decide) rfl) ?_
      refine RD.op rfl rfl rfl (eff_loadT1 rfl rfl ti3 rfl rfl) ?_
      refine RD.op rfl rfl rfl (eff_iop (r := encI (((passesF t ((cr % 12 : Nat) : Int) ((tk : Nat) : Int))[i]'hil).til - 1)) rfl rfl rfl rfl (isub (by omega))) ?_
      refine RD.op rfl rfl rfl (eff_callT (hat) co39 rfl rfl rfl rfl) ?_
      refine RD.op rfl rfl rfl (eff_move (v := .t _) rfl rfl rfl) ?_
      refine RD.op rfl rfl rfl (eff_extract rfl rfl rfl rfl) ?_
      refine RD.op rfl rfl rfl (eff_extract rfl rfl rfl rfl) ?_
      refine RD.new rfl rfl rfl (eff_allocK (k := 6) (id := 19) rfl rfl tz29 rfl rfl) ?_
      refine RD.store rfl rfl rfl (eff_storeW (v := .t _) (els := [_]) (els' := [_]) rfl rfl ti29 rfl rfl rfl rfl rfl rfl rfl rfl rfl) ?_
      refine RD.op rfl rfl rfl (eff_assign (v := .t _) rfl rfl rfl) ?_
      refine RD.nil ?_
      refine awp_seq ?_
      by_cases hc3 : 0 < i
      · refine awp_rd [(some 77, []), (some 78, []), (some 79, []), (some 80, []), (some 81, []), (some 82, []), (some 83, []), (some 84, []), (some 85, []), (some 86, []), (some 87, []), (some 88, []), (some 89, []), (some 90, []), (some 91, []), (some 92, []), (some 93, []), (some 94, []), (some 95, []), (some 96, []), (some 97, []), (some 98, []), (some 99, []), (some 100, []), (some 101, []), (some 102, []), (some 103, []), (some 104, [])] [[], [0], [0, 1], [0, 1, 2], [0, 1, 2], [0, 1, 2], [0, 1, 2, 4, 5], [0, 1, 2, 4, 5, 6], [0, 1, 2, 3, 4, 5, 6, 7], [0, 1, 2, 3, 4, 5, 6, 7, 8], [0, 1, 2, 3, 4, 5, 6, 7, 8, 9], [0, 1, 2, 3, 4, 5, 6, 7, 8, 9, 10], [0, 1, 2, 3, 4, 5, 6, 7, 8, 9, 10, 11], [0, 1, 2, 3, 4, 5, 6, 7, 8, 9, 10, 11, 12], [0, 1, 2, 3, 4, 5, 6, 7, 8, 9, 10, 11, 12, 13], [0, 1, 2, 3, 4, 5, 6, 7, 8, 9, 10, 11, 12, 13], [0, 1, 2, 3, 4, 5, 6, 7, 8, 9, 10, 11, 12, 13, 15], [0, 1, 2, 3, 4, 5, 6, 7, 8, 9, 10, 11, 12, 13, 14, 15, 16], [0, 1, 2, 3, 4, 5, 6, 7, 8, 9, 10, 11, 12, 13, 14, 15, 16, 17], [0, 1, 2, 3, 4, 5, 6, 7, 8, 9, 10, 11, 12, 13, 14, 15, 16, 17, 18], [0, 1, 2, 3, 4, 5, 6, 7, 8, 9, 10, 11, 12, 13], [0, 1, 2, 3, 4, 5, 6, 7, 8, 9, 10, 11, 12, 13], [0, 1, 2, 3, 4, 5, 6, 7, 8, 9, 10, 11, 12, 13, 20, 21], [0, 1, 2, 3, 4, 5, 6, 7, 8, 9, 10, 11, 12, 13, 20, 21, 22], [0, 1, 2, 3, 4, 5, 6, 7, 8, 9, 10, 11, 12, 13, 20, 21, 22, 23], [0, 1, 2, 3, 4, 5, 6, 7, 8, 9, 10, 11, 12, 13, 14, 15, 16, 17, 18, 19, 20, 21, 22, 23, 24], [0, 1, 2, 3, 4, 5, 6, 7, 8, 9, 10, 11, 12, 13, 14, 15, 16, 17, 18, 19, 20, 21, 22, 23, 24, 25], [0, 1, 2, 3, 4, 5, 6, 7, 8, 9, 10, 11, 12, 13, 14, 15, 16, 17, 18, 19, 20, 21, 22, 23, 24, 25, 26]] tm rfl rfl rfl rfl ?_
        refine RD.op rfl rfl rfl (eff_move (v := .t _) rfl rfl rfl) ?_
        refine RD.op rfl rfl rfl (eff_unop rfl rfl rfl rfl) ?_
        refine RD.op rfl rfl rfl (eff_move (v := .t _) rfl rfl rfl) ?_
        refine RD.gop rfl rfl rfl rfl rfl rfl rfl (eff_load rfl rfl ti29 rfl (.whole rfl rfl rfl rfl rfl rfl)) ?_
        refine RD.gop rfl rfl rfl rfl rfl rfl rfl (eff_move (v := .t _) rfl rfl rfl) ?_
        refine RD.gop rfl rfl rfl rfl rfl rfl rfl (eff_move (v := .t _) rfl rfl rfl) ?_
        refine RD.gop rfl rfl rfl rfl rfl rfl rfl (eff_indexAddrT (i := i) rfl rfl te25 rfl rfl (by first | rfl | omega) (by rw [List.getElem?_map, List.getElem?_eq_getElem hil]; rfl) rfl (by decide)) ?_
        refine RD.gop rfl rfl rfl rfl rfl rfl rfl (eff_loadW rfl rfl ti29 rfl rfl rfl) ?_
        refine RD.gop rfl rfl rfl rfl rfl rfl rfl (eff_neqW rfl rfl rfl rfl) ?_
        refine RD.op rfl rfl rfl (eff_pick (v := .t _) rfl rfl rfl rfl) ?_
        refine RD.op rfl rfl rfl (eff_move (v := .t _) rfl rfl rfl) ?_
        refine RD.gop rfl rfl rfl rfl rfl rfl rfl (eff_move (v := .t _) rfl rfl rfl) ?_
        refine RD.gop rfl rfl rfl rfl rfl rfl rfl (eff_iop (r := .bool true) rfl rfl rfl rfl (by exact congrArg (fun x => some (Tr.bool x)) (decide_eq_true (by omega)))) ?_
        refine RD.gop rfl rfl rfl rfl rfl rfl rfl (eff_move (v := .t _) rfl rfl rfl) ?_
        refine RD.gop rfl rfl rfl rfl rfl rfl rfl (eff_move (v := .t _) rfl rfl rfl) ?_
        refine RD.gop rfl rfl rfl rfl rfl rfl rfl (eff_move (v := .t _) rfl rfl rfl) ?_
        refine RD.gop rfl rfl rfl rfl rfl rfl rfl (eff_iop (r := encI ((i - 1 : Nat) : Int)) rfl rfl rfl rfl ((isub (by omega)).trans (congrArg (fun n => some (Tr.int .i64 n)) (by omega)))) ?_
        refine RD.gop rfl rfl rfl rfl rfl rfl rfl (eff_indexAddrT (i := i - 1) rfl rfl te25 rfl rfl (by first | rfl | omega) (by rw [List.getElem?_map, List.getElem?_eq_getElem (show i - 1 < (passesF t ((cr % 12 : Nat) : Int) ((tk : Nat) : Int)).length by omega)]; rfl) rfl (by decide)) ?_
        refine RD.gop rfl rfl rfl rfl rfl rfl rfl (eff_fieldAddrT rfl rfl tf29_3 (by decide) rfl) ?_
        refine RD.gop rfl rfl rfl rfl rfl rfl rfl (eff_loadT1 rfl rfl ti3 rfl rfl) ?_
        refine RD.gop rfl rfl rfl rfl rfl rfl rfl (eff_move (v := .t _) rfl rfl rfl) ?_
        refine RD.gop rfl rfl rfl rfl rfl rfl rfl (eff_move (v := .t _) rfl rfl rfl) ?_
        refine RD.gop rfl rfl rfl rfl rfl rfl rfl (eff_indexAddrT (i := i) rfl rfl te25 rfl rfl (by first | rfl | omega) (by rw [List.getElem?_map, List.getElem?_eq_getElem hil]; rfl) rfl (by decide)) ?_
        refine RD.gop rfl rfl rfl rfl rfl rfl rfl (eff_fieldAddrT rfl rfl tf29_3 (by decide) rfl) ?_
        refine RD.gop rfl rfl rfl rfl rfl rfl rfl (eff_loadT1 rfl rfl ti3 rfl rfl) ?_
        refine RD.gop rfl rfl rfl rfl rfl rfl rfl (eff_iop (r := .bool false) rfl rfl rfl rfl (by exact congrArg (fun x => some (Tr.bool x)) (decide_eq_false (by have h9 := pass_sorted hT hil (show i - 1 < i by omega); omega)))) ?_
        refine RD.gop rfl rfl rfl rfl rfl rfl rfl (eff_pick (v := .t _) rfl rfl rfl rfl) ?_
        refine RD.op rfl rfl rfl (eff_pick (v := .t _) rfl rfl rfl rfl) ?_
        refine RD.nil ?_
        refine awp_cond rfl (fun h => nomatch h) (fun _ => ?_)
        refine awp_skip ?_
        refine awp_rw rfl ?_
        refine RW.op rfl rfl (eff_move (v := .t _) rfl rfl rfl) ?_
        refine RW.op rfl rfl (eff_iop rfl rfl rfl rfl (iadd (by omega))) ?_
        refine RW.op rfl rfl (eff_assign (v := .t _) rfl rfl rfl) ?_
        refine RW.nil ?_
        refine ⟨_, ?_, _, weak_keep (n := 149) (fr' := [(4, .t (.int .u16 (mo : Nat))), (11, .t (.sl (t.map encW) false)), (12, .t (encI ((cr % 12 : Nat) : Int))), (13, .t (encI ((tk : Nat) : Int))), (14, .ptr 14 0 0 0), (15, .t (.bool A2)), (16, .t (.sl ((passesF t ((cr % 12 : Nat) : Int) ((tk : Nat) : Int)).map encW) false)), (17, .t (.bool _)), (18, .t (encI ((i + 1) : Nat)))]) (st' := [(14, some ⟨6, 29, 0, [.t (encW A1)]⟩)]) ⟨rfl, rfl, rfl, rfl, rfl, rfl, rfl, rfl, rfl, rfl, rfl, rfl, rfl, rfl, rfl, rfl, rfl, rfl, trivial⟩ ⟨rfl, okE_one rfl, trivial⟩, i + 1, _, (by omega), (by first | exact fd_yes hil (by assumption) | exact fd_no hil (by assumption)), rfl, rfl⟩
        omega
      · refine awp_rd [(some 77, []), (some 78, []), (some 79, []), (some 80, []), (some 81, []), (some 82, []), (some 83, []), (some 84, []), (some 85, []), (some 86, []), (some 87, []), (some 88, []), (some 89, []), (some 90, []), (some 91, []), (some 92, []), (some 93, []), (some 94, []), (some 95, []), (some 96, []), (some 97, []), (some 98, []), (some 99, []), (some 100, []), (some 101, []), (some 102, []), (some 103, []), (some 104, [])] [[], [0], [0, 1], [0, 1, 2], [0, 1, 2], [0, 1, 2], [0, 1, 2, 4, 5], [0, 1, 2, 4, 5, 6], [0, 1, 2, 3, 4, 5, 6, 7], [0, 1, 2, 3, 4, 5, 6, 7, 8], [0, 1, 2, 3, 4, 5, 6, 7, 8, 9], [0, 1, 2, 3, 4, 5, 6, 7, 8, 9, 10], [0, 1, 2, 3, 4, 5, 6, 7, 8, 9, 10, 11], [0, 1, 2, 3, 4, 5, 6, 7, 8, 9, 10, 11, 12], [0, 1, 2, 3, 4, 5, 6, 7, 8, 9, 10, 11, 12, 13], [0, 1, 2, 3, 4, 5, 6, 7, 8, 9, 10, 11, 12, 13], [0, 1, 2, 3, 4, 5, 6, 7, 8, 9, 10, 11, 12, 13, 15], [0, 1, 2, 3, 4, 5, 6, 7, 8, 9, 10, 11, 12, 13, 14, 15, 16], [0, 1, 2, 3, 4, 5, 6, 7, 8, 9, 10, 11, 12, 13, 14, 15, 16, 17], [0, 1, 2, 3, 4, 5, 6, 7, 8, 9, 10, 11, 12, 13, 14, 15, 16, 17, 18], [0, 1, 2, 3, 4, 5, 6, 7, 8, 9, 10, 11, 12, 13], [0, 1, 2, 3, 4, 5, 6, 7, 8, 9, 10, 11, 12, 13], [0, 1, 2, 3, 4, 5, 6, 7, 8, 9, 10, 11, 12, 13, 20, 21], [0, 1, 2, 3, 4, 5, 6, 7, 8, 9, 10, 11, 12, 13, 20, 21, 22], [0, 1, 2, 3, 4, 5, 6, 7, 8, 9, 10, 11, 12, 13, 20, 21, 22, 23], [0, 1, 2, 3, 4, 5, 6, 7, 8, 9, 10, 11, 12, 13, 14, 15, 16, 17, 18, 19, 20, 21, 22, 23, 24], [0, 1, 2, 3, 4, 5, 6, 7, 8, 9, 10, 11, 12, 13, 14, 15, 16, 17, 18, 19, 20, 21, 22, 23, 24, 25], [0, 1, 2, 3, 4, 5, 6, 7, 8, 9, 10, 11, 12, 13, 14, 15, 16, 17, 18, 19, 20, 21, 22, 23, 24, 25, 26]] tm rfl rfl rfl rfl ?_
        refine RD.op rfl rfl rfl (eff_move (v := .t _) rfl rfl rfl) ?_
        refine RD.op rfl rfl rfl (eff_unop rfl rfl rfl rfl) ?_
        refine RD.op rfl rfl rfl (eff_move (v := .t _) rfl rfl rfl) ?_
        refine RD.gop rfl rfl rfl rfl rfl rfl rfl (eff_load rfl rfl ti29 rfl (.whole rfl rfl rfl rfl rfl rfl)) ?_
        refine RD.gop rfl rfl rfl rfl rfl rfl rfl (eff_move (v := .t _) rfl rfl rfl) ?_
        refine RD.gop rfl rfl rfl rfl rfl rfl rfl (eff_move (v := .t _) rfl rfl rfl) ?_
        refine RD.gop rfl rfl rfl rfl rfl rfl rfl (eff_indexAddrT (i := i) rfl rfl te25 rfl rfl (by first | rfl | omega) (by rw [List.getElem?_map, List.getElem?_eq_getElem hil]; rfl) rfl (by decide)) ?_
        refine RD.gop rfl rfl rfl rfl rfl rfl rfl (eff_loadW rfl rfl ti29 rfl rfl rfl) ?_
        refine RD.gop rfl rfl rfl rfl rfl rfl rfl (eff_neqW rfl rfl rfl rfl) ?_
        refine RD.op rfl rfl rfl (eff_pick (v := .t _) rfl rfl rfl rfl) ?_
        refine RD.op rfl rfl rfl (eff_move (v := .t _) rfl rfl rfl) ?_
        refine RD.gop rfl rfl rfl rfl rfl rfl rfl (eff_move (v := .t _) rfl rfl rfl) ?_
        refine RD.gop rfl rfl rfl rfl rfl rfl rfl (eff_iop (r := .bool false) rfl rfl rfl rfl (by exact congrArg (fun x => some (Tr.bool x)) (decide_eq_false (by omega)))) ?_
        refine RD.gop rfl rfl rfl rfl rfl rfl rfl (eff_move (v := .t _) rfl rfl rfl) ?_
        refine RD.gskip rfl rfl rfl rfl rfl rfl (by decide) ?_
        refine RD.gskip rfl rfl rfl rfl rfl rfl (by decide) ?_
        refine RD.gskip rfl rfl rfl rfl rfl rfl (by decide) ?_
        refine RD.gskip rfl rfl rfl rfl rfl rfl (by decide) ?_
        refine RD.gskip rfl rfl rfl rfl rfl rfl (by decide) ?_
        refine RD.gskip rfl rfl rfl rfl rfl rfl (by decide) ?_
        refine RD.gskip rfl rfl rfl rfl rfl rfl (by decide) ?_
        refine RD.gskip rfl rfl rfl rfl rfl rfl (by decide) ?_
        refine RD.gskip rfl rfl rfl rfl rfl rfl (by decide) ?_
        refine RD.gskip rfl rfl rfl rfl rfl rfl (by decide) ?_
        refine RD.gskip rfl rfl rfl rfl rfl rfl (by decide) ?_
        refine RD.gskip rfl rfl rfl rfl rfl rfl (by decide) ?_
        refine RD.gop rfl rfl rfl rfl rfl rfl rfl (eff_pick (v := .t _) rfl rfl rfl rfl) ?_
        refine RD.op rfl rfl rfl (eff_pick (v := .t _) rfl rfl rfl rfl) ?_
        refine RD.nil ?_
        refine awp_cond rfl (fun h => nomatch h) (fun _ => ?_)
        refine awp_skip ?_
        refine awp_rw rfl ?_
        refine RW.op rfl rfl (eff_move (v := .t _) rfl rfl rfl) ?_
        refine RW.op rfl rfl (eff_iop rfl rfl rfl rfl (iadd (by omega))) ?_
        refine RW.op rfl rfl (eff_assign (v := .t _) rfl rfl rfl) ?_
        refine RW.nil ?_
        refine ⟨_, ?_, _, weak_keep (n := 149) (fr' := [(4, .t (.int .u16 (mo : Nat))), (11, .t (.sl (t.map encW) false)), (12, .t (encI ((cr % 12 : Nat) : Int))), (13, .t (encI ((tk : Nat) : Int))), (14, .ptr 14 0 0 0), (15, .t (.bool A2)), (16, .t (.sl ((passesF t ((cr % 12 : Nat) : Int) ((tk : Nat) : Int)).map encW) false)), (17, .t (.bool _)), (18, .t (encI ((i + 1) : Nat)))]) (st' := [(14, some ⟨6, 29, 0, [.t (encW A1)]⟩)]) ⟨rfl, rfl, rfl, rfl, rfl, rfl, rfl, rfl, rfl, rfl, rfl, rfl, rfl, rfl, rfl, rfl, rfl, rfl, trivial⟩ ⟨rfl, okE_one rfl, trivial⟩, i + 1, _, (by omega), (by first | exact fd_yes hil (by assumption) | exact fd_no hil (by assumption)), rfl, rfl⟩
        omega
    · obtain rfl : fd = false := by simpa using hc2
      have hil : i < (passesF t ((cr % 12 : Nat) : Int) ((tk : Nat) : Int)).length := by omega
      refine awp_rd [(some 51, []), (some 52, []), (some 53, []), (some 54, []), (some 55, []), (some 56, []), (some 57, []), (some 58, []), (some 59, []), (some 17, [])] [[], [0], [0, 1], [0, 1], [0, 1, 2, 3], [0, 1, 2, 3, 4], [0, 1], [0, 1, 2, 3, 4, 5, 6], [0, 1, 2, 3, 4, 5, 6, 7], [0, 1, 2, 3, 4, 5, 6, 7, 8]] tm rfl rfl rfl rfl ?_
      refine RD.op rfl rfl rfl (eff_move (v := .t _) rfl rfl rfl) ?_
      refine RD.op rfl rfl rfl (eff_move (v := .t _) rfl rfl rfl) ?_
      refine RD.gop rfl rfl rfl rfl rfl rfl rfl (eff_move (v := .t _) rfl rfl rfl) ?_
      refine RD.gop rfl rfl rfl rfl rfl rfl rfl (eff_move (v := .t _) rfl rfl rfl) ?_
      refine RD.gop rfl rfl rfl rfl rfl rfl rfl (eff_indexAddrT (i := i) rfl rfl te25 rfl rfl (by first | rfl | omega) (by rw [List.getElem?_map, List.getElem?_eq_getElem hil]; rfl) rfl (by decide)) ?_
      refine RD.gop rfl rfl rfl rfl rfl rfl rfl (eff_loadW rfl rfl ti29 rfl rfl rfl) ?_
      refine RD.gop rfl rfl rfl rfl rfl rfl rfl (eff_load rfl rfl ti29 rfl (.whole rfl rfl rfl rfl rfl rfl)) ?_
      refine RD.gop rfl rfl rfl rfl rfl rfl rfl (eff_structEqlA (cells := cellsW) (a := ((passesF t ((cr % 12 : Nat) : Int) ((tk : Nat) : Int))[i]'hil)) (b := A1) rfl rfl ts29s ti29 th29 cellsW_inj cellsW_kind rfl rfl) ?_
      refine RD.op rfl rfl rfl (eff_pick (v := .t _) rfl rfl rfl rfl) ?_
      refine RD.op rfl rfl rfl (eff_assign (v := .t _) rfl rfl rfl) ?_
      refine RD.nil ?_
      refine awp_seq ?_
      have hxo := hT.ok _ (pass_mem (List.getElem_mem hil)).1
      unfold WOK at hxo
      have hat : Ret Try.prog 39 [.sl (t.map encW) false, encI 1, encI ((cr % 12 : Nat) : Int), encI ((passesF t ((cr % 12 : Nat) : Int) ((tk : Nat) : Int))[i]'hil).b, encI (((passesF t ((cr % 12 : Nat) : Int) ((tk : Nat) : Int))[i]'hil).til - 1)] (.tup [encW ((passesF t ((cr % 12 : Nat) : Int) ((tk : Nat) : Int))[i]'hil), .bool true]) := by
        have h := at_ret39 t 1 ((cr % 12 : Nat) : Int) ((passesF t ((cr % 12 : Nat) : Int) ((tk : Nat) : Int))[i]'hil).b (((passesF t ((cr % 12 : Nat) : Int) ((tk : Nat) : Int))[i]'hil).til - 1) (by omega)
        rwa [pass_at hT (List.getElem_mem hil)] at h
      refine awp_rd [(some 61, []), (some 62, []), (some 63, []), (some 64, []), (some 65, []), (some 66, []), (some 67, []), (some 68, []), (some 69, []), (some 70, []), (some 71, []), (some 72, []), (some 73, []), (some 74, []), (some 60, []), (some 75, []), (some 76, []), (some 19, [19]), (none, [19]), (some 20, [])] [[], [], [], [], [2, 3], [2, 3, 4], [2, 3, 4, 5], [], [], [7, 8], [7, 8, 9], [7, 8, 9, 10], [7, 8, 9, 10, 11], [0, 1, 2, 3, 4, 5, 6, 7, 8, 9, 10, 11, 12], [0, 1, 2, 3, 4, 5, 6, 7, 8, 9, 10, 11, 12, 13], [0, 1, 2, 3, 4, 5, 6, 7, 8, 9, 10, 11, 12, 13, 14], [0, 1, 2, 3, 4, 5, 6, 7, 8, 9, 10, 11, 12, 13, 14], [], [0, 1, 2, 3, 4, 5, 6, 7, 8, 9, 10, 11, 12, 13, 14, 15, 17], [0, 1, 2, 3, 4, 5, 6, 7, 8, 9, 10, 11, 12, 13, 14, 15, 16, 17, 18]] tm rfl rfl rfl rfl ?_
      refine RD.op rfl rfl rfl (eff_move (v := .t _) rfl rfl rfl) ?_
      refine RD.op rfl rfl rfl (eff_move (v := .t _) rfl rfl rfl) ?_
      refine RD.op rfl rfl rfl (eff_move (v := .t _) rfl rfl rfl) ?_
      refine RD.op rfl rfl rfl (eff_move (v := .t _) rfl rfl rfl) ?_
      refine RD.op rfl rfl rfl (eff_indexAddrT (i := i) rfl rfl te25 rfl rfl (by first | rfl | omega) (by rw [List.getElem?_map, List.getElem?_eq_getElem hil]; rfl) rfl (by decide)) ?_
      refine RD.op rfl rfl rfl (eff_fieldAddrT rfl rfl tf29_2 (by decide) rfl) ?_
      refine RD.op rfl rfl rfl (eff_loadT1 rfl rfl ti3 rfl rfl) ?_
      refine RD.op rfl rfl rfl (eff_move (v := .t _) rfl rfl rfl) ?_
      refine RD.op rfl rfl rfl (eff_move (v := .t _) rfl rfl rfl) ?_
      refine RD.op rfl rfl rfl (eff_indexAddrT (i := i) rfl rfl te25 rfl rfl (by first | rfl | omega) (by rw [List.getElem?_map, List.getElem?_eq_getElem hil]; rfl) rfl (by decide)) ?_
      refine RD.op rfl rfl rfl (eff_fieldAddrT rfl rfl tf29_4 (by decide) rfl) ?_
      refine RD.op rfl rfl rfl (eff_loadT1 rfl rfl ti3 rfl rfl) ?_
      refine RD.op rfl rfl rfl (eff_iop (r := encI (((passesF t ((cr % 12 : Nat) : Int) ((tk : Nat) : Int))[i]'hil).til - 1)) rfl rfl rfl rfl (isub (by omega))) ?_
      refine RD.op rfl rfl rfl (eff_callT (hat) co39 rfl rfl rfl rfl) ?_
      refine RD.op rfl rfl rfl (eff_move (v := .t _) rfl rfl rfl) ?_
      refine RD.op rfl rfl rfl (eff_extract rfl rfl rfl rfl) ?_
      refine RD.op rfl rfl rfl (eff_extract rfl rfl rfl rfl) ?_
      refine RD.new rfl rfl rfl (eff_allocK (k := 6) (id := 19) rfl rfl tz29 rfl rfl) ?_
      refine RD.store rfl rfl rfl (eff_storeW (v := .t _) (els := [_]) (els' := [_]) rfl rfl ti29 rfl rfl rfl rfl rfl rfl rfl rfl rfl) ?_
      refine RD.op rfl rfl rfl (eff_assign (v := .t _) rfl rfl rfl) ?_
      refine RD.nil ?_
      refine awp_seq ?_
      by_cases hc4 : 0 < i
      · refine awp_rd [(some 77, []), (some 78, []), (some 79, []), (some 80, []), (some 81, []), (some 82, []), (some 83, []), (some 84, []), (some 85, []), (some 86, []), (some 87, []), (some 88, []), (some 89, []), (some 90, []), (some 91, []), (some 92, []), (some 93, []), (some 94, []), (some 95, []), (some 96, []), (some 97, []), (some 98, []), (some 99, []), (some 100, []), (some 101, []), (some 102, []), (some 103, []), (some 104, [])] [[], [0], [0, 1], [0, 1, 2], [0, 1, 2], [0, 1, 2], [0, 1, 2, 4, 5], [0, 1, 2, 4, 5, 6], [0, 1, 2, 3, 4, 5, 6, 7], [0, 1, 2, 3, 4, 5, 6, 7, 8], [0, 1, 2, 3, 4, 5, 6, 7, 8, 9], [0, 1, 2, 3, 4, 5, 6, 7, 8, 9, 10], [0, 1, 2, 3, 4, 5, 6, 7, 8, 9, 10, 11], [0, 1, 2, 3, 4, 5, 6, 7, 8, 9, 10, 11, 12], [0, 1, 2, 3, 4, 5, 6, 7, 8, 9, 10, 11, 12, 13], [0, 1, 2, 3, 4, 5, 6, 7, 8, 9, 10, 11, 12, 13], [0, 1, 2, 3, 4, 5, 6, 7, 8, 9, 10, 11, 12, 13, 15], [0, 1, 2, 3, 4, 5, 6, 7, 8, 9, 10, 11, 12, 13, 14, 15, 16], [0, 1, 2, 3, 4, 5, 6, 7, 8, 9, 10, 11, 12, 13, 14, 15, 16, 17], [0, 1, 2, 3, 4, 5, 6, 7, 8, 9, 10, 11, 12, 13, 14, 15, 16, 17, 18], [0, 1, 2, 3, 4, 5, 6, 7, 8, 9, 10, 11, 12, 13], [0, 1, 2, 3, 4, 5, 6, 7, 8, 9, 10, 11, 12, 13], [0, 1, 2, 3, 4, 5, 6, 7, 8, 9, 10, 11, 12, 13, 20, 21], [0, 1, 2, 3, 4, 5, 6, 7, 8, 9, 10, 11, 12, 13, 20, 21, 22], [0, 1, 2, 3, 4, 5, 6, 7, 8, 9, 10, 11, 12, 13, 20, 21, 22, 23], [0, 1, 2, 3, 4, 5, 6, 7, 8, 9, 10, 11, 12, 13, 14, 15, 16, 17, 18, 19, 20, 21, 22, 23, 24], [0, 1, 2, 3, 4, 5, 6, 7, 8, 9, 10, 11, 12, 13, 14, 15, 16, 17, 18, 19, 20, 21, 22, 23, 24, 25], [0, 1, 2, 3, 4, 5, 6, 7, 8, 9, 10, 11, 12, 13, 14, 15, 16, 17, 18, 19, 20, 21, 22, 23, 24, 25, 26]] tm rfl rfl rfl rfl ?_
        refine RD.op rfl rfl rfl (eff_move (v := .t _) rfl rfl rfl) ?_
        refine RD.op rfl rfl rfl (eff_unop rfl rfl rfl rfl) ?_
        refine RD.op rfl rfl rfl (eff_move (v := .t _) rfl rfl rfl) ?_
        refine RD.gop rfl rfl rfl rfl rfl rfl rfl (eff_load rfl rfl ti29 rfl (.whole rfl rfl rfl rfl rfl rfl)) ?_
        refine RD.gop rfl rfl rfl rfl rfl rfl rfl (eff_move (v := .t _) rfl rfl rfl) ?_
        refine RD.gop rfl rfl rfl rfl rfl rfl rfl (eff_move (v := .t _) rfl rfl rfl) ?_
        refine RD.gop rfl rfl rfl rfl rfl rfl rfl (eff_indexAddrT (i := i) rfl rfl te25 rfl rfl (by first | rfl | omega) (by rw [List.getElem?_map, List.getElem?_eq_getElem hil]; rfl) rfl (by decide)) ?_
        refine RD.gop rfl rfl rfl rfl rfl rfl rfl (eff_loadW rfl rfl ti29 rfl rfl rfl) ?_
        refine RD.gop rfl rfl rfl rfl rfl rfl rfl (eff_neqW rfl rfl rfl rfl) ?_
        refine RD.op rfl rfl rfl (eff_pick (v := .t _) rfl rfl rfl rfl) ?_
        refine RD.op rfl rfl rfl (eff_move (v := .t _) rfl rfl rfl) ?_
        refine RD.gop rfl rfl rfl rfl rfl rfl rfl (eff_move (v := .t _) rfl rfl rfl) ?_
        refine RD.gop rfl rfl rfl rfl rfl rfl rfl (eff_iop (r := .bool true) rfl rfl rfl rfl (by exact congrArg (fun x => some (Tr.bool x)) (decide_eq_true (by omega)))) ?_
        refine RD.gop rfl rfl rfl rfl rfl rfl rfl (eff_move (v := .t _) rfl rfl rfl) ?_
        refine RD.gop rfl rfl rfl rfl rfl rfl rfl (eff_move (v := .t _) rfl rfl rfl) ?_
        refine RD.gop rfl rfl rfl rfl rfl rfl rfl (eff_move (v := .t _) rfl rfl rfl) ?_
        refine RD.gop rfl rfl rfl rfl rfl rfl rfl (eff_iop (r := encI ((i - 1 : Nat) : Int)) rfl rfl rfl rfl ((isub (by omega)).trans (congrArg (fun n => some (Tr.int .i64 n)) (by omega)))) ?_
        refine RD.gop rfl rfl rfl rfl rfl rfl rfl (eff_indexAddrT (i := i - 1) rfl rfl te25 rfl rfl (by first | rfl | omega) (by rw [List.getElem?_map, List.getElem?_eq_getElem (show i - 1 < (passesF t ((cr % 12 : Nat) : Int) ((tk : Nat) : Int)).length by omega)]; rfl) rfl (by decide)) ?_
        refine RD.gop rfl rfl rfl rfl rfl rfl rfl (eff_fieldAddrT rfl rfl tf29_3 (by decide) rfl) ?_
        refine RD.gop rfl rfl rfl rfl rfl rfl rfl (eff_loadT1 rfl rfl ti3 rfl rfl) ?_
        refine RD.gop rfl rfl rfl rfl rfl rfl rfl (eff_move (v := .t _) rfl rfl rfl) ?_
        refine RD.gop rfl rfl rfl rfl rfl rfl rfl (eff_move (v := .t _) rfl rfl rfl) ?_
        refine RD.gop rfl rfl rfl rfl rfl rfl rfl (eff_indexAddrT (i := i) rfl rfl te25 rfl rfl (by first | rfl | omega) (by rw [List.getElem?_map, List.getElem?_eq_getElem hil]; rfl) rfl (by decide)) ?_
        refine RD.gop rfl rfl rfl rfl rfl rfl rfl (eff_fieldAddrT rfl rfl tf29_3 (by decide) rfl) ?_
        refine RD.gop rfl rfl rfl rfl rfl rfl rfl (eff_loadT1 rfl rfl ti3 rfl rfl) ?_
        refine RD.gop rfl rfl rfl rfl rfl rfl rfl (eff_iop (r := .bool false) rfl rfl rfl rfl (by exact congrArg (fun x => some (Tr.bool x)) (decide_eq_false (by have h9 := pass_sorted hT hil (show i - 1 < i by omega); omega)))) ?_
        refine RD.gop rfl rfl rfl rfl rfl rfl rfl (eff_pick (v := .t _) rfl rfl rfl rfl) ?_
        refine RD.op rfl rfl rfl (eff_pick (v := .t _) rfl rfl rfl rfl) ?_
        refine RD.nil ?_
        refine awp_cond rfl (fun h => nomatch h) (fun _ => ?_)
        refine awp_skip ?_
        refine awp_rw rfl ?_
        refine RW.op rfl rfl (eff_move (v := .t _) rfl rfl rfl) ?_
        refine RW.op rfl rfl (eff_iop rfl rfl rfl rfl (iadd (by omega))) ?_
        refine RW.op rfl rfl (eff_assign (v := .t _) rfl rfl rfl) ?_
        refine RW.nil ?_
        refine ⟨_, ?_, _, weak_keep (n := 149) (fr' := [(4, .t (.int .u16 (mo : Nat))), (11, .t (.sl (t.map encW) false)), (12, .t (encI ((cr % 12 : Nat) : Int))), (13, .t (encI ((tk : Nat) : Int))), (14, .ptr 14 0 0 0), (15, .t (.bool A2)), (16, .t (.sl ((passesF t ((cr % 12 : Nat) : Int) ((tk : Nat) : Int)).map encW) false)), (17, .t (.bool _)), (18, .t (encI ((i + 1) : Nat)))]) (st' := [(14, some ⟨6, 29, 0, [.t (encW A1)]⟩)]) ⟨rfl, rfl, rfl, rfl, rfl, rfl, rfl, rfl, rfl, rfl, rfl, rfl, rfl, rfl, rfl, rfl, rfl, rfl, trivial⟩ ⟨rfl, okE_one rfl, trivial⟩, i + 1, _, (by omega), (by first | exact fd_yes hil (by assumption) | exact fd_no hil (by assumption)), rfl, rfl⟩
        omega
      · refine awp_rd [(some 77, []), (some 78, []), (some 79, []), (some 80, []), (some 81, []), (some 82, []), (some 83, []), (some 84, []), (some 85, []), (some 86, []), (some 87, []), (some 88, []), (some 89, []), (some 90, []), (some 91, []), (some 92, []), (some 93, []), (some 94, []), (some 95, []), (some 96, []), (some 97, []), (some 98, []), (some 99, []), (some 100, []), (some 101, []), (some 102, []), (some 103, []), (some 104, [])] [[], [0], [0, 1], [0, 1, 2], [0, 1, 2], [0, 1, 2], [0, 1, 2, 4, 5], [0, 1, 2, 4, 5, 6], [0, 1, 2, 3, 4, 5, 6, 7], [0, 1, 2, 3, 4, 5, 6, 7, 8], [0, 1, 2, 3, 4, 5, 6, 7, 8, 9], [0, 1, 2, 3, 4, 5, 6, 7, 8, 9, 10], [0, 1, 2, 3, 4, 5, 6, 7, 8, 9, 10, 11], [0, 1, 2, 3, 4, 5, 6, 7, 8, 9, 10, 11, 12], [0, 1, 2, 3, 4, 5, 6, 7, 8, 9, 10, 11, 12, 13], [0, 1, 2, 3, 4, 5, 6, 7, 8, 9, 10, 11, 12, 13], [0, 1, 2, 3, 4, 5, 6, 7, 8, 9, 10, 11, 12, 13, 15], [0, 1, 2, 3, 4, 5, 6, 7, 8, 9, 10, 11, 12, 13, 14, 15, 16], [0, 1, 2, 3, 4, 5, 6, 7, 8, 9, 10, 11, 12, 13, 14, 15, 16, 17], [0, 1, 2, 3, 4, 5, 6, 7, 8, 9, 10, 11, 12, 13, 14, 15, 16, 17, 18], [0, 1, 2, 3, 4, 5, 6, 7, 8, 9, 10, 11, 12, 13], [0, 1, 2, 3, 4, 5, 6, 7, 8, 9, 10, 11, 12, 13], [0, 1, 2, 3, 4, 5, 6, 7, 8, 9, 10, 11, 12, 13, 20, 21], [0, 1, 2, 3, 4, 5, 6, 7, 8, 9, 10, 11, 12, 13, 20, 21, 22], [0, 1, 2, 3, 4, 5, 6, 7, 8, 9, 10, 11, 12, 13, 20, 21, 22, 23], [0, 1, 2, 3, 4, 5, 6, 7, 8, 9, 10, 11, 12, 13, 14, 15, 16, 17, 18, 19, 20, 21, 22, 23, 24], [0, 1, 2, 3, 4, 5, 6, 7, 8, 9, 10, 11, 12, 13, 14, 15, 16, 17, 18, 19, 20, 21, 22, 23, 24, 25], [0, 1, 2, 3, 4, 5, 6, 7, 8, 9, 10, 11, 12, 13, 14, 15, 16, 17, 18, 19, 20, 21, 22, 23, 24, 25, 26]] tm rfl rfl rfl rfl ?_
        refine RD.op rfl rfl rfl (eff_move (v := .t _) rfl rfl rfl) ?_
        refine RD.op rfl rfl rfl (eff_unop rfl rfl rfl rfl) ?_
        refine RD.op rfl rfl rfl (eff_move (v := .t _) rfl rfl rfl) ?_
        refine RD.gop rfl rfl rfl rfl rfl rfl rfl (eff_load rfl rfl ti29 rfl (.whole rfl rfl rfl rfl rfl rfl)) ?_
        refine RD.gop rfl rfl rfl rfl rfl rfl rfl (eff_move (v := .t _) rfl rfl rfl) ?_
        refine RD.gop rfl rfl rfl rfl rfl rfl rfl (eff_move (v := .t _) rfl rfl rfl) ?_
        refine RD.gop rfl rfl rfl rfl rfl rfl rfl (eff_indexAddrT (i := i) rfl rfl te25 rfl rfl (by first | rfl | omega) (by rw [List.getElem?_map, List.getElem?_eq_getElem hil]; rfl) rfl (by decide)) ?_
        refine RD.gop rfl rfl rfl rfl rfl rfl rfl (eff_loadW rfl rfl ti29 rfl rfl rfl) ?_
        refine RD.gop rfl rfl rfl rfl rfl rfl rfl (eff_neqW rfl rfl rfl rfl) ?_
        refine RD.op rfl rfl rfl (eff_pick (v := .t _) rfl rfl rfl rfl) ?_
        refine RD.op rfl rfl rfl (eff_move (v := .t _) rfl rfl rfl) ?_
        refine RD.gop rfl rfl rfl rfl rfl rfl rfl (eff_move (v := .t _) rfl rfl rfl) ?_
        refine RD.gop rfl rfl rfl rfl rfl rfl rfl (eff_iop (r := .bool false) rfl rfl rfl rfl (by exact congrArg (fun x => some (Tr.bool x)) (decide_eq_false (by omega)))) ?_
        refine RD.gop rfl rfl rfl rfl rfl rfl rfl (eff_move (v := .t _) rfl rfl rfl) ?_
        refine RD.gskip rfl rfl rfl rfl rfl rfl (by decide) ?_
        refine RD.gskip rfl rfl rfl rfl rfl rfl (by decide) ?_
        refine RD.gskip rfl rfl rfl rfl rfl rfl (by decide) ?_
        refine RD.gskip rfl rfl rfl rfl rfl rfl (by decide) ?_
        refine RD.gskip rfl rfl rfl rfl rfl rfl (by decide) ?_
        refine RD.gskip rfl rfl rfl rfl rfl rfl (by decide) ?_
        refine RD.gskip rfl rfl rfl rfl rfl rfl (by decide) ?_
        refine RD.gskip rfl rfl rfl rfl rfl rfl (by decide) ?_
        refine RD.gskip rfl rfl rfl rfl rfl rfl (by decide) ?_
        refine RD.gskip rfl rfl rfl rfl rfl rfl (by decide) ?_
        refine RD.gskip rfl rfl rfl rfl rfl rfl (by decide) ?_
        refine RD.gskip rfl rfl rfl rfl rfl rfl (by decide) ?_
        refine RD.gop rfl rfl rfl rfl rfl rfl rfl (eff_pick (v := .t _) rfl rfl rfl rfl) ?_
        refine RD.op rfl rfl rfl (eff_pick (v := .t _) rfl rfl rfl rfl) ?_
        refine RD.nil ?_
        refine awp_cond rfl (fun h => nomatch h) (fun _ => ?_)
        refine awp_skip ?_
        refine awp_rw rfl ?_
        refine RW.op rfl rfl (eff_move (v := .t _) rfl rfl rfl) ?_
        refine RW.op rfl rfl (eff_iop rfl rfl rfl rfl (iadd (by omega))) ?_
        refine RW.op rfl rfl (eff_assign (v := .t _) rfl rfl rfl) ?_
        refine RW.nil ?_
        refine ⟨_, ?_, _, weak_keep (n := 149) (fr' := [(4, .t (.int .u16 (mo : Nat))), (11, .t (.sl (t.map encW) false)), (12, .t (encI ((cr % 12 : Nat) : Int))), (13, .t (encI ((tk : Nat) : Int))), (14, .ptr 14 0 0 0), (15, .t (.bool A2)), (16, .t (.sl ((passesF t ((cr % 12 : Nat) : Int) ((tk : Nat) : Int)).map encW) false)), (17, .t (.bool _)), (18, .t (encI ((i + 1) : Nat)))]) (st' := [(14, some ⟨6, 29, 0, [.t (encW A1)]⟩)]) ⟨rfl, rfl, rfl, rfl, rfl, rfl, rfl, rfl, rfl, rfl, rfl, rfl, rfl, rfl, rfl, rfl, rfl, rfl, trivial⟩ ⟨rfl, okE_one rfl, trivial⟩, i + 1, _, (by omega), (by first | exact fd_yes hil (by assumption) | exact fd_no hil (by assumption)), rfl, rfl⟩
        omega
  · try simp only [decide_eq_true_eq, decide_eq_false_iff_not, beq_iff_eq, bne_iff_ne, bne_eq_false_iff_eq, beq_eq_false_iff_ne, Bool.not_eq_true, Bool.not_eq_false, Bool.not_eq_true', Bool.not_eq_false', ne_eq] at h1
    refine awp_exit ?_
    refine awp_seq ?_
    refine awp_rw rfl ?_
    refine RW.op rfl rfl (eff_move (v := .t _) rfl rfl rfl) ?_
    refine RW.op rfl rfl (eff_move (v := .t _) rfl rfl rfl) ?_
    refine RW.op rfl rfl (eff_move (v := .t _) rfl rfl rfl) ?_
    refine RW.op rfl rfl (eff_move (v := .t _) rfl rfl rfl) ?_
    refine RW.op rfl rfl (eff_convIntE (m := ((mo : Nat) : Int)) rfl rfl (by rw [tu50]; rfl) tu3 rfl (wrap64 (by omega) (by omega))) ?_
    refine RW.op rfl rfl (eff_iop (r := encI (((tk : Nat) : Int) + ((mo : Nat) : Int))) rfl rfl rfl rfl (iadd (by omega))) ?_
    refine RW.op rfl rfl (eff_callT (hlate) co14 rfl rfl rfl rfl) ?_
    refine RW.op rfl rfl (eff_assign (v := .t _) rfl rfl rfl) ?_
    refine RW.op rfl rfl (eff_assign (v := .t _) rfl rfl rfl) ?_
    refine RW.nil ?_
    refine awp_seq ?_
    refine awp_seq ?_
    refine awp_rw rfl ?_
    refine RW.op rfl rfl (eff_assign (v := .t _) rfl rfl rfl) ?_
    refine RW.nil ?_
    show AWP _ _ _ _
    refine awp_block ?_
    refine awp_loopW (fun m s => ∃ (q : Nat) (c : Int), (q ≤ (passesF t ((cr % 12 : Nat) : Int) ((tk : Nat) : Int)).length) ∧ (c = ((cntL (passesF t ((cr % 12 : Nat) : Int) ((tk : Nat) : Int)) (laterB (((tk : Nat) : Int) + ((mo : Nat) : Int))) q : Nat) : Int)) ∧ m = (passesF t ((cr % 12 : Nat) : Int) ((tk : Nat) : Int)).length - q ∧ s = ⟨149, [(15, .t (.bool A2)), (16, .t (.sl ((passesF t ((cr % 12 : Nat) : Int) ((tk : Nat) : Int)).map encW) false)), (17, .t (.bool fd)), (21, .t (.sl ((List.filter (laterB (((tk : Nat) : Int) + ((mo : Nat) : Int))) (passesF t ((cr % 12 : Nat) : Int) ((tk : Nat) : Int))).map encW) false)), (22, .t (encI c)), (23, .t (encI (q : Nat)))], []⟩) (_) (⟨_, weak_keep (n := 149) (fr' := [(15, .t (.bool A2)), (16, .t (.sl ((passesF t ((cr % 12 : Nat) : Int) ((tk : Nat) : Int)).map encW) false)), (17, .t (.bool fd)), (21, .t (.sl ((List.filter (laterB (((tk : Nat) : Int) + ((mo : Nat) : Int))) (passesF t ((cr % 12 : Nat) : Int) ((tk : Nat) : Int))).map encW) false)), (22, .t (encI _)), (23, .t (encI (0 : Nat)))]) (st' := []) ⟨rfl, rfl, rfl, rfl, rfl, rfl, rfl, rfl, rfl, rfl, rfl, rfl, trivial⟩ trivial, 0, _, (by omega), (by rfl), rfl, rfl⟩) ?_
    rintro m s ⟨q, c, hq, hc, rfl, rfl⟩
    subst hc
    refine awp_seq ?_
    refine awp_seq ?_
    refine awp_rw rfl ?_
    refine RW.op rfl rfl (eff_move (v := .t _) rfl rfl rfl) ?_
    refine RW.op rfl rfl (eff_move (v := .t _) rfl rfl rfl) ?_
    refine RW.op rfl rfl (eff_lenM rfl rfl te25 rfl) ?_
    refine RW.op rfl rfl (eff_iop rfl rfl rfl rfl rfl) ?_
    refine RW.nil ?_
    refine awp_cond rfl (fun h5 => ?_) (fun h5 => ?_)
    · try simp only [decide_eq_true_eq, decide_eq_false_iff_not, beq_iff_eq, bne_iff_ne, bne_eq_false_iff_eq, beq_eq_false_iff_ne, Bool.not_eq_true, Bool.not_eq_false, Bool.not_eq_true', Bool.not_eq_false', ne_eq] at h5
      refine awp_skip ?_
      refine awp_seq ?_
      refine awp_block ?_
      refine awp_seq ?_
      have hqP : q < (passesF t ((cr % 12 : Nat) : Int) ((tk : Nat) : Int)).length := by omega
      by_cases hc6 : cntL (passesF t ((cr % 12 : Nat) : Int) ((tk : Nat) : Int)) (laterB (((tk : Nat) : Int) + ((mo : Nat) : Int))) q < (List.filter (laterB (((tk : Nat) : Int) + ((mo : Nat) : Int))) (passesF t ((cr % 12 : Nat) : Int) ((tk : Nat) : Int))).length
      · have hcl := hc6
        refine awp_rd [(some 118, []), (some 119, []), (some 120, []), (some 121, []), (some 122, []), (some 123, []), (some 124, []), (some 125, []), (some 126, []), (some 127, []), (some 128, []), (some 129, []), (some 130, []), (some 131, []), (some 132, [])] [[], [], [1], [0, 1, 2], [0, 1, 2, 3], [0, 1, 2, 3, 4], [0, 1, 2, 3, 4], [0, 1, 2, 3, 4, 5, 6], [0, 1, 2, 3, 4, 5, 6, 7], [0, 1, 2, 3, 4], [0, 1, 2, 3, 4], [0, 1, 2, 3, 4, 9, 10], [0, 1, 2, 3, 4, 9, 10, 11], [0, 1, 2, 3, 4, 5, 6, 7, 8, 9, 10, 11, 12], [0, 1, 2, 3, 4, 5, 6, 7, 8, 9, 10, 11, 12, 13]] tm rfl rfl rfl rfl ?_
        refine RD.op rfl rfl rfl (eff_move (v := .t _) rfl rfl rfl) ?_
        refine RD.op rfl rfl rfl (eff_move (v := .t _) rfl rfl rfl) ?_
        refine RD.op rfl rfl rfl (eff_lenM rfl rfl te25 rfl) ?_
        refine RD.op rfl rfl rfl (eff_iop (r := .bool true) rfl rfl rfl rfl (by exact congrArg (fun x => some (Tr.bool x)) (decide_eq_true (by omega)))) ?_
        refine RD.op rfl rfl rfl (eff_move (v := .t _) rfl rfl rfl) ?_
        refine RD.gop rfl rfl rfl rfl rfl rfl rfl (eff_move (v := .t _) rfl rfl rfl) ?_
        refine RD.gop rfl rfl rfl rfl rfl rfl rfl (eff_move (v := .t _) rfl rfl rfl) ?_
        refine RD.gop rfl rfl rfl rfl rfl rfl rfl (eff_indexAddrT (i := q) rfl rfl te25 rfl rfl (by first | rfl | omega) (by rw [List.getElem?_map, List.getElem?_eq_getElem hqP]; rfl) rfl (by decide)) ?_
        refine RD.gop rfl rfl rfl rfl rfl rfl rfl (eff_loadW rfl rfl ti29 rfl rfl rfl) ?_
        refine RD.gop rfl rfl rfl rfl rfl rfl rfl (eff_move (v := .t _) rfl rfl rfl) ?_
        refine RD.gop rfl rfl rfl rfl rfl rfl rfl (eff_move (v := .t _) rfl rfl rfl) ?_
        refine RD.gop rfl rfl rfl rfl rfl rfl rfl (eff_indexAddrT (i := cntL (passesF t ((cr % 12 : Nat) : Int) ((tk : Nat) : Int)) (laterB (((tk : Nat) : Int) + ((mo : Nat) : Int))) q) rfl rfl te25 rfl rfl (by first | rfl | omega) (by rw [List.getElem?_map, List.getElem?_eq_getElem hcl]; rfl) rfl (by decide)) ?_
        refine RD.gop rfl rfl rfl rfl rfl rfl rfl (eff_loadW rfl rfl ti29 rfl rfl rfl) ?_
        refine RD.gop rfl rfl rfl rfl rfl rfl rfl (eff_structEqlA (cells := cellsW) (a := (passesF t ((cr % 12 : Nat) : Int) ((tk : Nat) : Int))[q]'hqP) (b := (List.filter (laterB (((tk : Nat) : Int) + ((mo : Nat) : Int))) (passesF t ((cr % 12 : Nat) : Int) ((tk : Nat) : Int)))[cntL (passesF t ((cr % 12 : Nat) : Int) ((tk : Nat) : Int)) (laterB (((tk : Nat) : Int) + ((mo : Nat) : Int))) q]'hcl) rfl rfl ts29s ti29 th29 cellsW_inj cellsW_kind rfl rfl) ?_
        refine RD.op rfl rfl rfl (eff_pick (v := .t _) rfl rfl rfl rfl) ?_
        refine RD.nil ?_
        refine awp_cond rfl (fun h7 => ?_) (fun h7 => ?_)
        · try simp only [decide_eq_true_eq, decide_eq_false_iff_not, beq_iff_eq, bne_iff_ne, bne_eq_false_iff_eq, beq_eq_false_iff_ne, Bool.not_eq_true, Bool.not_eq_false, Bool.not_eq_true', Bool.not_eq_false', ne_eq] at h7
          refine awp_rw rfl ?_
          refine RW.op rfl rfl (eff_move (v := .t _) rfl rfl rfl) ?_
          refine RW.op rfl rfl (eff_iop rfl rfl rfl rfl (iadd (by omega))) ?_
          refine RW.op rfl rfl (eff_assign (v := .t _) rfl rfl rfl) ?_
          refine RW.nil ?_
          refine awp_rw rfl ?_
          refine RW.op rfl rfl (eff_move (v := .t _) rfl rfl rfl) ?_
          refine RW.op rfl rfl (eff_iop rfl rfl rfl rfl (iadd (by omega))) ?_
          refine RW.op rfl rfl (eff_assign (v := .t _) rfl rfl rfl) ?_
          refine RW.nil ?_
          refine ⟨_, ?_, _, weak_keep (n := 149) (fr' := [(15, .t (.bool A2)), (16, .t (.sl ((passesF t ((cr % 12 : Nat) : Int) ((tk : Nat) : Int)).map encW) false)), (17, .t (.bool fd)), (21, .t (.sl ((List.filter (laterB (((tk : Nat) : Int) + ((mo : Nat) : Int))) (passesF t ((cr % 12 : Nat) : Int) ((tk : Nat) : Int))).map encW) false)), (22, .t (encI _)), (23, .t (encI ((q + 1) : Nat)))]) (st' := []) ⟨rfl, rfl, rfl, rfl, rfl, rfl, rfl, rfl, rfl, rfl, rfl, rfl, trivial⟩ trivial, q + 1, _, (by omega), (by first | exact late_yes hqP hcl (by assumption) | exact late_ne hqP hcl (by assumption) | exact late_no hqP (by assumption)), rfl, rfl⟩
          omega
        · try simp only [decide_eq_true_eq, decide_eq_false_iff_not, beq_iff_eq, bne_iff_ne, bne_eq_false_iff_eq, beq_eq_false_iff_ne, Bool.not_eq_true, Bool.not_eq_false, Bool.not_eq_true', Bool.not_eq_false', ne_eq] at h7
          refine awp_skip ?_
          refine awp_rw rfl ?_
          refine RW.op rfl rfl (eff_move (v := .t _) rfl rfl rfl) ?_
          refine RW.op rfl rfl (eff_iop rfl rfl rfl rfl (iadd (by omega))) ?_
          refine RW.op rfl rfl (eff_assign (v := .t _) rfl rfl rfl) ?_
          refine RW.nil ?_
          refine ⟨_, ?_, _, weak_keep (n := 149) (fr' := [(15, .t (.bool A2)), (16, .t (.sl ((passesF t ((cr % 12 : Nat) : Int) ((tk : Nat) : Int)).map encW) false)), (17, .t (.bool fd)), (21, .t (.sl ((List.filter (laterB (((tk : Nat) : Int) + ((mo : Nat) : Int))) (passesF t ((cr % 12 : Nat) : Int) ((tk : Nat) : Int))).map encW) false)), (22, .t (encI _)), (23, .t (encI ((q + 1) : Nat)))]) (st' := []) ⟨rfl, rfl, rfl, rfl, rfl, rfl, rfl, rfl, rfl, rfl, rfl, rfl, trivial⟩ trivial, q + 1, _, (by omega), (by first | exact late_yes hqP hcl (by assumption) | exact late_ne hqP hcl (by assumption) | exact late_no hqP (by assumption)), rfl, rfl⟩
          omega
      · have hqP : q < (passesF t ((cr % 12 : Nat) : Int) ((tk : Nat) : Int)).length := by omega
        refine awp_rd [(some 118, []), (some 119, []), (some 120, []), (some 121, []), (some 122, []), (some 123, []), (some 124, []), (some 125, []), (some 126, []), (some 127, []), (some 128, []), (some 129, []), (some 130, []), (some 131, []), (some 132, [])] [[], [], [1], [0, 1, 2], [0, 1, 2, 3], [0, 1, 2, 3, 4], [0, 1, 2, 3, 4], [0, 1, 2, 3, 4, 5, 6], [0, 1, 2, 3, 4, 5, 6, 7], [0, 1, 2, 3, 4], [0, 1, 2, 3, 4], [0, 1, 2, 3, 4, 9, 10], [0, 1, 2, 3, 4, 9, 10, 11], [0, 1, 2, 3, 4, 5, 6, 7, 8, 9, 10, 11, 12], [0, 1, 2, 3, 4, 5, 6, 7, 8, 9, 10, 11, 12, 13]] tm rfl rfl rfl rfl ?_
        refine RD.op rfl rfl rfl (eff_move (v := .t _) rfl rfl rfl) ?_
        refine RD.op rfl rfl rfl (eff_move (v := .t _) rfl rfl rfl) ?_
        refine RD.op rfl rfl rfl (eff_lenM rfl rfl te25 rfl) ?_
        refine RD.op rfl rfl rfl (eff_iop (r := .bool false) rfl rfl rfl rfl (by exact congrArg (fun x => some (Tr.bool x)) (decide_eq_false (by omega)))) ?_
        refine RD.op rfl rfl rfl (eff_move (v := .t _) rfl rfl rfl) ?_
        refine RD.gskip rfl rfl rfl rfl rfl rfl (by decide) ?_
        refine RD.gskip rfl rfl rfl rfl rfl rfl (by decide) ?_
        refine RD.gskip rfl rfl rfl rfl rfl rfl (by decide) ?_
        refine RD.gskip rfl rfl rfl rfl rfl rfl (by decide) ?_
        refine RD.gskip rfl rfl rfl rfl rfl rfl (by decide) ?_
        refine RD.gskip rfl rfl rfl rfl rfl rfl (by decide) ?_
        refine RD.gskip rfl rfl rfl rfl rfl rfl (by decide) ?_
        refine RD.gskip rfl rfl rfl rfl rfl rfl (by decide) ?_
        refine RD.gskip rfl rfl rfl rfl rfl rfl (by decide) ?_
        refine RD.op rfl rfl rfl (eff_pick (v := .t _) rfl rfl rfl rfl) ?_
        refine RD.nil ?_
        refine awp_cond rfl (fun h => nomatch h) (fun _ => ?_)
        refine awp_skip ?_
        refine awp_rw rfl ?_
        refine RW.op rfl rfl (eff_move (v := .t _) rfl rfl rfl) ?_
        refine RW.op rfl rfl (eff_iop rfl rfl rfl rfl (iadd (by omega))) ?_
        refine RW.op rfl rfl (eff_assign (v := .t _) rfl rfl rfl) ?_
        refine RW.nil ?_
        refine ⟨_, ?_, _, weak_keep (n := 149) (fr' := [(15, .t (.bool A2)), (16, .t (.sl ((passesF t ((cr % 12 : Nat) : Int) ((tk : Nat) : Int)).map encW) false)), (17, .t (.bool fd)), (21, .t (.sl ((List.filter (laterB (((tk : Nat) : Int) + ((mo : Nat) : Int))) (passesF t ((cr % 12 : Nat) : Int) ((tk : Nat) : Int))).map encW) false)), (22, .t (encI _)), (23, .t (encI ((q + 1) : Nat)))]) (st' := []) ⟨rfl, rfl, rfl, rfl, rfl, rfl, rfl, rfl, rfl, rfl, rfl, rfl, trivial⟩ trivial, q + 1, _, (by omega), (by first | exact late_yes hqP hcl (by assumption) | exact late_ne hqP hcl (by assumption) | exact late_no hqP (by assumption)), rfl, rfl⟩
        omega
    · try simp only [decide_eq_true_eq, decide_eq_false_iff_not, beq_iff_eq, bne_iff_ne, bne_eq_false_iff_eq, beq_eq_false_iff_ne, Bool.not_eq_true, Bool.not_eq_false, Bool.not_eq_true', Bool.not_eq_false', ne_eq] at h5
      refine awp_exit ?_
      refine awp_seq ?_
      obtain rfl : q = (passesF t ((cr % 12 : Nat) : Int) ((tk : Nat) : Int)).length := by omega
      obtain rfl : i = (passesF t ((cr % 12 : Nat) : Int) ((tk : Nat) : Int)).length := by omega
      rw [List.take_length] at hfd
      have hcl := cnt_all (passesF t ((cr % 12 : Nat) : Int) ((tk : Nat) : Int)) (laterB (((tk : Nat) : Int) + ((mo : Nat) : Int)))
      by_cases hc8 : A2 = true
      · subst hc8
        obtain rfl : fd = true := hfd.trans (decide_eq_true (hfnd rfl))
        refine awp_rw rfl ?_
        refine RW.op rfl rfl (eff_move (v := .t _) rfl rfl rfl) ?_
        refine RW.op rfl rfl (eff_unop rfl rfl rfl rfl) ?_
        refine RW.op rfl rfl (eff_move (v := .t _) rfl rfl rfl) ?_
        refine RW.gop rfl rfl rfl rfl rfl rfl (eff_move (v := .t _) rfl rfl rfl) ?_
        refine RW.op rfl rfl (eff_pick (v := .t _) rfl rfl rfl rfl) ?_
        refine RW.op rfl rfl (eff_move (v := .t _) rfl rfl rfl) ?_
        refine RW.gop rfl rfl rfl rfl rfl rfl (eff_move (v := .t _) rfl rfl rfl) ?_
        refine RW.gop rfl rfl rfl rfl rfl rfl (eff_move (v := .t _) rfl rfl rfl) ?_
        refine RW.gop rfl rfl rfl rfl rfl rfl (eff_lenM rfl rfl te25 rfl) ?_
        refine RW.gop rfl rfl rfl rfl rfl rfl (eff_iop (r := .bool true) rfl rfl rfl rfl (by exact congrArg (fun x => some (Tr.bool x)) (beq_iff_eq.2 (by omega)))) ?_
        refine RW.op rfl rfl (eff_pick (v := .t _) rfl rfl rfl rfl) ?_
        refine RW.op rfl rfl (eff_move (v := .t _) rfl rfl rfl) ?_
        refine RW.gop rfl rfl rfl rfl rfl rfl (eff_callT (lives_ret) co12 rfl rfl rfl rfl) ?_
        refine RW.op rfl rfl (eff_pick (v := .t _) rfl rfl rfl rfl) ?_
        refine RW.op rfl rfl (eff_assign (v := .t _) rfl rfl rfl) ?_
        refine RW.nil ?_
        refine awp_ret ?_
        exact ⟨Or.inr rfl, [_], ⟨.tmp (.t _), trivial⟩, .refl _⟩
      · obtain rfl : A2 = false := by simpa using hc8
        refine awp_rw rfl ?_
        refine RW.op rfl rfl (eff_move (v := .t _) rfl rfl rfl) ?_
        refine RW.op rfl rfl (eff_unop rfl rfl rfl rfl) ?_
        refine RW.op rfl rfl (eff_move (v := .t _) rfl rfl rfl) ?_
        refine RW.gskip rfl rfl rfl rfl rfl (by decide) ?_
        refine RW.op rfl rfl (eff_pick (v := .t _) rfl rfl rfl rfl) ?_
        refine RW.op rfl rfl (eff_move (v := .t _) rfl rfl rfl) ?_
        refine RW.gop rfl rfl rfl rfl rfl rfl (eff_move (v := .t _) rfl rfl rfl) ?_
        refine RW.gop rfl rfl rfl rfl rfl rfl (eff_move (v := .t _) rfl rfl rfl) ?_
        refine RW.gop rfl rfl rfl rfl rfl rfl (eff_lenM rfl rfl te25 rfl) ?_
        refine RW.gop rfl rfl rfl rfl rfl rfl (eff_iop (r := .bool true) rfl rfl rfl rfl (by exact congrArg (fun x => some (Tr.bool x)) (beq_iff_eq.2 (by omega)))) ?_
        refine RW.op rfl rfl (eff_pick (v := .t _) rfl rfl rfl rfl) ?_
        refine RW.op rfl rfl (eff_move (v := .t _) rfl rfl rfl) ?_
        refine RW.gop rfl rfl rfl rfl rfl rfl (eff_callT (lives_ret) co12 rfl rfl rfl rfl) ?_
        refine RW.op rfl rfl (eff_pick (v := .t _) rfl rfl rfl rfl) ?_
        refine RW.op rfl rfl (eff_assign (v := .t _) rfl rfl rfl) ?_
        refine RW.nil ?_
        refine awp_ret ?_
        exact ⟨Or.inr rfl, [_], ⟨.tmp (.t _), trivial⟩, .refl _⟩

end Go.Tv.C35

end
section
namespace Go.Proofs.Ytheklenmejhdoaa
open Go Go.Tv Go.Tv.C35 Go.ChangeShapes Go.WideShapes Go.ChangeAt Go.RowKit
set_option linter.unusedVariables false
set_option maxRecDepth 100000
theorem planPasses_contract (H : Type) (enc : TypeId × Value → H) (W : World) (base : Nat) (args : Array Value) (ds gs : List (DataW H)) (before : List MemPlace)
    (hval : ∀ (j : Nat) t v, Try.f11.params[j]? = some t → args[j]? = some v → Value.okWide Try.prog W .any base t v)
    (hW : DataW.Whole enc Try.prog Try.f11.params.toList Rows.planPassesSpec.vars false W args.toList ds gs before) :
    Calls Try.prog 11 args W fun e W' => ∃ v, e = .returned v ∧ Rows.planPassesSpec.post enc Try.prog Try.f11 false true false false W args v W' := by
  have hW' := hW
  obtain ⟨p, q, hA0, hV, rfl, hfz, hnd⟩ := hW
  have hA : DataW.TrodAll enc Try.prog W 0 (fun _ => true) true Try.f11.params.toList args.toList ds p := hA0
  rw [Try.params11] at hA hval
  obtain ⟨v0, vs0, d0, ds0, p0, q0, hargs, rfl, rfl, h0, r0⟩ := trodAll_cons hA
  obtain ⟨v1, vs1, d1, ds1, p1, q1, rfl, rfl, rfl, h1, r1⟩ := trodAll_cons r0
  obtain ⟨v2, vs2, d2, ds2, p2, q2, rfl, rfl, rfl, h2, r2⟩ := trodAll_cons r1
  obtain ⟨v3, vs3, d3, ds3, p3, q3, rfl, rfl, rfl, h3, r3⟩ := trodAll_cons r2
  obtain ⟨v4, vs4, d4, ds4, p4, q4, rfl, rfl, rfl, h4, r4⟩ := trodAll_cons r3
  obtain ⟨rfl, rfl, rfl⟩ := trodAll_nil r4
  obtain rfl : args = #[v0, v1, v2, v3, v4] := by cases args; simp_all
  obtain ⟨rfl, rfl⟩ := trodVars_none hV
  have k0 := hval 0 22 v0 rfl rfl
  obtain ⟨xl, hxl, l, hll, hml, hpl⟩ := arg_slice Try.underlying22 rd22 k0 h0
  obtain rfl : xl = .sl (l.map Go.Tv.C35.encI) false := by simpa using hll
  unfold maxLen at hml
  have hnl : l.length ≤ 9223372036854775807 := by simpa using hml
  have k1 := hval 1 5 v1 rfl rfl
  obtain ⟨c, rfl, wc⟩ := arg_int Try.underlying5 k1 h1
  have huc := wf_u8 wc
  obtain ⟨cn, rfl⟩ := Int.eq_ofNat_of_zero_le huc.1
  have hqc : cn < 256 := by omega
  have k2 := hval 2 5 v2 rfl rfl
  obtain ⟨s, rfl, ws⟩ := arg_int Try.underlying5 k2 h2
  have hus := wf_u8 ws
  obtain ⟨sn, rfl⟩ := Int.eq_ofNat_of_zero_le hus.1
  have hqs : sn < 256 := by omega
  have k3 := hval 3 50 v3 rfl rfl
  obtain ⟨k, rfl, wk⟩ := arg_int Try.underlying50 k3 h3
  have huk := wf_u16 wk
  obtain ⟨kn, rfl⟩ := Int.eq_ofNat_of_zero_le huk.1
  have hqk : kn < 65536 := by omega
  have k4 := hval 4 50 v4 rfl rfl
  obtain ⟨m, rfl, wm⟩ := arg_int Try.underlying50 k4 h4
  have hum := wf_u16 wm
  obtain ⟨mn, rfl⟩ := Int.eq_ofNat_of_zero_le hum.1
  have hqm : mn < 65536 := by omega
  refine (law_calls (law11 l cn sn kn mn hpl hnl hqc hqs hqk hqm) (vl_cons hxl (vl_cons (.int .u8 _) (vl_cons (.int .u8 _) (vl_cons (.int .u16 _) (vl_cons (.int .u16 _) vl_nil)))))).mono ?_
  rintro e W' ⟨rfl, hb⟩
  refine ⟨_, rfl, law_post (P := Try.prog) (by kernel_rfl) rfl (fun t ht => ?_) rfl Try.underlying4 hW' ⟨rfl, rfl, rfl⟩ hb⟩
  rw [Try.params11] at ht
  simp only [List.mem_cons, List.not_mem_nil, or_false] at ht
  rcases ht with rfl | rfl | rfl | rfl | rfl <;> exact ⟨by kernel_rfl, Nat.le_of_ble_eq_true (by kernel_rfl)⟩

theorem planPasses_lifted (os : Os) (started : os.Started) (H : Type) (enc : TypeId × Value → H) :
    ReturnsInHanded {} Try.checked os 11 .any (Rows.planPassesSpec.pre6 enc Try.prog Try.f11 Rows.planPassesRow.domain false) (Rows.planPassesSpec.post enc Try.prog Try.f11 false true false false) := by
  refine returnsInHanded_of_change (C := Try.checked) (by kernel_rfl) started (by kernel_rfl) Try.func11
    (ChangeSpec.witness6 (enc := enc) (C := Try.checked) false ⟨#[], #[.slice none 0 0, .int .u8 0, .int .u8 0, .int .u16 0, .int .u16 0], []⟩ 8 (by kernel_rfl) (by kernel_rfl) (by kernel_rfl) (by kernel_rfl)) ?_
  intro W base args ds gs before hval hW _ _
  exact planPasses_contract H enc W base args ds gs before hval hW

theorem planPasses_holds : Rows.PlanPassesSaid :=
  OpenClaim.holds_of_wide 11 Try.f11 rfl rfl rfl rfl rfl rfl rfl ⟨rfl, rfl, rfl, rfl, rfl⟩ rfl rfl rfl rfl rfl (by kernel_rfl) Try.func11 (by kernel_rfl)
    (of_decide_eq_true (by kernel_rfl)) (by unfold Func.isWrapper; first | (rw [if_pos (by decide +kernel)]; kernel_rfl) | (rw [if_neg (by decide +kernel)]; exact ⟨rfl, rfl⟩))
    (fun os started H enc _ => planPasses_lifted os started H enc)

end Go.Proofs.Ytheklenmejhdoaa

end
