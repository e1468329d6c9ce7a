/- Part of the proof that the laws of this seat return true for every input. No condition. -/
import Derived.Test.YtofiemifpgcfhaaDoorT3
import Derived.Test.YtofiemifpgcfhaaDoorT2
set_option linter.unnecessarySimpa false
set_option linter.unusedVariables false
set_option linter.unusedSimpArgs false
section
open Go Go.Tv Go.Proofs
namespace Go.Tv.C34
set_option maxRecDepth 20000
set_option maxHeartbeats 2000000
set_option linter.unusedSimpArgs false
set_option linter.unusedVariables false
structure RB (r : Rcv) : Prop where
  len : r.ahead.length ≤ 400
  nx : 0 ≤ r.next ∧ r.next ≤ 100000
  ix : 0 ≤ r.lad.i ∧ r.lad.i ≤ 1000000
  bd : ∀ f, f ∈ r.ahead → f.body.length ≤ 1000000
theorem signedF_byt {f : Frm} (h : Byt f.body) : Byt (signedF f) := by
  unfold signedF
  intro b hb
  rcases List.mem_append.1 hb with hb | hb
  · rcases List.mem_append.1 hb with hb | hb
    · rcases List.mem_append.1 hb with hb | hb
      · rcases List.mem_append.1 hb with hb | hb
        · exact varF_byt _ b hb
        · exact varF_byt _ b hb
      · exact varF_byt _ b hb
    · exact varF_byt _ b hb
  · exact h b hb
theorem waS_one {σ σf σ' : Sto} {id k g : Nat} {ty : TypeId} {x : Tr} (hf : sget σf id = none) (hs : sget σ id = some ⟨k, ty, g, [.t x]⟩) (h0 : x.noTup = true) (h1 : (x.cells.all Tr.one) = true) :
    sget σf id = none ∧ ∃ ob0, sget σ id = some ob0 ∧ (⟨k, ty, g, [.t x]⟩ : Ob).k = ob0.k ∧ (⟨k, ty, g, [.t x]⟩ : Ob).ty = ob0.ty ∧ (⟨k, ty, g, [.t x]⟩ : Ob).gen = ob0.gen ∧ (⟨k, ty, g, [.t x]⟩ : Ob).els.length = ob0.els.length ∧
    ∀ (i : Nat) x' y, ob0.els[i]? = some x' → (⟨k, ty, g, [.t x]⟩ : Ob).els[i]? = some y → y.noTup = true ∧ y.cells.length = x'.cells.length ∧ ∀ (j : Nat) c d, x'.cells[j]? = some c → y.cells[j]? = some d → d.one = true ∧ Wa σf σ' c d :=
  waS_same hf hs (fun y hy => by
    rw [List.mem_singleton.1 hy]
    refine ⟨h0, fun c hc => ?_⟩
    obtain ⟨t, ht, rfl⟩ := List.mem_map.1 hc
    exact ⟨List.all_eq_true.1 h1 t ht, .t t⟩)
def dist2 (sq nx : Int) : Int := (sq % 256 - nx % 256) % 256

def recvU (r : Rcv) (sq ky : Int) (bd : List Int) (tg : Int) (a : Lad) (e : Int) : Rcv × List (List Int) × Int :=
  if bd.length > 512 then (r, [], 2) else if e ≠ 0 then (r, [], e)
  else if dist2 sq r.next ≥ 128 then (⟨r.next, [], false, a⟩, [], 0) else (⟨r.next + dist2 sq r.next, [], false, a⟩, [], 0)

theorem receiveU_ret (r : Rcv) (sq ky tg : Int) (bd : List Int) (a : Lad) (e : Int) (hr : RB r) (hk : 0 ≤ ky ∧ ky ≤ 1000000) (hb : Byt bd) (hbl : bd.length ≤ 800000) (ha : accL r.lad ky (signedF (Frm.mk sq ky true bd tg)) tg = (a, e)) : Ret Tryd.prog 37 [encV r, encF (Frm.mk sq ky true bd tg)] (.tup [encV (recvU r sq ky bd tg a e).1, .sl ((recvU r sq ky bd tg a e).2.1.map encBs) false, encI (recvU r sq ky bd tg a e).2.2]) := by
  have hsl := signedF_len (Frm.mk sq ky true bd tg) (by show bd.length ≤ 1000000; omega)
  have hsp := signedF_pos (Frm.mk sq ky true bd tg)
  have hrl := hr.len
  have hrn := hr.nx
  have hri := hr.ix
  have hrb := hr.bd
  have hd2 : dist2 sq r.next = (sq % 256 - r.next % 256) % 256 := rfl
  have hacc : Ret Tryd.prog 59 [encL r.lad, encI ky, .sl ((signedF (Frm.mk sq ky true bd tg)).map encBy) false, encU tg] (.tup [encL a, encI e]) := by
    have h := accept_ret r.lad ky tg (signedF (Frm.mk sq ky true bd tg)) (signedF_byt hb) (by simp only [] at hsl; omega) (List.length_pos_iff.1 hsp) hri hk
    rw [ha] at h; exact h
  refine ret_of_awp Tryd.func37 rfl (Nat.le_of_ble_eq_true rfl) ?_
  refine awp_seq ?_
  refine awp_rw rfl ?_
  refine RW.new rfl rfl (eff_boxK (v := .t _) (k := 5) (id := 2) rfl rfl rfl rfl rfl rfl) ?_
  refine RW.new rfl rfl (eff_boxK (v := .t _) (k := 5) (id := 3) rfl rfl rfl rfl rfl rfl) ?_
  refine RW.new rfl rfl (eff_allocK (k := 5) (id := 4) rfl rfl tz62 rfl rfl) ?_
  refine RW.op rfl rfl (eff_assign (v := .t _) rfl rfl rfl) ?_
  refine RW.op rfl rfl (eff_assign (v := .t _) rfl rfl rfl) ?_
  refine RW.nil ?_
  refine awp_seq ?_
  refine awp_rw rfl ?_
  refine RW.op rfl rfl (eff_fieldAddr rfl rfl tf62_1 (by decide) rfl rfl rfl (Nat.le_of_ble_eq_true rfl)) ?_
  refine RW.op rfl rfl (eff_load (y := .t _) rfl rfl ti34 rfl (.one rfl rfl rfl rfl)) ?_
  refine RW.new rfl rfl (eff_callG (cloneF_retG r.ahead (by omega)) co57 (fun id => id + 1000) rfl rfl rfl ⟨.t _, trivial⟩ (.own _ _ _ _ rfl rfl) rfl trivial ⟨⟨treeEls_t, .inr rfl⟩, trivial⟩) ?_
  refine RW.op rfl rfl (eff_fieldAddr rfl rfl tf62_1 (by decide) rfl rfl rfl (Nat.le_of_ble_eq_true rfl)) ?_
  refine RW.weak (weak_open (id := 2) rfl) rfl ?_
  refine RW.store rfl rfl (eff_storeA (v := .own _ _ _ _) (ys := [_, _, _, _, _]) (els := [_]) (els' := [_]) rfl rfl ti34 rfl rfl rfl rfl rfl rfl rfl (Nat.le_of_ble_eq_true rfl) rfl rfl rfl) ?_
  refine RW.nil ?_
  refine awp_seq ?_
  refine awp_seq ?_
  refine awp_rw rfl ?_
  refine RW.op rfl rfl (eff_fieldAddr rfl rfl tf62_1 (by decide) rfl rfl rfl (Nat.le_of_ble_eq_true rfl)) ?_
  refine RW.op rfl rfl (eff_load (y := .own _ _ _ _) rfl rfl ti34 rfl (.one rfl rfl rfl rfl)) ?_
  refine RW.op rfl rfl (eff_len rfl rfl te34 rfl rfl rfl) ?_
  refine RW.op rfl rfl (eff_move (v := .t _) rfl rfl rfl) ?_
  refine RW.nil ?_
  refine awp_block ?_
  refine awp_loopW (fun m s => ∃ (i : Nat), (i ≤ r.ahead.length) ∧ m = r.ahead.length - i ∧ s = ⟨126, [(2, .ptr 2 0 0 0), (3, .ptr 3 0 0 0), (4, .ptr 4 0 0 0), (5, .t (.sl [] true)), (6, .t (encI 0)), (19, .t (encI r.ahead.length)), (20, .t (encI (i : Nat)))], [(2, some ⟨5, 62, 0, [.agg [.t (encI r.next), .own 1005 1 0 r.ahead.length, .t (.bool r.locked), .t (encU r.lad.k), .t (encI r.lad.i)]]⟩), (3, some ⟨5, 30, 0, [.t (encF (Frm.mk sq ky true bd tg))]⟩), (4, some ⟨5, 62, 0, [.t z62]⟩), (1005, some ⟨5, 30, 1, (r.ahead.map encF).map .t⟩)]⟩) (_) (⟨_, weak_keep (n := 126) (fr' := [(2, .ptr 2 0 0 0), (3, .ptr 3 0 0 0), (4, .ptr 4 0 0 0), (5, .t (.sl [] true)), (6, .t (encI 0)), (19, .t (encI r.ahead.length)), (20, .t (encI (0 : Nat)))]) (st' := [(2, some ⟨5, 62, 0, [.agg [.t (encI r.next), .own 1005 1 0 r.ahead.length, .t (.bool r.locked), .t (encU r.lad.k), .t (encI r.lad.i)]]⟩), (3, some ⟨5, 30, 0, [.t (encF (Frm.mk sq ky true bd tg))]⟩), (4, some ⟨5, 62, 0, [.t z62]⟩), (1005, some ⟨5, 30, 1, (r.ahead.map encF).map .t⟩)]) ⟨rfl, rfl, rfl, rfl, rfl, rfl, rfl, rfl, rfl, rfl, rfl, rfl, rfl, rfl, trivial⟩ ⟨rfl, okE_one rfl, rfl, okE_one rfl, rfl, okE_one rfl, rfl, okE_t, trivial⟩, 0, (by omega), rfl, rfl⟩) ?_
  rintro m s ⟨i, hi, rfl, rfl⟩
  refine awp_seq ?_
  refine awp_rw rfl ?_
  refine RW.op rfl rfl (eff_iop rfl rfl rfl rfl rfl) ?_
  refine RW.nil ?_
  refine awp_seq ?_
  refine awp_cond rfl (fun h1 => ?_) (fun h1 => ?_)
  · try simp only [decide_eq_true_eq, decide_eq_false_iff_not, beq_iff_eq, bne_iff_ne, bne_eq_false_iff_eq, beq_eq_false_iff_ne, Bool.not_eq_true, Bool.not_eq_false, Bool.not_eq_true', Bool.not_eq_false', ne_eq] at h1
    refine awp_skip ?_
    refine awp_seq ?_
    refine awp_block ?_
    refine awp_seq ?_
    refine awp_rw rfl ?_
    have hil : i < r.ahead.length := by omega
    have hbl := hrb _ (List.getElem_mem hil)
    refine RW.op rfl rfl (eff_move (v := .t _) rfl rfl rfl) ?_
    refine RW.op rfl rfl (eff_assign (v := .t _) rfl rfl rfl) ?_
    refine RW.nil ?_
    refine awp_rd [(some 23, []), (some 24, []), (some 25, []), (some 26, []), (some 27, []), (some 28, []), (some 29, []), (some 30, []), (some 31, []), (some 32, []), (some 33, []), (some 34, []), (none, [1005])] [[], [0], [], [], [3], [], [3, 4, 5], [3, 4, 5, 6], [3, 4, 5, 6, 7], [3, 4, 5, 6, 7, 8], [0, 1, 2, 3, 4, 5, 6, 7, 8, 9], [0, 1, 2, 3, 4, 5, 6, 7, 8, 9, 10], [0, 1, 2, 3, 4, 5, 6, 7, 8, 9, 10, 11]] tm rfl rfl rfl rfl ?_
    refine RD.op rfl rfl rfl (eff_fieldAddr rfl rfl tf62_1 (by decide) rfl rfl rfl (Nat.le_of_ble_eq_true rfl)) ?_
    refine RD.op rfl rfl rfl (eff_load (y := .own _ _ _ _) rfl rfl ti34 rfl (.one rfl rfl rfl rfl)) ?_
    refine RD.op rfl rfl rfl (eff_move (v := .t _) rfl rfl rfl) ?_
    refine RD.op rfl rfl rfl (eff_fieldAddr rfl rfl tf62_1 (by decide) rfl rfl rfl (Nat.le_of_ble_eq_true rfl)) ?_
    refine RD.op rfl rfl rfl (eff_load (y := .own _ _ _ _) rfl rfl ti34 rfl (.one rfl rfl rfl rfl)) ?_
    refine RD.op rfl rfl rfl (eff_move (v := .t _) rfl rfl rfl) ?_
    refine RD.op rfl rfl rfl (eff_indexAddr rfl rfl te34 rfl rfl rfl rfl rfl rfl (by omega)) ?_
    refine RD.op rfl rfl rfl (eff_fieldAddr rfl rfl tf30_3 (by decide) rfl rfl rfl (Nat.le_of_ble_eq_true rfl)) ?_
    refine RD.op rfl rfl rfl (eff_load (y := .t (.sl ((r.ahead[i]'hil).body.map encBy) false)) rfl rfl ti27 rfl (.one rfl rfl (by rw [Nat.zero_add]; exact elF hil) rfl)) ?_
    refine RD.op rfl rfl rfl (eff_callT (cloneB_ret _ hbl) co58 rfl rfl rfl rfl) ?_
    refine RD.op rfl rfl rfl (eff_indexAddr rfl rfl te34 rfl rfl rfl rfl rfl rfl (by omega)) ?_
    refine RD.op rfl rfl rfl (eff_fieldAddr rfl rfl tf30_3 (by decide) rfl rfl rfl (Nat.le_of_ble_eq_true rfl)) ?_
    refine RD.store rfl rfl rfl (eff_storeS (v := .t _) (el := .t (encF (r.ahead[i]'hil))) (ys := [encI (r.ahead[i]'hil).seq, encI (r.ahead[i]'hil).key, .bool (r.ahead[i]'hil).unlock, .sl ((r.ahead[i]'hil).body.map encBy) false, .int .u64 (r.ahead[i]'hil).tag]) (els := (r.ahead.map encF).map .t) (els' := (r.ahead.map encF).map .t) rfl rfl ti27 rfl rfl rfl rfl rfl rfl (by rw [Nat.zero_add]; exact elF hil) (Nat.le_of_ble_eq_true rfl) rfl (by rw [Nat.zero_add]; exact setF_same hil)) ?_
    refine RD.nil ?_
    refine awp_rw rfl ?_
    refine RW.op rfl rfl (eff_iop rfl rfl rfl rfl (iadd (by omega))) ?_
    refine RW.op rfl rfl (eff_move (v := .t _) rfl rfl rfl) ?_
    refine RW.nil ?_
    refine ⟨_, ?_, _, weak_keep (n := 126) (fr' := [(2, .ptr 2 0 0 0), (3, .ptr 3 0 0 0), (4, .ptr 4 0 0 0), (5, .t (.sl [] true)), (6, .t (encI 0)), (19, .t (encI r.ahead.length)), (20, .t (encI ((i + 1) : Nat)))]) (st' := [(2, some ⟨5, 62, 0, [.agg [.t (encI r.next), .own 1005 1 0 r.ahead.length, .t (.bool r.locked), .t (encU r.lad.k), .t (encI r.lad.i)]]⟩), (3, some ⟨5, 30, 0, [.t (encF (Frm.mk sq ky true bd tg))]⟩), (4, some ⟨5, 62, 0, [.t z62]⟩), (1005, some ⟨5, 30, 1, (r.ahead.map encF).map .t⟩)]) ⟨rfl, rfl, rfl, rfl, rfl, rfl, rfl, rfl, rfl, rfl, rfl, rfl, rfl, rfl, trivial⟩ ⟨rfl, okE_one rfl, rfl, okE_one rfl, rfl, okE_one rfl, rfl, okE_t, trivial⟩, i + 1, (by omega), rfl, rfl⟩
    omega
  · try simp only [decide_eq_true_eq, decide_eq_false_iff_not, beq_iff_eq, bne_iff_ne, bne_eq_false_iff_eq, beq_eq_false_iff_ne, Bool.not_eq_true, Bool.not_eq_false, Bool.not_eq_true', Bool.not_eq_false', ne_eq] at h1
    refine awp_exit ?_
    refine awp_seq ?_
    refine awp_seq ?_
    show AWP _ _ _ _
    refine awp_weak (weak_frzE (n := 126) (fr' := [(2, .ptr 2 0 0 0), (3, .ptr 3 0 0 0), (4, .ptr 4 0 0 0), (5, .t (.sl [] true)), (6, .t (encI 0))]) (st' := [(2, some ⟨5, 62, 0, [.agg [.t (encI r.next), .t (.sl (r.ahead.map encF) false), .t (.bool r.locked), .t (encU r.lad.k), .t (encI r.lad.i)]]⟩), (3, some ⟨5, 30, 0, [.t (encF (Frm.mk sq ky true bd tg))]⟩), (4, some ⟨5, 62, 0, [.t z62]⟩)]) [(1005, some ⟨5, 30, 1, (r.ahead.map encF).map .t⟩)] ⟨rfl, trivial⟩ ⟨.ptr 2 0 0 0 rfl, .ptr 3 0 0 0 rfl, .ptr 4 0 0 0 rfl, .t _, .t _, trivial⟩ ⟨waS_agg rfl rfl ⟨⟨rfl, .t _⟩, ⟨rfl, .res (Res.ownM (xs := r.ahead.map encF) rfl (by simp)) (.refl _)⟩, ⟨rfl, .t _⟩, ⟨rfl, .t _⟩, ⟨rfl, .t _⟩, trivial⟩, waS_one rfl rfl rfl rfl, waS_one rfl rfl rfl rfl, trivial⟩) ?_
    refine awp_weak (weak_cells (id := 2) [.t (encV r)] rfl rfl rfl) ?_
    refine awp_rw rfl ?_
    refine RW.op rfl rfl (eff_fieldAddr rfl rfl tf30_3 (by decide) rfl rfl rfl (Nat.le_of_ble_eq_true rfl)) ?_
    refine RW.op rfl rfl (eff_load (y := .t _) rfl rfl ti27 rfl (.one rfl rfl rfl rfl)) ?_
    refine RW.op rfl rfl (eff_lenM rfl rfl te27 rfl) ?_
    refine RW.op rfl rfl (eff_iop rfl rfl rfl rfl rfl) ?_
    refine RW.nil ?_
    refine awp_cond rfl (fun h2 => ?_) (fun h2 => ?_)
    · try simp only [decide_eq_true_eq, decide_eq_false_iff_not, beq_iff_eq, bne_iff_ne, bne_eq_false_iff_eq, beq_eq_false_iff_ne, Bool.not_eq_true, Bool.not_eq_false, Bool.not_eq_true', Bool.not_eq_false', ne_eq] at h2
      refine awp_seq ?_
      refine awp_rw rfl ?_
      refine RW.op rfl rfl (eff_load rfl rfl ti62 rfl (.whole rfl rfl rfl rfl rfl rfl)) ?_
      refine RW.store rfl rfl (eff_storeW (v := .t _) (els := [_]) (els' := [_]) rfl rfl ti62 rfl rfl rfl rfl rfl rfl rfl rfl rfl) ?_
      refine RW.op rfl rfl (eff_assign (v := .t _) rfl rfl rfl) ?_
      refine RW.op rfl rfl (eff_assign (v := .t _) rfl rfl rfl) ?_
      refine RW.nil ?_
      refine awp_ret ?_
      first
        | (rw [show recvU r sq ky bd tg a e = (r, [], 2) from by unfold recvU; rw [if_pos (by omega)]]; first
        | exact ⟨Or.inr rfl, [_, _, _], ⟨.cell rfl ti62 (.whole rfl rfl rfl rfl rfl rfl) (.t _), .tmp (.t _), .tmp (.t _), trivial⟩, .refl _⟩
        | exact ⟨Or.inr rfl, [_, _, _], ⟨.cell rfl ti62 (.whole rfl rfl rfl rfl rfl rfl) (.t _), .tmp (.t _), .tmp (.t _), trivial⟩, (by repeat' first | exact trivial | exact Wk.refl _ | exact Wk.sl _ | refine And.intro ?_ ?_ | refine Wk.tupP ?_ | refine Wk.aggP ?_)⟩
        | exact ⟨Or.inr rfl, [_, _, _], ⟨.cell rfl ti62 (.whole rfl rfl rfl rfl rfl rfl) (.t _), .tmp (.t _), .tmp (Res.ownT rfl rfl rfl rfl), trivial⟩, .refl _⟩
        | exact ⟨Or.inr rfl, [_, _, _], ⟨.cell rfl ti62 (.whole rfl rfl rfl rfl rfl rfl) (.t _), .tmp (.t _), .tmp (Res.ownT rfl rfl rfl rfl), trivial⟩, (by repeat' first | exact trivial | exact Wk.refl _ | exact Wk.sl _ | refine And.intro ?_ ?_ | refine Wk.tupP ?_ | refine Wk.aggP ?_)⟩
        | exact ⟨Or.inr rfl, [_, _, _], ⟨.cell rfl ti62 (.whole rfl rfl rfl rfl rfl rfl) (.t _), .tmp (Res.ownT rfl rfl rfl rfl), .tmp (.t _), trivial⟩, .refl _⟩
        | exact ⟨Or.inr rfl, [_, _, _], ⟨.cell rfl ti62 (.whole rfl rfl rfl rfl rfl rfl) (.t _), .tmp (Res.ownT rfl rfl rfl rfl), .tmp (.t _), trivial⟩, (by repeat' first | exact trivial | exact Wk.refl _ | exact Wk.sl _ | refine And.intro ?_ ?_ | refine Wk.tupP ?_ | refine Wk.aggP ?_)⟩
        | exact ⟨Or.inr rfl, [_, _, _], ⟨.cell rfl ti62 (.whole rfl rfl rfl rfl rfl rfl) (.t _), .tmp (Res.ownT rfl rfl rfl rfl), .tmp (Res.ownT rfl rfl rfl rfl), trivial⟩, .refl _⟩
        | exact ⟨Or.inr rfl, [_, _, _], ⟨.cell rfl ti62 (.whole rfl rfl rfl rfl rfl rfl) (.t _), .tmp (Res.ownT rfl rfl rfl rfl), .tmp (Res.ownT rfl rfl rfl rfl), trivial⟩, (by repeat' first | exact trivial | exact Wk.refl _ | exact Wk.sl _ | refine And.intro ?_ ?_ | refine Wk.tupP ?_ | refine Wk.aggP ?_)⟩)
        | (rw [show recvU r sq ky bd tg a e = (r, [], e) from by unfold recvU; rw [if_neg (by omega), if_pos (by assumption)]]; first
        | exact ⟨Or.inr rfl, [_, _, _], ⟨.cell rfl ti62 (.whole rfl rfl rfl rfl rfl rfl) (.t _), .tmp (.t _), .tmp (.t _), trivial⟩, .refl _⟩
        | exact ⟨Or.inr rfl, [_, _, _], ⟨.cell rfl ti62 (.whole rfl rfl rfl rfl rfl rfl) (.t _), .tmp (.t _), .tmp (.t _), trivial⟩, (by repeat' first | exact trivial | exact Wk.refl _ | exact Wk.sl _ | refine And.intro ?_ ?_ | refine Wk.tupP ?_ | refine Wk.aggP ?_)⟩
        | exact ⟨Or.inr rfl, [_, _, _], ⟨.cell rfl ti62 (.whole rfl rfl rfl rfl rfl rfl) (.t _), .tmp (.t _), .tmp (Res.ownT rfl rfl rfl rfl), trivial⟩, .refl _⟩
        | exact ⟨Or.inr rfl, [_, _, _], ⟨.cell rfl ti62 (.whole rfl rfl rfl rfl rfl rfl) (.t _), .tmp (.t _), .tmp (Res.ownT rfl rfl rfl rfl), trivial⟩, (by repeat' first | exact trivial | exact Wk.refl _ | exact Wk.sl _ | refine And.intro ?_ ?_ | refine Wk.tupP ?_ | refine Wk.aggP ?_)⟩
        | exact ⟨Or.inr rfl, [_, _, _], ⟨.cell rfl ti62 (.whole rfl rfl rfl rfl rfl rfl) (.t _), .tmp (Res.ownT rfl rfl rfl rfl), .tmp (.t _), trivial⟩, .refl _⟩
        | exact ⟨Or.inr rfl, [_, _, _], ⟨.cell rfl ti62 (.whole rfl rfl rfl rfl rfl rfl) (.t _), .tmp (Res.ownT rfl rfl rfl rfl), .tmp (.t _), trivial⟩, (by repeat' first | exact trivial | exact Wk.refl _ | exact Wk.sl _ | refine And.intro ?_ ?_ | refine Wk.tupP ?_ | refine Wk.aggP ?_)⟩
        | exact ⟨Or.inr rfl, [_, _, _], ⟨.cell rfl ti62 (.whole rfl rfl rfl rfl rfl rfl) (.t _), .tmp (Res.ownT rfl rfl rfl rfl), .tmp (Res.ownT rfl rfl rfl rfl), trivial⟩, .refl _⟩
        | exact ⟨Or.inr rfl, [_, _, _], ⟨.cell rfl ti62 (.whole rfl rfl rfl rfl rfl rfl) (.t _), .tmp (Res.ownT rfl rfl rfl rfl), .tmp (Res.ownT rfl rfl rfl rfl), trivial⟩, (by repeat' first | exact trivial | exact Wk.refl _ | exact Wk.sl _ | refine And.intro ?_ ?_ | refine Wk.tupP ?_ | refine Wk.aggP ?_)⟩)
        | (rw [show recvU r sq ky bd tg a e = (⟨r.next, [], false, a⟩, [], 0) from by unfold recvU; rw [if_neg (by omega), if_neg (fun h => h (by assumption)), if_pos (by omega)]]; first
        | exact ⟨Or.inr rfl, [_, _, _], ⟨.cell rfl ti62 (.whole rfl rfl rfl rfl rfl rfl) (.t _), .tmp (.t _), .tmp (.t _), trivial⟩, .refl _⟩
        | exact ⟨Or.inr rfl, [_, _, _], ⟨.cell rfl ti62 (.whole rfl rfl rfl rfl rfl rfl) (.t _), .tmp (.t _), .tmp (.t _), trivial⟩, (by repeat' first | exact trivial | exact Wk.refl _ | exact Wk.sl _ | refine And.intro ?_ ?_ | refine Wk.tupP ?_ | refine Wk.aggP ?_)⟩
        | exact ⟨Or.inr rfl, [_, _, _], ⟨.cell rfl ti62 (.whole rfl rfl rfl rfl rfl rfl) (.t _), .tmp (.t _), .tmp (Res.ownT rfl rfl rfl rfl), trivial⟩, .refl _⟩
        | exact ⟨Or.inr rfl, [_, _, _], ⟨.cell rfl ti62 (.whole rfl rfl rfl rfl rfl rfl) (.t _), .tmp (.t _), .tmp (Res.ownT rfl rfl rfl rfl), trivial⟩, (by repeat' first | exact trivial | exact Wk.refl _ | exact Wk.sl _ | refine And.intro ?_ ?_ | refine Wk.tupP ?_ | refine Wk.aggP ?_)⟩
        | exact ⟨Or.inr rfl, [_, _, _], ⟨.cell rfl ti62 (.whole rfl rfl rfl rfl rfl rfl) (.t _), .tmp (Res.ownT rfl rfl rfl rfl), .tmp (.t _), trivial⟩, .refl _⟩
        | exact ⟨Or.inr rfl, [_, _, _], ⟨.cell rfl ti62 (.whole rfl rfl rfl rfl rfl rfl) (.t _), .tmp (Res.ownT rfl rfl rfl rfl), .tmp (.t _), trivial⟩, (by repeat' first | exact trivial | exact Wk.refl _ | exact Wk.sl _ | refine And.intro ?_ ?_ | refine Wk.tupP ?_ | refine Wk.aggP ?_)⟩
        | exact ⟨Or.inr rfl, [_, _, _], ⟨.cell rfl ti62 (.whole rfl rfl rfl rfl rfl rfl) (.t _), .tmp (Res.ownT rfl rfl rfl rfl), .tmp (Res.ownT rfl rfl rfl rfl), trivial⟩, .refl _⟩
        | exact ⟨Or.inr rfl, [_, _, _], ⟨.cell rfl ti62 (.whole rfl rfl rfl rfl rfl rfl) (.t _), .tmp (Res.ownT rfl rfl rfl rfl), .tmp (Res.ownT rfl rfl rfl rfl), trivial⟩, (by repeat' first | exact trivial | exact Wk.refl _ | exact Wk.sl _ | refine And.intro ?_ ?_ | refine Wk.tupP ?_ | refine Wk.aggP ?_)⟩)
        | (rw [show recvU r sq ky bd tg a e = (⟨r.next + dist2 sq r.next, [], false, a⟩, [], 0) from by unfold recvU; rw [if_neg (by omega), if_neg (fun h => h (by assumption)), if_neg (by omega)]]; first
        | exact ⟨Or.inr rfl, [_, _, _], ⟨.cell rfl ti62 (.whole rfl rfl rfl rfl rfl rfl) (.t _), .tmp (.t _), .tmp (.t _), trivial⟩, .refl _⟩
        | exact ⟨Or.inr rfl, [_, _, _], ⟨.cell rfl ti62 (.whole rfl rfl rfl rfl rfl rfl) (.t _), .tmp (.t _), .tmp (.t _), trivial⟩, (by repeat' first | exact trivial | exact Wk.refl _ | exact Wk.sl _ | refine And.intro ?_ ?_ | refine Wk.tupP ?_ | refine Wk.aggP ?_)⟩
        | exact ⟨Or.inr rfl, [_, _, _], ⟨.cell rfl ti62 (.whole rfl rfl rfl rfl rfl rfl) (.t _), .tmp (.t _), .tmp (Res.ownT rfl rfl rfl rfl), trivial⟩, .refl _⟩
        | exact ⟨Or.inr rfl, [_, _, _], ⟨.cell rfl ti62 (.whole rfl rfl rfl rfl rfl rfl) (.t _), .tmp (.t _), .tmp (Res.ownT rfl rfl rfl rfl), trivial⟩, (by repeat' first | exact trivial | exact Wk.refl _ | exact Wk.sl _ | refine And.intro ?_ ?_ | refine Wk.tupP ?_ | refine Wk.aggP ?_)⟩
        | exact ⟨Or.inr rfl, [_, _, _], ⟨.cell rfl ti62 (.whole rfl rfl rfl rfl rfl rfl) (.t _), .tmp (Res.ownT rfl rfl rfl rfl), .tmp (.t _), trivial⟩, .refl _⟩
        | exact ⟨Or.inr rfl, [_, _, _], ⟨.cell rfl ti62 (.whole rfl rfl rfl rfl rfl rfl) (.t _), .tmp (Res.ownT rfl rfl rfl rfl), .tmp (.t _), trivial⟩, (by repeat' first | exact trivial | exact Wk.refl _ | exact Wk.sl _ | refine And.intro ?_ ?_ | refine Wk.tupP ?_ | refine Wk.aggP ?_)⟩
        | exact ⟨Or.inr rfl, [_, _, _], ⟨.cell rfl ti62 (.whole rfl rfl rfl rfl rfl rfl) (.t _), .tmp (Res.ownT rfl rfl rfl rfl), .tmp (Res.ownT rfl rfl rfl rfl), trivial⟩, .refl _⟩
        | exact ⟨Or.inr rfl, [_, _, _], ⟨.cell rfl ti62 (.whole rfl rfl rfl rfl rfl rfl) (.t _), .tmp (Res.ownT rfl rfl rfl rfl), .tmp (Res.ownT rfl rfl rfl rfl), trivial⟩, (by repeat' first | exact trivial | exact Wk.refl _ | exact Wk.sl _ | refine And.intro ?_ ?_ | refine Wk.tupP ?_ | refine Wk.aggP ?_)⟩)
    · try simp only [decide_eq_true_eq, decide_eq_false_iff_not, beq_iff_eq, bne_iff_ne, bne_eq_false_iff_eq, beq_eq_false_iff_ne, Bool.not_eq_true, Bool.not_eq_false, Bool.not_eq_true', Bool.not_eq_false', ne_eq] at h2
      refine awp_skip ?_
      refine awp_seq ?_
      refine awp_rd [(some 42, []), (some 43, []), (some 44, []), (some 45, []), (some 46, []), (some 47, []), (some 48, []), (some 49, []), (some 50, []), (some 41, []), (some 51, []), (some 52, []), (some 8, [8]), (none, [8]), (some 9, [])] [[], [0], [], [2], [], [4], [], [6], [0, 1, 2, 3, 4, 5, 6, 7], [0, 1, 2, 3, 4, 5, 6, 7, 8], [0, 1, 2, 3, 4, 5, 6, 7, 8, 9], [0, 1, 2, 3, 4, 5, 6, 7, 8, 9], [], [0, 1, 2, 3, 4, 5, 6, 7, 8, 9, 10, 12], [0, 1, 2, 3, 4, 5, 6, 7, 8, 9, 10, 11, 12, 13]] tm rfl rfl rfl rfl ?_
      refine RD.op rfl rfl rfl (eff_fieldAddr rfl rfl tf62_3 (by decide) rfl rfl rfl (Nat.le_of_ble_eq_true rfl)) ?_
      refine RD.op rfl rfl rfl (eff_loadS (ys := [_, _]) rfl rfl ti60 rfl rfl rfl rfl rfl rfl) ?_
      refine RD.op rfl rfl rfl (eff_fieldAddr rfl rfl tf30_1 (by decide) rfl rfl rfl (Nat.le_of_ble_eq_true rfl)) ?_
      refine RD.op rfl rfl rfl (eff_load (y := .t _) rfl rfl ti3 rfl (.one rfl rfl rfl rfl)) ?_
      refine RD.op rfl rfl rfl (eff_load rfl rfl ti30 rfl (.whole rfl rfl rfl rfl rfl rfl)) ?_
      refine RD.op rfl rfl rfl (eff_callT (signed_ret (Frm.mk sq ky true bd tg) (by show bd.length ≤ 900000; omega)) co36 rfl rfl rfl rfl) ?_
      refine RD.op rfl rfl rfl (eff_fieldAddr rfl rfl tf30_4 (by decide) rfl rfl rfl (Nat.le_of_ble_eq_true rfl)) ?_
      refine RD.op rfl rfl rfl (eff_load (y := .t _) rfl rfl ti28 rfl (.one rfl rfl rfl rfl)) ?_
      refine RD.op rfl rfl rfl (eff_callT (hacc) co59 rfl rfl rfl rfl) ?_
      refine RD.op rfl rfl rfl (eff_move (v := .t _) rfl rfl rfl) ?_
      refine RD.op rfl rfl rfl (eff_extract rfl rfl rfl rfl) ?_
      refine RD.op rfl rfl rfl (eff_extract rfl rfl rfl rfl) ?_
      refine RD.new rfl rfl rfl (eff_allocK (k := 2) (id := 8) rfl rfl tz60 rfl rfl) ?_
      refine RD.store rfl rfl rfl (eff_storeW (v := .t _) (els := [_]) (els' := [_]) rfl rfl ti60 rfl rfl rfl rfl rfl rfl rfl rfl rfl) ?_
      refine RD.op rfl rfl rfl (eff_assign (v := .t _) rfl rfl rfl) ?_
      refine RD.nil ?_
      refine awp_seq ?_
      refine awp_seq ?_
      refine awp_rw rfl ?_
      refine RW.op rfl rfl (eff_move (v := .t _) rfl rfl rfl) ?_
      refine RW.op rfl rfl (eff_iop rfl rfl rfl rfl rfl) ?_
      refine RW.nil ?_
      refine awp_cond rfl (fun h3 => ?_) (fun h3 => ?_)
      · try simp only [decide_eq_true_eq, decide_eq_false_iff_not, beq_iff_eq, bne_iff_ne, bne_eq_false_iff_eq, beq_eq_false_iff_ne, Bool.not_eq_true, Bool.not_eq_false, Bool.not_eq_true', Bool.not_eq_false', ne_eq] at h3
        refine awp_seq ?_
        refine awp_rw rfl ?_
        refine RW.op rfl rfl (eff_load rfl rfl ti62 rfl (.whole rfl rfl rfl rfl rfl rfl)) ?_
        refine RW.op rfl rfl (eff_move (v := .t _) rfl rfl rfl) ?_
        refine RW.store rfl rfl (eff_storeW (v := .t _) (els := [_]) (els' := [_]) rfl rfl ti62 rfl rfl rfl rfl rfl rfl rfl rfl rfl) ?_
        refine RW.op rfl rfl (eff_assign (v := .t _) rfl rfl rfl) ?_
        refine RW.op rfl rfl (eff_assign (v := .t _) rfl rfl rfl) ?_
        refine RW.nil ?_
        refine awp_ret ?_
        first
          | (rw [show recvU r sq ky bd tg a e = (r, [], 2) from by unfold recvU; rw [if_pos (by omega)]]; first
          | exact ⟨Or.inr rfl, [_, _, _], ⟨.cell rfl ti62 (.whole rfl rfl rfl rfl rfl rfl) (.t _), .tmp (.t _), .tmp (.t _), trivial⟩, .refl _⟩
          | exact ⟨Or.inr rfl, [_, _, _], ⟨.cell rfl ti62 (.whole rfl rfl rfl rfl rfl rfl) (.t _), .tmp (.t _), .tmp (.t _), trivial⟩, (by repeat' first | exact trivial | exact Wk.refl _ | exact Wk.sl _ | refine And.intro ?_ ?_ | refine Wk.tupP ?_ | refine Wk.aggP ?_)⟩
          | exact ⟨Or.inr rfl, [_, _, _], ⟨.cell rfl ti62 (.whole rfl rfl rfl rfl rfl rfl) (.t _), .tmp (.t _), .tmp (Res.ownT rfl rfl rfl rfl), trivial⟩, .refl _⟩
          | exact ⟨Or.inr rfl, [_, _, _], ⟨.cell rfl ti62 (.whole rfl rfl rfl rfl rfl rfl) (.t _), .tmp (.t _), .tmp (Res.ownT rfl rfl rfl rfl), trivial⟩, (by repeat' first | exact trivial | exact Wk.refl _ | exact Wk.sl _ | refine And.intro ?_ ?_ | refine Wk.tupP ?_ | refine Wk.aggP ?_)⟩
          | exact ⟨Or.inr rfl, [_, _, _], ⟨.cell rfl ti62 (.whole rfl rfl rfl rfl rfl rfl) (.t _), .tmp (Res.ownT rfl rfl rfl rfl), .tmp (.t _), trivial⟩, .refl _⟩
          | exact ⟨Or.inr rfl, [_, _, _], ⟨.cell rfl ti62 (.whole rfl rfl rfl rfl rfl rfl) (.t _), .tmp (Res.ownT rfl rfl rfl rfl), .tmp (.t _), trivial⟩, (by repeat' first | exact trivial | exact Wk.refl _ | exact Wk.sl _ | refine And.intro ?_ ?_ | refine Wk.tupP ?_ | refine Wk.aggP ?_)⟩
          | exact ⟨Or.inr rfl, [_, _, _], ⟨.cell rfl ti62 (.whole rfl rfl rfl rfl rfl rfl) (.t _), .tmp (Res.ownT rfl rfl rfl rfl), .tmp (Res.ownT rfl rfl rfl rfl), trivial⟩, .refl _⟩
          | exact ⟨Or.inr rfl, [_, _, _], ⟨.cell rfl ti62 (.whole rfl rfl rfl rfl rfl rfl) (.t _), .tmp (Res.ownT rfl rfl rfl rfl), .tmp (Res.ownT rfl rfl rfl rfl), trivial⟩, (by repeat' first | exact trivial | exact Wk.refl _ | exact Wk.sl _ | refine And.intro ?_ ?_ | refine Wk.tupP ?_ | refine Wk.aggP ?_)⟩)
          | (rw [show recvU r sq ky bd tg a e = (r, [], e) from by unfold recvU; rw [if_neg (by omega), if_pos (by assumption)]]; first
          | exact ⟨Or.inr rfl, [_, _, _], ⟨.cell rfl ti62 (.whole rfl rfl rfl rfl rfl rfl) (.t _), .tmp (.t _), .tmp (.t _), trivial⟩, .refl _⟩
          | exact ⟨Or.inr rfl, [_, _, _], ⟨.cell rfl ti62 (.whole rfl rfl rfl rfl rfl rfl) (.t _), .tmp (.t _), .tmp (.t _), trivial⟩, (by repeat' first | exact trivial | exact Wk.refl _ | exact Wk.sl _ | refine And.intro ?_ ?_ | refine Wk.tupP ?_ | refine Wk.aggP ?_)⟩
          | exact ⟨Or.inr rfl, [_, _, _], ⟨.cell rfl ti62 (.whole rfl rfl rfl rfl rfl rfl) (.t _), .tmp (.t _), .tmp (Res.ownT rfl rfl rfl rfl), trivial⟩, .refl _⟩
          | exact ⟨Or.inr rfl, [_, _, _], ⟨.cell rfl ti62 (.whole rfl rfl rfl rfl rfl rfl) (.t _), .tmp (.t _), .tmp (Res.ownT rfl rfl rfl rfl), trivial⟩, (by repeat' first | exact trivial | exact Wk.refl _ | exact Wk.sl _ | refine And.intro ?_ ?_ | refine Wk.tupP ?_ | refine Wk.aggP ?_)⟩
          | exact ⟨Or.inr rfl, [_, _, _], ⟨.cell rfl ti62 (.whole rfl rfl rfl rfl rfl rfl) (.t _), .tmp (Res.ownT rfl rfl rfl rfl), .tmp (.t _), trivial⟩, .refl _⟩
          | exact ⟨Or.inr rfl, [_, _, _], ⟨.cell rfl ti62 (.whole rfl rfl rfl rfl rfl rfl) (.t _), .tmp (Res.ownT rfl rfl rfl rfl), .tmp (.t _), trivial⟩, (by repeat' first | exact trivial | exact Wk.refl _ | exact Wk.sl _ | refine And.intro ?_ ?_ | refine Wk.tupP ?_ | refine Wk.aggP ?_)⟩
          | exact ⟨Or.inr rfl, [_, _, _], ⟨.cell rfl ti62 (.whole rfl rfl rfl rfl rfl rfl) (.t _), .tmp (Res.ownT rfl rfl rfl rfl), .tmp (Res.ownT rfl rfl rfl rfl), trivial⟩, .refl _⟩
          | exact ⟨Or.inr rfl, [_, _, _], ⟨.cell rfl ti62 (.whole rfl rfl rfl rfl rfl rfl) (.t _), .tmp (Res.ownT rfl rfl rfl rfl), .tmp (Res.ownT rfl rfl rfl rfl), trivial⟩, (by repeat' first | exact trivial | exact Wk.refl _ | exact Wk.sl _ | refine And.intro ?_ ?_ | refine Wk.tupP ?_ | refine Wk.aggP ?_)⟩)
          | (rw [show recvU r sq ky bd tg a e = (⟨r.next, [], false, a⟩, [], 0) from by unfold recvU; rw [if_neg (by omega), if_neg (fun h => h (by assumption)), if_pos (by omega)]]; first
          | exact ⟨Or.inr rfl, [_, _, _], ⟨.cell rfl ti62 (.whole rfl rfl rfl rfl rfl rfl) (.t _), .tmp (.t _), .tmp (.t _), trivial⟩, .refl _⟩
          | exact ⟨Or.inr rfl, [_, _, _], ⟨.cell rfl ti62 (.whole rfl rfl rfl rfl rfl rfl) (.t _), .tmp (.t _), .tmp (.t _), trivial⟩, (by repeat' first | exact trivial | exact Wk.refl _ | exact Wk.sl _ | refine And.intro ?_ ?_ | refine Wk.tupP ?_ | refine Wk.aggP ?_)⟩
          | exact ⟨Or.inr rfl, [_, _, _], ⟨.cell rfl ti62 (.whole rfl rfl rfl rfl rfl rfl) (.t _), .tmp (.t _), .tmp (Res.ownT rfl rfl rfl rfl), trivial⟩, .refl _⟩
          | exact ⟨Or.inr rfl, [_, _, _], ⟨.cell rfl ti62 (.whole rfl rfl rfl rfl rfl rfl) (.t _), .tmp (.t _), .tmp (Res.ownT rfl rfl rfl rfl), trivial⟩, (by repeat' first | exact trivial | exact Wk.refl _ | exact Wk.sl _ | refine And.intro ?_ ?_ | refine Wk.tupP ?_ | refine Wk.aggP ?_)⟩
          | exact ⟨Or.inr rfl, [_, _, _], ⟨.cell rfl ti62 (.whole rfl rfl rfl rfl rfl rfl) (.t _), .tmp (Res.ownT rfl rfl rfl rfl), .tmp (.t _), trivial⟩, .refl _⟩
          | exact ⟨Or.inr rfl, [_, _, _], ⟨.cell rfl ti62 (.whole rfl rfl rfl rfl rfl rfl) (.t _), .tmp (Res.ownT rfl rfl rfl rfl), .tmp (.t _), trivial⟩, (by repeat' first | exact trivial | exact Wk.refl _ | exact Wk.sl _ | refine And.intro ?_ ?_ | refine Wk.tupP ?_ | refine Wk.aggP ?_)⟩
          | exact ⟨Or.inr rfl, [_, _, _], ⟨.cell rfl ti62 (.whole rfl rfl rfl rfl rfl rfl) (.t _), .tmp (Res.ownT rfl rfl rfl rfl), .tmp (Res.ownT rfl rfl rfl rfl), trivial⟩, .refl _⟩
          | exact ⟨Or.inr rfl, [_, _, _], ⟨.cell rfl ti62 (.whole rfl rfl rfl rfl rfl rfl) (.t _), .tmp (Res.ownT rfl rfl rfl rfl), .tmp (Res.ownT rfl rfl rfl rfl), trivial⟩, (by repeat' first | exact trivial | exact Wk.refl _ | exact Wk.sl _ | refine And.intro ?_ ?_ | refine Wk.tupP ?_ | refine Wk.aggP ?_)⟩)
          | (rw [show recvU r sq ky bd tg a e = (⟨r.next + dist2 sq r.next, [], false, a⟩, [], 0) from by unfold recvU; rw [if_neg (by omega), if_neg (fun h => h (by assumption)), if_neg (by omega)]]; first
          | exact ⟨Or.inr rfl, [_, _, _], ⟨.cell rfl ti62 (.whole rfl rfl rfl rfl rfl rfl) (.t _), .tmp (.t _), .tmp (.t _), trivial⟩, .refl _⟩
          | exact ⟨Or.inr rfl, [_, _, _], ⟨.cell rfl ti62 (.whole rfl rfl rfl rfl rfl rfl) (.t _), .tmp (.t _), .tmp (.t _), trivial⟩, (by repeat' first | exact trivial | exact Wk.refl _ | exact Wk.sl _ | refine And.intro ?_ ?_ | refine Wk.tupP ?_ | refine Wk.aggP ?_)⟩
          | exact ⟨Or.inr rfl, [_, _, _], ⟨.cell rfl ti62 (.whole rfl rfl rfl rfl rfl rfl) (.t _), .tmp (.t _), .tmp (Res.ownT rfl rfl rfl rfl), trivial⟩, .refl _⟩
          | exact ⟨Or.inr rfl, [_, _, _], ⟨.cell rfl ti62 (.whole rfl rfl rfl rfl rfl rfl) (.t _), .tmp (.t _), .tmp (Res.ownT rfl rfl rfl rfl), trivial⟩, (by repeat' first | exact trivial | exact Wk.refl _ | exact Wk.sl _ | refine And.intro ?_ ?_ | refine Wk.tupP ?_ | refine Wk.aggP ?_)⟩
          | exact ⟨Or.inr rfl, [_, _, _], ⟨.cell rfl ti62 (.whole rfl rfl rfl rfl rfl rfl) (.t _), .tmp (Res.ownT rfl rfl rfl rfl), .tmp (.t _), trivial⟩, .refl _⟩
          | exact ⟨Or.inr rfl, [_, _, _], ⟨.cell rfl ti62 (.whole rfl rfl rfl rfl rfl rfl) (.t _), .tmp (Res.ownT rfl rfl rfl rfl), .tmp (.t _), trivial⟩, (by repeat' first | exact trivial | exact Wk.refl _ | exact Wk.sl _ | refine And.intro ?_ ?_ | refine Wk.tupP ?_ | refine Wk.aggP ?_)⟩
          | exact ⟨Or.inr rfl, [_, _, _], ⟨.cell rfl ti62 (.whole rfl rfl rfl rfl rfl rfl) (.t _), .tmp (Res.ownT rfl rfl rfl rfl), .tmp (Res.ownT rfl rfl rfl rfl), trivial⟩, .refl _⟩
          | exact ⟨Or.inr rfl, [_, _, _], ⟨.cell rfl ti62 (.whole rfl rfl rfl rfl rfl rfl) (.t _), .tmp (Res.ownT rfl rfl rfl rfl), .tmp (Res.ownT rfl rfl rfl rfl), trivial⟩, (by repeat' first | exact trivial | exact Wk.refl _ | exact Wk.sl _ | refine And.intro ?_ ?_ | refine Wk.tupP ?_ | refine Wk.aggP ?_)⟩)
      · try simp only [decide_eq_true_eq, decide_eq_false_iff_not, beq_iff_eq, bne_iff_ne, bne_eq_false_iff_eq, beq_eq_false_iff_ne, Bool.not_eq_true, Bool.not_eq_false, Bool.not_eq_true', Bool.not_eq_false', ne_eq] at h3
        refine awp_skip ?_
        refine awp_seq ?_
        refine awp_rw rfl ?_
        refine RW.op rfl rfl (eff_load rfl rfl ti60 rfl (.whole rfl rfl rfl rfl rfl rfl)) ?_
        refine RW.op rfl rfl (eff_fieldAddr rfl rfl tf62_3 (by decide) rfl rfl rfl (Nat.le_of_ble_eq_true rfl)) ?_
        refine RW.store rfl rfl (eff_storeS (v := .t _) (ys := [_, _, _, _, _]) (els := [_]) (els' := [_]) rfl rfl ti60 rfl rfl rfl rfl rfl rfl rfl (Nat.le_of_ble_eq_true rfl) rfl rfl) ?_
        refine RW.nil ?_
        refine awp_seq ?_
        refine awp_rd [(some 59, []), (some 60, []), (some 61, []), (some 62, []), (some 63, []), (some 64, []), (some 65, []), (some 66, []), (some 10, [])] [[], [0], [0, 1], [], [3], [0, 1, 2, 3, 4], [0, 1, 2, 3, 4, 5], [0, 1, 2, 3, 4, 5, 6], [0, 1, 2, 3, 4, 5, 6, 7]] tm rfl rfl rfl rfl ?_
        refine RD.op rfl rfl rfl (eff_fieldAddr rfl rfl tf30_0 (by decide) rfl rfl rfl (Nat.le_of_ble_eq_true rfl)) ?_
        refine RD.op rfl rfl rfl (eff_load (y := .t _) rfl rfl ti3 rfl (.one rfl rfl rfl rfl)) ?_
        refine RD.op rfl rfl rfl (eff_callT (reduced_ret _) co60 rfl rfl rfl rfl) ?_
        refine RD.op rfl rfl rfl (eff_fieldAddr rfl rfl tf62_0 (by decide) rfl rfl rfl (Nat.le_of_ble_eq_true rfl)) ?_
        refine RD.op rfl rfl rfl (eff_load (y := .t _) rfl rfl ti3 rfl (.one rfl rfl rfl rfl)) ?_
        refine RD.op rfl rfl rfl (eff_callT (reduced_ret _) co60 rfl rfl rfl rfl) ?_
        refine RD.op rfl rfl rfl (eff_iop rfl rfl rfl rfl (isub (by omega))) ?_
        refine RD.op rfl rfl rfl (eff_callT (reduced_ret _) co60 rfl rfl rfl rfl) ?_
        refine RD.op rfl rfl rfl (eff_assign (v := .t _) rfl rfl rfl) ?_
        refine RD.nil ?_
        refine awp_seq ?_
        refine awp_block ?_
        refine awp_seq ?_
        refine awp_rw rfl ?_
        refine RW.op rfl rfl (eff_fieldAddr rfl rfl tf30_2 (by decide) rfl rfl rfl (Nat.le_of_ble_eq_true rfl)) ?_
        refine RW.op rfl rfl (eff_load (y := .t _) rfl rfl ti4 rfl (.one rfl rfl rfl rfl)) ?_
        refine RW.weak (weak_slot 69 (y := .bool true) rfl (.refl _)) rfl ?_
        refine RW.op rfl rfl (eff_move (v := .t _) rfl rfl rfl) ?_
        refine RW.gop rfl rfl rfl rfl rfl rfl (eff_move (v := .t _) rfl rfl rfl) ?_
        refine RW.gop rfl rfl rfl rfl rfl rfl (eff_iop rfl rfl rfl rfl rfl) ?_
        refine RW.op rfl rfl (eff_pick (v := .t _) rfl rfl rfl rfl) ?_
        refine RW.op rfl rfl (eff_assign (v := .t _) rfl rfl rfl) ?_
        refine RW.nil ?_
        refine awp_cond rfl (fun h4 => ?_) (fun h4 => ?_)
        · try simp only [decide_eq_true_eq, decide_eq_false_iff_not, beq_iff_eq, bne_iff_ne, bne_eq_false_iff_eq, beq_eq_false_iff_ne, Bool.not_eq_true, Bool.not_eq_false, Bool.not_eq_true', Bool.not_eq_false', ne_eq] at h4
          refine awp_seq ?_
          refine awp_rw rfl ?_
          refine RW.op rfl rfl (eff_fieldAddr rfl rfl tf62_0 (by decide) rfl rfl rfl (Nat.le_of_ble_eq_true rfl)) ?_
          refine RW.op rfl rfl (eff_load (y := .t _) rfl rfl ti3 rfl (.one rfl rfl rfl rfl)) ?_
          refine RW.op rfl rfl (eff_load rfl rfl ti60 rfl (.whole rfl rfl rfl rfl rfl rfl)) ?_
          refine RW.op rfl rfl (eff_buildT (ys := [_, _, _, _, _]) rfl rfl tz62 tg62 rfl) ?_
          refine RW.store rfl rfl (eff_storeW (v := .t _) (els := [_]) (els' := [_]) rfl rfl ti62 rfl rfl rfl rfl rfl rfl rfl rfl rfl) ?_
          refine RW.op rfl rfl (eff_assign (v := .t _) rfl rfl rfl) ?_
          refine RW.op rfl rfl (eff_assign (v := .t _) rfl rfl rfl) ?_
          refine RW.nil ?_
          refine awp_ret ?_
          first
            | (rw [show recvU r sq ky bd tg a e = (r, [], 2) from by unfold recvU; rw [if_pos (by omega)]]; first
            | exact ⟨Or.inr rfl, [_, _, _], ⟨.cell rfl ti62 (.whole rfl rfl rfl rfl rfl rfl) (.t _), .tmp (.t _), .tmp (.t _), trivial⟩, .refl _⟩
            | exact ⟨Or.inr rfl, [_, _, _], ⟨.cell rfl ti62 (.whole rfl rfl rfl rfl rfl rfl) (.t _), .tmp (.t _), .tmp (.t _), trivial⟩, (by repeat' first | exact trivial | exact Wk.refl _ | exact Wk.sl _ | refine And.intro ?_ ?_ | refine Wk.tupP ?_ | refine Wk.aggP ?_)⟩
            | exact ⟨Or.inr rfl, [_, _, _], ⟨.cell rfl ti62 (.whole rfl rfl rfl rfl rfl rfl) (.t _), .tmp (.t _), .tmp (Res.ownT rfl rfl rfl rfl), trivial⟩, .refl _⟩
            | exact ⟨Or.inr rfl, [_, _, _], ⟨.cell rfl ti62 (.whole rfl rfl rfl rfl rfl rfl) (.t _), .tmp (.t _), .tmp (Res.ownT rfl rfl rfl rfl), trivial⟩, (by repeat' first | exact trivial | exact Wk.refl _ | exact Wk.sl _ | refine And.intro ?_ ?_ | refine Wk.tupP ?_ | refine Wk.aggP ?_)⟩
            | exact ⟨Or.inr rfl, [_, _, _], ⟨.cell rfl ti62 (.whole rfl rfl rfl rfl rfl rfl) (.t _), .tmp (Res.ownT rfl rfl rfl rfl), .tmp (.t _), trivial⟩, .refl _⟩
            | exact ⟨Or.inr rfl, [_, _, _], ⟨.cell rfl ti62 (.whole rfl rfl rfl rfl rfl rfl) (.t _), .tmp (Res.ownT rfl rfl rfl rfl), .tmp (.t _), trivial⟩, (by repeat' first | exact trivial | exact Wk.refl _ | exact Wk.sl _ | refine And.intro ?_ ?_ | refine Wk.tupP ?_ | refine Wk.aggP ?_)⟩
            | exact ⟨Or.inr rfl, [_, _, _], ⟨.cell rfl ti62 (.whole rfl rfl rfl rfl rfl rfl) (.t _), .tmp (Res.ownT rfl rfl rfl rfl), .tmp (Res.ownT rfl rfl rfl rfl), trivial⟩, .refl _⟩
            | exact ⟨Or.inr rfl, [_, _, _], ⟨.cell rfl ti62 (.whole rfl rfl rfl rfl rfl rfl) (.t _), .tmp (Res.ownT rfl rfl rfl rfl), .tmp (Res.ownT rfl rfl rfl rfl), trivial⟩, (by repeat' first | exact trivial | exact Wk.refl _ | exact Wk.sl _ | refine And.intro ?_ ?_ | refine Wk.tupP ?_ | refine Wk.aggP ?_)⟩)
            | (rw [show recvU r sq ky bd tg a e = (r, [], e) from by unfold recvU; rw [if_neg (by omega), if_pos (by assumption)]]; first
            | exact ⟨Or.inr rfl, [_, _, _], ⟨.cell rfl ti62 (.whole rfl rfl rfl rfl rfl rfl) (.t _), .tmp (.t _), .tmp (.t _), trivial⟩, .refl _⟩
            | exact ⟨Or.inr rfl, [_, _, _], ⟨.cell rfl ti62 (.whole rfl rfl rfl rfl rfl rfl) (.t _), .tmp (.t _), .tmp (.t _), trivial⟩, (by repeat' first | exact trivial | exact Wk.refl _ | exact Wk.sl _ | refine And.intro ?_ ?_ | refine Wk.tupP ?_ | refine Wk.aggP ?_)⟩
            | exact ⟨Or.inr rfl, [_, _, _], ⟨.cell rfl ti62 (.whole rfl rfl rfl rfl rfl rfl) (.t _), .tmp (.t _), .tmp (Res.ownT rfl rfl rfl rfl), trivial⟩, .refl _⟩
            | exact ⟨Or.inr rfl, [_, _, _], ⟨.cell rfl ti62 (.whole rfl rfl rfl rfl rfl rfl) (.t _), .tmp (.t _), .tmp (Res.ownT rfl rfl rfl rfl), trivial⟩, (by repeat' first | exact trivial | exact Wk.refl _ | exact Wk.sl _ | refine And.intro ?_ ?_ | refine Wk.tupP ?_ | refine Wk.aggP ?_)⟩
            | exact ⟨Or.inr rfl, [_, _, _], ⟨.cell rfl ti62 (.whole rfl rfl rfl rfl rfl rfl) (.t _), .tmp (Res.ownT rfl rfl rfl rfl), .tmp (.t _), trivial⟩, .refl _⟩
            | exact ⟨Or.inr rfl, [_, _, _], ⟨.cell rfl ti62 (.whole rfl rfl rfl rfl rfl rfl) (.t _), .tmp (Res.ownT rfl rfl rfl rfl), .tmp (.t _), trivial⟩, (by repeat' first | exact trivial | exact Wk.refl _ | exact Wk.sl _ | refine And.intro ?_ ?_ | refine Wk.tupP ?_ | refine Wk.aggP ?_)⟩
            | exact ⟨Or.inr rfl, [_, _, _], ⟨.cell rfl ti62 (.whole rfl rfl rfl rfl rfl rfl) (.t _), .tmp (Res.ownT rfl rfl rfl rfl), .tmp (Res.ownT rfl rfl rfl rfl), trivial⟩, .refl _⟩
            | exact ⟨Or.inr rfl, [_, _, _], ⟨.cell rfl ti62 (.whole rfl rfl rfl rfl rfl rfl) (.t _), .tmp (Res.ownT rfl rfl rfl rfl), .tmp (Res.ownT rfl rfl rfl rfl), trivial⟩, (by repeat' first | exact trivial | exact Wk.refl _ | exact Wk.sl _ | refine And.intro ?_ ?_ | refine Wk.tupP ?_ | refine Wk.aggP ?_)⟩)
            | (rw [show recvU r sq ky bd tg a e = (⟨r.next, [], false, a⟩, [], 0) from by unfold recvU; rw [if_neg (by omega), if_neg (fun h => h (by assumption)), if_pos (by omega)]]; first
            | exact ⟨Or.inr rfl, [_, _, _], ⟨.cell rfl ti62 (.whole rfl rfl rfl rfl rfl rfl) (.t _), .tmp (.t _), .tmp (.t _), trivial⟩, .refl _⟩
            | exact ⟨Or.inr rfl, [_, _, _], ⟨.cell rfl ti62 (.whole rfl rfl rfl rfl rfl rfl) (.t _), .tmp (.t _), .tmp (.t _), trivial⟩, (by repeat' first | exact trivial | exact Wk.refl _ | exact Wk.sl _ | refine And.intro ?_ ?_ | refine Wk.tupP ?_ | refine Wk.aggP ?_)⟩
            | exact ⟨Or.inr rfl, [_, _, _], ⟨.cell rfl ti62 (.whole rfl rfl rfl rfl rfl rfl) (.t _), .tmp (.t _), .tmp (Res.ownT rfl rfl rfl rfl), trivial⟩, .refl _⟩
            | exact ⟨Or.inr rfl, [_, _, _], ⟨.cell rfl ti62 (.whole rfl rfl rfl rfl rfl rfl) (.t _), .tmp (.t _), .tmp (Res.ownT rfl rfl rfl rfl), trivial⟩, (by repeat' first | exact trivial | exact Wk.refl _ | exact Wk.sl _ | refine And.intro ?_ ?_ | refine Wk.tupP ?_ | refine Wk.aggP ?_)⟩
            | exact ⟨Or.inr rfl, [_, _, _], ⟨.cell rfl ti62 (.whole rfl rfl rfl rfl rfl rfl) (.t _), .tmp (Res.ownT rfl rfl rfl rfl), .tmp (.t _), trivial⟩, .refl _⟩
            | exact ⟨Or.inr rfl, [_, _, _], ⟨.cell rfl ti62 (.whole rfl rfl rfl rfl rfl rfl) (.t _), .tmp (Res.ownT rfl rfl rfl rfl), .tmp (.t _), trivial⟩, (by repeat' first | exact trivial | exact Wk.refl _ | exact Wk.sl _ | refine And.intro ?_ ?_ | refine Wk.tupP ?_ | refine Wk.aggP ?_)⟩
            | exact ⟨Or.inr rfl, [_, _, _], ⟨.cell rfl ti62 (.whole rfl rfl rfl rfl rfl rfl) (.t _), .tmp (Res.ownT rfl rfl rfl rfl), .tmp (Res.ownT rfl rfl rfl rfl), trivial⟩, .refl _⟩
            | exact ⟨Or.inr rfl, [_, _, _], ⟨.cell rfl ti62 (.whole rfl rfl rfl rfl rfl rfl) (.t _), .tmp (Res.ownT rfl rfl rfl rfl), .tmp (Res.ownT rfl rfl rfl rfl), trivial⟩, (by repeat' first | exact trivial | exact Wk.refl _ | exact Wk.sl _ | refine And.intro ?_ ?_ | refine Wk.tupP ?_ | refine Wk.aggP ?_)⟩)
            | (rw [show recvU r sq ky bd tg a e = (⟨r.next + dist2 sq r.next, [], false, a⟩, [], 0) from by unfold recvU; rw [if_neg (by omega), if_neg (fun h => h (by assumption)), if_neg (by omega)]]; first
            | exact ⟨Or.inr rfl, [_, _, _], ⟨.cell rfl ti62 (.whole rfl rfl rfl rfl rfl rfl) (.t _), .tmp (.t _), .tmp (.t _), trivial⟩, .refl _⟩
            | exact ⟨Or.inr rfl, [_, _, _], ⟨.cell rfl ti62 (.whole rfl rfl rfl rfl rfl rfl) (.t _), .tmp (.t _), .tmp (.t _), trivial⟩, (by repeat' first | exact trivial | exact Wk.refl _ | exact Wk.sl _ | refine And.intro ?_ ?_ | refine Wk.tupP ?_ | refine Wk.aggP ?_)⟩
            | exact ⟨Or.inr rfl, [_, _, _], ⟨.cell rfl ti62 (.whole rfl rfl rfl rfl rfl rfl) (.t _), .tmp (.t _), .tmp (Res.ownT rfl rfl rfl rfl), trivial⟩, .refl _⟩
            | exact ⟨Or.inr rfl, [_, _, _], ⟨.cell rfl ti62 (.whole rfl rfl rfl rfl rfl rfl) (.t _), .tmp (.t _), .tmp (Res.ownT rfl rfl rfl rfl), trivial⟩, (by repeat' first | exact trivial | exact Wk.refl _ | exact Wk.sl _ | refine And.intro ?_ ?_ | refine Wk.tupP ?_ | refine Wk.aggP ?_)⟩
            | exact ⟨Or.inr rfl, [_, _, _], ⟨.cell rfl ti62 (.whole rfl rfl rfl rfl rfl rfl) (.t _), .tmp (Res.ownT rfl rfl rfl rfl), .tmp (.t _), trivial⟩, .refl _⟩
            | exact ⟨Or.inr rfl, [_, _, _], ⟨.cell rfl ti62 (.whole rfl rfl rfl rfl rfl rfl) (.t _), .tmp (Res.ownT rfl rfl rfl rfl), .tmp (.t _), trivial⟩, (by repeat' first | exact trivial | exact Wk.refl _ | exact Wk.sl _ | refine And.intro ?_ ?_ | refine Wk.tupP ?_ | refine Wk.aggP ?_)⟩
            | exact ⟨Or.inr rfl, [_, _, _], ⟨.cell rfl ti62 (.whole rfl rfl rfl rfl rfl rfl) (.t _), .tmp (Res.ownT rfl rfl rfl rfl), .tmp (Res.ownT rfl rfl rfl rfl), trivial⟩, .refl _⟩
            | exact ⟨Or.inr rfl, [_, _, _], ⟨.cell rfl ti62 (.whole rfl rfl rfl rfl rfl rfl) (.t _), .tmp (Res.ownT rfl rfl rfl rfl), .tmp (Res.ownT rfl rfl rfl rfl), trivial⟩, (by repeat' first | exact trivial | exact Wk.refl _ | exact Wk.sl _ | refine And.intro ?_ ?_ | refine Wk.tupP ?_ | refine Wk.aggP ?_)⟩)
        · try simp only [decide_eq_true_eq, decide_eq_false_iff_not, beq_iff_eq, bne_iff_ne, bne_eq_false_iff_eq, beq_eq_false_iff_ne, Bool.not_eq_true, Bool.not_eq_false, Bool.not_eq_true', Bool.not_eq_false', ne_eq] at h4
          refine awp_seq ?_
          refine awp_rw rfl ?_
          refine RW.op rfl rfl (eff_fieldAddr rfl rfl tf30_2 (by decide) rfl rfl rfl (Nat.le_of_ble_eq_true rfl)) ?_
          refine RW.op rfl rfl (eff_load (y := .t _) rfl rfl ti4 rfl (.one rfl rfl rfl rfl)) ?_
          refine RW.op rfl rfl (eff_assign (v := .t _) rfl rfl rfl) ?_
          refine RW.nil ?_
          refine awp_cond rfl (fun _ => ?_) (fun h => nomatch h)
          refine awp_seq ?_
          refine awp_rw rfl ?_
          refine RW.op rfl rfl (eff_fieldAddr rfl rfl tf62_0 (by decide) rfl rfl rfl (Nat.le_of_ble_eq_true rfl)) ?_
          refine RW.op rfl rfl (eff_load (y := .t _) rfl rfl ti3 rfl (.one rfl rfl rfl rfl)) ?_
          refine RW.op rfl rfl (eff_move (v := .t _) rfl rfl rfl) ?_
          refine RW.op rfl rfl (eff_iop rfl rfl rfl rfl (iadd (by omega))) ?_
          refine RW.op rfl rfl (eff_load rfl rfl ti60 rfl (.whole rfl rfl rfl rfl rfl rfl)) ?_
          refine RW.op rfl rfl (eff_buildT (ys := [_, _, _, _, _]) rfl rfl tz62 tg62 rfl) ?_
          refine RW.store rfl rfl (eff_storeW (v := .t _) (els := [_]) (els' := [_]) rfl rfl ti62 rfl rfl rfl rfl rfl rfl rfl rfl rfl) ?_
          refine RW.op rfl rfl (eff_assign (v := .t _) rfl rfl rfl) ?_
          refine RW.op rfl rfl (eff_assign (v := .t _) rfl rfl rfl) ?_
          refine RW.nil ?_
          refine awp_ret ?_
          first
            | (rw [show recvU r sq ky bd tg a e = (r, [], 2) from by unfold recvU; rw [if_pos (by omega)]]; first
            | exact ⟨Or.inr rfl, [_, _, _], ⟨.cell rfl ti62 (.whole rfl rfl rfl rfl rfl rfl) (.t _), .tmp (.t _), .tmp (.t _), trivial⟩, .refl _⟩
            | exact ⟨Or.inr rfl, [_, _, _], ⟨.cell rfl ti62 (.whole rfl rfl rfl rfl rfl rfl) (.t _), .tmp (.t _), .tmp (.t _), trivial⟩, (by repeat' first | exact trivial | exact Wk.refl _ | exact Wk.sl _ | refine And.intro ?_ ?_ | refine Wk.tupP ?_ | refine Wk.aggP ?_)⟩
            | exact ⟨Or.inr rfl, [_, _, _], ⟨.cell rfl ti62 (.whole rfl rfl rfl rfl rfl rfl) (.t _), .tmp (.t _), .tmp (Res.ownT rfl rfl rfl rfl), trivial⟩, .refl _⟩
            | exact ⟨Or.inr rfl, [_, _, _], ⟨.cell rfl ti62 (.whole rfl rfl rfl rfl rfl rfl) (.t _), .tmp (.t _), .tmp (Res.ownT rfl rfl rfl rfl), trivial⟩, (by repeat' first | exact trivial | exact Wk.refl _ | exact Wk.sl _ | refine And.intro ?_ ?_ | refine Wk.tupP ?_ | refine Wk.aggP ?_)⟩
            | exact ⟨Or.inr rfl, [_, _, _], ⟨.cell rfl ti62 (.whole rfl rfl rfl rfl rfl rfl) (.t _), .tmp (Res.ownT rfl rfl rfl rfl), .tmp (.t _), trivial⟩, .refl _⟩
            | exact ⟨Or.inr rfl, [_, _, _], ⟨.cell rfl ti62 (.whole rfl rfl rfl rfl rfl rfl) (.t _), .tmp (Res.ownT rfl rfl rfl rfl), .tmp (.t _), trivial⟩, (by repeat' first | exact trivial | exact Wk.refl _ | exact Wk.sl _ | refine And.intro ?_ ?_ | refine Wk.tupP ?_ | refine Wk.aggP ?_)⟩
            | exact ⟨Or.inr rfl, [_, _, _], ⟨.cell rfl ti62 (.whole rfl rfl rfl rfl rfl rfl) (.t _), .tmp (Res.ownT rfl rfl rfl rfl), .tmp (Res.ownT rfl rfl rfl rfl), trivial⟩, .refl _⟩
            | exact ⟨Or.inr rfl, [_, _, _], ⟨.cell rfl ti62 (.whole rfl rfl rfl rfl rfl rfl) (.t _), .tmp (Res.ownT rfl rfl rfl rfl), .tmp (Res.ownT rfl rfl rfl rfl), trivial⟩, (by repeat' first | exact trivial | exact Wk.refl _ | exact Wk.sl _ | refine And.intro ?_ ?_ | refine Wk.tupP ?_ | refine Wk.aggP ?_)⟩)
            | (rw [show recvU r sq ky bd tg a e = (r, [], e) from by unfold recvU; rw [if_neg (by omega), if_pos (by assumption)]]; first
            | exact ⟨Or.inr rfl, [_, _, _], ⟨.cell rfl ti62 (.whole rfl rfl rfl rfl rfl rfl) (.t _), .tmp (.t _), .tmp (.t _), trivial⟩, .refl _⟩
            | exact ⟨Or.inr rfl, [_, _, _], ⟨.cell rfl ti62 (.whole rfl rfl rfl rfl rfl rfl) (.t _), .tmp (.t _), .tmp (.t _), trivial⟩, (by repeat' first | exact trivial | exact Wk.refl _ | exact Wk.sl _ | refine And.intro ?_ ?_ | refine Wk.tupP ?_ | refine Wk.aggP ?_)⟩
            | exact ⟨Or.inr rfl, [_, _, _], ⟨.cell rfl ti62 (.whole rfl rfl rfl rfl rfl rfl) (.t _), .tmp (.t _), .tmp (Res.ownT rfl rfl rfl rfl), trivial⟩, .refl _⟩
            | exact ⟨Or.inr rfl, [_, _, _], ⟨.cell rfl ti62 (.whole rfl rfl rfl rfl rfl rfl) (.t _), .tmp (.t _), .tmp (Res.ownT rfl rfl rfl rfl), trivial⟩, (by repeat' first | exact trivial | exact Wk.refl _ | exact Wk.sl _ | refine And.intro ?_ ?_ | refine Wk.tupP ?_ | refine Wk.aggP ?_)⟩
            | exact ⟨Or.inr rfl, [_, _, _], ⟨.cell rfl ti62 (.whole rfl rfl rfl rfl rfl rfl) (.t _), .tmp (Res.ownT rfl rfl rfl rfl), .tmp (.t _), trivial⟩, .refl _⟩
            | exact ⟨Or.inr rfl, [_, _, _], ⟨.cell rfl ti62 (.whole rfl rfl rfl rfl rfl rfl) (.t _), .tmp (Res.ownT rfl rfl rfl rfl), .tmp (.t _), trivial⟩, (by repeat' first | exact trivial | exact Wk.refl _ | exact Wk.sl _ | refine And.intro ?_ ?_ | refine Wk.tupP ?_ | refine Wk.aggP ?_)⟩
            | exact ⟨Or.inr rfl, [_, _, _], ⟨.cell rfl ti62 (.whole rfl rfl rfl rfl rfl rfl) (.t _), .tmp (Res.ownT rfl rfl rfl rfl), .tmp (Res.ownT rfl rfl rfl rfl), trivial⟩, .refl _⟩
            | exact ⟨Or.inr rfl, [_, _, _], ⟨.cell rfl ti62 (.whole rfl rfl rfl rfl rfl rfl) (.t _), .tmp (Res.ownT rfl rfl rfl rfl), .tmp (Res.ownT rfl rfl rfl rfl), trivial⟩, (by repeat' first | exact trivial | exact Wk.refl _ | exact Wk.sl _ | refine And.intro ?_ ?_ | refine Wk.tupP ?_ | refine Wk.aggP ?_)⟩)
            | (rw [show recvU r sq ky bd tg a e = (⟨r.next, [], false, a⟩, [], 0) from by unfold recvU; rw [if_neg (by omega), if_neg (fun h => h (by assumption)), if_pos (by omega)]]; first
            | exact ⟨Or.inr rfl, [_, _, _], ⟨.cell rfl ti62 (.whole rfl rfl rfl rfl rfl rfl) (.t _), .tmp (.t _), .tmp (.t _), trivial⟩, .refl _⟩
            | exact ⟨Or.inr rfl, [_, _, _], ⟨.cell rfl ti62 (.whole rfl rfl rfl rfl rfl rfl) (.t _), .tmp (.t _), .tmp (.t _), trivial⟩, (by repeat' first | exact trivial | exact Wk.refl _ | exact Wk.sl _ | refine And.intro ?_ ?_ | refine Wk.tupP ?_ | refine Wk.aggP ?_)⟩
            | exact ⟨Or.inr rfl, [_, _, _], ⟨.cell rfl ti62 (.whole rfl rfl rfl rfl rfl rfl) (.t _), .tmp (.t _), .tmp (Res.ownT rfl rfl rfl rfl), trivial⟩, .refl _⟩
            | exact ⟨Or.inr rfl, [_, _, _], ⟨.cell rfl ti62 (.whole rfl rfl rfl rfl rfl rfl) (.t _), .tmp (.t _), .tmp (Res.ownT rfl rfl rfl rfl), trivial⟩, (by repeat' first | exact trivial | exact Wk.refl _ | exact Wk.sl _ | refine And.intro ?_ ?_ | refine Wk.tupP ?_ | refine Wk.aggP ?_)⟩
            | exact ⟨Or.inr rfl, [_, _, _], ⟨.cell rfl ti62 (.whole rfl rfl rfl rfl rfl rfl) (.t _), .tmp (Res.ownT rfl rfl rfl rfl), .tmp (.t _), trivial⟩, .refl _⟩
            | exact ⟨Or.inr rfl, [_, _, _], ⟨.cell rfl ti62 (.whole rfl rfl rfl rfl rfl rfl) (.t _), .tmp (Res.ownT rfl rfl rfl rfl), .tmp (.t _), trivial⟩, (by repeat' first | exact trivial | exact Wk.refl _ | exact Wk.sl _ | refine And.intro ?_ ?_ | refine Wk.tupP ?_ | refine Wk.aggP ?_)⟩
            | exact ⟨Or.inr rfl, [_, _, _], ⟨.cell rfl ti62 (.whole rfl rfl rfl rfl rfl rfl) (.t _), .tmp (Res.ownT rfl rfl rfl rfl), .tmp (Res.ownT rfl rfl rfl rfl), trivial⟩, .refl _⟩
            | exact ⟨Or.inr rfl, [_, _, _], ⟨.cell rfl ti62 (.whole rfl rfl rfl rfl rfl rfl) (.t _), .tmp (Res.ownT rfl rfl rfl rfl), .tmp (Res.ownT rfl rfl rfl rfl), trivial⟩, (by repeat' first | exact trivial | exact Wk.refl _ | exact Wk.sl _ | refine And.intro ?_ ?_ | refine Wk.tupP ?_ | refine Wk.aggP ?_)⟩)
            | (rw [show recvU r sq ky bd tg a e = (⟨r.next + dist2 sq r.next, [], false, a⟩, [], 0) from by unfold recvU; rw [if_neg (by omega), if_neg (fun h => h (by assumption)), if_neg (by omega)]]; first
            | exact ⟨Or.inr rfl, [_, _, _], ⟨.cell rfl ti62 (.whole rfl rfl rfl rfl rfl rfl) (.t _), .tmp (.t _), .tmp (.t _), trivial⟩, .refl _⟩
            | exact ⟨Or.inr rfl, [_, _, _], ⟨.cell rfl ti62 (.whole rfl rfl rfl rfl rfl rfl) (.t _), .tmp (.t _), .tmp (.t _), trivial⟩, (by repeat' first | exact trivial | exact Wk.refl _ | exact Wk.sl _ | refine And.intro ?_ ?_ | refine Wk.tupP ?_ | refine Wk.aggP ?_)⟩
            | exact ⟨Or.inr rfl, [_, _, _], ⟨.cell rfl ti62 (.whole rfl rfl rfl rfl rfl rfl) (.t _), .tmp (.t _), .tmp (Res.ownT rfl rfl rfl rfl), trivial⟩, .refl _⟩
            | exact ⟨Or.inr rfl, [_, _, _], ⟨.cell rfl ti62 (.whole rfl rfl rfl rfl rfl rfl) (.t _), .tmp (.t _), .tmp (Res.ownT rfl rfl rfl rfl), trivial⟩, (by repeat' first | exact trivial | exact Wk.refl _ | exact Wk.sl _ | refine And.intro ?_ ?_ | refine Wk.tupP ?_ | refine Wk.aggP ?_)⟩
            | exact ⟨Or.inr rfl, [_, _, _], ⟨.cell rfl ti62 (.whole rfl rfl rfl rfl rfl rfl) (.t _), .tmp (Res.ownT rfl rfl rfl rfl), .tmp (.t _), trivial⟩, .refl _⟩
            | exact ⟨Or.inr rfl, [_, _, _], ⟨.cell rfl ti62 (.whole rfl rfl rfl rfl rfl rfl) (.t _), .tmp (Res.ownT rfl rfl rfl rfl), .tmp (.t _), trivial⟩, (by repeat' first | exact trivial | exact Wk.refl _ | exact Wk.sl _ | refine And.intro ?_ ?_ | refine Wk.tupP ?_ | refine Wk.aggP ?_)⟩
            | exact ⟨Or.inr rfl, [_, _, _], ⟨.cell rfl ti62 (.whole rfl rfl rfl rfl rfl rfl) (.t _), .tmp (Res.ownT rfl rfl rfl rfl), .tmp (Res.ownT rfl rfl rfl rfl), trivial⟩, .refl _⟩
            | exact ⟨Or.inr rfl, [_, _, _], ⟨.cell rfl ti62 (.whole rfl rfl rfl rfl rfl rfl) (.t _), .tmp (Res.ownT rfl rfl rfl rfl), .tmp (Res.ownT rfl rfl rfl rfl), trivial⟩, (by repeat' first | exact trivial | exact Wk.refl _ | exact Wk.sl _ | refine And.intro ?_ ?_ | refine Wk.tupP ?_ | refine Wk.aggP ?_)⟩)

def recvD (r : Rcv) (sq ky : Int) (bd : List Int) (tg : Int) (a : Lad) (e : Int) : Rcv × List (List Int) × Int :=
  if bd.length > 512 then (r, [], 2) else if e ≠ 0 then (r, [], e)
  else if r.locked then (⟨r.next, r.ahead, r.locked, a⟩, [], 31) else if dist2 sq r.next = 0 then (delR ⟨r.next, r.ahead, r.locked, a⟩, delB ⟨r.next, r.ahead, r.locked, a⟩ bd, 0)
  else if dist2 sq r.next < 16 then (⟨r.next, keepL ⟨r.next + dist2 sq r.next, ky, false, bd, tg⟩ r.ahead, r.locked, a⟩, [], 0)
  else if dist2 sq r.next < 128 then (⟨r.next, r.ahead, true, a⟩, [], 32) else (⟨r.next, r.ahead, r.locked, a⟩, [], 0)

theorem receiveD_ret (r : Rcv) (sq ky tg : Int) (bd : List Int) (a : Lad) (e : Int) (hr : RB r) (hk : 0 ≤ ky ∧ ky ≤ 1000000) (hb : Byt bd) (hbl : bd.length ≤ 800000) (ha : accL r.lad ky (signedF (Frm.mk sq ky false bd tg)) tg = (a, e)) : Ret Tryd.prog 37 [encV r, encF (Frm.mk sq ky false bd tg)] (.tup [encV (recvD r sq ky bd tg a e).1, .sl ((recvD r sq ky bd tg a e).2.1.map encBs) false, encI (recvD r sq ky bd tg a e).2.2]) := by
  have hsl := signedF_len (Frm.mk sq ky false bd tg) (by show bd.length ≤ 1000000; omega)
  have hsp := signedF_pos (Frm.mk sq ky false bd tg)
  have hrl := hr.len
  have hrn := hr.nx
  have hri := hr.ix
  have hrb := hr.bd
  have hd2 : dist2 sq r.next = (sq % 256 - r.next % 256) % 256 := rfl
  have hacc : Ret Tryd.prog 59 [encL r.lad, encI ky, .sl ((signedF (Frm.mk sq ky false bd tg)).map encBy) false, encU tg] (.tup [encL a, encI e]) := by
    have h := accept_ret r.lad ky tg (signedF (Frm.mk sq ky false bd tg)) (signedF_byt hb) (by simp only [] at hsl; omega) (List.length_pos_iff.1 hsp) hri hk
    rw [ha] at h; exact h
  refine ret_of_awp Tryd.func37 rfl (Nat.le_of_ble_eq_true rfl) ?_
  refine awp_seq ?_
  refine awp_rw rfl ?_
  refine RW.new rfl rfl (eff_boxK (v := .t _) (k := 5) (id := 2) rfl rfl rfl rfl rfl rfl) ?_
  refine RW.new rfl rfl (eff_boxK (v := .t _) (k := 5) (id := 3) rfl rfl rfl rfl rfl rfl) ?_
  refine RW.new rfl rfl (eff_allocK (k := 5) (id := 4) rfl rfl tz62 rfl rfl) ?_
  refine RW.op rfl rfl (eff_assign (v := .t _) rfl rfl rfl) ?_
  refine RW.op rfl rfl (eff_assign (v := .t _) rfl rfl rfl) ?_
  refine RW.nil ?_
  refine awp_seq ?_
  refine awp_rw rfl ?_
  refine RW.op rfl rfl (eff_fieldAddr rfl rfl tf62_1 (by decide) rfl rfl rfl (Nat.le_of_ble_eq_true rfl)) ?_
  refine RW.op rfl rfl (eff_load (y := .t _) rfl rfl ti34 rfl (.one rfl rfl rfl rfl)) ?_
  refine RW.new rfl rfl (eff_callG (cloneF_retG r.ahead (by omega)) co57 (fun id => id + 1000) rfl rfl rfl ⟨.t _, trivial⟩ (.own _ _ _ _ rfl rfl) rfl trivial ⟨⟨treeEls_t, .inr rfl⟩, trivial⟩) ?_
  refine RW.op rfl rfl (eff_fieldAddr rfl rfl tf62_1 (by decide) rfl rfl rfl (Nat.le_of_ble_eq_true rfl)) ?_
  refine RW.weak (weak_open (id := 2) rfl) rfl ?_
  refine RW.store rfl rfl (eff_storeA (v := .own _ _ _ _) (ys := [_, _, _, _, _]) (els := [_]) (els' := [_]) rfl rfl ti34 rfl rfl rfl rfl rfl rfl rfl (Nat.le_of_ble_eq_true rfl) rfl rfl rfl) ?_
  refine RW.nil ?_
  refine awp_seq ?_
  refine awp_seq ?_
  refine awp_rw rfl ?_
  refine RW.op rfl rfl (eff_fieldAddr rfl rfl tf62_1 (by decide) rfl rfl rfl (Nat.le_of_ble_eq_true rfl)) ?_
  refine RW.op rfl rfl (eff_load (y := .own _ _ _ _) rfl rfl ti34 rfl (.one rfl rfl rfl rfl)) ?_
  refine RW.op rfl rfl (eff_len rfl rfl te34 rfl rfl rfl) ?_
  refine RW.op rfl rfl (eff_move (v := .t _) rfl rfl rfl) ?_
  refine RW.nil ?_
  refine awp_block ?_
  refine awp_loopW (fun m s => ∃ (i : Nat), (i ≤ r.ahead.length) ∧ m = r.ahead.length - i ∧ s = ⟨126, [(2, .ptr 2 0 0 0), (3, .ptr 3 0 0 0), (4, .ptr 4 0 0 0), (5, .t (.sl [] true)), (6, .t (encI 0)), (19, .t (encI r.ahead.length)), (20, .t (encI (i : Nat)))], [(2, some ⟨5, 62, 0, [.agg [.t (encI r.next), .own 1005 1 0 r.ahead.length, .t (.bool r.locked), .t (encU r.lad.k), .t (encI r.lad.i)]]⟩), (3, some ⟨5, 30, 0, [.t (encF (Frm.mk sq ky false bd tg))]⟩), (4, some ⟨5, 62, 0, [.t z62]⟩), (1005, some ⟨5, 30, 1, (r.ahead.map encF).map .t⟩)]⟩) (_) (⟨_, weak_keep (n := 126) (fr' := [(2, .ptr 2 0 0 0), (3, .ptr 3 0 0 0), (4, .ptr 4 0 0 0), (5, .t (.sl [] true)), (6, .t (encI 0)), (19, .t (encI r.ahead.length)), (20, .t (encI (0 : Nat)))]) (st' := [(2, some ⟨5, 62, 0, [.agg [.t (encI r.next), .own 1005 1 0 r.ahead.length, .t (.bool r.locked), .t (encU r.lad.k), .t (encI r.lad.i)]]⟩), (3, some ⟨5, 30, 0, [.t (encF (Frm.mk sq ky false bd tg))]⟩), (4, some ⟨5, 62, 0, [.t z62]⟩), (1005, some ⟨5, 30, 1, (r.ahead.map encF).map .t⟩)]) ⟨rfl, rfl, rfl, rfl, rfl, rfl, rfl, rfl, rfl, rfl, rfl, rfl, rfl, rfl, trivial⟩ ⟨rfl, okE_one rfl, rfl, okE_one rfl, rfl, okE_one rfl, rfl, okE_t, trivial⟩, 0, (by omega), rfl, rfl⟩) ?_
  rintro m s ⟨i, hi, rfl, rfl⟩
  refine awp_seq ?_
  refine awp_rw rfl ?_
  refine RW.op rfl rfl (eff_iop rfl rfl rfl rfl rfl) ?_
  refine RW.nil ?_
  refine awp_seq ?_
  refine awp_cond rfl (fun h1 => ?_) (fun h1 => ?_)
  · try simp only [decide_eq_true_eq, decide_eq_false_iff_not, beq_iff_eq, bne_iff_ne, bne_eq_false_iff_eq, beq_eq_false_iff_ne, Bool.not_eq_true, Bool.not_eq_false, Bool.not_eq_true', Bool.not_eq_false', ne_eq] at h1
    refine awp_skip ?_
    refine awp_seq ?_
    refine awp_block ?_
    refine awp_seq ?_
    refine awp_rw rfl ?_
    have hil : i < r.ahead.length := by omega
    have hbl := hrb _ (List.getElem_mem hil)
    refine RW.op rfl rfl (eff_move (v := .t _) rfl rfl rfl) ?_
    refine RW.op rfl rfl (eff_assign (v := .t _) rfl rfl rfl) ?_
    refine RW.nil ?_
    refine awp_rd [(some 23, []), (some 24, []), (some 25, []), (some 26, []), (some 27, []), (some 28, []), (some 29, []), (some 30, []), (some 31, []), (some 32, []), (some 33, []), (some 34, []), (none, [1005])] [[], [0], [], [], [3], [], [3, 4, 5], [3, 4, 5, 6], [3, 4, 5, 6, 7], [3, 4, 5, 6, 7, 8], [0, 1, 2, 3, 4, 5, 6, 7, 8, 9], [0, 1, 2, 3, 4, 5, 6, 7, 8, 9, 10], [0, 1, 2, 3, 4, 5, 6, 7, 8, 9, 10, 11]] tm rfl rfl rfl rfl ?_
    refine RD.op rfl rfl rfl (eff_fieldAddr rfl rfl tf62_1 (by decide) rfl rfl rfl (Nat.le_of_ble_eq_true rfl)) ?_
    refine RD.op rfl rfl rfl (eff_load (y := .own _ _ _ _) rfl rfl ti34 rfl (.one rfl rfl rfl rfl)) ?_
    refine RD.op rfl rfl rfl (eff_move (v := .t _) rfl rfl rfl) ?_
    refine RD.op rfl rfl rfl (eff_fieldAddr rfl rfl tf62_1 (by decide) rfl rfl rfl (Nat.le_of_ble_eq_true rfl)) ?_
    refine RD.op rfl rfl rfl (eff_load (y := .own _ _ _ _) rfl rfl ti34 rfl (.one rfl rfl rfl rfl)) ?_
    refine RD.op rfl rfl rfl (eff_move (v := .t _) rfl rfl rfl) ?_
    refine RD.op rfl rfl rfl (eff_indexAddr rfl rfl te34 rfl rfl rfl rfl rfl rfl (by omega)) ?_
    refine RD.op rfl rfl rfl (eff_fieldAddr rfl rfl tf30_3 (by decide) rfl rfl rfl (Nat.le_of_ble_eq_true rfl)) ?_
    refine RD.op rfl rfl rfl (eff_load (y := .t (.sl ((r.ahead[i]'hil).body.map encBy) false)) rfl rfl ti27 rfl (.one rfl rfl (by rw [Nat.zero_add]; exact elF hil) rfl)) ?_
    refine RD.op rfl rfl rfl (eff_callT (cloneB_ret _ hbl) co58 rfl rfl rfl rfl) ?_
    refine RD.op rfl rfl rfl (eff_indexAddr rfl rfl te34 rfl rfl rfl rfl rfl rfl (by omega)) ?_
    refine RD.op rfl rfl rfl (eff_fieldAddr rfl rfl tf30_3 (by decide) rfl rfl rfl (Nat.le_of_ble_eq_true rfl)) ?_
    refine RD.store rfl rfl rfl (eff_storeS (v := .t _) (el := .t (encF (r.ahead[i]'hil))) (ys := [encI (r.ahead[i]'hil).seq, encI (r.ahead[i]'hil).key, .bool (r.ahead[i]'hil).unlock, .sl ((r.ahead[i]'hil).body.map encBy) false, .int .u64 (r.ahead[i]'hil).tag]) (els := (r.ahead.map encF).map .t) (els' := (r.ahead.map encF).map .t) rfl rfl ti27 rfl rfl rfl rfl rfl rfl (by rw [Nat.zero_add]; exact elF hil) (Nat.le_of_ble_eq_true rfl) rfl (by rw [Nat.zero_add]; exact setF_same hil)) ?_
    refine RD.nil ?_
    refine awp_rw rfl ?_
    refine RW.op rfl rfl (eff_iop rfl rfl rfl rfl (iadd (by omega))) ?_
    refine RW.op rfl rfl (eff_move (v := .t _) rfl rfl rfl) ?_
    refine RW.nil ?_
    refine ⟨_, ?_, _, weak_keep (n := 126) (fr' := [(2, .ptr 2 0 0 0), (3, .ptr 3 0 0 0), (4, .ptr 4 0 0 0), (5, .t (.sl [] true)), (6, .t (encI 0)), (19, .t (encI r.ahead.length)), (20, .t (encI ((i + 1) : Nat)))]) (st' := [(2, some ⟨5, 62, 0, [.agg [.t (encI r.next), .own 1005 1 0 r.ahead.length, .t (.bool r.locked), .t (encU r.lad.k), .t (encI r.lad.i)]]⟩), (3, some ⟨5, 30, 0, [.t (encF (Frm.mk sq ky false bd tg))]⟩), (4, some ⟨5, 62, 0, [.t z62]⟩), (1005, some ⟨5, 30, 1, (r.ahead.map encF).map .t⟩)]) ⟨rfl, rfl, rfl, rfl, rfl, rfl, rfl, rfl, rfl, rfl, rfl, rfl, rfl, rfl, trivial⟩ ⟨rfl, okE_one rfl, rfl, okE_one rfl, rfl, okE_one rfl, rfl, okE_t, trivial⟩, i + 1, (by omega), rfl, rfl⟩
    omega
  · try simp only [decide_eq_true_eq, decide_eq_false_iff_not, beq_iff_eq, bne_iff_ne, bne_eq_false_iff_eq, beq_eq_false_iff_ne, Bool.not_eq_true, Bool.not_eq_false, Bool.not_eq_true', Bool.not_eq_false', ne_eq] at h1
    refine awp_exit ?_
    refine awp_seq ?_
    refine awp_seq ?_
    show AWP _ _ _ _
    refine awp_weak (weak_frzE (n := 126) (fr' := [(2, .ptr 2 0 0 0), (3, .ptr 3 0 0 0), (4, .ptr 4 0 0 0), (5, .t (.sl [] true)), (6, .t (encI 0))]) (st' := [(2, some ⟨5, 62, 0, [.agg [.t (encI r.next), .t (.sl (r.ahead.map encF) false), .t (.bool r.locked), .t (encU r.lad.k), .t (encI r.lad.i)]]⟩), (3, some ⟨5, 30, 0, [.t (encF (Frm.mk sq ky false bd tg))]⟩), (4, some ⟨5, 62, 0, [.t z62]⟩)]) [(1005, some ⟨5, 30, 1, (r.ahead.map encF).map .t⟩)] ⟨rfl, trivial⟩ ⟨.ptr 2 0 0 0 rfl, .ptr 3 0 0 0 rfl, .ptr 4 0 0 0 rfl, .t _, .t _, trivial⟩ ⟨waS_agg rfl rfl ⟨⟨rfl, .t _⟩, ⟨rfl, .res (Res.ownM (xs := r.ahead.map encF) rfl (by simp)) (.refl _)⟩, ⟨rfl, .t _⟩, ⟨rfl, .t _⟩, ⟨rfl, .t _⟩, trivial⟩, waS_one rfl rfl rfl rfl, waS_one rfl rfl rfl rfl, trivial⟩) ?_
    refine awp_weak (weak_cells (id := 2) [.t (encV r)] rfl rfl rfl) ?_
    refine awp_rw rfl ?_
    refine RW.op rfl rfl (eff_fieldAddr rfl rfl tf30_3 (by decide) rfl rfl rfl (Nat.le_of_ble_eq_true rfl)) ?_
    refine RW.op rfl rfl (eff_load (y := .t _) rfl rfl ti27 rfl (.one rfl rfl rfl rfl)) ?_
    refine RW.op rfl rfl (eff_lenM rfl rfl te27 rfl) ?_
    refine RW.op rfl rfl (eff_iop rfl rfl rfl rfl rfl) ?_
    refine RW.nil ?_
    refine awp_cond rfl (fun h2 => ?_) (fun h2 => ?_)
    · try simp only [decide_eq_true_eq, decide_eq_false_iff_not, beq_iff_eq, bne_iff_ne, bne_eq_false_iff_eq, beq_eq_false_iff_ne, Bool.not_eq_true, Bool.not_eq_false, Bool.not_eq_true', Bool.not_eq_false', ne_eq] at h2
      refine awp_seq ?_
      refine awp_rw rfl ?_
      refine RW.op rfl rfl (eff_load rfl rfl ti62 rfl (.whole rfl rfl rfl rfl rfl rfl)) ?_
      refine RW.store rfl rfl (eff_storeW (v := .t _) (els := [_]) (els' := [_]) rfl rfl ti62 rfl rfl rfl rfl rfl rfl rfl rfl rfl) ?_
      refine RW.op rfl rfl (eff_assign (v := .t _) rfl rfl rfl) ?_
      refine RW.op rfl rfl (eff_assign (v := .t _) rfl rfl rfl) ?_
      refine RW.nil ?_
      refine awp_ret ?_
      first
        | (rw [show recvD r sq ky bd tg a e = (r, [], 2) from by unfold recvD; rw [if_pos (by omega)]]; first
        | exact ⟨Or.inr rfl, [_, _, _], ⟨.cell rfl ti62 (.whole rfl rfl rfl rfl rfl rfl) (.t _), .tmp (.t _), .tmp (.t _), trivial⟩, .refl _⟩
        | exact ⟨Or.inr rfl, [_, _, _], ⟨.cell rfl ti62 (.whole rfl rfl rfl rfl rfl rfl) (.t _), .tmp (.t _), .tmp (.t _), trivial⟩, (by repeat' first | exact trivial | exact Wk.refl _ | exact Wk.sl _ | refine And.intro ?_ ?_ | refine Wk.tupP ?_ | refine Wk.aggP ?_)⟩
        | exact ⟨Or.inr rfl, [_, _, _], ⟨.cell rfl ti62 (.whole rfl rfl rfl rfl rfl rfl) (.t _), .tmp (.t _), .tmp (Res.ownT rfl rfl rfl rfl), trivial⟩, .refl _⟩
        | exact ⟨Or.inr rfl, [_, _, _], ⟨.cell rfl ti62 (.whole rfl rfl rfl rfl rfl rfl) (.t _), .tmp (.t _), .tmp (Res.ownT rfl rfl rfl rfl), trivial⟩, (by repeat' first | exact trivial | exact Wk.refl _ | exact Wk.sl _ | refine And.intro ?_ ?_ | refine Wk.tupP ?_ | refine Wk.aggP ?_)⟩
        | exact ⟨Or.inr rfl, [_, _, _], ⟨.cell rfl ti62 (.whole rfl rfl rfl rfl rfl rfl) (.t _), .tmp (Res.ownT rfl rfl rfl rfl), .tmp (.t _), trivial⟩, .refl _⟩
        | exact ⟨Or.inr rfl, [_, _, _], ⟨.cell rfl ti62 (.whole rfl rfl rfl rfl rfl rfl) (.t _), .tmp (Res.ownT rfl rfl rfl rfl), .tmp (.t _), trivial⟩, (by repeat' first | exact trivial | exact Wk.refl _ | exact Wk.sl _ | refine And.intro ?_ ?_ | refine Wk.tupP ?_ | refine Wk.aggP ?_)⟩
        | exact ⟨Or.inr rfl, [_, _, _], ⟨.cell rfl ti62 (.whole rfl rfl rfl rfl rfl rfl) (.t _), .tmp (Res.ownT rfl rfl rfl rfl), .tmp (Res.ownT rfl rfl rfl rfl), trivial⟩, .refl _⟩
        | exact ⟨Or.inr rfl, [_, _, _], ⟨.cell rfl ti62 (.whole rfl rfl rfl rfl rfl rfl) (.t _), .tmp (Res.ownT rfl rfl rfl rfl), .tmp (Res.ownT rfl rfl rfl rfl), trivial⟩, (by repeat' first | exact trivial | exact Wk.refl _ | exact Wk.sl _ | refine And.intro ?_ ?_ | refine Wk.tupP ?_ | refine Wk.aggP ?_)⟩)
        | (rw [show recvD r sq ky bd tg a e = (r, [], e) from by unfold recvD; rw [if_neg (by omega), if_pos (by assumption)]]; first
        | exact ⟨Or.inr rfl, [_, _, _], ⟨.cell rfl ti62 (.whole rfl rfl rfl rfl rfl rfl) (.t _), .tmp (.t _), .tmp (.t _), trivial⟩, .refl _⟩
        | exact ⟨Or.inr rfl, [_, _, _], ⟨.cell rfl ti62 (.whole rfl rfl rfl rfl rfl rfl) (.t _), .tmp (.t _), .tmp (.t _), trivial⟩, (by repeat' first | exact trivial | exact Wk.refl _ | exact Wk.sl _ | refine And.intro ?_ ?_ | refine Wk.tupP ?_ | refine Wk.aggP ?_)⟩
        | exact ⟨Or.inr rfl, [_, _, _], ⟨.cell rfl ti62 (.whole rfl rfl rfl rfl rfl rfl) (.t _), .tmp (.t _), .tmp (Res.ownT rfl rfl rfl rfl), trivial⟩, .refl _⟩
        | exact ⟨Or.inr rfl, [_, _, _], ⟨.cell rfl ti62 (.whole rfl rfl rfl rfl rfl rfl) (.t _), .tmp (.t _), .tmp (Res.ownT rfl rfl rfl rfl), trivial⟩, (by repeat' first | exact trivial | exact Wk.refl _ | exact Wk.sl _ | refine And.intro ?_ ?_ | refine Wk.tupP ?_ | refine Wk.aggP ?_)⟩
        | exact ⟨Or.inr rfl, [_, _, _], ⟨.cell rfl ti62 (.whole rfl rfl rfl rfl rfl rfl) (.t _), .tmp (Res.ownT rfl rfl rfl rfl), .tmp (.t _), trivial⟩, .refl _⟩
        | exact ⟨Or.inr rfl, [_, _, _], ⟨.cell rfl ti62 (.whole rfl rfl rfl rfl rfl rfl) (.t _), .tmp (Res.ownT rfl rfl rfl rfl), .tmp (.t _), trivial⟩, (by repeat' first | exact trivial | exact Wk.refl _ | exact Wk.sl _ | refine And.intro ?_ ?_ | refine Wk.tupP ?_ | refine Wk.aggP ?_)⟩
        | exact ⟨Or.inr rfl, [_, _, _], ⟨.cell rfl ti62 (.whole rfl rfl rfl rfl rfl rfl) (.t _), .tmp (Res.ownT rfl rfl rfl rfl), .tmp (Res.ownT rfl rfl rfl rfl), trivial⟩, .refl _⟩
        | exact ⟨Or.inr rfl, [_, _, _], ⟨.cell rfl ti62 (.whole rfl rfl rfl rfl rfl rfl) (.t _), .tmp (Res.ownT rfl rfl rfl rfl), .tmp (Res.ownT rfl rfl rfl rfl), trivial⟩, (by repeat' first | exact trivial | exact Wk.refl _ | exact Wk.sl _ | refine And.intro ?_ ?_ | refine Wk.tupP ?_ | refine Wk.aggP ?_)⟩)
        | (rw [show recvD r sq ky bd tg a e = (⟨r.next, r.ahead, r.locked, a⟩, [], 31) from by unfold recvD; rw [if_neg (by omega), if_neg (fun h => h (by assumption)), if_pos (by assumption)]]; first
        | exact ⟨Or.inr rfl, [_, _, _], ⟨.cell rfl ti62 (.whole rfl rfl rfl rfl rfl rfl) (.t _), .tmp (.t _), .tmp (.t _), trivial⟩, .refl _⟩
        | exact ⟨Or.inr rfl, [_, _, _], ⟨.cell rfl ti62 (.whole rfl rfl rfl rfl rfl rfl) (.t _), .tmp (.t _), .tmp (.t _), trivial⟩, (by repeat' first | exact trivial | exact Wk.refl _ | exact Wk.sl _ | refine And.intro ?_ ?_ | refine Wk.tupP ?_ | refine Wk.aggP ?_)⟩
        | exact ⟨Or.inr rfl, [_, _, _], ⟨.cell rfl ti62 (.whole rfl rfl rfl rfl rfl rfl) (.t _), .tmp (.t _), .tmp (Res.ownT rfl rfl rfl rfl), trivial⟩, .refl _⟩
        | exact ⟨Or.inr rfl, [_, _, _], ⟨.cell rfl ti62 (.whole rfl rfl rfl rfl rfl rfl) (.t _), .tmp (.t _), .tmp (Res.ownT rfl rfl rfl rfl), trivial⟩, (by repeat' first | exact trivial | exact Wk.refl _ | exact Wk.sl _ | refine And.intro ?_ ?_ | refine Wk.tupP ?_ | refine Wk.aggP ?_)⟩
        | exact ⟨Or.inr rfl, [_, _, _], ⟨.cell rfl ti62 (.whole rfl rfl rfl rfl rfl rfl) (.t _), .tmp (Res.ownT rfl rfl rfl rfl), .tmp (.t _), trivial⟩, .refl _⟩
        | exact ⟨Or.inr rfl, [_, _, _], ⟨.cell rfl ti62 (.whole rfl rfl rfl rfl rfl rfl) (.t _), .tmp (Res.ownT rfl rfl rfl rfl), .tmp (.t _), trivial⟩, (by repeat' first | exact trivial | exact Wk.refl _ | exact Wk.sl _ | refine And.intro ?_ ?_ | refine Wk.tupP ?_ | refine Wk.aggP ?_)⟩
        | exact ⟨Or.inr rfl, [_, _, _], ⟨.cell rfl ti62 (.whole rfl rfl rfl rfl rfl rfl) (.t _), .tmp (Res.ownT rfl rfl rfl rfl), .tmp (Res.ownT rfl rfl rfl rfl), trivial⟩, .refl _⟩
        | exact ⟨Or.inr rfl, [_, _, _], ⟨.cell rfl ti62 (.whole rfl rfl rfl rfl rfl rfl) (.t _), .tmp (Res.ownT rfl rfl rfl rfl), .tmp (Res.ownT rfl rfl rfl rfl), trivial⟩, (by repeat' first | exact trivial | exact Wk.refl _ | exact Wk.sl _ | refine And.intro ?_ ?_ | refine Wk.tupP ?_ | refine Wk.aggP ?_)⟩)
        | (rw [show recvD r sq ky bd tg a e = (delR ⟨r.next, r.ahead, r.locked, a⟩, delB ⟨r.next, r.ahead, r.locked, a⟩ bd, 0) from by unfold recvD; rw [if_neg (by omega), if_neg (fun h => h (by assumption)), if_neg (by simp_all), if_pos (by omega)]]; first
        | exact ⟨Or.inr rfl, [_, _, _], ⟨.cell rfl ti62 (.whole rfl rfl rfl rfl rfl rfl) (.t _), .tmp (.t _), .tmp (.t _), trivial⟩, .refl _⟩
        | exact ⟨Or.inr rfl, [_, _, _], ⟨.cell rfl ti62 (.whole rfl rfl rfl rfl rfl rfl) (.t _), .tmp (.t _), .tmp (.t _), trivial⟩, (by repeat' first | exact trivial | exact Wk.refl _ | exact Wk.sl _ | refine And.intro ?_ ?_ | refine Wk.tupP ?_ | refine Wk.aggP ?_)⟩
        | exact ⟨Or.inr rfl, [_, _, _], ⟨.cell rfl ti62 (.whole rfl rfl rfl rfl rfl rfl) (.t _), .tmp (.t _), .tmp (Res.ownT rfl rfl rfl rfl), trivial⟩, .refl _⟩
        | exact ⟨Or.inr rfl, [_, _, _], ⟨.cell rfl ti62 (.whole rfl rfl rfl rfl rfl rfl) (.t _), .tmp (.t _), .tmp (Res.ownT rfl rfl rfl rfl), trivial⟩, (by repeat' first | exact trivial | exact Wk.refl _ | exact Wk.sl _ | refine And.intro ?_ ?_ | refine Wk.tupP ?_ | refine Wk.aggP ?_)⟩
        | exact ⟨Or.inr rfl, [_, _, _], ⟨.cell rfl ti62 (.whole rfl rfl rfl rfl rfl rfl) (.t _), .tmp (Res.ownT rfl rfl rfl rfl), .tmp (.t _), trivial⟩, .refl _⟩
        | exact ⟨Or.inr rfl, [_, _, _], ⟨.cell rfl ti62 (.whole rfl rfl rfl rfl rfl rfl) (.t _), .tmp (Res.ownT rfl rfl rfl rfl), .tmp (.t _), trivial⟩, (by repeat' first | exact trivial | exact Wk.refl _ | exact Wk.sl _ | refine And.intro ?_ ?_ | refine Wk.tupP ?_ | refine Wk.aggP ?_)⟩
        | exact ⟨Or.inr rfl, [_, _, _], ⟨.cell rfl ti62 (.whole rfl rfl rfl rfl rfl rfl) (.t _), .tmp (Res.ownT rfl rfl rfl rfl), .tmp (Res.ownT rfl rfl rfl rfl), trivial⟩, .refl _⟩
        | exact ⟨Or.inr rfl, [_, _, _], ⟨.cell rfl ti62 (.whole rfl rfl rfl rfl rfl rfl) (.t _), .tmp (Res.ownT rfl rfl rfl rfl), .tmp (Res.ownT rfl rfl rfl rfl), trivial⟩, (by repeat' first | exact trivial | exact Wk.refl _ | exact Wk.sl _ | refine And.intro ?_ ?_ | refine Wk.tupP ?_ | refine Wk.aggP ?_)⟩)
        | (rw [show recvD r sq ky bd tg a e = (⟨r.next, keepL ⟨r.next + dist2 sq r.next, ky, false, bd, tg⟩ r.ahead, r.locked, a⟩, [], 0) from by unfold recvD; rw [if_neg (by omega), if_neg (fun h => h (by assumption)), if_neg (by simp_all), if_neg (by omega), if_pos (by omega)]]; first
        | exact ⟨Or.inr rfl, [_, _, _], ⟨.cell rfl ti62 (.whole rfl rfl rfl rfl rfl rfl) (.t _), .tmp (.t _), .tmp (.t _), trivial⟩, .refl _⟩
        | exact ⟨Or.inr rfl, [_, _, _], ⟨.cell rfl ti62 (.whole rfl rfl rfl rfl rfl rfl) (.t _), .tmp (.t _), .tmp (.t _), trivial⟩, (by repeat' first | exact trivial | exact Wk.refl _ | exact Wk.sl _ | refine And.intro ?_ ?_ | refine Wk.tupP ?_ | refine Wk.aggP ?_)⟩
        | exact ⟨Or.inr rfl, [_, _, _], ⟨.cell rfl ti62 (.whole rfl rfl rfl rfl rfl rfl) (.t _), .tmp (.t _), .tmp (Res.ownT rfl rfl rfl rfl), trivial⟩, .refl _⟩
        | exact ⟨Or.inr rfl, [_, _, _], ⟨.cell rfl ti62 (.whole rfl rfl rfl rfl rfl rfl) (.t _), .tmp (.t _), .tmp (Res.ownT rfl rfl rfl rfl), trivial⟩, (by repeat' first | exact trivial | exact Wk.refl _ | exact Wk.sl _ | refine And.intro ?_ ?_ | refine Wk.tupP ?_ | refine Wk.aggP ?_)⟩
        | exact ⟨Or.inr rfl, [_, _, _], ⟨.cell rfl ti62 (.whole rfl rfl rfl rfl rfl rfl) (.t _), .tmp (Res.ownT rfl rfl rfl rfl), .tmp (.t _), trivial⟩, .refl _⟩
        | exact ⟨Or.inr rfl, [_, _, _], ⟨.cell rfl ti62 (.whole rfl rfl rfl rfl rfl rfl) (.t _), .tmp (Res.ownT rfl rfl rfl rfl), .tmp (.t _), trivial⟩, (by repeat' first | exact trivial | exact Wk.refl _ | exact Wk.sl _ | refine And.intro ?_ ?_ | refine Wk.tupP ?_ | refine Wk.aggP ?_)⟩
        | exact ⟨Or.inr rfl, [_, _, _], ⟨.cell rfl ti62 (.whole rfl rfl rfl rfl rfl rfl) (.t _), .tmp (Res.ownT rfl rfl rfl rfl), .tmp (Res.ownT rfl rfl rfl rfl), trivial⟩, .refl _⟩
        | exact ⟨Or.inr rfl, [_, _, _], ⟨.cell rfl ti62 (.whole rfl rfl rfl rfl rfl rfl) (.t _), .tmp (Res.ownT rfl rfl rfl rfl), .tmp (Res.ownT rfl rfl rfl rfl), trivial⟩, (by repeat' first | exact trivial | exact Wk.refl _ | exact Wk.sl _ | refine And.intro ?_ ?_ | refine Wk.tupP ?_ | refine Wk.aggP ?_)⟩)
        | (rw [show recvD r sq ky bd tg a e = (⟨r.next, r.ahead, true, a⟩, [], 32) from by unfold recvD; rw [if_neg (by omega), if_neg (fun h => h (by assumption)), if_neg (by simp_all), if_neg (by omega), if_neg (by omega), if_pos (by omega)]]; first
        | exact ⟨Or.inr rfl, [_, _, _], ⟨.cell rfl ti62 (.whole rfl rfl rfl rfl rfl rfl) (.t _), .tmp (.t _), .tmp (.t _), trivial⟩, .refl _⟩
        | exact ⟨Or.inr rfl, [_, _, _], ⟨.cell rfl ti62 (.whole rfl rfl rfl rfl rfl rfl) (.t _), .tmp (.t _), .tmp (.t _), trivial⟩, (by repeat' first | exact trivial | exact Wk.refl _ | exact Wk.sl _ | refine And.intro ?_ ?_ | refine Wk.tupP ?_ | refine Wk.aggP ?_)⟩
        | exact ⟨Or.inr rfl, [_, _, _], ⟨.cell rfl ti62 (.whole rfl rfl rfl rfl rfl rfl) (.t _), .tmp (.t _), .tmp (Res.ownT rfl rfl rfl rfl), trivial⟩, .refl _⟩
        | exact ⟨Or.inr rfl, [_, _, _], ⟨.cell rfl ti62 (.whole rfl rfl rfl rfl rfl rfl) (.t _), .tmp (.t _), .tmp (Res.ownT rfl rfl rfl rfl), trivial⟩, (by repeat' first | exact trivial | exact Wk.refl _ | exact Wk.sl _ | refine And.intro ?_ ?_ | refine Wk.tupP ?_ | refine Wk.aggP ?_)⟩
        | exact ⟨Or.inr rfl, [_, _, _], ⟨.cell rfl ti62 (.whole rfl rfl rfl rfl rfl rfl) (.t _), .tmp (Res.ownT rfl rfl rfl rfl), .tmp (.t _), trivial⟩, .refl _⟩
        | exact ⟨Or.inr rfl, [_, _, _], ⟨.cell rfl ti62 (.whole rfl rfl rfl rfl rfl rfl) (.t _), .tmp (Res.ownT rfl rfl rfl rfl), .tmp (.t _), trivial⟩, (by repeat' first | exact trivial | exact Wk.refl _ | exact Wk.sl _ | refine And.intro ?_ ?_ | refine Wk.tupP ?_ | refine Wk.aggP ?_)⟩
        | exact ⟨Or.inr rfl, [_, _, _], ⟨.cell rfl ti62 (.whole rfl rfl rfl rfl rfl rfl) (.t _), .tmp (Res.ownT rfl rfl rfl rfl), .tmp (Res.ownT rfl rfl rfl rfl), trivial⟩, .refl _⟩
        | exact ⟨Or.inr rfl, [_, _, _], ⟨.cell rfl ti62 (.whole rfl rfl rfl rfl rfl rfl) (.t _), .tmp (Res.ownT rfl rfl rfl rfl), .tmp (Res.ownT rfl rfl rfl rfl), trivial⟩, (by repeat' first | exact trivial | exact Wk.refl _ | exact Wk.sl _ | refine And.intro ?_ ?_ | refine Wk.tupP ?_ | refine Wk.aggP ?_)⟩)
        | (rw [show recvD r sq ky bd tg a e = (⟨r.next, r.ahead, r.locked, a⟩, [], 0) from by unfold recvD; rw [if_neg (by omega), if_neg (fun h => h (by assumption)), if_neg (by simp_all), if_neg (by omega), if_neg (by omega), if_neg (by omega)]]; first
        | exact ⟨Or.inr rfl, [_, _, _], ⟨.cell rfl ti62 (.whole rfl rfl rfl rfl rfl rfl) (.t _), .tmp (.t _), .tmp (.t _), trivial⟩, .refl _⟩
        | exact ⟨Or.inr rfl, [_, _, _], ⟨.cell rfl ti62 (.whole rfl rfl rfl rfl rfl rfl) (.t _), .tmp (.t _), .tmp (.t _), trivial⟩, (by repeat' first | exact trivial | exact Wk.refl _ | exact Wk.sl _ | refine And.intro ?_ ?_ | refine Wk.tupP ?_ | refine Wk.aggP ?_)⟩
        | exact ⟨Or.inr rfl, [_, _, _], ⟨.cell rfl ti62 (.whole rfl rfl rfl rfl rfl rfl) (.t _), .tmp (.t _), .tmp (Res.ownT rfl rfl rfl rfl), trivial⟩, .refl _⟩
        | exact ⟨Or.inr rfl, [_, _, _], ⟨.cell rfl ti62 (.whole rfl rfl rfl rfl rfl rfl) (.t _), .tmp (.t _), .tmp (Res.ownT rfl rfl rfl rfl), trivial⟩, (by repeat' first | exact trivial | exact Wk.refl _ | exact Wk.sl _ | refine And.intro ?_ ?_ | refine Wk.tupP ?_ | refine Wk.aggP ?_)⟩
        | exact ⟨Or.inr rfl, [_, _, _], ⟨.cell rfl ti62 (.whole rfl rfl rfl rfl rfl rfl) (.t _), .tmp (Res.ownT rfl rfl rfl rfl), .tmp (.t _), trivial⟩, .refl _⟩
        | exact ⟨Or.inr rfl, [_, _, _], ⟨.cell rfl ti62 (.whole rfl rfl rfl rfl rfl rfl) (.t _), .tmp (Res.ownT rfl rfl rfl rfl), .tmp (.t _), trivial⟩, (by repeat' first | exact trivial | exact Wk.refl _ | exact Wk.sl _ | refine And.intro ?_ ?_ | refine Wk.tupP ?_ | refine Wk.aggP ?_)⟩
        | exact ⟨Or.inr rfl, [_, _, _], ⟨.cell rfl ti62 (.whole rfl rfl rfl rfl rfl rfl) (.t _), .tmp (Res.ownT rfl rfl rfl rfl), .tmp (Res.ownT rfl rfl rfl rfl), trivial⟩, .refl _⟩
        | exact ⟨Or.inr rfl, [_, _, _], ⟨.cell rfl ti62 (.whole rfl rfl rfl rfl rfl rfl) (.t _), .tmp (Res.ownT rfl rfl rfl rfl), .tmp (Res.ownT rfl rfl rfl rfl), trivial⟩, (by repeat' first | exact trivial | exact Wk.refl _ | exact Wk.sl _ | refine And.intro ?_ ?_ | refine Wk.tupP ?_ | refine Wk.aggP ?_)⟩)
    · try simp only [decide_eq_true_eq, decide_eq_false_iff_not, beq_iff_eq, bne_iff_ne, bne_eq_false_iff_eq, beq_eq_false_iff_ne, Bool.not_eq_true, Bool.not_eq_false, Bool.not_eq_true', Bool.not_eq_false', ne_eq] at h2
      refine awp_skip ?_
      refine awp_seq ?_
      refine awp_rd [(some 42, []), (some 43, []), (some 44, []), (some 45, []), (some 46, []), (some 47, []), (some 48, []), (some 49, []), (some 50, []), (some 41, []), (some 51, []), (some 52, []), (some 8, [8]), (none, [8]), (some 9, [])] [[], [0], [], [2], [], [4], [], [6], [0, 1, 2, 3, 4, 5, 6, 7], [0, 1, 2, 3, 4, 5, 6, 7, 8], [0, 1, 2, 3, 4, 5, 6, 7, 8, 9], [0, 1, 2, 3, 4, 5, 6, 7, 8, 9], [], [0, 1, 2, 3, 4, 5, 6, 7, 8, 9, 10, 12], [0, 1, 2, 3, 4, 5, 6, 7, 8, 9, 10, 11, 12, 13]] tm rfl rfl rfl rfl ?_
      refine RD.op rfl rfl rfl (eff_fieldAddr rfl rfl tf62_3 (by decide) rfl rfl rfl (Nat.le_of_ble_eq_true rfl)) ?_
      refine RD.op rfl rfl rfl (eff_loadS (ys := [_, _]) rfl rfl ti60 rfl rfl rfl rfl rfl rfl) ?_
      refine RD.op rfl rfl rfl (eff_fieldAddr rfl rfl tf30_1 (by decide) rfl rfl rfl (Nat.le_of_ble_eq_true rfl)) ?_
      refine RD.op rfl rfl rfl (eff_load (y := .t _) rfl rfl ti3 rfl (.one rfl rfl rfl rfl)) ?_
      refine RD.op rfl rfl rfl (eff_load rfl rfl ti30 rfl (.whole rfl rfl rfl rfl rfl rfl)) ?_
      refine RD.op rfl rfl rfl (eff_callT (signed_ret (Frm.mk sq ky false bd tg) (by show bd.length ≤ 900000; omega)) co36 rfl rfl rfl rfl) ?_
      refine RD.op rfl rfl rfl (eff_fieldAddr rfl rfl tf30_4 (by decide) rfl rfl rfl (Nat.le_of_ble_eq_true rfl)) ?_
      refine RD.op rfl rfl rfl (eff_load (y := .t _) rfl rfl ti28 rfl (.one rfl rfl rfl rfl)) ?_
      refine RD.op rfl rfl rfl (eff_callT (hacc) co59 rfl rfl rfl rfl) ?_
      refine RD.op rfl rfl rfl (eff_move (v := .t _) rfl rfl rfl) ?_
      refine RD.op rfl rfl rfl (eff_extract rfl rfl rfl rfl) ?_
      refine RD.op rfl rfl rfl (eff_extract rfl rfl rfl rfl) ?_
      refine RD.new rfl rfl rfl (eff_allocK (k := 2) (id := 8) rfl rfl tz60 rfl rfl) ?_
      refine RD.store rfl rfl rfl (eff_storeW (v := .t _) (els := [_]) (els' := [_]) rfl rfl ti60 rfl rfl rfl rfl rfl rfl rfl rfl rfl) ?_
      refine RD.op rfl rfl rfl (eff_assign (v := .t _) rfl rfl rfl) ?_
      refine RD.nil ?_
      refine awp_seq ?_
      refine awp_seq ?_
      refine awp_rw rfl ?_
      refine RW.op rfl rfl (eff_move (v := .t _) rfl rfl rfl) ?_
      refine RW.op rfl rfl (eff_iop rfl rfl rfl rfl rfl) ?_
      refine RW.nil ?_
      refine awp_cond rfl (fun h3 => ?_) (fun h3 => ?_)
      · try simp only [decide_eq_true_eq, decide_eq_false_iff_not, beq_iff_eq, bne_iff_ne, bne_eq_false_iff_eq, beq_eq_false_iff_ne, Bool.not_eq_true, Bool.not_eq_false, Bool.not_eq_true', Bool.not_eq_false', ne_eq] at h3
        refine awp_seq ?_
        refine awp_rw rfl ?_
        refine RW.op rfl rfl (eff_load rfl rfl ti62 rfl (.whole rfl rfl rfl rfl rfl rfl)) ?_
        refine RW.op rfl rfl (eff_move (v := .t _) rfl rfl rfl) ?_
        refine RW.store rfl rfl (eff_storeW (v := .t _) (els := [_]) (els' := [_]) rfl rfl ti62 rfl rfl rfl rfl rfl rfl rfl rfl rfl) ?_
        refine RW.op rfl rfl (eff_assign (v := .t _) rfl rfl rfl) ?_
        refine RW.op rfl rfl (eff_assign (v := .t _) rfl rfl rfl) ?_
        refine RW.nil ?_
        refine awp_ret ?_
        first
          | (rw [show recvD r sq ky bd tg a e = (r, [], 2) from by unfold recvD; rw [if_pos (by omega)]]; first
          | exact ⟨Or.inr rfl, [_, _, _], ⟨.cell rfl ti62 (.whole rfl rfl rfl rfl rfl rfl) (.t _), .tmp (.t _), .tmp (.t _), trivial⟩, .refl _⟩
          | exact ⟨Or.inr rfl, [_, _, _], ⟨.cell rfl ti62 (.whole rfl rfl rfl rfl rfl rfl) (.t _), .tmp (.t _), .tmp (.t _), trivial⟩, (by repeat' first | exact trivial | exact Wk.refl _ | exact Wk.sl _ | refine And.intro ?_ ?_ | refine Wk.tupP ?_ | refine Wk.aggP ?_)⟩
          | exact ⟨Or.inr rfl, [_, _, _], ⟨.cell rfl ti62 (.whole rfl rfl rfl rfl rfl rfl) (.t _), .tmp (.t _), .tmp (Res.ownT rfl rfl rfl rfl), trivial⟩, .refl _⟩
          | exact ⟨Or.inr rfl, [_, _, _], ⟨.cell rfl ti62 (.whole rfl rfl rfl rfl rfl rfl) (.t _), .tmp (.t _), .tmp (Res.ownT rfl rfl rfl rfl), trivial⟩, (by repeat' first | exact trivial | exact Wk.refl _ | exact Wk.sl _ | refine And.intro ?_ ?_ | refine Wk.tupP ?_ | refine Wk.aggP ?_)⟩
          | exact ⟨Or.inr rfl, [_, _, _], ⟨.cell rfl ti62 (.whole rfl rfl rfl rfl rfl rfl) (.t _), .tmp (Res.ownT rfl rfl rfl rfl), .tmp (.t _), trivial⟩, .refl _⟩
          | exact ⟨Or.inr rfl, [_, _, _], ⟨.cell rfl ti62 (.whole rfl rfl rfl rfl rfl rfl) (.t _), .tmp (Res.ownT rfl rfl rfl rfl), .tmp (.t _), trivial⟩, (by repeat' first | exact trivial | exact Wk.refl _ | exact Wk.sl _ | refine And.intro ?_ ?_ | refine Wk.tupP ?_ | refine Wk.aggP ?_)⟩
          | exact ⟨Or.inr rfl, [_, _, _], ⟨.cell rfl ti62 (.whole rfl rfl rfl rfl rfl rfl) (.t _), .tmp (Res.ownT rfl rfl rfl rfl), .tmp (Res.ownT rfl rfl rfl rfl), trivial⟩, .refl _⟩
          | exact ⟨Or.inr rfl, [_, _, _], ⟨.cell rfl ti62 (.whole rfl rfl rfl rfl rfl rfl) (.t _), .tmp (Res.ownT rfl rfl rfl rfl), .tmp (Res.ownT rfl rfl rfl rfl), trivial⟩, (by repeat' first | exact trivial | exact Wk.refl _ | exact Wk.sl _ | refine And.intro ?_ ?_ | refine Wk.tupP ?_ | refine Wk.aggP ?_)⟩)
          | (rw [show recvD r sq ky bd tg a e = (r, [], e) from by unfold recvD; rw [if_neg (by omega), if_pos (by assumption)]]; first
          | exact ⟨Or.inr rfl, [_, _, _], ⟨.cell rfl ti62 (.whole rfl rfl rfl rfl rfl rfl) (.t _), .tmp (.t _), .tmp (.t _), trivial⟩, .refl _⟩
          | exact ⟨Or.inr rfl, [_, _, _], ⟨.cell rfl ti62 (.whole rfl rfl rfl rfl rfl rfl) (.t _), .tmp (.t _), .tmp (.t _), trivial⟩, (by repeat' first | exact trivial | exact Wk.refl _ | exact Wk.sl _ | refine And.intro ?_ ?_ | refine Wk.tupP ?_ | refine Wk.aggP ?_)⟩
          | exact ⟨Or.inr rfl, [_, _, _], ⟨.cell rfl ti62 (.whole rfl rfl rfl rfl rfl rfl) (.t _), .tmp (.t _), .tmp (Res.ownT rfl rfl rfl rfl), trivial⟩, .refl _⟩
          | exact ⟨Or.inr rfl, [_, _, _], ⟨.cell rfl ti62 (.whole rfl rfl rfl rfl rfl rfl) (.t _), .tmp (.t _), .tmp (Res.ownT rfl rfl rfl rfl), trivial⟩, (by repeat' first | exact trivial | exact Wk.refl _ | exact Wk.sl _ | refine And.intro ?_ ?_ | refine Wk.tupP ?_ | refine Wk.aggP ?_)⟩
          | exact ⟨Or.inr rfl, [_, _, _], ⟨.cell rfl ti62 (.whole rfl rfl rfl rfl rfl rfl) (.t _), .tmp (Res.ownT rfl rfl rfl rfl), .tmp (.t _), trivial⟩, .refl _⟩
          | exact ⟨Or.inr rfl, [_, _, _], ⟨.cell rfl ti62 (.whole rfl rfl rfl rfl rfl rfl) (.t _), .tmp (Res.ownT rfl rfl rfl rfl), .tmp (.t _), trivial⟩, (by repeat' first | exact trivial | exact Wk.refl _ | exact Wk.sl _ | refine And.intro ?_ ?_ | refine Wk.tupP ?_ | refine Wk.aggP ?_)⟩
          | exact ⟨Or.inr rfl, [_, _, _], ⟨.cell rfl ti62 (.whole rfl rfl rfl rfl rfl rfl) (.t _), .tmp (Res.ownT rfl rfl rfl rfl), .tmp (Res.ownT rfl rfl rfl rfl), trivial⟩, .refl _⟩
          | exact ⟨Or.inr rfl, [_, _, _], ⟨.cell rfl ti62 (.whole rfl rfl rfl rfl rfl rfl) (.t _), .tmp (Res.ownT rfl rfl rfl rfl), .tmp (Res.ownT rfl rfl rfl rfl), trivial⟩, (by repeat' first | exact trivial | exact Wk.refl _ | exact Wk.sl _ | refine And.intro ?_ ?_ | refine Wk.tupP ?_ | refine Wk.aggP ?_)⟩)
          | (rw [show recvD r sq ky bd tg a e = (⟨r.next, r.ahead, r.locked, a⟩, [], 31) from by unfold recvD; rw [if_neg (by omega), if_neg (fun h => h (by assumption)), if_pos (by assumption)]]; first
          | exact ⟨Or.inr rfl, [_, _, _], ⟨.cell rfl ti62 (.whole rfl rfl rfl rfl rfl rfl) (.t _), .tmp (.t _), .tmp (.t _), trivial⟩, .refl _⟩
          | exact ⟨Or.inr rfl, [_, _, _], ⟨.cell rfl ti62 (.whole rfl rfl rfl rfl rfl rfl) (.t _), .tmp (.t _), .tmp (.t _), trivial⟩, (by repeat' first | exact trivial | exact Wk.refl _ | exact Wk.sl _ | refine And.intro ?_ ?_ | refine Wk.tupP ?_ | refine Wk.aggP ?_)⟩
          | exact ⟨Or.inr rfl, [_, _, _], ⟨.cell rfl ti62 (.whole rfl rfl rfl rfl rfl rfl) (.t _), .tmp (.t _), .tmp (Res.ownT rfl rfl rfl rfl), trivial⟩, .refl _⟩
          | exact ⟨Or.inr rfl, [_, _, _], ⟨.cell rfl ti62 (.whole rfl rfl rfl rfl rfl rfl) (.t _), .tmp (.t _), .tmp (Res.ownT rfl rfl rfl rfl), trivial⟩, (by repeat' first | exact trivial | exact Wk.refl _ | exact Wk.sl _ | refine And.intro ?_ ?_ | refine Wk.tupP ?_ | refine Wk.aggP ?_)⟩
          | exact ⟨Or.inr rfl, [_, _, _], ⟨.cell rfl ti62 (.whole rfl rfl rfl rfl rfl rfl) (.t _), .tmp (Res.ownT rfl rfl rfl rfl), .tmp (.t _), trivial⟩, .refl _⟩
          | exact ⟨Or.inr rfl, [_, _, _], ⟨.cell rfl ti62 (.whole rfl rfl rfl rfl rfl rfl) (.t _), .tmp (Res.ownT rfl rfl rfl rfl), .tmp (.t _), trivial⟩, (by repeat' first | exact trivial | exact Wk.refl _ | exact Wk.sl _ | refine And.intro ?_ ?_ | refine Wk.tupP ?_ | refine Wk.aggP ?_)⟩
          | exact ⟨Or.inr rfl, [_, _, _], ⟨.cell rfl ti62 (.whole rfl rfl rfl rfl rfl rfl) (.t _), .tmp (Res.ownT rfl rfl rfl rfl), .tmp (Res.ownT rfl rfl rfl rfl), trivial⟩, .refl _⟩
          | exact ⟨Or.inr rfl, [_, _, _], ⟨.cell rfl ti62 (.whole rfl rfl rfl rfl rfl rfl) (.t _), .tmp (Res.ownT rfl rfl rfl rfl), .tmp (Res.ownT rfl rfl rfl rfl), trivial⟩, (by repeat' first | exact trivial | exact Wk.refl _ | exact Wk.sl _ | refine And.intro ?_ ?_ | refine Wk.tupP ?_ | refine Wk.aggP ?_)⟩)
          | (rw [show recvD r sq ky bd tg a e = (delR ⟨r.next, r.ahead, r.locked, a⟩, delB ⟨r.next, r.ahead, r.locked, a⟩ bd, 0) from by unfold recvD; rw [if_neg (by omega), if_neg (fun h => h (by assumption)), if_neg (by simp_all), if_pos (by omega)]]; first
          | exact ⟨Or.inr rfl, [_, _, _], ⟨.cell rfl ti62 (.whole rfl rfl rfl rfl rfl rfl) (.t _), .tmp (.t _), .tmp (.t _), trivial⟩, .refl _⟩
          | exact ⟨Or.inr rfl, [_, _, _], ⟨.cell rfl ti62 (.whole rfl rfl rfl rfl rfl rfl) (.t _), .tmp (.t _), .tmp (.t _), trivial⟩, (by repeat' first | exact trivial | exact Wk.refl _ | exact Wk.sl _ | refine And.intro ?_ ?_ | refine Wk.tupP ?_ | refine Wk.aggP ?_)⟩
          | exact ⟨Or.inr rfl, [_, _, _], ⟨.cell rfl ti62 (.whole rfl rfl rfl rfl rfl rfl) (.t _), .tmp (.t _), .tmp (Res.ownT rfl rfl rfl rfl), trivial⟩, .refl _⟩
          | exact ⟨Or.inr rfl, [_, _, _], ⟨.cell rfl ti62 (.whole rfl rfl rfl rfl rfl rfl) (.t _), .tmp (.t _), .tmp (Res.ownT rfl rfl rfl rfl), trivial⟩, (by repeat' first | exact trivial | exact Wk.refl _ | exact Wk.sl _ | refine And.intro ?_ ?_ | refine Wk.tupP ?_ | refine Wk.aggP ?_)⟩
          | exact ⟨Or.inr rfl, [_, _, _], ⟨.cell rfl ti62 (.whole rfl rfl rfl rfl rfl rfl) (.t _), .tmp (Res.ownT rfl rfl rfl rfl), .tmp (.t _), trivial⟩, .refl _⟩
          | exact ⟨Or.inr rfl, [_, _, _], ⟨.cell rfl ti62 (.whole rfl rfl rfl rfl rfl rfl) (.t _), .tmp (Res.ownT rfl rfl rfl rfl), .tmp (.t _), trivial⟩, (by repeat' first | exact trivial | exact Wk.refl _ | exact Wk.sl _ | refine And.intro ?_ ?_ | refine Wk.tupP ?_ | refine Wk.aggP ?_)⟩
          | exact ⟨Or.inr rfl, [_, _, _], ⟨.cell rfl ti62 (.whole rfl rfl rfl rfl rfl rfl) (.t _), .tmp (Res.ownT rfl rfl rfl rfl), .tmp (Res.ownT rfl rfl rfl rfl), trivial⟩, .refl _⟩
          | exact ⟨Or.inr rfl, [_, _, _], ⟨.cell rfl ti62 (.whole rfl rfl rfl rfl rfl rfl) (.t _), .tmp (Res.ownT rfl rfl rfl rfl), .tmp (Res.ownT rfl rfl rfl rfl), trivial⟩, (by repeat' first | exact trivial | exact Wk.refl _ | exact Wk.sl _ | refine And.intro ?_ ?_ | refine Wk.tupP ?_ | refine Wk.aggP ?_)⟩)
          | (rw [show recvD r sq ky bd tg a e = (⟨r.next, keepL ⟨r.next + dist2 sq r.next, ky, false, bd, tg⟩ r.ahead, r.locked, a⟩, [], 0) from by unfold recvD; rw [if_neg (by omega), if_neg (fun h => h (by assumption)), if_neg (by simp_all), if_neg (by omega), if_pos (by omega)]]; first
          | exact ⟨Or.inr rfl, [_, _, _], ⟨.cell rfl ti62 (.whole rfl rfl rfl rfl rfl rfl) (.t _), .tmp (.t _), .tmp (.t _), trivial⟩, .refl _⟩
          | exact ⟨Or.inr rfl, [_, _, _], ⟨.cell rfl ti62 (.whole rfl rfl rfl rfl rfl rfl) (.t _), .tmp (.t _), .tmp (.t _), trivial⟩, (by repeat' first | exact trivial | exact Wk.refl _ | exact Wk.sl _ | refine And.intro ?_ ?_ | refine Wk.tupP ?_ | refine Wk.aggP ?_)⟩
          | exact ⟨Or.inr rfl, [_, _, _], ⟨.cell rfl ti62 (.whole rfl rfl rfl rfl rfl rfl) (.t _), .tmp (.t _), .tmp (Res.ownT rfl rfl rfl rfl), trivial⟩, .refl _⟩
          | exact ⟨Or.inr rfl, [_, _, _], ⟨.cell rfl ti62 (.whole rfl rfl rfl rfl rfl rfl) (.t _), .tmp (.t _), .tmp (Res.ownT rfl rfl rfl rfl), trivial⟩, (by repeat' first | exact trivial | exact Wk.refl _ | exact Wk.sl _ | refine And.intro ?_ ?_ | refine Wk.tupP ?_ | refine Wk.aggP ?_)⟩
          | exact ⟨Or.inr rfl, [_, _, _], ⟨.cell rfl ti62 (.whole rfl rfl rfl rfl rfl rfl) (.t _), .tmp (Res.ownT rfl rfl rfl rfl), .tmp (.t _), trivial⟩, .refl _⟩
          | exact ⟨Or.inr rfl, [_, _, _], ⟨.cell rfl ti62 (.whole rfl rfl rfl rfl rfl rfl) (.t _), .tmp (Res.ownT rfl rfl rfl rfl), .tmp (.t _), trivial⟩, (by repeat' first | exact trivial | exact Wk.refl _ | exact Wk.sl _ | refine And.intro ?_ ?_ | refine Wk.tupP ?_ | refine Wk.aggP ?_)⟩
          | exact ⟨Or.inr rfl, [_, _, _], ⟨.cell rfl ti62 (.whole rfl rfl rfl rfl rfl rfl) (.t _), .tmp (Res.ownT rfl rfl rfl rfl), .tmp (Res.ownT rfl rfl rfl rfl), trivial⟩, .refl _⟩
          | exact ⟨Or.inr rfl, [_, _, _], ⟨.cell rfl ti62 (.whole rfl rfl rfl rfl rfl rfl) (.t _), .tmp (Res.ownT rfl rfl rfl rfl), .tmp (Res.ownT rfl rfl rfl rfl), trivial⟩, (by repeat' first | exact trivial | exact Wk.refl _ | exact Wk.sl _ | refine And.intro ?_ ?_ | refine Wk.tupP ?_ | refine Wk.aggP ?_)⟩)
          | (rw [show recvD r sq ky bd tg a e = (⟨r.next, r.ahead, true, a⟩, [], 32) from by unfold recvD; rw [if_neg (by omega), if_neg (fun h => h (by assumption)), if_neg (by simp_all), if_neg (by omega), if_neg (by omega), if_pos (by omega)]]; first
          | exact ⟨Or.inr rfl, [_, _, _], ⟨.cell rfl ti62 (.whole rfl rfl rfl rfl rfl rfl) (.t _), .tmp (.t _), .tmp (.t _), trivial⟩, .refl _⟩
          | exact ⟨Or.inr rfl, [_, _, _], ⟨.cell rfl ti62 (.whole rfl rfl rfl rfl rfl rfl) (.t _), .tmp (.t _), .tmp (.t _), trivial⟩, (by repeat' first | exact trivial | exact Wk.refl _ | exact Wk.sl _ | refine And.intro ?_ ?_ | refine Wk.tupP ?_ | refine Wk.aggP ?_)⟩
          | exact ⟨Or.inr rfl, [_, _, _], ⟨.cell rfl ti62 (.whole rfl rfl rfl rfl rfl rfl) (.t _), .tmp (.t _), .tmp (Res.ownT rfl rfl rfl rfl), trivial⟩, .refl _⟩
          | exact ⟨Or.inr rfl, [_, _, _], ⟨.cell rfl ti62 (.whole rfl rfl rfl rfl rfl rfl) (.t _), .tmp (.t _), .tmp (Res.ownT rfl rfl rfl rfl), trivial⟩, (by repeat' first | exact trivial | exact Wk.refl _ | exact Wk.sl _ | refine And.intro ?_ ?_ | refine Wk.tupP ?_ | refine Wk.aggP ?_)⟩
          | exact ⟨Or.inr rfl, [_, _, _], ⟨.cell rfl ti62 (.whole rfl rfl rfl rfl rfl rfl) (.t _), .tmp (Res.ownT rfl rfl rfl rfl), .tmp (.t _), trivial⟩, .refl _⟩
          | exact ⟨Or.inr rfl, [_, _, _], ⟨.cell rfl ti62 (.whole rfl rfl rfl rfl rfl rfl) (.t _), .tmp (Res.ownT rfl rfl rfl rfl), .tmp (.t _), trivial⟩, (by repeat' first | exact trivial | exact Wk.refl _ | exact Wk.sl _ | refine And.intro ?_ ?_ | refine Wk.tupP ?_ | refine Wk.aggP ?_)⟩
          | exact ⟨Or.inr rfl, [_, _, _], ⟨.cell rfl ti62 (.whole rfl rfl rfl rfl rfl rfl) (.t _), .tmp (Res.ownT rfl rfl rfl rfl), .tmp (Res.ownT rfl rfl rfl rfl), trivial⟩, .refl _⟩
          | exact ⟨Or.inr rfl, [_, _, _], ⟨.cell rfl ti62 (.whole rfl rfl rfl rfl rfl rfl) (.t _), .tmp (Res.ownT rfl rfl rfl rfl), .tmp (Res.ownT rfl rfl rfl rfl), trivial⟩, (by repeat' first | exact trivial | exact Wk.refl _ | exact Wk.sl _ | refine And.intro ?_ ?_ | refine Wk.tupP ?_ | refine Wk.aggP ?_)⟩)
          | (rw [show recvD r sq ky bd tg a e = (⟨r.next, r.ahead, r.locked, a⟩, [], 0) from by unfold recvD; rw [if_neg (by omega), if_neg (fun h => h (by assumption)), if_neg (by simp_all), if_neg (by omega), if_neg (by omega), if_neg (by omega)]]; first
          | exact ⟨Or.inr rfl, [_, _, _], ⟨.cell rfl ti62 (.whole rfl rfl rfl rfl rfl rfl) (.t _), .tmp (.t _), .tmp (.t _), trivial⟩, .refl _⟩
          | exact ⟨Or.inr rfl, [_, _, _], ⟨.cell rfl ti62 (.whole rfl rfl rfl rfl rfl rfl) (.t _), .tmp (.t _), .tmp (.t _), trivial⟩, (by repeat' first | exact trivial | exact Wk.refl _ | exact Wk.sl _ | refine And.intro ?_ ?_ | refine Wk.tupP ?_ | refine Wk.aggP ?_)⟩
          | exact ⟨Or.inr rfl, [_, _, _], ⟨.cell rfl ti62 (.whole rfl rfl rfl rfl rfl rfl) (.t _), .tmp (.t _), .tmp (Res.ownT rfl rfl rfl rfl), trivial⟩, .refl _⟩
          | exact ⟨Or.inr rfl, [_, _, _], ⟨.cell rfl ti62 (.whole rfl rfl rfl rfl rfl rfl) (.t _), .tmp (.t _), .tmp (Res.ownT rfl rfl rfl rfl), trivial⟩, (by repeat' first | exact trivial | exact Wk.refl _ | exact Wk.sl _ | refine And.intro ?_ ?_ | refine Wk.tupP ?_ | refine Wk.aggP ?_)⟩
          | exact ⟨Or.inr rfl, [_, _, _], ⟨.cell rfl ti62 (.whole rfl rfl rfl rfl rfl rfl) (.t _), .tmp (Res.ownT rfl rfl rfl rfl), .tmp (.t _), trivial⟩, .refl _⟩
          | exact ⟨Or.inr rfl, [_, _, _], ⟨.cell rfl ti62 (.whole rfl rfl rfl rfl rfl rfl) (.t _), .tmp (Res.ownT rfl rfl rfl rfl), .tmp (.t _), trivial⟩, (by repeat' first | exact trivial | exact Wk.refl _ | exact Wk.sl _ | refine And.intro ?_ ?_ | refine Wk.tupP ?_ | refine Wk.aggP ?_)⟩
          | exact ⟨Or.inr rfl, [_, _, _], ⟨.cell rfl ti62 (.whole rfl rfl rfl rfl rfl rfl) (.t _), .tmp (Res.ownT rfl rfl rfl rfl), .tmp (Res.ownT rfl rfl rfl rfl), trivial⟩, .refl _⟩
          | exact ⟨Or.inr rfl, [_, _, _], ⟨.cell rfl ti62 (.whole rfl rfl rfl rfl rfl rfl) (.t _), .tmp (Res.ownT rfl rfl rfl rfl), .tmp (Res.ownT rfl rfl rfl rfl), trivial⟩, (by repeat' first | exact trivial | exact Wk.refl _ | exact Wk.sl _ | refine And.intro ?_ ?_ | refine Wk.tupP ?_ | refine Wk.aggP ?_)⟩)
      · try simp only [decide_eq_true_eq, decide_eq_false_iff_not, beq_iff_eq, bne_iff_ne, bne_eq_false_iff_eq, beq_eq_false_iff_ne, Bool.not_eq_true, Bool.not_eq_false, Bool.not_eq_true', Bool.not_eq_false', ne_eq] at h3
        refine awp_skip ?_
        refine awp_seq ?_
        refine awp_rw rfl ?_
        refine RW.op rfl rfl (eff_load rfl rfl ti60 rfl (.whole rfl rfl rfl rfl rfl rfl)) ?_
        refine RW.op rfl rfl (eff_fieldAddr rfl rfl tf62_3 (by decide) rfl rfl rfl (Nat.le_of_ble_eq_true rfl)) ?_
        refine RW.store rfl rfl (eff_storeS (v := .t _) (ys := [_, _, _, _, _]) (els := [_]) (els' := [_]) rfl rfl ti60 rfl rfl rfl rfl rfl rfl rfl (Nat.le_of_ble_eq_true rfl) rfl rfl) ?_
        refine RW.nil ?_
        refine awp_seq ?_
        refine awp_rd [(some 59, []), (some 60, []), (some 61, []), (some 62, []), (some 63, []), (some 64, []), (some 65, []), (some 66, []), (some 10, [])] [[], [0], [0, 1], [], [3], [0, 1, 2, 3, 4], [0, 1, 2, 3, 4, 5], [0, 1, 2, 3, 4, 5, 6], [0, 1, 2, 3, 4, 5, 6, 7]] tm rfl rfl rfl rfl ?_
        refine RD.op rfl rfl rfl (eff_fieldAddr rfl rfl tf30_0 (by decide) rfl rfl rfl (Nat.le_of_ble_eq_true rfl)) ?_
        refine RD.op rfl rfl rfl (eff_load (y := .t _) rfl rfl ti3 rfl (.one rfl rfl rfl rfl)) ?_
        refine RD.op rfl rfl rfl (eff_callT (reduced_ret _) co60 rfl rfl rfl rfl) ?_
        refine RD.op rfl rfl rfl (eff_fieldAddr rfl rfl tf62_0 (by decide) rfl rfl rfl (Nat.le_of_ble_eq_true rfl)) ?_
        refine RD.op rfl rfl rfl (eff_load (y := .t _) rfl rfl ti3 rfl (.one rfl rfl rfl rfl)) ?_
        refine RD.op rfl rfl rfl (eff_callT (reduced_ret _) co60 rfl rfl rfl rfl) ?_
        refine RD.op rfl rfl rfl (eff_iop rfl rfl rfl rfl (isub (by omega))) ?_
        refine RD.op rfl rfl rfl (eff_callT (reduced_ret _) co60 rfl rfl rfl rfl) ?_
        refine RD.op rfl rfl rfl (eff_assign (v := .t _) rfl rfl rfl) ?_
        refine RD.nil ?_
        refine awp_seq ?_
        refine awp_block ?_
        refine awp_seq ?_
        refine awp_rw rfl ?_
        refine RW.op rfl rfl (eff_fieldAddr rfl rfl tf30_2 (by decide) rfl rfl rfl (Nat.le_of_ble_eq_true rfl)) ?_
        refine RW.op rfl rfl (eff_load (y := .t _) rfl rfl ti4 rfl (.one rfl rfl rfl rfl)) ?_
        refine RW.weak (weak_slot 69 (y := .bool false) rfl (.refl _)) rfl ?_
        refine RW.op rfl rfl (eff_move (v := .t _) rfl rfl rfl) ?_
        refine RW.gskip rfl rfl rfl rfl rfl (by decide) ?_
        refine RW.gskip rfl rfl rfl rfl rfl (by decide) ?_
        refine RW.op rfl rfl (eff_pick (v := .t _) rfl rfl rfl rfl) ?_
        refine RW.op rfl rfl (eff_assign (v := .t _) rfl rfl rfl) ?_
        refine RW.nil ?_
        refine awp_cond rfl (fun h => nomatch h) (fun _ => ?_)
        refine awp_seq ?_
        refine awp_rw rfl ?_
        refine RW.op rfl rfl (eff_fieldAddr rfl rfl tf30_2 (by decide) rfl rfl rfl (Nat.le_of_ble_eq_true rfl)) ?_
        refine RW.op rfl rfl (eff_load (y := .t _) rfl rfl ti4 rfl (.one rfl rfl rfl rfl)) ?_
        refine RW.op rfl rfl (eff_assign (v := .t _) rfl rfl rfl) ?_
        refine RW.nil ?_
        refine awp_cond rfl (fun h => nomatch h) (fun _ => ?_)
        refine awp_seq ?_
        refine awp_rw rfl ?_
        refine RW.op rfl rfl (eff_fieldAddr rfl rfl tf62_2 (by decide) rfl rfl rfl (Nat.le_of_ble_eq_true rfl)) ?_
        refine RW.op rfl rfl (eff_load (y := .t _) rfl rfl ti4 rfl (.one rfl rfl rfl rfl)) ?_
        refine RW.op rfl rfl (eff_assign (v := .t _) rfl rfl rfl) ?_
        refine RW.nil ?_
        refine awp_cond rfl (fun h4 => ?_) (fun h4 => ?_)
        · try simp only [decide_eq_true_eq, decide_eq_false_iff_not, beq_iff_eq, bne_iff_ne, bne_eq_false_iff_eq, beq_eq_false_iff_ne, Bool.not_eq_true, Bool.not_eq_false, Bool.not_eq_true', Bool.not_eq_false', ne_eq] at h4
          refine awp_seq ?_
          refine awp_rw rfl ?_
          refine RW.op rfl rfl (eff_load rfl rfl ti62 rfl (.whole rfl rfl rfl rfl rfl rfl)) ?_
          refine RW.store rfl rfl (eff_storeW (v := .t _) (els := [_]) (els' := [_]) rfl rfl ti62 rfl rfl rfl rfl rfl rfl rfl rfl rfl) ?_
          refine RW.op rfl rfl (eff_assign (v := .t _) rfl rfl rfl) ?_
          refine RW.op rfl rfl (eff_assign (v := .t _) rfl rfl rfl) ?_
          refine RW.nil ?_
          refine awp_ret ?_
          first
            | (rw [show recvD r sq ky bd tg a e = (r, [], 2) from by unfold recvD; rw [if_pos (by omega)]]; first
            | exact ⟨Or.inr rfl, [_, _, _], ⟨.cell rfl ti62 (.whole rfl rfl rfl rfl rfl rfl) (.t _), .tmp (.t _), .tmp (.t _), trivial⟩, .refl _⟩
            | exact ⟨Or.inr rfl, [_, _, _], ⟨.cell rfl ti62 (.whole rfl rfl rfl rfl rfl rfl) (.t _), .tmp (.t _), .tmp (.t _), trivial⟩, (by repeat' first | exact trivial | exact Wk.refl _ | exact Wk.sl _ | refine And.intro ?_ ?_ | refine Wk.tupP ?_ | refine Wk.aggP ?_)⟩
            | exact ⟨Or.inr rfl, [_, _, _], ⟨.cell rfl ti62 (.whole rfl rfl rfl rfl rfl rfl) (.t _), .tmp (.t _), .tmp (Res.ownT rfl rfl rfl rfl), trivial⟩, .refl _⟩
            | exact ⟨Or.inr rfl, [_, _, _], ⟨.cell rfl ti62 (.whole rfl rfl rfl rfl rfl rfl) (.t _), .tmp (.t _), .tmp (Res.ownT rfl rfl rfl rfl), trivial⟩, (by repeat' first | exact trivial | exact Wk.refl _ | exact Wk.sl _ | refine And.intro ?_ ?_ | refine Wk.tupP ?_ | refine Wk.aggP ?_)⟩
            | exact ⟨Or.inr rfl, [_, _, _], ⟨.cell rfl ti62 (.whole rfl rfl rfl rfl rfl rfl) (.t _), .tmp (Res.ownT rfl rfl rfl rfl), .tmp (.t _), trivial⟩, .refl _⟩
            | exact ⟨Or.inr rfl, [_, _, _], ⟨.cell rfl ti62 (.whole rfl rfl rfl rfl rfl rfl) (.t _), .tmp (Res.ownT rfl rfl rfl rfl), .tmp (.t _), trivial⟩, (by repeat' first | exact trivial | exact Wk.refl _ | exact Wk.sl _ | refine And.intro ?_ ?_ | refine Wk.tupP ?_ | refine Wk.aggP ?_)⟩
            | exact ⟨Or.inr rfl, [_, _, _], ⟨.cell rfl ti62 (.whole rfl rfl rfl rfl rfl rfl) (.t _), .tmp (Res.ownT rfl rfl rfl rfl), .tmp (Res.ownT rfl rfl rfl rfl), trivial⟩, .refl _⟩
            | exact ⟨Or.inr rfl, [_, _, _], ⟨.cell rfl ti62 (.whole rfl rfl rfl rfl rfl rfl) (.t _), .tmp (Res.ownT rfl rfl rfl rfl), .tmp (Res.ownT rfl rfl rfl rfl), trivial⟩, (by repeat' first | exact trivial | exact Wk.refl _ | exact Wk.sl _ | refine And.intro ?_ ?_ | refine Wk.tupP ?_ | refine Wk.aggP ?_)⟩)
            | (rw [show recvD r sq ky bd tg a e = (r, [], e) from by unfold recvD; rw [if_neg (by omega), if_pos (by assumption)]]; first
            | exact ⟨Or.inr rfl, [_, _, _], ⟨.cell rfl ti62 (.whole rfl rfl rfl rfl rfl rfl) (.t _), .tmp (.t _), .tmp (.t _), trivial⟩, .refl _⟩
            | exact ⟨Or.inr rfl, [_, _, _], ⟨.cell rfl ti62 (.whole rfl rfl rfl rfl rfl rfl) (.t _), .tmp (.t _), .tmp (.t _), trivial⟩, (by repeat' first | exact trivial | exact Wk.refl _ | exact Wk.sl _ | refine And.intro ?_ ?_ | refine Wk.tupP ?_ | refine Wk.aggP ?_)⟩
            | exact ⟨Or.inr rfl, [_, _, _], ⟨.cell rfl ti62 (.whole rfl rfl rfl rfl rfl rfl) (.t _), .tmp (.t _), .tmp (Res.ownT rfl rfl rfl rfl), trivial⟩, .refl _⟩
            | exact ⟨Or.inr rfl, [_, _, _], ⟨.cell rfl ti62 (.whole rfl rfl rfl rfl rfl rfl) (.t _), .tmp (.t _), .tmp (Res.ownT rfl rfl rfl rfl), trivial⟩, (by repeat' first | exact trivial | exact Wk.refl _ | exact Wk.sl _ | refine And.intro ?_ ?_ | refine Wk.tupP ?_ | refine Wk.aggP ?_)⟩
            | exact ⟨Or.inr rfl, [_, _, _], ⟨.cell rfl ti62 (.whole rfl rfl rfl rfl rfl rfl) (.t _), .tmp (Res.ownT rfl rfl rfl rfl), .tmp (.t _), trivial⟩, .refl _⟩
            | exact ⟨Or.inr rfl, [_, _, _], ⟨.cell rfl ti62 (.whole rfl rfl rfl rfl rfl rfl) (.t _), .tmp (Res.ownT rfl rfl rfl rfl), .tmp (.t _), trivial⟩, (by repeat' first | exact trivial | exact Wk.refl _ | exact Wk.sl _ | refine And.intro ?_ ?_ | refine Wk.tupP ?_ | refine Wk.aggP ?_)⟩
            | exact ⟨Or.inr rfl, [_, _, _], ⟨.cell rfl ti62 (.whole rfl rfl rfl rfl rfl rfl) (.t _), .tmp (Res.ownT rfl rfl rfl rfl), .tmp (Res.ownT rfl rfl rfl rfl), trivial⟩, .refl _⟩
            | exact ⟨Or.inr rfl, [_, _, _], ⟨.cell rfl ti62 (.whole rfl rfl rfl rfl rfl rfl) (.t _), .tmp (Res.ownT rfl rfl rfl rfl), .tmp (Res.ownT rfl rfl rfl rfl), trivial⟩, (by repeat' first | exact trivial | exact Wk.refl _ | exact Wk.sl _ | refine And.intro ?_ ?_ | refine Wk.tupP ?_ | refine Wk.aggP ?_)⟩)
            | (rw [show recvD r sq ky bd tg a e = (⟨r.next, r.ahead, r.locked, a⟩, [], 31) from by unfold recvD; rw [if_neg (by omega), if_neg (fun h => h (by assumption)), if_pos (by assumption)]]; first
            | exact ⟨Or.inr rfl, [_, _, _], ⟨.cell rfl ti62 (.whole rfl rfl rfl rfl rfl rfl) (.t _), .tmp (.t _), .tmp (.t _), trivial⟩, .refl _⟩
            | exact ⟨Or.inr rfl, [_, _, _], ⟨.cell rfl ti62 (.whole rfl rfl rfl rfl rfl rfl) (.t _), .tmp (.t _), .tmp (.t _), trivial⟩, (by repeat' first | exact trivial | exact Wk.refl _ | exact Wk.sl _ | refine And.intro ?_ ?_ | refine Wk.tupP ?_ | refine Wk.aggP ?_)⟩
            | exact ⟨Or.inr rfl, [_, _, _], ⟨.cell rfl ti62 (.whole rfl rfl rfl rfl rfl rfl) (.t _), .tmp (.t _), .tmp (Res.ownT rfl rfl rfl rfl), trivial⟩, .refl _⟩
            | exact ⟨Or.inr rfl, [_, _, _], ⟨.cell rfl ti62 (.whole rfl rfl rfl rfl rfl rfl) (.t _), .tmp (.t _), .tmp (Res.ownT rfl rfl rfl rfl), trivial⟩, (by repeat' first | exact trivial | exact Wk.refl _ | exact Wk.sl _ | refine And.intro ?_ ?_ | refine Wk.tupP ?_ | refine Wk.aggP ?_)⟩
            | exact ⟨Or.inr rfl, [_, _, _], ⟨.cell rfl ti62 (.whole rfl rfl rfl rfl rfl rfl) (.t _), .tmp (Res.ownT rfl rfl rfl rfl), .tmp (.t _), trivial⟩, .refl _⟩
            | exact ⟨Or.inr rfl, [_, _, _], ⟨.cell rfl ti62 (.whole rfl rfl rfl rfl rfl rfl) (.t _), .tmp (Res.ownT rfl rfl rfl rfl), .tmp (.t _), trivial⟩, (by repeat' first | exact trivial | exact Wk.refl _ | exact Wk.sl _ | refine And.intro ?_ ?_ | refine Wk.tupP ?_ | refine Wk.aggP ?_)⟩
            | exact ⟨Or.inr rfl, [_, _, _], ⟨.cell rfl ti62 (.whole rfl rfl rfl rfl rfl rfl) (.t _), .tmp (Res.ownT rfl rfl rfl rfl), .tmp (Res.ownT rfl rfl rfl rfl), trivial⟩, .refl _⟩
            | exact ⟨Or.inr rfl, [_, _, _], ⟨.cell rfl ti62 (.whole rfl rfl rfl rfl rfl rfl) (.t _), .tmp (Res.ownT rfl rfl rfl rfl), .tmp (Res.ownT rfl rfl rfl rfl), trivial⟩, (by repeat' first | exact trivial | exact Wk.refl _ | exact Wk.sl _ | refine And.intro ?_ ?_ | refine Wk.tupP ?_ | refine Wk.aggP ?_)⟩)
            | (rw [show recvD r sq ky bd tg a e = (delR ⟨r.next, r.ahead, r.locked, a⟩, delB ⟨r.next, r.ahead, r.locked, a⟩ bd, 0) from by unfold recvD; rw [if_neg (by omega), if_neg (fun h => h (by assumption)), if_neg (by simp_all), if_pos (by omega)]]; first
            | exact ⟨Or.inr rfl, [_, _, _], ⟨.cell rfl ti62 (.whole rfl rfl rfl rfl rfl rfl) (.t _), .tmp (.t _), .tmp (.t _), trivial⟩, .refl _⟩
            | exact ⟨Or.inr rfl, [_, _, _], ⟨.cell rfl ti62 (.whole rfl rfl rfl rfl rfl rfl) (.t _), .tmp (.t _), .tmp (.t _), trivial⟩, (by repeat' first | exact trivial | exact Wk.refl _ | exact Wk.sl _ | refine And.intro ?_ ?_ | refine Wk.tupP ?_ | refine Wk.aggP ?_)⟩
            | exact ⟨Or.inr rfl, [_, _, _], ⟨.cell rfl ti62 (.whole rfl rfl rfl rfl rfl rfl) (.t _), .tmp (.t _), .tmp (Res.ownT rfl rfl rfl rfl), trivial⟩, .refl _⟩
            | exact ⟨Or.inr rfl, [_, _, _], ⟨.cell rfl ti62 (.whole rfl rfl rfl rfl rfl rfl) (.t _), .tmp (.t _), .tmp (Res.ownT rfl rfl rfl rfl), trivial⟩, (by repeat' first | exact trivial | exact Wk.refl _ | exact Wk.sl _ | refine And.intro ?_ ?_ | refine Wk.tupP ?_ | refine Wk.aggP ?_)⟩
            | exact ⟨Or.inr rfl, [_, _, _], ⟨.cell rfl ti62 (.whole rfl rfl rfl rfl rfl rfl) (.t _), .tmp (Res.ownT rfl rfl rfl rfl), .tmp (.t _), trivial⟩, .refl _⟩
            | exact ⟨Or.inr rfl, [_, _, _], ⟨.cell rfl ti62 (.whole rfl rfl rfl rfl rfl rfl) (.t _), .tmp (Res.ownT rfl rfl rfl rfl), .tmp (.t _), trivial⟩, (by repeat' first | exact trivial | exact Wk.refl _ | exact Wk.sl _ | refine And.intro ?_ ?_ | refine Wk.tupP ?_ | refine Wk.aggP ?_)⟩
            | exact ⟨Or.inr rfl, [_, _, _], ⟨.cell rfl ti62 (.whole rfl rfl rfl rfl rfl rfl) (.t _), .tmp (Res.ownT rfl rfl rfl rfl), .tmp (Res.ownT rfl rfl rfl rfl), trivial⟩, .refl _⟩
            | exact ⟨Or.inr rfl, [_, _, _], ⟨.cell rfl ti62 (.whole rfl rfl rfl rfl rfl rfl) (.t _), .tmp (Res.ownT rfl rfl rfl rfl), .tmp (Res.ownT rfl rfl rfl rfl), trivial⟩, (by repeat' first | exact trivial | exact Wk.refl _ | exact Wk.sl _ | refine And.intro ?_ ?_ | refine Wk.tupP ?_ | refine Wk.aggP ?_)⟩)
            | (rw [show recvD r sq ky bd tg a e = (⟨r.next, keepL ⟨r.next + dist2 sq r.next, ky, false, bd, tg⟩ r.ahead, r.locked, a⟩, [], 0) from by unfold recvD; rw [if_neg (by omega), if_neg (fun h => h (by assumption)), if_neg (by simp_all), if_neg (by omega), if_pos (by omega)]]; first
            | exact ⟨Or.inr rfl, [_, _, _], ⟨.cell rfl ti62 (.whole rfl rfl rfl rfl rfl rfl) (.t _), .tmp (.t _), .tmp (.t _), trivial⟩, .refl _⟩
            | exact ⟨Or.inr rfl, [_, _, _], ⟨.cell rfl ti62 (.whole rfl rfl rfl rfl rfl rfl) (.t _), .tmp (.t _), .tmp (.t _), trivial⟩, (by repeat' first | exact trivial | exact Wk.refl _ | exact Wk.sl _ | refine And.intro ?_ ?_ | refine Wk.tupP ?_ | refine Wk.aggP ?_)⟩
            | exact ⟨Or.inr rfl, [_, _, _], ⟨.cell rfl ti62 (.whole rfl rfl rfl rfl rfl rfl) (.t _), .tmp (.t _), .tmp (Res.ownT rfl rfl rfl rfl), trivial⟩, .refl _⟩
            | exact ⟨Or.inr rfl, [_, _, _], ⟨.cell rfl ti62 (.whole rfl rfl rfl rfl rfl rfl) (.t _), .tmp (.t _), .tmp (Res.ownT rfl rfl rfl rfl), trivial⟩, (by repeat' first | exact trivial | exact Wk.refl _ | exact Wk.sl _ | refine And.intro ?_ ?_ | refine Wk.tupP ?_ | refine Wk.aggP ?_)⟩
            | exact ⟨Or.inr rfl, [_, _, _], ⟨.cell rfl ti62 (.whole rfl rfl rfl rfl rfl rfl) (.t _), .tmp (Res.ownT rfl rfl rfl rfl), .tmp (.t _), trivial⟩, .refl _⟩
            | exact ⟨Or.inr rfl, [_, _, _], ⟨.cell rfl ti62 (.whole rfl rfl rfl rfl rfl rfl) (.t _), .tmp (Res.ownT rfl rfl rfl rfl), .tmp (.t _), trivial⟩, (by repeat' first | exact trivial | exact Wk.refl _ | exact Wk.sl _ | refine And.intro ?_ ?_ | refine Wk.tupP ?_ | refine Wk.aggP ?_)⟩
            | exact ⟨Or.inr rfl, [_, _, _], ⟨.cell rfl ti62 (.whole rfl rfl rfl rfl rfl rfl) (.t _), .tmp (Res.ownT rfl rfl rfl rfl), .tmp (Res.ownT rfl rfl rfl rfl), trivial⟩, .refl _⟩
            | exact ⟨Or.inr rfl, [_, _, _], ⟨.cell rfl ti62 (.whole rfl rfl rfl rfl rfl rfl) (.t _), .tmp (Res.ownT rfl rfl rfl rfl), .tmp (Res.ownT rfl rfl rfl rfl), trivial⟩, (by repeat' first | exact trivial | exact Wk.refl _ | exact Wk.sl _ | refine And.intro ?_ ?_ | refine Wk.tupP ?_ | refine Wk.aggP ?_)⟩)
            | (rw [show recvD r sq ky bd tg a e = (⟨r.next, r.ahead, true, a⟩, [], 32) from by unfold recvD; rw [if_neg (by omega), if_neg (fun h => h (by assumption)), if_neg (by simp_all), if_neg (by omega), if_neg (by omega), if_pos (by omega)]]; first
            | exact ⟨Or.inr rfl, [_, _, _], ⟨.cell rfl ti62 (.whole rfl rfl rfl rfl rfl rfl) (.t _), .tmp (.t _), .tmp (.t _), trivial⟩, .refl _⟩
            | exact ⟨Or.inr rfl, [_, _, _], ⟨.cell rfl ti62 (.whole rfl rfl rfl rfl rfl rfl) (.t _), .tmp (.t _), .tmp (.t _), trivial⟩, (by repeat' first | exact trivial | exact Wk.refl _ | exact Wk.sl _ | refine And.intro ?_ ?_ | refine Wk.tupP ?_ | refine Wk.aggP ?_)⟩
            | exact ⟨Or.inr rfl, [_, _, _], ⟨.cell rfl ti62 (.whole rfl rfl rfl rfl rfl rfl) (.t _), .tmp (.t _), .tmp (Res.ownT rfl rfl rfl rfl), trivial⟩, .refl _⟩
            | exact ⟨Or.inr rfl, [_, _, _], ⟨.cell rfl ti62 (.whole rfl rfl rfl rfl rfl rfl) (.t _), .tmp (.t _), .tmp (Res.ownT rfl rfl rfl rfl), trivial⟩, (by repeat' first | exact trivial | exact Wk.refl _ | exact Wk.sl _ | refine And.intro ?_ ?_ | refine Wk.tupP ?_ | refine Wk.aggP ?_)⟩
            | exact ⟨Or.inr rfl, [_, _, _], ⟨.cell rfl ti62 (.whole rfl rfl rfl rfl rfl rfl) (.t _), .tmp (Res.ownT rfl rfl rfl rfl), .tmp (.t _), trivial⟩, .refl _⟩
            | exact ⟨Or.inr rfl, [_, _, _], ⟨.cell rfl ti62 (.whole rfl rfl rfl rfl rfl rfl) (.t _), .tmp (Res.ownT rfl rfl rfl rfl), .tmp (.t _), trivial⟩, (by repeat' first | exact trivial | exact Wk.refl _ | exact Wk.sl _ | refine And.intro ?_ ?_ | refine Wk.tupP ?_ | refine Wk.aggP ?_)⟩
            | exact ⟨Or.inr rfl, [_, _, _], ⟨.cell rfl ti62 (.whole rfl rfl rfl rfl rfl rfl) (.t _), .tmp (Res.ownT rfl rfl rfl rfl), .tmp (Res.ownT rfl rfl rfl rfl), trivial⟩, .refl _⟩
            | exact ⟨Or.inr rfl, [_, _, _], ⟨.cell rfl ti62 (.whole rfl rfl rfl rfl rfl rfl) (.t _), .tmp (Res.ownT rfl rfl rfl rfl), .tmp (Res.ownT rfl rfl rfl rfl), trivial⟩, (by repeat' first | exact trivial | exact Wk.refl _ | exact Wk.sl _ | refine And.intro ?_ ?_ | refine Wk.tupP ?_ | refine Wk.aggP ?_)⟩)
            | (rw [show recvD r sq ky bd tg a e = (⟨r.next, r.ahead, r.locked, a⟩, [], 0) from by unfold recvD; rw [if_neg (by omega), if_neg (fun h => h (by assumption)), if_neg (by simp_all), if_neg (by omega), if_neg (by omega), if_neg (by omega)]]; first
            | exact ⟨Or.inr rfl, [_, _, _], ⟨.cell rfl ti62 (.whole rfl rfl rfl rfl rfl rfl) (.t _), .tmp (.t _), .tmp (.t _), trivial⟩, .refl _⟩
            | exact ⟨Or.inr rfl, [_, _, _], ⟨.cell rfl ti62 (.whole rfl rfl rfl rfl rfl rfl) (.t _), .tmp (.t _), .tmp (.t _), trivial⟩, (by repeat' first | exact trivial | exact Wk.refl _ | exact Wk.sl _ | refine And.intro ?_ ?_ | refine Wk.tupP ?_ | refine Wk.aggP ?_)⟩
            | exact ⟨Or.inr rfl, [_, _, _], ⟨.cell rfl ti62 (.whole rfl rfl rfl rfl rfl rfl) (.t _), .tmp (.t _), .tmp (Res.ownT rfl rfl rfl rfl), trivial⟩, .refl _⟩
            | exact ⟨Or.inr rfl, [_, _, _], ⟨.cell rfl ti62 (.whole rfl rfl rfl rfl rfl rfl) (.t _), .tmp (.t _), .tmp (Res.ownT rfl rfl rfl rfl), trivial⟩, (by repeat' first | exact trivial | exact Wk.refl _ | exact Wk.sl _ | refine And.intro ?_ ?_ | refine Wk.tupP ?_ | refine Wk.aggP ?_)⟩
            | exact ⟨Or.inr rfl, [_, _, _], ⟨.cell rfl ti62 (.whole rfl rfl rfl rfl rfl rfl) (.t _), .tmp (Res.ownT rfl rfl rfl rfl), .tmp (.t _), trivial⟩, .refl _⟩
            | exact ⟨Or.inr rfl, [_, _, _], ⟨.cell rfl ti62 (.whole rfl rfl rfl rfl rfl rfl) (.t _), .tmp (Res.ownT rfl rfl rfl rfl), .tmp (.t _), trivial⟩, (by repeat' first | exact trivial | exact Wk.refl _ | exact Wk.sl _ | refine And.intro ?_ ?_ | refine Wk.tupP ?_ | refine Wk.aggP ?_)⟩
            | exact ⟨Or.inr rfl, [_, _, _], ⟨.cell rfl ti62 (.whole rfl rfl rfl rfl rfl rfl) (.t _), .tmp (Res.ownT rfl rfl rfl rfl), .tmp (Res.ownT rfl rfl rfl rfl), trivial⟩, .refl _⟩
            | exact ⟨Or.inr rfl, [_, _, _], ⟨.cell rfl ti62 (.whole rfl rfl rfl rfl rfl rfl) (.t _), .tmp (Res.ownT rfl rfl rfl rfl), .tmp (Res.ownT rfl rfl rfl rfl), trivial⟩, (by repeat' first | exact trivial | exact Wk.refl _ | exact Wk.sl _ | refine And.intro ?_ ?_ | refine Wk.tupP ?_ | refine Wk.aggP ?_)⟩)
        · try simp only [decide_eq_true_eq, decide_eq_false_iff_not, beq_iff_eq, bne_iff_ne, bne_eq_false_iff_eq, beq_eq_false_iff_ne, Bool.not_eq_true, Bool.not_eq_false, Bool.not_eq_true', Bool.not_eq_false', ne_eq] at h4
          refine awp_seq ?_
          refine awp_rw rfl ?_
          refine RW.op rfl rfl (eff_move (v := .t _) rfl rfl rfl) ?_
          refine RW.op rfl rfl (eff_iop rfl rfl rfl rfl rfl) ?_
          refine RW.op rfl rfl (eff_assign (v := .t _) rfl rfl rfl) ?_
          refine RW.nil ?_
          refine awp_cond rfl (fun h5 => ?_) (fun h5 => ?_)
          · try simp only [decide_eq_true_eq, decide_eq_false_iff_not, beq_iff_eq, bne_iff_ne, bne_eq_false_iff_eq, beq_eq_false_iff_ne, Bool.not_eq_true, Bool.not_eq_false, Bool.not_eq_true', Bool.not_eq_false', ne_eq] at h5
            refine awp_seq ?_
            refine awp_rw rfl ?_
            refine RW.op rfl rfl (eff_load rfl rfl ti62 rfl (.whole rfl rfl rfl rfl rfl rfl)) ?_
            refine RW.op rfl rfl (eff_fieldAddr rfl rfl tf30_3 (by decide) rfl rfl rfl (Nat.le_of_ble_eq_true rfl)) ?_
            refine RW.op rfl rfl (eff_load (y := .t _) rfl rfl ti27 rfl (.one rfl rfl rfl rfl)) ?_
            refine RW.op rfl rfl (eff_callT (deliver_ret ⟨r.next, r.ahead, r.locked, a⟩ bd (by show r.ahead.length ≤ 1000; omega) (by show 0 ≤ r.next ∧ r.next ≤ 1000000; omega) (by omega) hrb) co61 rfl rfl rfl rfl) ?_
            refine RW.op rfl rfl (eff_move (v := .t _) rfl rfl rfl) ?_
            refine RW.op rfl rfl (eff_extract rfl rfl rfl rfl) ?_
            refine RW.op rfl rfl (eff_extract rfl rfl rfl rfl) ?_
            refine RW.new rfl rfl (eff_allocK (k := 5) (id := 11) rfl rfl tz62 rfl rfl) ?_
            refine RW.store rfl rfl (eff_storeW (v := .t _) (els := [_]) (els' := [_]) rfl rfl ti62 rfl rfl rfl rfl rfl rfl rfl rfl rfl) ?_
            refine RW.op rfl rfl (eff_assign (v := .t _) rfl rfl rfl) ?_
            refine RW.nil ?_
            refine awp_seq ?_
            refine awp_rw rfl ?_
            refine RW.op rfl rfl (eff_load rfl rfl ti62 rfl (.whole rfl rfl rfl rfl rfl rfl)) ?_
            refine RW.op rfl rfl (eff_move (v := .t _) rfl rfl rfl) ?_
            refine RW.store rfl rfl (eff_storeW (v := .t _) (els := [_]) (els' := [_]) rfl rfl ti62 rfl rfl rfl rfl rfl rfl rfl rfl rfl) ?_
            refine RW.op rfl rfl (eff_assign (v := .t _) rfl rfl rfl) ?_
            refine RW.op rfl rfl (eff_assign (v := .t _) rfl rfl rfl) ?_
            refine RW.nil ?_
            refine awp_ret ?_
            first
              | (rw [show recvD r sq ky bd tg a e = (r, [], 2) from by unfold recvD; rw [if_pos (by omega)]]; first
              | exact ⟨Or.inr rfl, [_, _, _], ⟨.cell rfl ti62 (.whole rfl rfl rfl rfl rfl rfl) (.t _), .tmp (.t _), .tmp (.t _), trivial⟩, .refl _⟩
              | exact ⟨Or.inr rfl, [_, _, _], ⟨.cell rfl ti62 (.whole rfl rfl rfl rfl rfl rfl) (.t _), .tmp (.t _), .tmp (.t _), trivial⟩, (by repeat' first | exact trivial | exact Wk.refl _ | exact Wk.sl _ | refine And.intro ?_ ?_ | refine Wk.tupP ?_ | refine Wk.aggP ?_)⟩
              | exact ⟨Or.inr rfl, [_, _, _], ⟨.cell rfl ti62 (.whole rfl rfl rfl rfl rfl rfl) (.t _), .tmp (.t _), .tmp (Res.ownT rfl rfl rfl rfl), trivial⟩, .refl _⟩
              | exact ⟨Or.inr rfl, [_, _, _], ⟨.cell rfl ti62 (.whole rfl rfl rfl rfl rfl rfl) (.t _), .tmp (.t _), .tmp (Res.ownT rfl rfl rfl rfl), trivial⟩, (by repeat' first | exact trivial | exact Wk.refl _ | exact Wk.sl _ | refine And.intro ?_ ?_ | refine Wk.tupP ?_ | refine Wk.aggP ?_)⟩
              | exact ⟨Or.inr rfl, [_, _, _], ⟨.cell rfl ti62 (.whole rfl rfl rfl rfl rfl rfl) (.t _), .tmp (Res.ownT rfl rfl rfl rfl), .tmp (.t _), trivial⟩, .refl _⟩
              | exact ⟨Or.inr rfl, [_, _, _], ⟨.cell rfl ti62 (.whole rfl rfl rfl rfl rfl rfl) (.t _), .tmp (Res.ownT rfl rfl rfl rfl), .tmp (.t _), trivial⟩, (by repeat' first | exact trivial | exact Wk.refl _ | exact Wk.sl _ | refine And.intro ?_ ?_ | refine Wk.tupP ?_ | refine Wk.aggP ?_)⟩
              | exact ⟨Or.inr rfl, [_, _, _], ⟨.cell rfl ti62 (.whole rfl rfl rfl rfl rfl rfl) (.t _), .tmp (Res.ownT rfl rfl rfl rfl), .tmp (Res.ownT rfl rfl rfl rfl), trivial⟩, .refl _⟩
              | exact ⟨Or.inr rfl, [_, _, _], ⟨.cell rfl ti62 (.whole rfl rfl rfl rfl rfl rfl) (.t _), .tmp (Res.ownT rfl rfl rfl rfl), .tmp (Res.ownT rfl rfl rfl rfl), trivial⟩, (by repeat' first | exact trivial | exact Wk.refl _ | exact Wk.sl _ | refine And.intro ?_ ?_ | refine Wk.tupP ?_ | refine Wk.aggP ?_)⟩)
              | (rw [show recvD r sq ky bd tg a e = (r, [], e) from by unfold recvD; rw [if_neg (by omega), if_pos (by assumption)]]; first
              | exact ⟨Or.inr rfl, [_, _, _], ⟨.cell rfl ti62 (.whole rfl rfl rfl rfl rfl rfl) (.t _), .tmp (.t _), .tmp (.t _), trivial⟩, .refl _⟩
              | exact ⟨Or.inr rfl, [_, _, _], ⟨.cell rfl ti62 (.whole rfl rfl rfl rfl rfl rfl) (.t _), .tmp (.t _), .tmp (.t _), trivial⟩, (by repeat' first | exact trivial | exact Wk.refl _ | exact Wk.sl _ | refine And.intro ?_ ?_ | refine Wk.tupP ?_ | refine Wk.aggP ?_)⟩
              | exact ⟨Or.inr rfl, [_, _, _], ⟨.cell rfl ti62 (.whole rfl rfl rfl rfl rfl rfl) (.t _), .tmp (.t _), .tmp (Res.ownT rfl rfl rfl rfl), trivial⟩, .refl _⟩
              | exact ⟨Or.inr rfl, [_, _, _], ⟨.cell rfl ti62 (.whole rfl rfl rfl rfl rfl rfl) (.t _), .tmp (.t _), .tmp (Res.ownT rfl rfl rfl rfl), trivial⟩, (by repeat' first | exact trivial | exact Wk.refl _ | exact Wk.sl _ | refine And.intro ?_ ?_ | refine Wk.tupP ?_ | refine Wk.aggP ?_)⟩
              | exact ⟨Or.inr rfl, [_, _, _], ⟨.cell rfl ti62 (.whole rfl rfl rfl rfl rfl rfl) (.t _), .tmp (Res.ownT rfl rfl rfl rfl), .tmp (.t _), trivial⟩, .refl _⟩
              | exact ⟨Or.inr rfl, [_, _, _], ⟨.cell rfl ti62 (.whole rfl rfl rfl rfl rfl rfl) (.t _), .tmp (Res.ownT rfl rfl rfl rfl), .tmp (.t _), trivial⟩, (by repeat' first | exact trivial | exact Wk.refl _ | exact Wk.sl _ | refine And.intro ?_ ?_ | refine Wk.tupP ?_ | refine Wk.aggP ?_)⟩
              | exact ⟨Or.inr rfl, [_, _, _], ⟨.cell rfl ti62 (.whole rfl rfl rfl rfl rfl rfl) (.t _), .tmp (Res.ownT rfl rfl rfl rfl), .tmp (Res.ownT rfl rfl rfl rfl), trivial⟩, .refl _⟩
              | exact ⟨Or.inr rfl, [_, _, _], ⟨.cell rfl ti62 (.whole rfl rfl rfl rfl rfl rfl) (.t _), .tmp (Res.ownT rfl rfl rfl rfl), .tmp (Res.ownT rfl rfl rfl rfl), trivial⟩, (by repeat' first | exact trivial | exact Wk.refl _ | exact Wk.sl _ | refine And.intro ?_ ?_ | refine Wk.tupP ?_ | refine Wk.aggP ?_)⟩)
              | (rw [show recvD r sq ky bd tg a e = (⟨r.next, r.ahead, r.locked, a⟩, [], 31) from by unfold recvD; rw [if_neg (by omega), if_neg (fun h => h (by assumption)), if_pos (by assumption)]]; first
              | exact ⟨Or.inr rfl, [_, _, _], ⟨.cell rfl ti62 (.whole rfl rfl rfl rfl rfl rfl) (.t _), .tmp (.t _), .tmp (.t _), trivial⟩, .refl _⟩
              | exact ⟨Or.inr rfl, [_, _, _], ⟨.cell rfl ti62 (.whole rfl rfl rfl rfl rfl rfl) (.t _), .tmp (.t _), .tmp (.t _), trivial⟩, (by repeat' first | exact trivial | exact Wk.refl _ | exact Wk.sl _ | refine And.intro ?_ ?_ | refine Wk.tupP ?_ | refine Wk.aggP ?_)⟩
              | exact ⟨Or.inr rfl, [_, _, _], ⟨.cell rfl ti62 (.whole rfl rfl rfl rfl rfl rfl) (.t _), .tmp (.t _), .tmp (Res.ownT rfl rfl rfl rfl), trivial⟩, .refl _⟩
              | exact ⟨Or.inr rfl, [_, _, _], ⟨.cell rfl ti62 (.whole rfl rfl rfl rfl rfl rfl) (.t _), .tmp (.t _), .tmp (Res.ownT rfl rfl rfl rfl), trivial⟩, (by repeat' first | exact trivial | exact Wk.refl _ | exact Wk.sl _ | refine And.intro ?_ ?_ | refine Wk.tupP ?_ | refine Wk.aggP ?_)⟩
              | exact ⟨Or.inr rfl, [_, _, _], ⟨.cell rfl ti62 (.whole rfl rfl rfl rfl rfl rfl) (.t _), .tmp (Res.ownT rfl rfl rfl rfl), .tmp (.t _), trivial⟩, .refl _⟩
              | exact ⟨Or.inr rfl, [_, _, _], ⟨.cell rfl ti62 (.whole rfl rfl rfl rfl rfl rfl) (.t _), .tmp (Res.ownT rfl rfl rfl rfl), .tmp (.t _), trivial⟩, (by repeat' first | exact trivial | exact Wk.refl _ | exact Wk.sl _ | refine And.intro ?_ ?_ | refine Wk.tupP ?_ | refine Wk.aggP ?_)⟩
              | exact ⟨Or.inr rfl, [_, _, _], ⟨.cell rfl ti62 (.whole rfl rfl rfl rfl rfl rfl) (.t _), .tmp (Res.ownT rfl rfl rfl rfl), .tmp (Res.ownT rfl rfl rfl rfl), trivial⟩, .refl _⟩
              | exact ⟨Or.inr rfl, [_, _, _], ⟨.cell rfl ti62 (.whole rfl rfl rfl rfl rfl rfl) (.t _), .tmp (Res.ownT rfl rfl rfl rfl), .tmp (Res.ownT rfl rfl rfl rfl), trivial⟩, (by repeat' first | exact trivial | exact Wk.refl _ | exact Wk.sl _ | refine And.intro ?_ ?_ | refine Wk.tupP ?_ | refine Wk.aggP ?_)⟩)
              | (rw [show recvD r sq ky bd tg a e = (delR ⟨r.next, r.ahead, r.locked, a⟩, delB ⟨r.next, r.ahead, r.locked, a⟩ bd, 0) from by unfold recvD; rw [if_neg (by omega), if_neg (fun h => h (by assumption)), if_neg (by simp_all), if_pos (by omega)]]; first
              | exact ⟨Or.inr rfl, [_, _, _], ⟨.cell rfl ti62 (.whole rfl rfl rfl rfl rfl rfl) (.t _), .tmp (.t _), .tmp (.t _), trivial⟩, .refl _⟩
              | exact ⟨Or.inr rfl, [_, _, _], ⟨.cell rfl ti62 (.whole rfl rfl rfl rfl rfl rfl) (.t _), .tmp (.t _), .tmp (.t _), trivial⟩, (by repeat' first | exact trivial | exact Wk.refl _ | exact Wk.sl _ | refine And.intro ?_ ?_ | refine Wk.tupP ?_ | refine Wk.aggP ?_)⟩
              | exact ⟨Or.inr rfl, [_, _, _], ⟨.cell rfl ti62 (.whole rfl rfl rfl rfl rfl rfl) (.t _), .tmp (.t _), .tmp (Res.ownT rfl rfl rfl rfl), trivial⟩, .refl _⟩
              | exact ⟨Or.inr rfl, [_, _, _], ⟨.cell rfl ti62 (.whole rfl rfl rfl rfl rfl rfl) (.t _), .tmp (.t _), .tmp (Res.ownT rfl rfl rfl rfl), trivial⟩, (by repeat' first | exact trivial | exact Wk.refl _ | exact Wk.sl _ | refine And.intro ?_ ?_ | refine Wk.tupP ?_ | refine Wk.aggP ?_)⟩
              | exact ⟨Or.inr rfl, [_, _, _], ⟨.cell rfl ti62 (.whole rfl rfl rfl rfl rfl rfl) (.t _), .tmp (Res.ownT rfl rfl rfl rfl), .tmp (.t _), trivial⟩, .refl _⟩
              | exact ⟨Or.inr rfl, [_, _, _], ⟨.cell rfl ti62 (.whole rfl rfl rfl rfl rfl rfl) (.t _), .tmp (Res.ownT rfl rfl rfl rfl), .tmp (.t _), trivial⟩, (by repeat' first | exact trivial | exact Wk.refl _ | exact Wk.sl _ | refine And.intro ?_ ?_ | refine Wk.tupP ?_ | refine Wk.aggP ?_)⟩
              | exact ⟨Or.inr rfl, [_, _, _], ⟨.cell rfl ti62 (.whole rfl rfl rfl rfl rfl rfl) (.t _), .tmp (Res.ownT rfl rfl rfl rfl), .tmp (Res.ownT rfl rfl rfl rfl), trivial⟩, .refl _⟩
              | exact ⟨Or.inr rfl, [_, _, _], ⟨.cell rfl ti62 (.whole rfl rfl rfl rfl rfl rfl) (.t _), .tmp (Res.ownT rfl rfl rfl rfl), .tmp (Res.ownT rfl rfl rfl rfl), trivial⟩, (by repeat' first | exact trivial | exact Wk.refl _ | exact Wk.sl _ | refine And.intro ?_ ?_ | refine Wk.tupP ?_ | refine Wk.aggP ?_)⟩)
              | (rw [show recvD r sq ky bd tg a e = (⟨r.next, keepL ⟨r.next + dist2 sq r.next, ky, false, bd, tg⟩ r.ahead, r.locked, a⟩, [], 0) from by unfold recvD; rw [if_neg (by omega), if_neg (fun h => h (by assumption)), if_neg (by simp_all), if_neg (by omega), if_pos (by omega)]]; first
              | exact ⟨Or.inr rfl, [_, _, _], ⟨.cell rfl ti62 (.whole rfl rfl rfl rfl rfl rfl) (.t _), .tmp (.t _), .tmp (.t _), trivial⟩, .refl _⟩
              | exact ⟨Or.inr rfl, [_, _, _], ⟨.cell rfl ti62 (.whole rfl rfl rfl rfl rfl rfl) (.t _), .tmp (.t _), .tmp (.t _), trivial⟩, (by repeat' first | exact trivial | exact Wk.refl _ | exact Wk.sl _ | refine And.intro ?_ ?_ | refine Wk.tupP ?_ | refine Wk.aggP ?_)⟩
              | exact ⟨Or.inr rfl, [_, _, _], ⟨.cell rfl ti62 (.whole rfl rfl rfl rfl rfl rfl) (.t _), .tmp (.t _), .tmp (Res.ownT rfl rfl rfl rfl), trivial⟩, .refl _⟩
              | exact ⟨Or.inr rfl, [_, _, _], ⟨.cell rfl ti62 (.whole rfl rfl rfl rfl rfl rfl) (.t _), .tmp (.t _), .tmp (Res.ownT rfl rfl rfl rfl), trivial⟩, (by repeat' first | exact trivial | exact Wk.refl _ | exact Wk.sl _ | refine And.intro ?_ ?_ | refine Wk.tupP ?_ | refine Wk.aggP ?_)⟩
              | exact ⟨Or.inr rfl, [_, _, _], ⟨.cell rfl ti62 (.whole rfl rfl rfl rfl rfl rfl) (.t _), .tmp (Res.ownT rfl rfl rfl rfl), .tmp (.t _), trivial⟩, .refl _⟩
              | exact ⟨Or.inr rfl, [_, _, _], ⟨.cell rfl ti62 (.whole rfl rfl rfl rfl rfl rfl) (.t _), .tmp (Res.ownT rfl rfl rfl rfl), .tmp (.t _), trivial⟩, (by repeat' first | exact trivial | exact Wk.refl _ | exact Wk.sl _ | refine And.intro ?_ ?_ | refine Wk.tupP ?_ | refine Wk.aggP ?_)⟩
              | exact ⟨Or.inr rfl, [_, _, _], ⟨.cell rfl ti62 (.whole rfl rfl rfl rfl rfl rfl) (.t _), .tmp (Res.ownT rfl rfl rfl rfl), .tmp (Res.ownT rfl rfl rfl rfl), trivial⟩, .refl _⟩
              | exact ⟨Or.inr rfl, [_, _, _], ⟨.cell rfl ti62 (.whole rfl rfl rfl rfl rfl rfl) (.t _), .tmp (Res.ownT rfl rfl rfl rfl), .tmp (Res.ownT rfl rfl rfl rfl), trivial⟩, (by repeat' first | exact trivial | exact Wk.refl _ | exact Wk.sl _ | refine And.intro ?_ ?_ | refine Wk.tupP ?_ | refine Wk.aggP ?_)⟩)
              | (rw [show recvD r sq ky bd tg a e = (⟨r.next, r.ahead, true, a⟩, [], 32) from by unfold recvD; rw [if_neg (by omega), if_neg (fun h => h (by assumption)), if_neg (by simp_all), if_neg (by omega), if_neg (by omega), if_pos (by omega)]]; first
              | exact ⟨Or.inr rfl, [_, _, _], ⟨.cell rfl ti62 (.whole rfl rfl rfl rfl rfl rfl) (.t _), .tmp (.t _), .tmp (.t _), trivial⟩, .refl _⟩
              | exact ⟨Or.inr rfl, [_, _, _], ⟨.cell rfl ti62 (.whole rfl rfl rfl rfl rfl rfl) (.t _), .tmp (.t _), .tmp (.t _), trivial⟩, (by repeat' first | exact trivial | exact Wk.refl _ | exact Wk.sl _ | refine And.intro ?_ ?_ | refine Wk.tupP ?_ | refine Wk.aggP ?_)⟩
              | exact ⟨Or.inr rfl, [_, _, _], ⟨.cell rfl ti62 (.whole rfl rfl rfl rfl rfl rfl) (.t _), .tmp (.t _), .tmp (Res.ownT rfl rfl rfl rfl), trivial⟩, .refl _⟩
              | exact ⟨Or.inr rfl, [_, _, _], ⟨.cell rfl ti62 (.whole rfl rfl rfl rfl rfl rfl) (.t _), .tmp (.t _), .tmp (Res.ownT rfl rfl rfl rfl), trivial⟩, (by repeat' first | exact trivial | exact Wk.refl _ | exact Wk.sl _ | refine And.intro ?_ ?_ | refine Wk.tupP ?_ | refine Wk.aggP ?_)⟩
              | exact ⟨Or.inr rfl, [_, _, _], ⟨.cell rfl ti62 (.whole rfl rfl rfl rfl rfl rfl) (.t _), .tmp (Res.ownT rfl rfl rfl rfl), .tmp (.t _), trivial⟩, .refl _⟩
              | exact ⟨Or.inr rfl, [_, _, _], ⟨.cell rfl ti62 (.whole rfl rfl rfl rfl rfl rfl) (.t _), .tmp (Res.ownT rfl rfl rfl rfl), .tmp (.t _), trivial⟩, (by repeat' first | exact trivial | exact Wk.refl _ | exact Wk.sl _ | refine And.intro ?_ ?_ | refine Wk.tupP ?_ | refine Wk.aggP ?_)⟩
              | exact ⟨Or.inr rfl, [_, _, _], ⟨.cell rfl ti62 (.whole rfl rfl rfl rfl rfl rfl) (.t _), .tmp (Res.ownT rfl rfl rfl rfl), .tmp (Res.ownT rfl rfl rfl rfl), trivial⟩, .refl _⟩
              | exact ⟨Or.inr rfl, [_, _, _], ⟨.cell rfl ti62 (.whole rfl rfl rfl rfl rfl rfl) (.t _), .tmp (Res.ownT rfl rfl rfl rfl), .tmp (Res.ownT rfl rfl rfl rfl), trivial⟩, (by repeat' first | exact trivial | exact Wk.refl _ | exact Wk.sl _ | refine And.intro ?_ ?_ | refine Wk.tupP ?_ | refine Wk.aggP ?_)⟩)
              | (rw [show recvD r sq ky bd tg a e = (⟨r.next, r.ahead, r.locked, a⟩, [], 0) from by unfold recvD; rw [if_neg (by omega), if_neg (fun h => h (by assumption)), if_neg (by simp_all), if_neg (by omega), if_neg (by omega), if_neg (by omega)]]; first
              | exact ⟨Or.inr rfl, [_, _, _], ⟨.cell rfl ti62 (.whole rfl rfl rfl rfl rfl rfl) (.t _), .tmp (.t _), .tmp (.t _), trivial⟩, .refl _⟩
              | exact ⟨Or.inr rfl, [_, _, _], ⟨.cell rfl ti62 (.whole rfl rfl rfl rfl rfl rfl) (.t _), .tmp (.t _), .tmp (.t _), trivial⟩, (by repeat' first | exact trivial | exact Wk.refl _ | exact Wk.sl _ | refine And.intro ?_ ?_ | refine Wk.tupP ?_ | refine Wk.aggP ?_)⟩
              | exact ⟨Or.inr rfl, [_, _, _], ⟨.cell rfl ti62 (.whole rfl rfl rfl rfl rfl rfl) (.t _), .tmp (.t _), .tmp (Res.ownT rfl rfl rfl rfl), trivial⟩, .refl _⟩
              | exact ⟨Or.inr rfl, [_, _, _], ⟨.cell rfl ti62 (.whole rfl rfl rfl rfl rfl rfl) (.t _), .tmp (.t _), .tmp (Res.ownT rfl rfl rfl rfl), trivial⟩, (by repeat' first | exact trivial | exact Wk.refl _ | exact Wk.sl _ | refine And.intro ?_ ?_ | refine Wk.tupP ?_ | refine Wk.aggP ?_)⟩
              | exact ⟨Or.inr rfl, [_, _, _], ⟨.cell rfl ti62 (.whole rfl rfl rfl rfl rfl rfl) (.t _), .tmp (Res.ownT rfl rfl rfl rfl), .tmp (.t _), trivial⟩, .refl _⟩
              | exact ⟨Or.inr rfl, [_, _, _], ⟨.cell rfl ti62 (.whole rfl rfl rfl rfl rfl rfl) (.t _), .tmp (Res.ownT rfl rfl rfl rfl), .tmp (.t _), trivial⟩, (by repeat' first | exact trivial | exact Wk.refl _ | exact Wk.sl _ | refine And.intro ?_ ?_ | refine Wk.tupP ?_ | refine Wk.aggP ?_)⟩
              | exact ⟨Or.inr rfl, [_, _, _], ⟨.cell rfl ti62 (.whole rfl rfl rfl rfl rfl rfl) (.t _), .tmp (Res.ownT rfl rfl rfl rfl), .tmp (Res.ownT rfl rfl rfl rfl), trivial⟩, .refl _⟩
              | exact ⟨Or.inr rfl, [_, _, _], ⟨.cell rfl ti62 (.whole rfl rfl rfl rfl rfl rfl) (.t _), .tmp (Res.ownT rfl rfl rfl rfl), .tmp (Res.ownT rfl rfl rfl rfl), trivial⟩, (by repeat' first | exact trivial | exact Wk.refl _ | exact Wk.sl _ | refine And.intro ?_ ?_ | refine Wk.tupP ?_ | refine Wk.aggP ?_)⟩)
          · try simp only [decide_eq_true_eq, decide_eq_false_iff_not, beq_iff_eq, bne_iff_ne, bne_eq_false_iff_eq, beq_eq_false_iff_ne, Bool.not_eq_true, Bool.not_eq_false, Bool.not_eq_true', Bool.not_eq_false', ne_eq] at h5
            refine awp_seq ?_
            refine awp_rw rfl ?_
            refine RW.op rfl rfl (eff_move (v := .t _) rfl rfl rfl) ?_
            refine RW.op rfl rfl (eff_iop rfl rfl rfl rfl rfl) ?_
            refine RW.op rfl rfl (eff_assign (v := .t _) rfl rfl rfl) ?_
            refine RW.nil ?_
            refine awp_cond rfl (fun h6 => ?_) (fun h6 => ?_)
            · try simp only [decide_eq_true_eq, decide_eq_false_iff_not, beq_iff_eq, bne_iff_ne, bne_eq_false_iff_eq, beq_eq_false_iff_ne, Bool.not_eq_true, Bool.not_eq_false, Bool.not_eq_true', Bool.not_eq_false', ne_eq] at h6
              refine awp_seq ?_
              refine awp_rd [(some 106, []), (some 107, []), (some 108, []), (some 109, []), (some 110, []), (some 111, []), (some 112, []), (some 113, []), (none, [3]), (some 114, []), (none, [3])] [[], [0], [], [0, 1, 2], [], [4], [4, 5], [0, 1, 2, 3, 4, 5], [0, 1, 2, 3, 4, 5, 6, 7], [0, 1, 2, 3, 4, 5, 6, 7, 8], [0, 1, 2, 3, 4, 5, 6, 7, 8, 9]] tm rfl rfl rfl rfl ?_
              refine RD.op rfl rfl rfl (eff_fieldAddr rfl rfl tf62_0 (by decide) rfl rfl rfl (Nat.le_of_ble_eq_true rfl)) ?_
              refine RD.op rfl rfl rfl (eff_load (y := .t _) rfl rfl ti3 rfl (.one rfl rfl rfl rfl)) ?_
              refine RD.op rfl rfl rfl (eff_move (v := .t _) rfl rfl rfl) ?_
              refine RD.op rfl rfl rfl (eff_iop rfl rfl rfl rfl (iadd (by omega))) ?_
              refine RD.op rfl rfl rfl (eff_fieldAddr rfl rfl tf30_3 (by decide) rfl rfl rfl (Nat.le_of_ble_eq_true rfl)) ?_
              refine RD.op rfl rfl rfl (eff_load (y := .t _) rfl rfl ti27 rfl (.one rfl rfl rfl rfl)) ?_
              refine RD.op rfl rfl rfl (eff_callT (cloneB_ret bd (by omega)) co58 rfl rfl rfl rfl) ?_
              refine RD.op rfl rfl rfl (eff_fieldAddr rfl rfl tf30_0 (by decide) rfl rfl rfl (Nat.le_of_ble_eq_true rfl)) ?_
              refine RD.store rfl rfl rfl (eff_storeS (v := .t _) (ys := [_, _, _, _, _]) (els := [_]) (els' := [_]) rfl rfl ti3 rfl rfl rfl rfl rfl rfl rfl (Nat.le_of_ble_eq_true rfl) rfl rfl) ?_
              refine RD.op rfl rfl rfl (eff_fieldAddr rfl rfl tf30_3 (by decide) rfl rfl rfl (Nat.le_of_ble_eq_true rfl)) ?_
              refine RD.store rfl rfl rfl (eff_storeS (v := .t _) (ys := [_, _, _, _, _]) (els := [_]) (els' := [_]) rfl rfl ti27 rfl rfl rfl rfl rfl rfl rfl (Nat.le_of_ble_eq_true rfl) rfl rfl) ?_
              refine RD.nil ?_
              refine awp_rw rfl ?_
              refine RW.op rfl rfl (eff_fieldAddr rfl rfl tf62_1 (by decide) rfl rfl rfl (Nat.le_of_ble_eq_true rfl)) ?_
              refine RW.op rfl rfl (eff_load (y := .t _) rfl rfl ti34 rfl (.one rfl rfl rfl rfl)) ?_
              refine RW.op rfl rfl (eff_load rfl rfl ti30 rfl (.whole rfl rfl rfl rfl rfl rfl)) ?_
              refine RW.op rfl rfl (eff_callT (keep_ret r.ahead ⟨r.next + dist2 sq r.next, ky, false, bd, tg⟩ (by omega)) co62 rfl rfl rfl rfl) ?_
              refine RW.op rfl rfl (eff_fieldAddr rfl rfl tf62_1 (by decide) rfl rfl rfl (Nat.le_of_ble_eq_true rfl)) ?_
              refine RW.store rfl rfl (eff_storeS (v := .t _) (ys := [_, _, _, _, _]) (els := [_]) (els' := [_]) rfl rfl ti34 rfl rfl rfl rfl rfl rfl rfl (Nat.le_of_ble_eq_true rfl) rfl rfl) ?_
              refine RW.nil ?_
              refine awp_seq ?_
              refine awp_rw rfl ?_
              refine RW.op rfl rfl (eff_load rfl rfl ti62 rfl (.whole rfl rfl rfl rfl rfl rfl)) ?_
              refine RW.store rfl rfl (eff_storeW (v := .t _) (els := [_]) (els' := [_]) rfl rfl ti62 rfl rfl rfl rfl rfl rfl rfl rfl rfl) ?_
              refine RW.op rfl rfl (eff_assign (v := .t _) rfl rfl rfl) ?_
              refine RW.op rfl rfl (eff_assign (v := .t _) rfl rfl rfl) ?_
              refine RW.nil ?_
              refine awp_ret ?_
              first
                | (rw [show recvD r sq ky bd tg a e = (r, [], 2) from by unfold recvD; rw [if_pos (by omega)]]; first
                | exact ⟨Or.inr rfl, [_, _, _], ⟨.cell rfl ti62 (.whole rfl rfl rfl rfl rfl rfl) (.t _), .tmp (.t _), .tmp (.t _), trivial⟩, .refl _⟩
                | exact ⟨Or.inr rfl, [_, _, _], ⟨.cell rfl ti62 (.whole rfl rfl rfl rfl rfl rfl) (.t _), .tmp (.t _), .tmp (.t _), trivial⟩, (by repeat' first | exact trivial | exact Wk.refl _ | exact Wk.sl _ | refine And.intro ?_ ?_ | refine Wk.tupP ?_ | refine Wk.aggP ?_)⟩
                | exact ⟨Or.inr rfl, [_, _, _], ⟨.cell rfl ti62 (.whole rfl rfl rfl rfl rfl rfl) (.t _), .tmp (.t _), .tmp (Res.ownT rfl rfl rfl rfl), trivial⟩, .refl _⟩
                | exact ⟨Or.inr rfl, [_, _, _], ⟨.cell rfl ti62 (.whole rfl rfl rfl rfl rfl rfl) (.t _), .tmp (.t _), .tmp (Res.ownT rfl rfl rfl rfl), trivial⟩, (by repeat' first | exact trivial | exact Wk.refl _ | exact Wk.sl _ | refine And.intro ?_ ?_ | refine Wk.tupP ?_ | refine Wk.aggP ?_)⟩
                | exact ⟨Or.inr rfl, [_, _, _], ⟨.cell rfl ti62 (.whole rfl rfl rfl rfl rfl rfl) (.t _), .tmp (Res.ownT rfl rfl rfl rfl), .tmp (.t _), trivial⟩, .refl _⟩
                | exact ⟨Or.inr rfl, [_, _, _], ⟨.cell rfl ti62 (.whole rfl rfl rfl rfl rfl rfl) (.t _), .tmp (Res.ownT rfl rfl rfl rfl), .tmp (.t _), trivial⟩, (by repeat' first | exact trivial | exact Wk.refl _ | exact Wk.sl _ | refine And.intro ?_ ?_ | refine Wk.tupP ?_ | refine Wk.aggP ?_)⟩
                | exact ⟨Or.inr rfl, [_, _, _], ⟨.cell rfl ti62 (.whole rfl rfl rfl rfl rfl rfl) (.t _), .tmp (Res.ownT rfl rfl rfl rfl), .tmp (Res.ownT rfl rfl rfl rfl), trivial⟩, .refl _⟩
                | exact ⟨Or.inr rfl, [_, _, _], ⟨.cell rfl ti62 (.whole rfl rfl rfl rfl rfl rfl) (.t _), .tmp (Res.ownT rfl rfl rfl rfl), .tmp (Res.ownT rfl rfl rfl rfl), trivial⟩, (by repeat' first | exact trivial | exact Wk.refl _ | exact Wk.sl _ | refine And.intro ?_ ?_ | refine Wk.tupP ?_ | refine Wk.aggP ?_)⟩)
                | (rw [show recvD r sq ky bd tg a e = (r, [], e) from by unfold recvD; rw [if_neg (by omega), if_pos (by assumption)]]; first
                | exact ⟨Or.inr rfl, [_, _, _], ⟨.cell rfl ti62 (.whole rfl rfl rfl rfl rfl rfl) (.t _), .tmp (.t _), .tmp (.t _), trivial⟩, .refl _⟩
                | exact ⟨Or.inr rfl, [_, _, _], ⟨.cell rfl ti62 (.whole rfl rfl rfl rfl rfl rfl) (.t _), .tmp (.t _), .tmp (.t _), trivial⟩, (by repeat' first | exact trivial | exact Wk.refl _ | exact Wk.sl _ | refine And.intro ?_ ?_ | refine Wk.tupP ?_ | refine Wk.aggP ?_)⟩
                | exact ⟨Or.inr rfl, [_, _, _], ⟨.cell rfl ti62 (.whole rfl rfl rfl rfl rfl rfl) (.t _), .tmp (.t _), .tmp (Res.ownT rfl rfl rfl rfl), trivial⟩, .refl _⟩
                | exact ⟨Or.inr rfl, [_, _, _], ⟨.cell rfl ti62 (.whole rfl rfl rfl rfl rfl rfl) (.t _), .tmp (.t _), .tmp (Res.ownT rfl rfl rfl rfl), trivial⟩, (by repeat' first | exact trivial | exact Wk.refl _ | exact Wk.sl _ | refine And.intro ?_ ?_ | refine Wk.tupP ?_ | refine Wk.aggP ?_)⟩
                | exact ⟨Or.inr rfl, [_, _, _], ⟨.cell rfl ti62 (.whole rfl rfl rfl rfl rfl rfl) (.t _), .tmp (Res.ownT rfl rfl rfl rfl), .tmp (.t _), trivial⟩, .refl _⟩
                | exact ⟨Or.inr rfl, [_, _, _], ⟨.cell rfl ti62 (.whole rfl rfl rfl rfl rfl rfl) (.t _), .tmp (Res.ownT rfl rfl rfl rfl), .tmp (.t _), trivial⟩, (by repeat' first | exact trivial | exact Wk.refl _ | exact Wk.sl _ | refine And.intro ?_ ?_ | refine Wk.tupP ?_ | refine Wk.aggP ?_)⟩
                | exact ⟨Or.inr rfl, [_, _, _], ⟨.cell rfl ti62 (.whole rfl rfl rfl rfl rfl rfl) (.t _), .tmp (Res.ownT rfl rfl rfl rfl), .tmp (Res.ownT rfl rfl rfl rfl), trivial⟩, .refl _⟩
                | exact ⟨Or.inr rfl, [_, _, _], ⟨.cell rfl ti62 (.whole rfl rfl rfl rfl rfl rfl) (.t _), .tmp (Res.ownT rfl rfl rfl rfl), .tmp (Res.ownT rfl rfl rfl rfl), trivial⟩, (by repeat' first | exact trivial | exact Wk.refl _ | exact Wk.sl _ | refine And.intro ?_ ?_ | refine Wk.tupP ?_ | refine Wk.aggP ?_)⟩)
                | (rw [show recvD r sq ky bd tg a e = (⟨r.next, r.ahead, r.locked, a⟩, [], 31) from by unfold recvD; rw [if_neg (by omega), if_neg (fun h => h (by assumption)), if_pos (by assumption)]]; first
                | exact ⟨Or.inr rfl, [_, _, _], ⟨.cell rfl ti62 (.whole rfl rfl rfl rfl rfl rfl) (.t _), .tmp (.t _), .tmp (.t _), trivial⟩, .refl _⟩
                | exact ⟨Or.inr rfl, [_, _, _], ⟨.cell rfl ti62 (.whole rfl rfl rfl rfl rfl rfl) (.t _), .tmp (.t _), .tmp (.t _), trivial⟩, (by repeat' first | exact trivial | exact Wk.refl _ | exact Wk.sl _ | refine And.intro ?_ ?_ | refine Wk.tupP ?_ | refine Wk.aggP ?_)⟩
                | exact ⟨Or.inr rfl, [_, _, _], ⟨.cell rfl ti62 (.whole rfl rfl rfl rfl rfl rfl) (.t _), .tmp (.t _), .tmp (Res.ownT rfl rfl rfl rfl), trivial⟩, .refl _⟩
                | exact ⟨Or.inr rfl, [_, _, _], ⟨.cell rfl ti62 (.whole rfl rfl rfl rfl rfl rfl) (.t _), .tmp (.t _), .tmp (Res.ownT rfl rfl rfl rfl), trivial⟩, (by repeat' first | exact trivial | exact Wk.refl _ | exact Wk.sl _ | refine And.intro ?_ ?_ | refine Wk.tupP ?_ | refine Wk.aggP ?_)⟩
                | exact ⟨Or.inr rfl, [_, _, _], ⟨.cell rfl ti62 (.whole rfl rfl rfl rfl rfl rfl) (.t _), .tmp (Res.ownT rfl rfl rfl rfl), .tmp (.t _), trivial⟩, .refl _⟩
                | exact ⟨Or.inr rfl, [_, _, _], ⟨.cell rfl ti62 (.whole rfl rfl rfl rfl rfl rfl) (.t _), .tmp (Res.ownT rfl rfl rfl rfl), .tmp (.t _), trivial⟩, (by repeat' first | exact trivial | exact Wk.refl _ | exact Wk.sl _ | refine And.intro ?_ ?_ | refine Wk.tupP ?_ | refine Wk.aggP ?_)⟩
                | exact ⟨Or.inr rfl, [_, _, _], ⟨.cell rfl ti62 (.whole rfl rfl rfl rfl rfl rfl) (.t _), .tmp (Res.ownT rfl rfl rfl rfl), .tmp (Res.ownT rfl rfl rfl rfl), trivial⟩, .refl _⟩
                | exact ⟨Or.inr rfl, [_, _, _], ⟨.cell rfl ti62 (.whole rfl rfl rfl rfl rfl rfl) (.t _), .tmp (Res.ownT rfl rfl rfl rfl), .tmp (Res.ownT rfl rfl rfl rfl), trivial⟩, (by repeat' first | exact trivial | exact Wk.refl _ | exact Wk.sl _ | refine And.intro ?_ ?_ | refine Wk.tupP ?_ | refine Wk.aggP ?_)⟩)
                | (rw [show recvD r sq ky bd tg a e = (delR ⟨r.next, r.ahead, r.locked, a⟩, delB ⟨r.next, r.ahead, r.locked, a⟩ bd, 0) from by unfold recvD; rw [if_neg (by omega), if_neg (fun h => h (by assumption)), if_neg (by simp_all), if_pos (by omega)]]; first
                | exact ⟨Or.inr rfl, [_, _, _], ⟨.cell rfl ti62 (.whole rfl rfl rfl rfl rfl rfl) (.t _), .tmp (.t _), .tmp (.t _), trivial⟩, .refl _⟩
                | exact ⟨Or.inr rfl, [_, _, _], ⟨.cell rfl ti62 (.whole rfl rfl rfl rfl rfl rfl) (.t _), .tmp (.t _), .tmp (.t _), trivial⟩, (by repeat' first | exact trivial | exact Wk.refl _ | exact Wk.sl _ | refine And.intro ?_ ?_ | refine Wk.tupP ?_ | refine Wk.aggP ?_)⟩
                | exact ⟨Or.inr rfl, [_, _, _], ⟨.cell rfl ti62 (.whole rfl rfl rfl rfl rfl rfl) (.t _), .tmp (.t _), .tmp (Res.ownT rfl rfl rfl rfl), trivial⟩, .refl _⟩
                | exact ⟨Or.inr rfl, [_, _, _], ⟨.cell rfl ti62 (.whole rfl rfl rfl rfl rfl rfl) (.t _), .tmp (.t _), .tmp (Res.ownT rfl rfl rfl rfl), trivial⟩, (by repeat' first | exact trivial | exact Wk.refl _ | exact Wk.sl _ | refine And.intro ?_ ?_ | refine Wk.tupP ?_ | refine Wk.aggP ?_)⟩
                | exact ⟨Or.inr rfl, [_, _, _], ⟨.cell rfl ti62 (.whole rfl rfl rfl rfl rfl rfl) (.t _), .tmp (Res.ownT rfl rfl rfl rfl), .tmp (.t _), trivial⟩, .refl _⟩
                | exact ⟨Or.inr rfl, [_, _, _], ⟨.cell rfl ti62 (.whole rfl rfl rfl rfl rfl rfl) (.t _), .tmp (Res.ownT rfl rfl rfl rfl), .tmp (.t _), trivial⟩, (by repeat' first | exact trivial | exact Wk.refl _ | exact Wk.sl _ | refine And.intro ?_ ?_ | refine Wk.tupP ?_ | refine Wk.aggP ?_)⟩
                | exact ⟨Or.inr rfl, [_, _, _], ⟨.cell rfl ti62 (.whole rfl rfl rfl rfl rfl rfl) (.t _), .tmp (Res.ownT rfl rfl rfl rfl), .tmp (Res.ownT rfl rfl rfl rfl), trivial⟩, .refl _⟩
                | exact ⟨Or.inr rfl, [_, _, _], ⟨.cell rfl ti62 (.whole rfl rfl rfl rfl rfl rfl) (.t _), .tmp (Res.ownT rfl rfl rfl rfl), .tmp (Res.ownT rfl rfl rfl rfl), trivial⟩, (by repeat' first | exact trivial | exact Wk.refl _ | exact Wk.sl _ | refine And.intro ?_ ?_ | refine Wk.tupP ?_ | refine Wk.aggP ?_)⟩)
                | (rw [show recvD r sq ky bd tg a e = (⟨r.next, keepL ⟨r.next + dist2 sq r.next, ky, false, bd, tg⟩ r.ahead, r.locked, a⟩, [], 0) from by unfold recvD; rw [if_neg (by omega), if_neg (fun h => h (by assumption)), if_neg (by simp_all), if_neg (by omega), if_pos (by omega)]]; first
                | exact ⟨Or.inr rfl, [_, _, _], ⟨.cell rfl ti62 (.whole rfl rfl rfl rfl rfl rfl) (.t _), .tmp (.t _), .tmp (.t _), trivial⟩, .refl _⟩
                | exact ⟨Or.inr rfl, [_, _, _], ⟨.cell rfl ti62 (.whole rfl rfl rfl rfl rfl rfl) (.t _), .tmp (.t _), .tmp (.t _), trivial⟩, (by repeat' first | exact trivial | exact Wk.refl _ | exact Wk.sl _ | refine And.intro ?_ ?_ | refine Wk.tupP ?_ | refine Wk.aggP ?_)⟩
                | exact ⟨Or.inr rfl, [_, _, _], ⟨.cell rfl ti62 (.whole rfl rfl rfl rfl rfl rfl) (.t _), .tmp (.t _), .tmp (Res.ownT rfl rfl rfl rfl), trivial⟩, .refl _⟩
                | exact ⟨Or.inr rfl, [_, _, _], ⟨.cell rfl ti62 (.whole rfl rfl rfl rfl rfl rfl) (.t _), .tmp (.t _), .tmp (Res.ownT rfl rfl rfl rfl), trivial⟩, (by repeat' first | exact trivial | exact Wk.refl _ | exact Wk.sl _ | refine And.intro ?_ ?_ | refine Wk.tupP ?_ | refine Wk.aggP ?_)⟩
                | exact ⟨Or.inr rfl, [_, _, _], ⟨.cell rfl ti62 (.whole rfl rfl rfl rfl rfl rfl) (.t _), .tmp (Res.ownT rfl rfl rfl rfl), .tmp (.t _), trivial⟩, .refl _⟩
                | exact ⟨Or.inr rfl, [_, _, _], ⟨.cell rfl ti62 (.whole rfl rfl rfl rfl rfl rfl) (.t _), .tmp (Res.ownT rfl rfl rfl rfl), .tmp (.t _), trivial⟩, (by repeat' first | exact trivial | exact Wk.refl _ | exact Wk.sl _ | refine And.intro ?_ ?_ | refine Wk.tupP ?_ | refine Wk.aggP ?_)⟩
                | exact ⟨Or.inr rfl, [_, _, _], ⟨.cell rfl ti62 (.whole rfl rfl rfl rfl rfl rfl) (.t _), .tmp (Res.ownT rfl rfl rfl rfl), .tmp (Res.ownT rfl rfl rfl rfl), trivial⟩, .refl _⟩
                | exact ⟨Or.inr rfl, [_, _, _], ⟨.cell rfl ti62 (.whole rfl rfl rfl rfl rfl rfl) (.t _), .tmp (Res.ownT rfl rfl rfl rfl), .tmp (Res.ownT rfl rfl rfl rfl), trivial⟩, (by repeat' first | exact trivial | exact Wk.refl _ | exact Wk.sl _ | refine And.intro ?_ ?_ | refine Wk.tupP ?_ | refine Wk.aggP ?_)⟩)
                | (rw [show recvD r sq ky bd tg a e = (⟨r.next, r.ahead, true, a⟩, [], 32) from by unfold recvD; rw [if_neg (by omega), if_neg (fun h => h (by assumption)), if_neg (by simp_all), if_neg (by omega), if_neg (by omega), if_pos (by omega)]]; first
                | exact ⟨Or.inr rfl, [_, _, _], ⟨.cell rfl ti62 (.whole rfl rfl rfl rfl rfl rfl) (.t _), .tmp (.t _), .tmp (.t _), trivial⟩, .refl _⟩
                | exact ⟨Or.inr rfl, [_, _, _], ⟨.cell rfl ti62 (.whole rfl rfl rfl rfl rfl rfl) (.t _), .tmp (.t _), .tmp (.t _), trivial⟩, (by repeat' first | exact trivial | exact Wk.refl _ | exact Wk.sl _ | refine And.intro ?_ ?_ | refine Wk.tupP ?_ | refine Wk.aggP ?_)⟩
                | exact ⟨Or.inr rfl, [_, _, _], ⟨.cell rfl ti62 (.whole rfl rfl rfl rfl rfl rfl) (.t _), .tmp (.t _), .tmp (Res.ownT rfl rfl rfl rfl), trivial⟩, .refl _⟩
                | exact ⟨Or.inr rfl, [_, _, _], ⟨.cell rfl ti62 (.whole rfl rfl rfl rfl rfl rfl) (.t _), .tmp (.t _), .tmp (Res.ownT rfl rfl rfl rfl), trivial⟩, (by repeat' first | exact trivial | exact Wk.refl _ | exact Wk.sl _ | refine And.intro ?_ ?_ | refine Wk.tupP ?_ | refine Wk.aggP ?_)⟩
                | exact ⟨Or.inr rfl, [_, _, _], ⟨.cell rfl ti62 (.whole rfl rfl rfl rfl rfl rfl) (.t _), .tmp (Res.ownT rfl rfl rfl rfl), .tmp (.t _), trivial⟩, .refl _⟩
                | exact ⟨Or.inr rfl, [_, _, _], ⟨.cell rfl ti62 (.whole rfl rfl rfl rfl rfl rfl) (.t _), .tmp (Res.ownT rfl rfl rfl rfl), .tmp (.t _), trivial⟩, (by repeat' first | exact trivial | exact Wk.refl _ | exact Wk.sl _ | refine And.intro ?_ ?_ | refine Wk.tupP ?_ | refine Wk.aggP ?_)⟩
                | exact ⟨Or.inr rfl, [_, _, _], ⟨.cell rfl ti62 (.whole rfl rfl rfl rfl rfl rfl) (.t _), .tmp (Res.ownT rfl rfl rfl rfl), .tmp (Res.ownT rfl rfl rfl rfl), trivial⟩, .refl _⟩
                | exact ⟨Or.inr rfl, [_, _, _], ⟨.cell rfl ti62 (.whole rfl rfl rfl rfl rfl rfl) (.t _), .tmp (Res.ownT rfl rfl rfl rfl), .tmp (Res.ownT rfl rfl rfl rfl), trivial⟩, (by repeat' first | exact trivial | exact Wk.refl _ | exact Wk.sl _ | refine And.intro ?_ ?_ | refine Wk.tupP ?_ | refine Wk.aggP ?_)⟩)
                | (rw [show recvD r sq ky bd tg a e = (⟨r.next, r.ahead, r.locked, a⟩, [], 0) from by unfold recvD; rw [if_neg (by omega), if_neg (fun h => h (by assumption)), if_neg (by simp_all), if_neg (by omega), if_neg (by omega), if_neg (by omega)]]; first
                | exact ⟨Or.inr rfl, [_, _, _], ⟨.cell rfl ti62 (.whole rfl rfl rfl rfl rfl rfl) (.t _), .tmp (.t _), .tmp (.t _), trivial⟩, .refl _⟩
                | exact ⟨Or.inr rfl, [_, _, _], ⟨.cell rfl ti62 (.whole rfl rfl rfl rfl rfl rfl) (.t _), .tmp (.t _), .tmp (.t _), trivial⟩, (by repeat' first | exact trivial | exact Wk.refl _ | exact Wk.sl _ | refine And.intro ?_ ?_ | refine Wk.tupP ?_ | refine Wk.aggP ?_)⟩
                | exact ⟨Or.inr rfl, [_, _, _], ⟨.cell rfl ti62 (.whole rfl rfl rfl rfl rfl rfl) (.t _), .tmp (.t _), .tmp (Res.ownT rfl rfl rfl rfl), trivial⟩, .refl _⟩
                | exact ⟨Or.inr rfl, [_, _, _], ⟨.cell rfl ti62 (.whole rfl rfl rfl rfl rfl rfl) (.t _), .tmp (.t _), .tmp (Res.ownT rfl rfl rfl rfl), trivial⟩, (by repeat' first | exact trivial | exact Wk.refl _ | exact Wk.sl _ | refine And.intro ?_ ?_ | refine Wk.tupP ?_ | refine Wk.aggP ?_)⟩
                | exact ⟨Or.inr rfl, [_, _, _], ⟨.cell rfl ti62 (.whole rfl rfl rfl rfl rfl rfl) (.t _), .tmp (Res.ownT rfl rfl rfl rfl), .tmp (.t _), trivial⟩, .refl _⟩
                | exact ⟨Or.inr rfl, [_, _, _], ⟨.cell rfl ti62 (.whole rfl rfl rfl rfl rfl rfl) (.t _), .tmp (Res.ownT rfl rfl rfl rfl), .tmp (.t _), trivial⟩, (by repeat' first | exact trivial | exact Wk.refl _ | exact Wk.sl _ | refine And.intro ?_ ?_ | refine Wk.tupP ?_ | refine Wk.aggP ?_)⟩
                | exact ⟨Or.inr rfl, [_, _, _], ⟨.cell rfl ti62 (.whole rfl rfl rfl rfl rfl rfl) (.t _), .tmp (Res.ownT rfl rfl rfl rfl), .tmp (Res.ownT rfl rfl rfl rfl), trivial⟩, .refl _⟩
                | exact ⟨Or.inr rfl, [_, _, _], ⟨.cell rfl ti62 (.whole rfl rfl rfl rfl rfl rfl) (.t _), .tmp (Res.ownT rfl rfl rfl rfl), .tmp (Res.ownT rfl rfl rfl rfl), trivial⟩, (by repeat' first | exact trivial | exact Wk.refl _ | exact Wk.sl _ | refine And.intro ?_ ?_ | refine Wk.tupP ?_ | refine Wk.aggP ?_)⟩)
            · try simp only [decide_eq_true_eq, decide_eq_false_iff_not, beq_iff_eq, bne_iff_ne, bne_eq_false_iff_eq, beq_eq_false_iff_ne, Bool.not_eq_true, Bool.not_eq_false, Bool.not_eq_true', Bool.not_eq_false', ne_eq] at h6
              refine awp_seq ?_
              refine awp_rw rfl ?_
              refine RW.op rfl rfl (eff_move (v := .t _) rfl rfl rfl) ?_
              refine RW.op rfl rfl (eff_iop rfl rfl rfl rfl rfl) ?_
              refine RW.op rfl rfl (eff_assign (v := .t _) rfl rfl rfl) ?_
              refine RW.nil ?_
              refine awp_cond rfl (fun h7 => ?_) (fun h7 => ?_)
              · try simp only [decide_eq_true_eq, decide_eq_false_iff_not, beq_iff_eq, bne_iff_ne, bne_eq_false_iff_eq, beq_eq_false_iff_ne, Bool.not_eq_true, Bool.not_eq_false, Bool.not_eq_true', Bool.not_eq_false', ne_eq] at h7
                refine awp_seq ?_
                refine awp_rw rfl ?_
                refine RW.op rfl rfl (eff_fieldAddr rfl rfl tf62_2 (by decide) rfl rfl rfl (Nat.le_of_ble_eq_true rfl)) ?_
                refine RW.store rfl rfl (eff_storeS (v := .t _) (ys := [_, _, _, _, _]) (els := [_]) (els' := [_]) rfl rfl ti4 rfl rfl rfl rfl rfl rfl rfl (Nat.le_of_ble_eq_true rfl) rfl rfl) ?_
                refine RW.nil ?_
                refine awp_seq ?_
                refine awp_rw rfl ?_
                refine RW.op rfl rfl (eff_load rfl rfl ti62 rfl (.whole rfl rfl rfl rfl rfl rfl)) ?_
                refine RW.store rfl rfl (eff_storeW (v := .t _) (els := [_]) (els' := [_]) rfl rfl ti62 rfl rfl rfl rfl rfl rfl rfl rfl rfl) ?_
                refine RW.op rfl rfl (eff_assign (v := .t _) rfl rfl rfl) ?_
                refine RW.op rfl rfl (eff_assign (v := .t _) rfl rfl rfl) ?_
                refine RW.nil ?_
                refine awp_ret ?_
                first
                  | (rw [show recvD r sq ky bd tg a e = (r, [], 2) from by unfold recvD; rw [if_pos (by omega)]]; first
                  | exact ⟨Or.inr rfl, [_, _, _], ⟨.cell rfl ti62 (.whole rfl rfl rfl rfl rfl rfl) (.t _), .tmp (.t _), .tmp (.t _), trivial⟩, .refl _⟩
                  | exact ⟨Or.inr rfl, [_, _, _], ⟨.cell rfl ti62 (.whole rfl rfl rfl rfl rfl rfl) (.t _), .tmp (.t _), .tmp (.t _), trivial⟩, (by repeat' first | exact trivial | exact Wk.refl _ | exact Wk.sl _ | refine And.intro ?_ ?_ | refine Wk.tupP ?_ | refine Wk.aggP ?_)⟩
                  | exact ⟨Or.inr rfl, [_, _, _], ⟨.cell rfl ti62 (.whole rfl rfl rfl rfl rfl rfl) (.t _), .tmp (.t _), .tmp (Res.ownT rfl rfl rfl rfl), trivial⟩, .refl _⟩
                  | exact ⟨Or.inr rfl, [_, _, _], ⟨.cell rfl ti62 (.whole rfl rfl rfl rfl rfl rfl) (.t _), .tmp (.t _), .tmp (Res.ownT rfl rfl rfl rfl), trivial⟩, (by repeat' first | exact trivial | exact Wk.refl _ | exact Wk.sl _ | refine And.intro ?_ ?_ | refine Wk.tupP ?_ | refine Wk.aggP ?_)⟩
                  | exact ⟨Or.inr rfl, [_, _, _], ⟨.cell rfl ti62 (.whole rfl rfl rfl rfl rfl rfl) (.t _), .tmp (Res.ownT rfl rfl rfl rfl), .tmp (.t _), trivial⟩, .refl _⟩
                  | exact ⟨Or.inr rfl, [_, _, _], ⟨.cell rfl ti62 (.whole rfl rfl rfl rfl rfl rfl) (.t _), .tmp (Res.ownT rfl rfl rfl rfl), .tmp (.t _), trivial⟩, (by repeat' first | exact trivial | exact Wk.refl _ | exact Wk.sl _ | refine And.intro ?_ ?_ | refine Wk.tupP ?_ | refine Wk.aggP ?_)⟩
                  | exact ⟨Or.inr rfl, [_, _, _], ⟨.cell rfl ti62 (.whole rfl rfl rfl rfl rfl rfl) (.t _), .tmp (Res.ownT rfl rfl rfl rfl), .tmp (Res.ownT rfl rfl rfl rfl), trivial⟩, .refl _⟩
                  | exact ⟨Or.inr rfl, [_, _, _], ⟨.cell rfl ti62 (.whole rfl rfl rfl rfl rfl rfl) (.t _), .tmp (Res.ownT rfl rfl rfl rfl), .tmp (Res.ownT rfl rfl rfl rfl), trivial⟩, (by repeat' first | exact trivial | exact Wk.refl _ | exact Wk.sl _ | refine And.intro ?_ ?_ | refine Wk.tupP ?_ | refine Wk.aggP ?_)⟩)
                  | (rw [show recvD r sq ky bd tg a e = (r, [], e) from by unfold recvD; rw [if_neg (by omega), if_pos (by assumption)]]; first
                  | exact ⟨Or.inr rfl, [_, _, _], ⟨.cell rfl ti62 (.whole rfl rfl rfl rfl rfl rfl) (.t _), .tmp (.t _), .tmp (.t _), trivial⟩, .refl _⟩
                  | exact ⟨Or.inr rfl, [_, _, _], ⟨.cell rfl ti62 (.whole rfl rfl rfl rfl rfl rfl) (.t _), .tmp (.t _), .tmp (.t _), trivial⟩, (by repeat' first | exact trivial | exact Wk.refl _ | exact Wk.sl _ | refine And.intro ?_ ?_ | refine Wk.tupP ?_ | refine Wk.aggP ?_)⟩
                  | exact ⟨Or.inr rfl, [_, _, _], ⟨.cell rfl ti62 (.whole rfl rfl rfl rfl rfl rfl) (.t _), .tmp (.t _), .tmp (Res.ownT rfl rfl rfl rfl), trivial⟩, .refl _⟩
                  | exact ⟨Or.inr rfl, [_, _, _], ⟨.cell rfl ti62 (.whole rfl rfl rfl rfl rfl rfl) (.t _), .tmp (.t _), .tmp (Res.ownT rfl rfl rfl rfl), trivial⟩, (by repeat' first | exact trivial | exact Wk.refl _ | exact Wk.sl _ | refine And.intro ?_ ?_ | refine Wk.tupP ?_ | refine Wk.aggP ?_)⟩
                  | exact ⟨Or.inr rfl, [_, _, _], ⟨.cell rfl ti62 (.whole rfl rfl rfl rfl rfl rfl) (.t _), .tmp (Res.ownT rfl rfl rfl rfl), .tmp (.t _), trivial⟩, .refl _⟩
                  | exact ⟨Or.inr rfl, [_, _, _], ⟨.cell rfl ti62 (.whole rfl rfl rfl rfl rfl rfl) (.t _), .tmp (Res.ownT rfl rfl rfl rfl), .tmp (.t _), trivial⟩, (by repeat' first | exact trivial | exact Wk.refl _ | exact Wk.sl _ | refine And.intro ?_ ?_ | refine Wk.tupP ?_ | refine Wk.aggP ?_)⟩
                  | exact ⟨Or.inr rfl, [_, _, _], ⟨.cell rfl ti62 (.whole rfl rfl rfl rfl rfl rfl) (.t _), .tmp (Res.ownT rfl rfl rfl rfl), .tmp (Res.ownT rfl rfl rfl rfl), trivial⟩, .refl _⟩
                  | exact ⟨Or.inr rfl, [_, _, _], ⟨.cell rfl ti62 (.whole rfl rfl rfl rfl rfl rfl) (.t _), .tmp (Res.ownT rfl rfl rfl rfl), .tmp (Res.ownT rfl rfl rfl rfl), trivial⟩, (by repeat' first | exact trivial | exact Wk.refl _ | exact Wk.sl _ | refine And.intro ?_ ?_ | refine Wk.tupP ?_ | refine Wk.aggP ?_)⟩)
                  | (rw [show recvD r sq ky bd tg a e = (⟨r.next, r.ahead, r.locked, a⟩, [], 31) from by unfold recvD; rw [if_neg (by omega), if_neg (fun h => h (by assumption)), if_pos (by assumption)]]; first
                  | exact ⟨Or.inr rfl, [_, _, _], ⟨.cell rfl ti62 (.whole rfl rfl rfl rfl rfl rfl) (.t _), .tmp (.t _), .tmp (.t _), trivial⟩, .refl _⟩
                  | exact ⟨Or.inr rfl, [_, _, _], ⟨.cell rfl ti62 (.whole rfl rfl rfl rfl rfl rfl) (.t _), .tmp (.t _), .tmp (.t _), trivial⟩, (by repeat' first | exact trivial | exact Wk.refl _ | exact Wk.sl _ | refine And.intro ?_ ?_ | refine Wk.tupP ?_ | refine Wk.aggP ?_)⟩
                  | exact ⟨Or.inr rfl, [_, _, _], ⟨.cell rfl ti62 (.whole rfl rfl rfl rfl rfl rfl) (.t _), .tmp (.t _), .tmp (Res.ownT rfl rfl rfl rfl), trivial⟩, .refl _⟩
                  | exact ⟨Or.inr rfl, [_, _, _], ⟨.cell rfl ti62 (.whole rfl rfl rfl rfl rfl rfl) (.t _), .tmp (.t _), .tmp (Res.ownT rfl rfl rfl rfl), trivial⟩, (by repeat' first | exact trivial | exact Wk.refl _ | exact Wk.sl _ | refine And.intro ?_ ?_ | refine Wk.tupP ?_ | refine Wk.aggP ?_)⟩
                  | exact ⟨Or.inr rfl, [_, _, _], ⟨.cell rfl ti62 (.whole rfl rfl rfl rfl rfl rfl) (.t _), .tmp (Res.ownT rfl rfl rfl rfl), .tmp (.t _), trivial⟩, .refl _⟩
                  | exact ⟨Or.inr rfl, [_, _, _], ⟨.cell rfl ti62 (.whole rfl rfl rfl rfl rfl rfl) (.t _), .tmp (Res.ownT rfl rfl rfl rfl), .tmp (.t _), trivial⟩, (by repeat' first | exact trivial | exact Wk.refl _ | exact Wk.sl _ | refine And.intro ?_ ?_ | refine Wk.tupP ?_ | refine Wk.aggP ?_)⟩
                  | exact ⟨Or.inr rfl, [_, _, _], ⟨.cell rfl ti62 (.whole rfl rfl rfl rfl rfl rfl) (.t _), .tmp (Res.ownT rfl rfl rfl rfl), .tmp (Res.ownT rfl rfl rfl rfl), trivial⟩, .refl _⟩
                  | exact ⟨Or.inr rfl, [_, _, _], ⟨.cell rfl ti62 (.whole rfl rfl rfl rfl rfl rfl) (.t _), .tmp (Res.ownT rfl rfl rfl rfl), .tmp (Res.ownT rfl rfl rfl rfl), trivial⟩, (by repeat' first | exact trivial | exact Wk.refl _ | exact Wk.sl _ | refine And.intro ?_ ?_ | refine Wk.tupP ?_ | refine Wk.aggP ?_)⟩)
                  | (rw [show recvD r sq ky bd tg a e = (delR ⟨r.next, r.ahead, r.locked, a⟩, delB ⟨r.next, r.ahead, r.locked, a⟩ bd, 0) from by unfold recvD; rw [if_neg (by omega), if_neg (fun h => h (by assumption)), if_neg (by simp_all), if_pos (by omega)]]; first
                  | exact ⟨Or.inr rfl, [_, _, _], ⟨.cell rfl ti62 (.whole rfl rfl rfl rfl rfl rfl) (.t _), .tmp (.t _), .tmp (.t _), trivial⟩, .refl _⟩
                  | exact ⟨Or.inr rfl, [_, _, _], ⟨.cell rfl ti62 (.whole rfl rfl rfl rfl rfl rfl) (.t _), .tmp (.t _), .tmp (.t _), trivial⟩, (by repeat' first | exact trivial | exact Wk.refl _ | exact Wk.sl _ | refine And.intro ?_ ?_ | refine Wk.tupP ?_ | refine Wk.aggP ?_)⟩
                  | exact ⟨Or.inr rfl, [_, _, _], ⟨.cell rfl ti62 (.whole rfl rfl rfl rfl rfl rfl) (.t _), .tmp (.t _), .tmp (Res.ownT rfl rfl rfl rfl), trivial⟩, .refl _⟩
                  | exact ⟨Or.inr rfl, [_, _, _], ⟨.cell rfl ti62 (.whole rfl rfl rfl rfl rfl rfl) (.t _), .tmp (.t _), .tmp (Res.ownT rfl rfl rfl rfl), trivial⟩, (by repeat' first | exact trivial | exact Wk.refl _ | exact Wk.sl _ | refine And.intro ?_ ?_ | refine Wk.tupP ?_ | refine Wk.aggP ?_)⟩
                  | exact ⟨Or.inr rfl, [_, _, _], ⟨.cell rfl ti62 (.whole rfl rfl rfl rfl rfl rfl) (.t _), .tmp (Res.ownT rfl rfl rfl rfl), .tmp (.t _), trivial⟩, .refl _⟩
                  | exact ⟨Or.inr rfl, [_, _, _], ⟨.cell rfl ti62 (.whole rfl rfl rfl rfl rfl rfl) (.t _), .tmp (Res.ownT rfl rfl rfl rfl), .tmp (.t _), trivial⟩, (by repeat' first | exact trivial | exact Wk.refl _ | exact Wk.sl _ | refine And.intro ?_ ?_ | refine Wk.tupP ?_ | refine Wk.aggP ?_)⟩
                  | exact ⟨Or.inr rfl, [_, _, _], ⟨.cell rfl ti62 (.whole rfl rfl rfl rfl rfl rfl) (.t _), .tmp (Res.ownT rfl rfl rfl rfl), .tmp (Res.ownT rfl rfl rfl rfl), trivial⟩, .refl _⟩
                  | exact ⟨Or.inr rfl, [_, _, _], ⟨.cell rfl ti62 (.whole rfl rfl rfl rfl rfl rfl) (.t _), .tmp (Res.ownT rfl rfl rfl rfl), .tmp (Res.ownT rfl rfl rfl rfl), trivial⟩, (by repeat' first | exact trivial | exact Wk.refl _ | exact Wk.sl _ | refine And.intro ?_ ?_ | refine Wk.tupP ?_ | refine Wk.aggP ?_)⟩)
                  | (rw [show recvD r sq ky bd tg a e = (⟨r.next, keepL ⟨r.next + dist2 sq r.next, ky, false, bd, tg⟩ r.ahead, r.locked, a⟩, [], 0) from by unfold recvD; rw [if_neg (by omega), if_neg (fun h => h (by assumption)), if_neg (by simp_all), if_neg (by omega), if_pos (by omega)]]; first
                  | exact ⟨Or.inr rfl, [_, _, _], ⟨.cell rfl ti62 (.whole rfl rfl rfl rfl rfl rfl) (.t _), .tmp (.t _), .tmp (.t _), trivial⟩, .refl _⟩
                  | exact ⟨Or.inr rfl, [_, _, _], ⟨.cell rfl ti62 (.whole rfl rfl rfl rfl rfl rfl) (.t _), .tmp (.t _), .tmp (.t _), trivial⟩, (by repeat' first | exact trivial | exact Wk.refl _ | exact Wk.sl _ | refine And.intro ?_ ?_ | refine Wk.tupP ?_ | refine Wk.aggP ?_)⟩
                  | exact ⟨Or.inr rfl, [_, _, _], ⟨.cell rfl ti62 (.whole rfl rfl rfl rfl rfl rfl) (.t _), .tmp (.t _), .tmp (Res.ownT rfl rfl rfl rfl), trivial⟩, .refl _⟩
                  | exact ⟨Or.inr rfl, [_, _, _], ⟨.cell rfl ti62 (.whole rfl rfl rfl rfl rfl rfl) (.t _), .tmp (.t _), .tmp (Res.ownT rfl rfl rfl rfl), trivial⟩, (by repeat' first | exact trivial | exact Wk.refl _ | exact Wk.sl _ | refine And.intro ?_ ?_ | refine Wk.tupP ?_ | refine Wk.aggP ?_)⟩
                  | exact ⟨Or.inr rfl, [_, _, _], ⟨.cell rfl ti62 (.whole rfl rfl rfl rfl rfl rfl) (.t _), .tmp (Res.ownT rfl rfl rfl rfl), .tmp (.t _), trivial⟩, .refl _⟩
                  | exact ⟨Or.inr rfl, [_, _, _], ⟨.cell rfl ti62 (.whole rfl rfl rfl rfl rfl rfl) (.t _), .tmp (Res.ownT rfl rfl rfl rfl), .tmp (.t _), trivial⟩, (by repeat' first | exact trivial | exact Wk.refl _ | exact Wk.sl _ | refine And.intro ?_ ?_ | refine Wk.tupP ?_ | refine Wk.aggP ?_)⟩
                  | exact ⟨Or.inr rfl, [_, _, _], ⟨.cell rfl ti62 (.whole rfl rfl rfl rfl rfl rfl) (.t _), .tmp (Res.ownT rfl rfl rfl rfl), .tmp (Res.ownT rfl rfl rfl rfl), trivial⟩, .refl _⟩
                  | exact ⟨Or.inr rfl, [_, _, _], ⟨.cell rfl ti62 (.whole rfl rfl rfl rfl rfl rfl) (.t _), .tmp (Res.ownT rfl rfl rfl rfl), .tmp (Res.ownT rfl rfl rfl rfl), trivial⟩, (by repeat' first | exact trivial | exact Wk.refl _ | exact Wk.sl _ | refine And.intro ?_ ?_ | refine Wk.tupP ?_ | refine Wk.aggP ?_)⟩)
                  | (rw [show recvD r sq ky bd tg a e = (⟨r.next, r.ahead, true, a⟩, [], 32) from by unfold recvD; rw [if_neg (by omega), if_neg (fun h => h (by assumption)), if_neg (by simp_all), if_neg (by omega), if_neg (by omega), if_pos (by omega)]]; first
                  | exact ⟨Or.inr rfl, [_, _, _], ⟨.cell rfl ti62 (.whole rfl rfl rfl rfl rfl rfl) (.t _), .tmp (.t _), .tmp (.t _), trivial⟩, .refl _⟩
                  | exact ⟨Or.inr rfl, [_, _, _], ⟨.cell rfl ti62 (.whole rfl rfl rfl rfl rfl rfl) (.t _), .tmp (.t _), .tmp (.t _), trivial⟩, (by repeat' first | exact trivial | exact Wk.refl _ | exact Wk.sl _ | refine And.intro ?_ ?_ | refine Wk.tupP ?_ | refine Wk.aggP ?_)⟩
                  | exact ⟨Or.inr rfl, [_, _, _], ⟨.cell rfl ti62 (.whole rfl rfl rfl rfl rfl rfl) (.t _), .tmp (.t _), .tmp (Res.ownT rfl rfl rfl rfl), trivial⟩, .refl _⟩
                  | exact ⟨Or.inr rfl, [_, _, _], ⟨.cell rfl ti62 (.whole rfl rfl rfl rfl rfl rfl) (.t _), .tmp (.t _), .tmp (Res.ownT rfl rfl rfl rfl), trivial⟩, (by repeat' first | exact trivial | exact Wk.refl _ | exact Wk.sl _ | refine And.intro ?_ ?_ | refine Wk.tupP ?_ | refine Wk.aggP ?_)⟩
                  | exact ⟨Or.inr rfl, [_, _, _], ⟨.cell rfl ti62 (.whole rfl rfl rfl rfl rfl rfl) (.t _), .tmp (Res.ownT rfl rfl rfl rfl), .tmp (.t _), trivial⟩, .refl _⟩
                  | exact ⟨Or.inr rfl, [_, _, _], ⟨.cell rfl ti62 (.whole rfl rfl rfl rfl rfl rfl) (.t _), .tmp (Res.ownT rfl rfl rfl rfl), .tmp (.t _), trivial⟩, (by repeat' first | exact trivial | exact Wk.refl _ | exact Wk.sl _ | refine And.intro ?_ ?_ | refine Wk.tupP ?_ | refine Wk.aggP ?_)⟩
                  | exact ⟨Or.inr rfl, [_, _, _], ⟨.cell rfl ti62 (.whole rfl rfl rfl rfl rfl rfl) (.t _), .tmp (Res.ownT rfl rfl rfl rfl), .tmp (Res.ownT rfl rfl rfl rfl), trivial⟩, .refl _⟩
                  | exact ⟨Or.inr rfl, [_, _, _], ⟨.cell rfl ti62 (.whole rfl rfl rfl rfl rfl rfl) (.t _), .tmp (Res.ownT rfl rfl rfl rfl), .tmp (Res.ownT rfl rfl rfl rfl), trivial⟩, (by repeat' first | exact trivial | exact Wk.refl _ | exact Wk.sl _ | refine And.intro ?_ ?_ | refine Wk.tupP ?_ | refine Wk.aggP ?_)⟩)
                  | (rw [show recvD r sq ky bd tg a e = (⟨r.next, r.ahead, r.locked, a⟩, [], 0) from by unfold recvD; rw [if_neg (by omega), if_neg (fun h => h (by assumption)), if_neg (by simp_all), if_neg (by omega), if_neg (by omega), if_neg (by omega)]]; first
                  | exact ⟨Or.inr rfl, [_, _, _], ⟨.cell rfl ti62 (.whole rfl rfl rfl rfl rfl rfl) (.t _), .tmp (.t _), .tmp (.t _), trivial⟩, .refl _⟩
                  | exact ⟨Or.inr rfl, [_, _, _], ⟨.cell rfl ti62 (.whole rfl rfl rfl rfl rfl rfl) (.t _), .tmp (.t _), .tmp (.t _), trivial⟩, (by repeat' first | exact trivial | exact Wk.refl _ | exact Wk.sl _ | refine And.intro ?_ ?_ | refine Wk.tupP ?_ | refine Wk.aggP ?_)⟩
                  | exact ⟨Or.inr rfl, [_, _, _], ⟨.cell rfl ti62 (.whole rfl rfl rfl rfl rfl rfl) (.t _), .tmp (.t _), .tmp (Res.ownT rfl rfl rfl rfl), trivial⟩, .refl _⟩
                  | exact ⟨Or.inr rfl, [_, _, _], ⟨.cell rfl ti62 (.whole rfl rfl rfl rfl rfl rfl) (.t _), .tmp (.t _), .tmp (Res.ownT rfl rfl rfl rfl), trivial⟩, (by repeat' first | exact trivial | exact Wk.refl _ | exact Wk.sl _ | refine And.intro ?_ ?_ | refine Wk.tupP ?_ | refine Wk.aggP ?_)⟩
                  | exact ⟨Or.inr rfl, [_, _, _], ⟨.cell rfl ti62 (.whole rfl rfl rfl rfl rfl rfl) (.t _), .tmp (Res.ownT rfl rfl rfl rfl), .tmp (.t _), trivial⟩, .refl _⟩
                  | exact ⟨Or.inr rfl, [_, _, _], ⟨.cell rfl ti62 (.whole rfl rfl rfl rfl rfl rfl) (.t _), .tmp (Res.ownT rfl rfl rfl rfl), .tmp (.t _), trivial⟩, (by repeat' first | exact trivial | exact Wk.refl _ | exact Wk.sl _ | refine And.intro ?_ ?_ | refine Wk.tupP ?_ | refine Wk.aggP ?_)⟩
                  | exact ⟨Or.inr rfl, [_, _, _], ⟨.cell rfl ti62 (.whole rfl rfl rfl rfl rfl rfl) (.t _), .tmp (Res.ownT rfl rfl rfl rfl), .tmp (Res.ownT rfl rfl rfl rfl), trivial⟩, .refl _⟩
                  | exact ⟨Or.inr rfl, [_, _, _], ⟨.cell rfl ti62 (.whole rfl rfl rfl rfl rfl rfl) (.t _), .tmp (Res.ownT rfl rfl rfl rfl), .tmp (Res.ownT rfl rfl rfl rfl), trivial⟩, (by repeat' first | exact trivial | exact Wk.refl _ | exact Wk.sl _ | refine And.intro ?_ ?_ | refine Wk.tupP ?_ | refine Wk.aggP ?_)⟩)
              · try simp only [decide_eq_true_eq, decide_eq_false_iff_not, beq_iff_eq, bne_iff_ne, bne_eq_false_iff_eq, beq_eq_false_iff_ne, Bool.not_eq_true, Bool.not_eq_false, Bool.not_eq_true', Bool.not_eq_false', ne_eq] at h7
                refine awp_skip ?_
                refine awp_seq ?_
                refine awp_rw rfl ?_
                refine RW.op rfl rfl (eff_load rfl rfl ti62 rfl (.whole rfl rfl rfl rfl rfl rfl)) ?_
                refine RW.store rfl rfl (eff_storeW (v := .t _) (els := [_]) (els' := [_]) rfl rfl ti62 rfl rfl rfl rfl rfl rfl rfl rfl rfl) ?_
                refine RW.op rfl rfl (eff_assign (v := .t _) rfl rfl rfl) ?_
                refine RW.op rfl rfl (eff_assign (v := .t _) rfl rfl rfl) ?_
                refine RW.nil ?_
                refine awp_ret ?_
                first
                  | (rw [show recvD r sq ky bd tg a e = (r, [], 2) from by unfold recvD; rw [if_pos (by omega)]]; first
                  | exact ⟨Or.inr rfl, [_, _, _], ⟨.cell rfl ti62 (.whole rfl rfl rfl rfl rfl rfl) (.t _), .tmp (.t _), .tmp (.t _), trivial⟩, .refl _⟩
                  | exact ⟨Or.inr rfl, [_, _, _], ⟨.cell rfl ti62 (.whole rfl rfl rfl rfl rfl rfl) (.t _), .tmp (.t _), .tmp (.t _), trivial⟩, (by repeat' first | exact trivial | exact Wk.refl _ | exact Wk.sl _ | refine And.intro ?_ ?_ | refine Wk.tupP ?_ | refine Wk.aggP ?_)⟩
                  | exact ⟨Or.inr rfl, [_, _, _], ⟨.cell rfl ti62 (.whole rfl rfl rfl rfl rfl rfl) (.t _), .tmp (.t _), .tmp (Res.ownT rfl rfl rfl rfl), trivial⟩, .refl _⟩
                  | exact ⟨Or.inr rfl, [_, _, _], ⟨.cell rfl ti62 (.whole rfl rfl rfl rfl rfl rfl) (.t _), .tmp (.t _), .tmp (Res.ownT rfl rfl rfl rfl), trivial⟩, (by repeat' first | exact trivial | exact Wk.refl _ | exact Wk.sl _ | refine And.intro ?_ ?_ | refine Wk.tupP ?_ | refine Wk.aggP ?_)⟩
                  | exact ⟨Or.inr rfl, [_, _, _], ⟨.cell rfl ti62 (.whole rfl rfl rfl rfl rfl rfl) (.t _), .tmp (Res.ownT rfl rfl rfl rfl), .tmp (.t _), trivial⟩, .refl _⟩
                  | exact ⟨Or.inr rfl, [_, _, _], ⟨.cell rfl ti62 (.whole rfl rfl rfl rfl rfl rfl) (.t _), .tmp (Res.ownT rfl rfl rfl rfl), .tmp (.t _), trivial⟩, (by repeat' first | exact trivial | exact Wk.refl _ | exact Wk.sl _ | refine And.intro ?_ ?_ | refine Wk.tupP ?_ | refine Wk.aggP ?_)⟩
                  | exact ⟨Or.inr rfl, [_, _, _], ⟨.cell rfl ti62 (.whole rfl rfl rfl rfl rfl rfl) (.t _), .tmp (Res.ownT rfl rfl rfl rfl), .tmp (Res.ownT rfl rfl rfl rfl), trivial⟩, .refl _⟩
                  | exact ⟨Or.inr rfl, [_, _, _], ⟨.cell rfl ti62 (.whole rfl rfl rfl rfl rfl rfl) (.t _), .tmp (Res.ownT rfl rfl rfl rfl), .tmp (Res.ownT rfl rfl rfl rfl), trivial⟩, (by repeat' first | exact trivial | exact Wk.refl _ | exact Wk.sl _ | refine And.intro ?_ ?_ | refine Wk.tupP ?_ | refine Wk.aggP ?_)⟩)
                  | (rw [show recvD r sq ky bd tg a e = (r, [], e) from by unfold recvD; rw [if_neg (by omega), if_pos (by assumption)]]; first
                  | exact ⟨Or.inr rfl, [_, _, _], ⟨.cell rfl ti62 (.whole rfl rfl rfl rfl rfl rfl) (.t _), .tmp (.t _), .tmp (.t _), trivial⟩, .refl _⟩
                  | exact ⟨Or.inr rfl, [_, _, _], ⟨.cell rfl ti62 (.whole rfl rfl rfl rfl rfl rfl) (.t _), .tmp (.t _), .tmp (.t _), trivial⟩, (by repeat' first | exact trivial | exact Wk.refl _ | exact Wk.sl _ | refine And.intro ?_ ?_ | refine Wk.tupP ?_ | refine Wk.aggP ?_)⟩
                  | exact ⟨Or.inr rfl, [_, _, _], ⟨.cell rfl ti62 (.whole rfl rfl rfl rfl rfl rfl) (.t _), .tmp (.t _), .tmp (Res.ownT rfl rfl rfl rfl), trivial⟩, .refl _⟩
                  | exact ⟨Or.inr rfl, [_, _, _], ⟨.cell rfl ti62 (.whole rfl rfl rfl rfl rfl rfl) (.t _), .tmp (.t _), .tmp (Res.ownT rfl rfl rfl rfl), trivial⟩, (by repeat' first | exact trivial | exact Wk.refl _ | exact Wk.sl _ | refine And.intro ?_ ?_ | refine Wk.tupP ?_ | refine Wk.aggP ?_)⟩
                  | exact ⟨Or.inr rfl, [_, _, _], ⟨.cell rfl ti62 (.whole rfl rfl rfl rfl rfl rfl) (.t _), .tmp (Res.ownT rfl rfl rfl rfl), .tmp (.t _), trivial⟩, .refl _⟩
                  | exact ⟨Or.inr rfl, [_, _, _], ⟨.cell rfl ti62 (.whole rfl rfl rfl rfl rfl rfl) (.t _), .tmp (Res.ownT rfl rfl rfl rfl), .tmp (.t _), trivial⟩, (by repeat' first | exact trivial | exact Wk.refl _ | exact Wk.sl _ | refine And.intro ?_ ?_ | refine Wk.tupP ?_ | refine Wk.aggP ?_)⟩
                  | exact ⟨Or.inr rfl, [_, _, _], ⟨.cell rfl ti62 (.whole rfl rfl rfl rfl rfl rfl) (.t _), .tmp (Res.ownT rfl rfl rfl rfl), .tmp (Res.ownT rfl rfl rfl rfl), trivial⟩, .refl _⟩
                  | exact ⟨Or.inr rfl, [_, _, _], ⟨.cell rfl ti62 (.whole rfl rfl rfl rfl rfl rfl) (.t _), .tmp (Res.ownT rfl rfl rfl rfl), .tmp (Res.ownT rfl rfl rfl rfl), trivial⟩, (by repeat' first | exact trivial | exact Wk.refl _ | exact Wk.sl _ | refine And.intro ?_ ?_ | refine Wk.tupP ?_ | refine Wk.aggP ?_)⟩)
                  | (rw [show recvD r sq ky bd tg a e = (⟨r.next, r.ahead, r.locked, a⟩, [], 31) from by unfold recvD; rw [if_neg (by omega), if_neg (fun h => h (by assumption)), if_pos (by assumption)]]; first
                  | exact ⟨Or.inr rfl, [_, _, _], ⟨.cell rfl ti62 (.whole rfl rfl rfl rfl rfl rfl) (.t _), .tmp (.t _), .tmp (.t _), trivial⟩, .refl _⟩
                  | exact ⟨Or.inr rfl, [_, _, _], ⟨.cell rfl ti62 (.whole rfl rfl rfl rfl rfl rfl) (.t _), .tmp (.t _), .tmp (.t _), trivial⟩, (by repeat' first | exact trivial | exact Wk.refl _ | exact Wk.sl _ | refine And.intro ?_ ?_ | refine Wk.tupP ?_ | refine Wk.aggP ?_)⟩
                  | exact ⟨Or.inr rfl, [_, _, _], ⟨.cell rfl ti62 (.whole rfl rfl rfl rfl rfl rfl) (.t _), .tmp (.t _), .tmp (Res.ownT rfl rfl rfl rfl), trivial⟩, .refl _⟩
                  | exact ⟨Or.inr rfl, [_, _, _], ⟨.cell rfl ti62 (.whole rfl rfl rfl rfl rfl rfl) (.t _), .tmp (.t _), .tmp (Res.ownT rfl rfl rfl rfl), trivial⟩, (by repeat' first | exact trivial | exact Wk.refl _ | exact Wk.sl _ | refine And.intro ?_ ?_ | refine Wk.tupP ?_ | refine Wk.aggP ?_)⟩
                  | exact ⟨Or.inr rfl, [_, _, _], ⟨.cell rfl ti62 (.whole rfl rfl rfl rfl rfl rfl) (.t _), .tmp (Res.ownT rfl rfl rfl rfl), .tmp (.t _), trivial⟩, .refl _⟩
                  | exact ⟨Or.inr rfl, [_, _, _], ⟨.cell rfl ti62 (.whole rfl rfl rfl rfl rfl rfl) (.t _), .tmp (Res.ownT rfl rfl rfl rfl), .tmp (.t _), trivial⟩, (by repeat' first | exact trivial | exact Wk.refl _ | exact Wk.sl _ | refine And.intro ?_ ?_ | refine Wk.tupP ?_ | refine Wk.aggP ?_)⟩
                  | exact ⟨Or.inr rfl, [_, _, _], ⟨.cell rfl ti62 (.whole rfl rfl rfl rfl rfl rfl) (.t _), .tmp (Res.ownT rfl rfl rfl rfl), .tmp (Res.ownT rfl rfl rfl rfl), trivial⟩, .refl _⟩
                  | exact ⟨Or.inr rfl, [_, _, _], ⟨.cell rfl ti62 (.whole rfl rfl rfl rfl rfl rfl) (.t _), .tmp (Res.ownT rfl rfl rfl rfl), .tmp (Res.ownT rfl rfl rfl rfl), trivial⟩, (by repeat' first | exact trivial | exact Wk.refl _ | exact Wk.sl _ | refine And.intro ?_ ?_ | refine Wk.tupP ?_ | refine Wk.aggP ?_)⟩)
                  | (rw [show recvD r sq ky bd tg a e = (delR ⟨r.next, r.ahead, r.locked, a⟩, delB ⟨r.next, r.ahead, r.locked, a⟩ bd, 0) from by unfold recvD; rw [if_neg (by omega), if_neg (fun h => h (by assumption)), if_neg (by simp_all), if_pos (by omega)]]; first
                  | exact ⟨Or.inr rfl, [_, _, _], ⟨.cell rfl ti62 (.whole rfl rfl rfl rfl rfl rfl) (.t _), .tmp (.t _), .tmp (.t _), trivial⟩, .refl _⟩
                  | exact ⟨Or.inr rfl, [_, _, _], ⟨.cell rfl ti62 (.whole rfl rfl rfl rfl rfl rfl) (.t _), .tmp (.t _), .tmp (.t _), trivial⟩, (by repeat' first | exact trivial | exact Wk.refl _ | exact Wk.sl _ | refine And.intro ?_ ?_ | refine Wk.tupP ?_ | refine Wk.aggP ?_)⟩
                  | exact ⟨Or.inr rfl, [_, _, _], ⟨.cell rfl ti62 (.whole rfl rfl rfl rfl rfl rfl) (.t _), .tmp (.t _), .tmp (Res.ownT rfl rfl rfl rfl), trivial⟩, .refl _⟩
                  | exact ⟨Or.inr rfl, [_, _, _], ⟨.cell rfl ti62 (.whole rfl rfl rfl rfl rfl rfl) (.t _), .tmp (.t _), .tmp (Res.ownT rfl rfl rfl rfl), trivial⟩, (by repeat' first | exact trivial | exact Wk.refl _ | exact Wk.sl _ | refine And.intro ?_ ?_ | refine Wk.tupP ?_ | refine Wk.aggP ?_)⟩
                  | exact ⟨Or.inr rfl, [_, _, _], ⟨.cell rfl ti62 (.whole rfl rfl rfl rfl rfl rfl) (.t _), .tmp (Res.ownT rfl rfl rfl rfl), .tmp (.t _), trivial⟩, .refl _⟩
                  | exact ⟨Or.inr rfl, [_, _, _], ⟨.cell rfl ti62 (.whole rfl rfl rfl rfl rfl rfl) (.t _), .tmp (Res.ownT rfl rfl rfl rfl), .tmp (.t _), trivial⟩, (by repeat' first | exact trivial | exact Wk.refl _ | exact Wk.sl _ | refine And.intro ?_ ?_ | refine Wk.tupP ?_ | refine Wk.aggP ?_)⟩
                  | exact ⟨Or.inr rfl, [_, _, _], ⟨.cell rfl ti62 (.whole rfl rfl rfl rfl rfl rfl) (.t _), .tmp (Res.ownT rfl rfl rfl rfl), .tmp (Res.ownT rfl rfl rfl rfl), trivial⟩, .refl _⟩
                  | exact ⟨Or.inr rfl, [_, _, _], ⟨.cell rfl ti62 (.whole rfl rfl rfl rfl rfl rfl) (.t _), .tmp (Res.ownT rfl rfl rfl rfl), .tmp (Res.ownT rfl rfl rfl rfl), trivial⟩, (by repeat' first | exact trivial | exact Wk.refl _ | exact Wk.sl _ | refine And.intro ?_ ?_ | refine Wk.tupP ?_ | refine Wk.aggP ?_)⟩)
                  | (rw [show recvD r sq ky bd tg a e = (⟨r.next, keepL ⟨r.next + dist2 sq r.next, ky, false, bd, tg⟩ r.ahead, r.locked, a⟩, [], 0) from by unfold recvD; rw [if_neg (by omega), if_neg (fun h => h (by assumption)), if_neg (by simp_all), if_neg (by omega), if_pos (by omega)]]; first
                  | exact ⟨Or.inr rfl, [_, _, _], ⟨.cell rfl ti62 (.whole rfl rfl rfl rfl rfl rfl) (.t _), .tmp (.t _), .tmp (.t _), trivial⟩, .refl _⟩
                  | exact ⟨Or.inr rfl, [_, _, _], ⟨.cell rfl ti62 (.whole rfl rfl rfl rfl rfl rfl) (.t _), .tmp (.t _), .tmp (.t _), trivial⟩, (by repeat' first | exact trivial | exact Wk.refl _ | exact Wk.sl _ | refine And.intro ?_ ?_ | refine Wk.tupP ?_ | refine Wk.aggP ?_)⟩
                  | exact ⟨Or.inr rfl, [_, _, _], ⟨.cell rfl ti62 (.whole rfl rfl rfl rfl rfl rfl) (.t _), .tmp (.t _), .tmp (Res.ownT rfl rfl rfl rfl), trivial⟩, .refl _⟩
                  | exact ⟨Or.inr rfl, [_, _, _], ⟨.cell rfl ti62 (.whole rfl rfl rfl rfl rfl rfl) (.t _), .tmp (.t _), .tmp (Res.ownT rfl rfl rfl rfl), trivial⟩, (by repeat' first | exact trivial | exact Wk.refl _ | exact Wk.sl _ | refine And.intro ?_ ?_ | refine Wk.tupP ?_ | refine Wk.aggP ?_)⟩
                  | exact ⟨Or.inr rfl, [_, _, _], ⟨.cell rfl ti62 (.whole rfl rfl rfl rfl rfl rfl) (.t _), .tmp (Res.ownT rfl rfl rfl rfl), .tmp (.t _), trivial⟩, .refl _⟩
                  | exact ⟨Or.inr rfl, [_, _, _], ⟨.cell rfl ti62 (.whole rfl rfl rfl rfl rfl rfl) (.t _), .tmp (Res.ownT rfl rfl rfl rfl), .tmp (.t _), trivial⟩, (by repeat' first | exact trivial | exact Wk.refl _ | exact Wk.sl _ | refine And.intro ?_ ?_ | refine Wk.tupP ?_ | refine Wk.aggP ?_)⟩
                  | exact ⟨Or.inr rfl, [_, _, _], ⟨.cell rfl ti62 (.whole rfl rfl rfl rfl rfl rfl) (.t _), .tmp (Res.ownT rfl rfl rfl rfl), .tmp (Res.ownT rfl rfl rfl rfl), trivial⟩, .refl _⟩
                  | exact ⟨Or.inr rfl, [_, _, _], ⟨.cell rfl ti62 (.whole rfl rfl rfl rfl rfl rfl) (.t _), .tmp (Res.ownT rfl rfl rfl rfl), .tmp (Res.ownT rfl rfl rfl rfl), trivial⟩, (by repeat' first | exact trivial | exact Wk.refl _ | exact Wk.sl _ | refine And.intro ?_ ?_ | refine Wk.tupP ?_ | refine Wk.aggP ?_)⟩)
                  | (rw [show recvD r sq ky bd tg a e = (⟨r.next, r.ahead, true, a⟩, [], 32) from by unfold recvD; rw [if_neg (by omega), if_neg (fun h => h (by assumption)), if_neg (by simp_all), if_neg (by omega), if_neg (by omega), if_pos (by omega)]]; first
                  | exact ⟨Or.inr rfl, [_, _, _], ⟨.cell rfl ti62 (.whole rfl rfl rfl rfl rfl rfl) (.t _), .tmp (.t _), .tmp (.t _), trivial⟩, .refl _⟩
                  | exact ⟨Or.inr rfl, [_, _, _], ⟨.cell rfl ti62 (.whole rfl rfl rfl rfl rfl rfl) (.t _), .tmp (.t _), .tmp (.t _), trivial⟩, (by repeat' first | exact trivial | exact Wk.refl _ | exact Wk.sl _ | refine And.intro ?_ ?_ | refine Wk.tupP ?_ | refine Wk.aggP ?_)⟩
                  | exact ⟨Or.inr rfl, [_, _, _], ⟨.cell rfl ti62 (.whole rfl rfl rfl rfl rfl rfl) (.t _), .tmp (.t _), .tmp (Res.ownT rfl rfl rfl rfl), trivial⟩, .refl _⟩
                  | exact ⟨Or.inr rfl, [_, _, _], ⟨.cell rfl ti62 (.whole rfl rfl rfl rfl rfl rfl) (.t _), .tmp (.t _), .tmp (Res.ownT rfl rfl rfl rfl), trivial⟩, (by repeat' first | exact trivial | exact Wk.refl _ | exact Wk.sl _ | refine And.intro ?_ ?_ | refine Wk.tupP ?_ | refine Wk.aggP ?_)⟩
                  | exact ⟨Or.inr rfl, [_, _, _], ⟨.cell rfl ti62 (.whole rfl rfl rfl rfl rfl rfl) (.t _), .tmp (Res.ownT rfl rfl rfl rfl), .tmp (.t _), trivial⟩, .refl _⟩
                  | exact ⟨Or.inr rfl, [_, _, _], ⟨.cell rfl ti62 (.whole rfl rfl rfl rfl rfl rfl) (.t _), .tmp (Res.ownT rfl rfl rfl rfl), .tmp (.t _), trivial⟩, (by repeat' first | exact trivial | exact Wk.refl _ | exact Wk.sl _ | refine And.intro ?_ ?_ | refine Wk.tupP ?_ | refine Wk.aggP ?_)⟩
                  | exact ⟨Or.inr rfl, [_, _, _], ⟨.cell rfl ti62 (.whole rfl rfl rfl rfl rfl rfl) (.t _), .tmp (Res.ownT rfl rfl rfl rfl), .tmp (Res.ownT rfl rfl rfl rfl), trivial⟩, .refl _⟩
                  | exact ⟨Or.inr rfl, [_, _, _], ⟨.cell rfl ti62 (.whole rfl rfl rfl rfl rfl rfl) (.t _), .tmp (Res.ownT rfl rfl rfl rfl), .tmp (Res.ownT rfl rfl rfl rfl), trivial⟩, (by repeat' first | exact trivial | exact Wk.refl _ | exact Wk.sl _ | refine And.intro ?_ ?_ | refine Wk.tupP ?_ | refine Wk.aggP ?_)⟩)
                  | (rw [show recvD r sq ky bd tg a e = (⟨r.next, r.ahead, r.locked, a⟩, [], 0) from by unfold recvD; rw [if_neg (by omega), if_neg (fun h => h (by assumption)), if_neg (by simp_all), if_neg (by omega), if_neg (by omega), if_neg (by omega)]]; first
                  | exact ⟨Or.inr rfl, [_, _, _], ⟨.cell rfl ti62 (.whole rfl rfl rfl rfl rfl rfl) (.t _), .tmp (.t _), .tmp (.t _), trivial⟩, .refl _⟩
                  | exact ⟨Or.inr rfl, [_, _, _], ⟨.cell rfl ti62 (.whole rfl rfl rfl rfl rfl rfl) (.t _), .tmp (.t _), .tmp (.t _), trivial⟩, (by repeat' first | exact trivial | exact Wk.refl _ | exact Wk.sl _ | refine And.intro ?_ ?_ | refine Wk.tupP ?_ | refine Wk.aggP ?_)⟩
                  | exact ⟨Or.inr rfl, [_, _, _], ⟨.cell rfl ti62 (.whole rfl rfl rfl rfl rfl rfl) (.t _), .tmp (.t _), .tmp (Res.ownT rfl rfl rfl rfl), trivial⟩, .refl _⟩
                  | exact ⟨Or.inr rfl, [_, _, _], ⟨.cell rfl ti62 (.whole rfl rfl rfl rfl rfl rfl) (.t _), .tmp (.t _), .tmp (Res.ownT rfl rfl rfl rfl), trivial⟩, (by repeat' first | exact trivial | exact Wk.refl _ | exact Wk.sl _ | refine And.intro ?_ ?_ | refine Wk.tupP ?_ | refine Wk.aggP ?_)⟩
                  | exact ⟨Or.inr rfl, [_, _, _], ⟨.cell rfl ti62 (.whole rfl rfl rfl rfl rfl rfl) (.t _), .tmp (Res.ownT rfl rfl rfl rfl), .tmp (.t _), trivial⟩, .refl _⟩
                  | exact ⟨Or.inr rfl, [_, _, _], ⟨.cell rfl ti62 (.whole rfl rfl rfl rfl rfl rfl) (.t _), .tmp (Res.ownT rfl rfl rfl rfl), .tmp (.t _), trivial⟩, (by repeat' first | exact trivial | exact Wk.refl _ | exact Wk.sl _ | refine And.intro ?_ ?_ | refine Wk.tupP ?_ | refine Wk.aggP ?_)⟩
                  | exact ⟨Or.inr rfl, [_, _, _], ⟨.cell rfl ti62 (.whole rfl rfl rfl rfl rfl rfl) (.t _), .tmp (Res.ownT rfl rfl rfl rfl), .tmp (Res.ownT rfl rfl rfl rfl), trivial⟩, .refl _⟩
                  | exact ⟨Or.inr rfl, [_, _, _], ⟨.cell rfl ti62 (.whole rfl rfl rfl rfl rfl rfl) (.t _), .tmp (Res.ownT rfl rfl rfl rfl), .tmp (Res.ownT rfl rfl rfl rfl), trivial⟩, (by repeat' first | exact trivial | exact Wk.refl _ | exact Wk.sl _ | refine And.intro ?_ ?_ | refine Wk.tupP ?_ | refine Wk.aggP ?_)⟩)

end Go.Tv.C34

end
section
open Go Go.Tv Go.Proofs
namespace Go.Tv.C34
set_option linter.unusedSimpArgs false
set_option linter.unusedVariables false

def recvF (r : Rcv) (f : Frm) : Rcv × List (List Int) × Int :=
  if f.unlock then recvU r f.seq f.key f.body f.tag (accL r.lad f.key (signedF f) f.tag).1 (accL r.lad f.key (signedF f) f.tag).2
  else recvD r f.seq f.key f.body f.tag (accL r.lad f.key (signedF f) f.tag).1 (accL r.lad f.key (signedF f) f.tag).2

theorem receive_ret (r : Rcv) (f : Frm) (hr : RB r) (hk : 0 ≤ f.key ∧ f.key ≤ 1000000) (hb : Byt f.body) (hbl : f.body.length ≤ 800000) :
    Ret Tryd.prog 37 [encV r, encF f] (.tup [encV (recvF r f).1, .sl ((recvF r f).2.1.map encBs) false, encI (recvF r f).2.2]) := by
  obtain ⟨sq, ky, ub, bd, tg⟩ := f
  cases ub
  · exact receiveD_ret r sq ky tg bd _ _ hr hk hb hbl rfl
  · exact receiveU_ret r sq ky tg bd _ _ hr hk hb hbl rfl

structure RInv (first : Int) (r : Rcv) : Prop where
  sorted : r.ahead.Pairwise (fun a b => a.seq < b.seq)
  win : ∀ f, f ∈ r.ahead → r.next < f.seq ∧ f.seq < r.next + 16
  key : r.lad.k = stepN r.lad.i.toNat first
  ix : 0 ≤ r.lad.i
  nx : 0 ≤ r.next
  bd : ∀ f, f ∈ r.ahead → f.body.length ≤ 512

theorem w64_id {n : Int} (h : -9223372036854775808 ≤ n ∧ n ≤ 9223372036854775807) : w64 n = n := wrap64 h.1 h.2

theorem foldOr_bit (nx : Int) (j : Nat) : ∀ (l : List Frm) (a : Nat), (l.foldl (fun h f => h ||| 2 ^ (f.seq - nx - 1).toNat) a).testBit j = (a.testBit j || l.any (fun f => decide ((f.seq - nx - 1).toNat = j)))
  | [], a => by simp
  | x :: l, a => by
    rw [List.foldl_cons, foldOr_bit nx j l, Nat.testBit_or, Nat.testBit_two_pow, List.any_cons, Bool.or_assoc]
theorem havL_bit {nx : Int} {l : List Frm} (h : ∀ f, f ∈ l → nx < f.seq) (j : Nat) : (havL nx l).testBit j = true ↔ ∃ f, f ∈ l ∧ f.seq = nx + 1 + j := by
  unfold havL
  rw [foldOr_bit, Nat.zero_testBit, Bool.false_or, List.any_eq_true]
  constructor
  · rintro ⟨f, hf, e⟩
    have := h f hf
    have e := of_decide_eq_true e
    exact ⟨f, hf, by omega⟩
  · rintro ⟨f, hf, e⟩
    exact ⟨f, hf, decide_eq_true (by omega)⟩
theorem trl_eq : ∀ (F h n : Nat), n < F → (∀ j, j < n → h.testBit j = true) → h.testBit n = false → trl F h = n
  | F + 1, h, 0, _, _, h2 => by
    unfold trl
    rw [Nat.testBit_zero] at h2
    rw [if_neg (by simpa using h2)]
  | F + 1, h, n + 1, hn, h1, h2 => by
    unfold trl
    have h0 := h1 0 (by omega)
    rw [Nat.testBit_zero] at h0
    rw [if_pos (by simpa using h0), trl_eq F (h / 2) n (by omega) (fun j hj => by rw [← Nat.testBit_succ]; exact h1 (j + 1) (by omega)) (by rw [← Nat.testBit_succ]; exact h2)]
    omega

theorem popC_spec : ∀ (l : List Frm) (n : Int), l.Pairwise (fun a b => a.seq < b.seq) → (∀ f, f ∈ l → n ≤ f.seq) →
    (∀ j, j < popC n l → ∃ f, f ∈ l ∧ f.seq = n + j) ∧ (∀ f, f ∈ l → f.seq ≠ n + popC n l) ∧ (∀ f, f ∈ l.drop (popC n l) → n + popC n l < f.seq) ∧ (∀ f, f ∈ l.take (popC n l) → f.seq < n + popC n l)
  | [], n, _, _ => by simp [popC]
  | x :: l, n, hs, hb => by
    obtain ⟨hx, hs⟩ := List.pairwise_cons.1 hs
    have hxn := hb x List.mem_cons_self
    unfold popC
    split
    · rename_i e
      obtain ⟨h1, h2, h3, h4⟩ := popC_spec l (n + 1) hs (fun f hf => by have := hx f hf; omega)
      refine ⟨fun j hj => ?_, fun f hf => ?_, fun f hf => ?_, fun f hf => ?_⟩
      · match j with
        | 0 => exact ⟨x, List.mem_cons_self, by omega⟩
        | j + 1 =>
          obtain ⟨f, hf, e2⟩ := h1 j (by omega)
          exact ⟨f, List.mem_cons_of_mem _ hf, by omega⟩
      · rcases List.mem_cons.1 hf with rfl | hf
        · omega
        · have := h2 f hf; omega
      · rw [Nat.add_comm, List.drop_succ_cons] at hf
        have := h3 f hf; omega
      · rw [Nat.add_comm, List.take_succ_cons] at hf
        rcases List.mem_cons.1 hf with rfl | hf
        · omega
        · have := h4 f hf; omega
    · rename_i e
      have hall : ∀ f, f ∈ x :: l → n < f.seq := fun f hf => by
        rcases List.mem_cons.1 hf with rfl | hf
        · omega
        · have := hx f hf; omega
      refine ⟨fun j hj => by omega, fun f hf => ?_, fun f hf => ?_, fun f hf => ?_⟩
      · have := hall f hf; omega
      · have := hall f (List.mem_of_mem_drop hf); omega
      · simp at hf

theorem keepL_mem {f x : Frm} : ∀ {l : List Frm}, x ∈ keepL f l → x ∈ l ∨ x = f
  | [], h => .inr (List.mem_singleton.1 h)
  | y :: l, h => by
    unfold keepL at h
    split at h
    · rcases List.mem_cons.1 h with rfl | h
      · exact .inl List.mem_cons_self
      · exact (keepL_mem h).imp (List.mem_cons_of_mem _) id
    · split at h
      · exact .inl h
      · rcases List.mem_cons.1 h with rfl | h
        · exact .inr rfl
        · exact .inl h
theorem keepL_seq {f : Frm} (s : Int) : ∀ {l : List Frm}, (∃ x, x ∈ keepL f l ∧ x.seq = s) ↔ (∃ x, x ∈ l ∧ x.seq = s) ∨ f.seq = s
  | [] => by simp [keepL]
  | y :: l => by
    unfold keepL
    split
    · constructor
      · rintro ⟨x, hx, e⟩
        rcases List.mem_cons.1 hx with rfl | hx
        · exact .inl ⟨x, List.mem_cons_self, e⟩
        · rcases (keepL_seq s).1 ⟨x, hx, e⟩ with ⟨z, hz, e⟩ | e
          · exact .inl ⟨z, List.mem_cons_of_mem _ hz, e⟩
          · exact .inr e
      · rintro (⟨x, hx, e⟩ | e)
        · rcases List.mem_cons.1 hx with rfl | hx
          · exact ⟨x, List.mem_cons_self, e⟩
          · obtain ⟨z, hz, e⟩ := (keepL_seq (f := f) s).2 (.inl ⟨x, hx, e⟩)
            exact ⟨z, List.mem_cons_of_mem _ hz, e⟩
        · obtain ⟨z, hz, e⟩ := (keepL_seq (f := f) (l := l) s).2 (.inr e)
          exact ⟨z, List.mem_cons_of_mem _ hz, e⟩
    · split
      · rename_i e2
        constructor
        · exact .inl
        · rintro (h | e)
          · exact h
          · exact ⟨y, List.mem_cons_self, by omega⟩
      · constructor
        · rintro ⟨x, hx, e⟩
          rcases List.mem_cons.1 hx with rfl | hx
          · exact .inr e
          · exact .inl ⟨x, hx, e⟩
        · rintro (⟨x, hx, e⟩ | e)
          · exact ⟨x, List.mem_cons_of_mem _ hx, e⟩
          · exact ⟨f, List.mem_cons_self, e⟩
theorem keepL_sorted {f : Frm} : ∀ {l : List Frm}, l.Pairwise (fun a b => a.seq < b.seq) → (keepL f l).Pairwise (fun a b => a.seq < b.seq)
  | [], _ => by simp [keepL]
  | y :: l, h => by
    obtain ⟨hy, h⟩ := List.pairwise_cons.1 h
    unfold keepL
    split
    · refine List.pairwise_cons.2 ⟨fun x hx => ?_, keepL_sorted h⟩
      rcases keepL_mem hx with hx | rfl
      · exact hy x hx
      · assumption
    · split
      · exact List.pairwise_cons.2 ⟨hy, h⟩
      · refine List.pairwise_cons.2 ⟨fun x hx => ?_, List.pairwise_cons.2 ⟨hy, h⟩⟩
        rcases List.mem_cons.1 hx with rfl | hx
        · omega
        · have := hy x hx; omega
/-- A sorted window holds few. -/
theorem sorted_len : ∀ (l : List Frm) (a b : Int), l.Pairwise (fun a b => a.seq < b.seq) → (∀ f, f ∈ l → a ≤ f.seq ∧ f.seq < b) → (l.length : Int) ≤ max 0 (b - a)
  | [], a, b, _, _ => by simp; omega
  | x :: l, a, b, hs, h => by
    obtain ⟨hx, hs⟩ := List.pairwise_cons.1 hs
    have hxa := h x List.mem_cons_self
    have := sorted_len l (a + 1) b hs (fun f hf => by have := hx f hf; have := h f (List.mem_cons_of_mem _ hf); omega)
    simp only [List.length_cons]
    omega
theorem RInv.len {first : Int} {r : Rcv} (h : RInv first r) : r.ahead.length ≤ 15 := by
  have := sorted_len r.ahead (r.next + 1) (r.next + 16) h.sorted (fun f hf => by have := h.win f hf; omega)
  omega

theorem bit_nat {a b : Nat} (h : ∀ j, a.testBit j = true ↔ b.testBit j = true) : a = b :=
  Nat.eq_of_testBit_eq fun j => Bool.eq_iff_iff.2 (h j)

section
variable {first : Int} {r : Rcv}
theorem del_state (hI : RInv first r) (l : Lad) : stateR (delR ⟨r.next, r.ahead, r.locked, l⟩) =
    ⟨r.next + (1 + (ones (havL r.next r.ahead : Nat) : Nat)), (havL r.next r.ahead / 2 ^ (1 + ones (havL r.next r.ahead : Nat)) : Nat), l.i, r.locked⟩ := by
  obtain ⟨h1, h2, h3, h4⟩ := popC_spec r.ahead (r.next + 1) hI.sorted (fun f hf => by have := hI.win f hf; omega)
  have hlt : ∀ f, f ∈ r.ahead → r.next < f.seq := fun f hf => (hI.win f hf).1
  have hle := popC_le (r.next + 1) r.ahead
  have hlen := hI.len
  have ho : ones ((havL r.next r.ahead : Nat) : Int) = popC (r.next + 1) r.ahead := by
    unfold ones
    rw [Int.toNat_natCast]
    refine trl_eq 64 _ _ (by omega) (fun j hj => ?_) ?_
    · obtain ⟨f, hf, e⟩ := h1 j hj
      exact (havL_bit hlt j).2 ⟨f, hf, e⟩
    · rw [← Bool.not_eq_true, havL_bit hlt]
      rintro ⟨f, hf, e⟩
      exact h2 f hf e
  rw [ho]
  unfold stateR delR
  simp only []
  congr 1
  · omega
  · congr 1
    refine bit_nat fun j => ?_
    rw [Nat.testBit_div_two_pow, havL_bit hlt, havL_bit h3]
    constructor
    · rintro ⟨f, hf, e⟩
      exact ⟨f, List.mem_of_mem_drop hf, by omega⟩
    · rintro ⟨f, hf, e⟩
      refine ⟨f, ?_, by omega⟩
      have hf2 : f ∈ r.ahead.take (popC (r.next + 1) r.ahead) ++ r.ahead.drop (popC (r.next + 1) r.ahead) := by rw [List.take_append_drop]; exact hf
      rcases List.mem_append.1 hf2 with hf2 | hf2
      · have := h4 f hf2; omega
      · exact hf2
theorem del_inv (hI : RInv first r) (l : Lad) (hk : l.k = stepN l.i.toNat first) (hi : 0 ≤ l.i) : RInv first (delR ⟨r.next, r.ahead, r.locked, l⟩) := by
  obtain ⟨h1, h2, h3, h4⟩ := popC_spec r.ahead (r.next + 1) hI.sorted (fun f hf => by have := hI.win f hf; omega)
  have hnx := hI.nx
  refine ⟨hI.sorted.sublist (List.drop_sublist _ _), fun f hf => ⟨h3 f hf, ?_⟩, hk, hi, ?_, fun f hf => hI.bd f (List.mem_of_mem_drop hf)⟩
  · have := hI.win f (List.mem_of_mem_drop hf)
    show f.seq < r.next + 1 + _ + 16
    simp only []
    omega
  · show 0 ≤ r.next + 1 + _
    simp only []
    omega
theorem keep_state (hI : RInv first r) (f : Frm) (l : Lad) (d : Int) (hd : 0 < d ∧ d < 16) (he : f.seq = r.next + d) :
    stateR ⟨r.next, keepL f r.ahead, r.locked, l⟩ = ⟨r.next, (havL r.next r.ahead ||| 2 ^ (d - 1).toNat : Nat), l.i, r.locked⟩ := by
  have hlt : ∀ f, f ∈ r.ahead → r.next < f.seq := fun f hf => (hI.win f hf).1
  unfold stateR
  simp only []
  congr 2
  refine bit_nat fun j => ?_
  have hlt2 : ∀ x, x ∈ keepL f r.ahead → r.next < x.seq := fun x hx => by
    rcases keepL_mem hx with hx | rfl
    · exact hlt x hx
    · omega
  rw [Nat.testBit_or, Bool.or_eq_true, Nat.testBit_two_pow, havL_bit hlt, havL_bit hlt2, keepL_seq, decide_eq_true_eq]
  constructor
  · rintro (h | h)
    · exact .inl h
    · exact .inr (by omega)
  · rintro (h | h)
    · exact .inl h
    · exact .inr (by omega)
theorem keep_inv (hI : RInv first r) (f : Frm) (l : Lad) (d : Int) (hd : 0 < d ∧ d < 16) (he : f.seq = r.next + d) (hb : f.body.length ≤ 512) (hk : l.k = stepN l.i.toNat first) (hi : 0 ≤ l.i) :
    RInv first ⟨r.next, keepL f r.ahead, r.locked, l⟩ := by
  refine ⟨keepL_sorted hI.sorted, fun x hx => ?_, hk, hi, hI.nx, fun x hx => ?_⟩
  · rcases keepL_mem hx with hx | rfl
    · exact hI.win x hx
    · show r.next < x.seq ∧ x.seq < r.next + 16
      omega
  · rcases keepL_mem hx with hx | rfl
    · exact hI.bd x hx
    · exact hb
end
end Go.Tv.C34

end
section
open Go Go.Tv Go.Proofs
namespace Go.Tv.C34
set_option linter.unusedSimpArgs false
set_option linter.unusedVariables false

/-- A frame that is signed with the right key. -/
def Sgn (first : Int) (f : Frm) : Prop := f.tag = tagF (stepN f.key.toNat first) (signedF f)

theorem accL_signed {first : Int} {r : Rcv} {f : Frm} (hI : RInv first r) (hs : Sgn first f) (hk : 0 ≤ f.key) :
    accL r.lad f.key (signedF f) f.tag = if f.key < r.lad.i ∨ f.key > r.lad.i + 4096 then (⟨0, 0⟩, 30) else (⟨stepN (f.key + 1).toNat first, f.key + 1⟩, 0) := by
  unfold accL
  split
  · rfl
  · rename_i h
    have hix := hI.ix
    have e : ∀ n : Nat, stepN ((f.key - r.lad.i).toNat + n) r.lad.k = stepN (f.key.toNat + n) first := fun n => by
      rw [hI.key, stepN_add]; congr 1; omega
    have e0 := e 0
    rw [Nat.add_zero, Nat.add_zero] at e0
    rw [e0, if_neg (fun h => h hs.symm), e 1]
    congr 3; omega

theorem havL_nil (nx : Int) : havL nx [] = 0 := rfl

theorem recv_state {first : Int} {r : Rcv} {f : Frm} (hI : RInv first r) (hs : Sgn first f) (hk : 0 ≤ f.key ∧ f.key ≤ 1000000) (hb : f.body.length ≤ 512)
    (hn : r.next ≤ 1000000) (hi : r.lad.i ≤ 1000000) :
    stateR (recvF r f).1 = apply (stateR r) f ∧ RInv first (recvF r f).1 ∧ (recvF r f).1.next ≤ r.next + 256 ∧ ((recvF r f).1 = r ∨ (recvF r f).1.lad.i = f.key + 1) ∧
      (f.key < r.lad.i ∨ f.key > r.lad.i + 4096 ∨ (recvF r f).1.lad.i = f.key + 1) := by
  have hac := accL_signed hI hs hk.1
  have hnx := hI.nx
  have hix := hI.ix
  have hw1 : w64 ((stateR r).key + 4096) = r.lad.i + 4096 := w64_id (by show _ ≤ r.lad.i + 4096 ∧ r.lad.i + 4096 ≤ _; omega)
  have hd : dist f (stateR r) = dist2 f.seq r.next := by
    show (f.seq - r.next) % 256 = (f.seq % 256 - r.next % 256) % 256
    omega
  have hdr : 0 ≤ dist2 f.seq r.next ∧ dist2 f.seq r.next < 256 := by unfold dist2; omega
  unfold recvF
  rw [hac]
  by_cases hout : f.key < r.lad.i ∨ f.key > r.lad.i + 4096
  · rw [if_pos hout]
    have hst : apply (stateR r) f = stateR r := apply_stay (by rw [hw1]; exact hout)
    have hU : recvU r f.seq f.key f.body f.tag ⟨0, 0⟩ 30 = (r, [], 30) := by unfold recvU; rw [if_neg (by omega), if_pos (by decide)]
    have hD : recvD r f.seq f.key f.body f.tag ⟨0, 0⟩ 30 = (r, [], 30) := by unfold recvD; rw [if_neg (by omega), if_pos (by decide)]
    simp only [hU, hD, ite_self]
    exact ⟨hst.symm, hI, by omega, .inl trivial, hout.elim .inl (fun h => .inr (.inl h))⟩
  · rw [if_neg hout]
    have hna : ¬ (f.key < (stateR r).key ∨ w64 ((stateR r).key + 4096) < f.key) := by rw [hw1]; exact hout
    have hw2 : w64 (f.key + 1) = f.key + 1 := w64_id (by omega)
    have hkk : (⟨stepN (f.key + 1).toNat first, f.key + 1⟩ : Lad).k = stepN (⟨stepN (f.key + 1).toNat first, f.key + 1⟩ : Lad).i.toNat first := rfl
    simp only []
    generalize hl : (⟨stepN (f.key + 1).toNat first, f.key + 1⟩ : Lad) = l at hkk ⊢
    have hli : l.i = f.key + 1 := by rw [← hl]
    have hl0 : 0 ≤ l.i := by omega
    have e0 : ∀ (nx : Int) (hn0 : 0 ≤ nx), RInv first ⟨nx, [], false, l⟩ := fun nx hn0 => ⟨List.Pairwise.nil, fun f hf => by simp at hf, hkk, hl0, hn0, fun f hf => by simp at hf⟩
    by_cases hu : f.unlock = true
    · rw [if_pos hu]
      unfold recvU
      rw [if_neg (by omega), if_neg (fun h => h rfl)]
      split
      · rename_i h
        refine ⟨?_, e0 _ hnx, by show r.next ≤ r.next + 256; omega, .inr hli, .inr (.inr hli)⟩
        rw [apply_unl hna hu (if_neg (by omega)), hw2]
        show (⟨r.next, ((havL r.next [] : Nat) : Int), l.i, false⟩ : Rep) = _
        rw [havL_nil, hli]; rfl
      · rename_i h
        refine ⟨?_, e0 _ (by omega), by show r.next + dist2 f.seq r.next ≤ r.next + 256; omega, .inr hli, .inr (.inr hli)⟩
        rw [apply_unl hna hu (if_pos (by omega)), hw2, hd, w64_id (by show _ ≤ r.next + _ ∧ r.next + _ ≤ _; omega)]
        show (⟨r.next + dist2 f.seq r.next, ((havL _ [] : Nat) : Int), l.i, false⟩ : Rep) = _
        rw [havL_nil, hli]; rfl
    · rw [if_neg hu]
      have hu : f.unlock = false := by simpa using hu
      unfold recvD
      rw [if_neg (by omega), if_neg (fun h => h rfl)]
      split
      · rename_i h
        refine ⟨?_, ⟨hI.sorted, hI.win, hkk, hl0, hnx, hI.bd⟩, by show r.next ≤ r.next + 256; omega, .inr hli, .inr (.inr hli)⟩
        rw [apply_lock hna hu h, hw2, ← hli]
        rfl
      · rename_i h
        have hlk : (stateR r).locked = false := by show r.locked = false; simpa using h
        split
        · rename_i h0
          have hple := popC_le (r.next + 1) r.ahead
          have hlen := hI.len
          refine ⟨?_, del_inv hI l hkk hl0, by show r.next + 1 + _ ≤ _; simp only []; omega, .inr hli, .inr (.inr hli)⟩
          have hon := ones_le ((havL r.next r.ahead : Nat) : Int)
          rw [apply_zero hna hu hlk (by omega), hw2, del_state hI l]
          show _ = (⟨w64 (r.next + (1 + (ones ((havL r.next r.ahead : Nat) : Int) : Nat))), (((havL r.next r.ahead : Nat) : Int).toNat / 2 ^ (1 + ones ((havL r.next r.ahead : Nat) : Int)) : Nat), f.key + 1, r.locked⟩ : Rep)
          rw [w64_id (by omega), Int.toNat_natCast, hli]
        · rename_i h0
          split
          · rename_i h1
            have hd16 : 0 < dist2 f.seq r.next ∧ dist2 f.seq r.next < 16 := by omega
            refine ⟨?_, keep_inv hI _ l _ hd16 rfl hb hkk hl0, by show r.next ≤ r.next + 256; omega, .inr hli, .inr (.inr hli)⟩
            rw [apply_near hna hu hlk (by omega) (by omega), hw2, keep_state hI _ l _ hd16 rfl, hd]
            show _ = (⟨r.next, ((((havL r.next r.ahead : Nat) : Int).toNat ||| 2 ^ (dist2 f.seq r.next - 1).toNat : Nat) : Int), f.key + 1, r.locked⟩ : Rep)
            rw [Int.toNat_natCast, hli]
          · rename_i h1
            split
            · rename_i h2
              refine ⟨?_, ⟨hI.sorted, hI.win, hkk, hl0, hnx, hI.bd⟩, by show r.next ≤ r.next + 256; omega, .inr hli, .inr (.inr hli)⟩
              rw [apply_far (b := true) hna hu hlk (by omega) (decide_eq_true (by omega)), hw2, ← hli]
              rfl
            · rename_i h2
              refine ⟨?_, ⟨hI.sorted, hI.win, hkk, hl0, hnx, hI.bd⟩, by show r.next ≤ r.next + 256; omega, .inr hli, .inr (.inr hli)⟩
              rw [apply_far (b := false) hna hu hlk (by omega) (decide_eq_false (by omega)), hw2, ← hli]
              have h3 : r.locked = false := by simpa using h
              show (⟨r.next, _, l.i, r.locked⟩ : Rep) = _
              rw [h3]; rfl
end Go.Tv.C34

end
section
namespace Go.Proofs
open Go.Shelf
def Tryd.sortIv_ren : Go.Shelf.Ren := ⟨fun | 6 => 65 | 15 => 79 | 14 => 78 | 28 => 95 | 29 => 96 | 20 => 87 | 21 => 88 | 22 => 89 | 23 => 90 | 24 => 91 | 25 => 92 | 26 => 93 | 27 => 94 | 46 => 100 | 47 => 101 | 48 => 102 | 49 => 103 | 50 => 104 | 57 => 106 | n => n, fun | 22 => 35 | 24 => 23 | 25 => 106 | 3 => 3 | 39 => 75 | 0 => 0 | 53 => 103 | 55 => 28 | 4 => 4 | 46 => 126 | 45 => 125 | 50 => 130 | 5 => 5 | 9 => 9 | 66 => 136 | 70 => 140 | 76 => 143 | 77 => 53 | n => n, fun | n => n⟩
theorem Tryd.sortIv : Go.Proofs.SlLaysF0.n6 Tryd.prog Tryd.sortIv_ren := {
  mixed := by kernel_rfl
  f6 := ⟨Tryd.f65.name, by decide, Tryd.func65.trans (congrArg some (by kernel_rfl))⟩
  f14 := ⟨Tryd.f78.name, by decide, Tryd.func78.trans (congrArg some (by kernel_rfl))⟩
  f15 := Tryd.func79.trans (congrArg some (by kernel_rfl))
  f20 := ⟨Tryd.f87.name, by decide, Tryd.func87.trans (congrArg some (by kernel_rfl))⟩
  f21 := ⟨Tryd.f88.name, by decide, Tryd.func88.trans (congrArg some (by kernel_rfl))⟩
  f22 := ⟨Tryd.f89.name, by decide, Tryd.func89.trans (congrArg some (by kernel_rfl))⟩
  f23 := ⟨Tryd.f90.name, by decide, Tryd.func90.trans (congrArg some (by kernel_rfl))⟩
  f24 := ⟨Tryd.f91.name, by decide, Tryd.func91.trans (congrArg some (by kernel_rfl))⟩
  f25 := ⟨Tryd.f92.name, by decide, Tryd.func92.trans (congrArg some (by kernel_rfl))⟩
  f26 := ⟨Tryd.f93.name, by decide, Tryd.func93.trans (congrArg some (by kernel_rfl))⟩
  f27 := ⟨Tryd.f94.name, by decide, Tryd.func94.trans (congrArg some (by kernel_rfl))⟩
  f28 := Tryd.func95.trans (congrArg some (by kernel_rfl))
  f29 := Tryd.func96.trans (congrArg some (by kernel_rfl))
  f46 := ⟨Tryd.f100.name, by decide, Tryd.func100.trans (congrArg some (by kernel_rfl))⟩
  f47 := Tryd.func101.trans (congrArg some (by kernel_rfl))
  f48 := Tryd.func102.trans (congrArg some (by kernel_rfl))
  f49 := ⟨Tryd.f103.name, by decide, Tryd.func103.trans (congrArg some (by kernel_rfl))⟩
  f50 := ⟨Tryd.f104.name, by decide, Tryd.func104.trans (congrArg some (by kernel_rfl))⟩
  f57 := ⟨Tryd.f106.name, by decide, Tryd.func106.trans (congrArg some (by kernel_rfl))⟩
  t0 := Tryd.underlying0
  a0 := Tryd.isAgg0
  z0 := Tryd.sizeOf0
  v0 := Tryd.zeroValue0
  t3 := Tryd.underlying3
  a3 := Tryd.isAgg3
  z3 := Tryd.sizeOf3
  v3 := Tryd.zeroValue3
  t4 := Tryd.underlying4
  a4 := Tryd.isAgg4
  z4 := Tryd.sizeOf4
  v4 := Tryd.zeroValue4
  t5 := Tryd.underlying5
  a5 := Tryd.isAgg5
  z5 := Tryd.sizeOf5
  v5 := Tryd.zeroValue5
  t9 := Tryd.underlying9
  a9 := Tryd.isAgg9
  z9 := Tryd.sizeOf9
  v9 := Tryd.zeroValue9
  t22 := Tryd.underlying35
  a22 := Tryd.isAgg35
  z22 := Tryd.sizeOf35
  v22 := Tryd.zeroValue35
  t25 := Tryd.underlying106
  a25 := Tryd.isAgg106
  z25 := Tryd.sizeOf106
  v25 := Tryd.zeroValue106
  t39 := Tryd.underlying75
  a39 := Tryd.isAgg75
  z39 := Tryd.sizeOf75
  v39 := Tryd.zeroValue75
  t45 := Tryd.underlying125
  a45 := Tryd.isAgg125
  z45 := Tryd.sizeOf125
  v45 := Tryd.zeroValue125
  t46 := Tryd.underlying126
  a46 := Tryd.isAgg126
  z46 := Tryd.sizeOf126
  v46 := Tryd.zeroValue126
  t50 := Tryd.underlying130
  a50 := Tryd.isAgg130
  z50 := Tryd.sizeOf130
  v50 := Tryd.zeroValue130
  t53 := Tryd.underlying103
  a53 := Tryd.isAgg103
  z53 := Tryd.sizeOf103
  v53 := Tryd.zeroValue103
  t55 := Tryd.underlying28
  a55 := Tryd.isAgg28
  z55 := Tryd.sizeOf28
  v55 := Tryd.zeroValue28
  t66 := Tryd.underlying136
  a66 := Tryd.isAgg136
  z66 := Tryd.sizeOf136
  v66 := Tryd.zeroValue136
  t70 := Tryd.underlying140
  a70 := Tryd.isAgg140
  z70 := Tryd.sizeOf140
  v70 := Tryd.zeroValue140
  t76 := Tryd.underlying143
  a76 := Tryd.isAgg143
  z76 := Tryd.sizeOf143
  v76 := Tryd.zeroValue143
  t77 := Tryd.underlying53
  a77 := Tryd.isAgg53
  z77 := Tryd.sizeOf53
  v77 := Tryd.zeroValue53 }
end Go.Proofs

end
section
open Go Go.Tv Go.Proofs
namespace Go.Tv.C34
set_option maxRecDepth 20000
set_option maxHeartbeats 2000000
set_option linter.unusedSimpArgs false
set_option linter.unusedVariables false
theorem spread_ret (l : List Rep) (f : Frm) (hl : Srt l) (hp : ∀ y, y ∈ l → HP y) : RetT Tryd.prog 43 [(1, deT)] [mset l, encF f] (mset (stepF l f)) := by
  refine retT_of_awr Tryd.func43 rfl (Nat.le_of_ble_eq_true rfl) ?_
  intro F0 w0
  refine awj_openS 0 (l := l) rfl (fun b0 lp hperm => ?_)
  refine awj_seq ?_
  refine awj_rj rfl ?_
  refine RJ.new rfl rfl (eff_boxK (v := .t _) (k := 5) (id := 3) rfl rfl rfl rfl rfl rfl) ?_
  refine RJ.op rfl rfl (eff_assign (v := .junk) rfl rfl rfl) ?_
  refine RJ.nil ?_
  refine awj_seq ?_
  refine awj_rj rfl ?_
  refine RJ.sMake rfl rfl rfl rfl (fun rO hrO => ?_)
  refine RJ.op rfl rfl (eff_assign (v := .t _) rfl rfl rfl) ?_
  refine RJ.nil ?_
  refine awj_seq ?_
  refine awj_seq ?_
  refine awj_rj rfl ?_
  refine RJ.op rfl rfl (eff_move (v := .t _) rfl rfl rfl) ?_
  refine RJ.sRange rfl rfl rfl rfl Tryd.underlying78 rfl (fun rI hrI => ?_)
  refine RJ.nil ?_
  show AWJ _ _ _ _ _ _ _ _
  have hne : rO ≠ rI := by intro e; subst e; rw [gget_same] at hrI; cases hrI
  refine awj_block ?_
  refine awj_loopW (fun m s g => ∃ (seen : List Nat) (cur : List Rep), (gget g rO = some (mapO KR XU (setL cur))) ∧ (gget g rI = some (itM b0 lp.length seen)) ∧ (seen.Nodup) ∧ (∀ j, j ∈ seen → j < lp.length) ∧ (cameF lp f seen cur) ∧ m = lp.length - seen.length ∧ s = ⟨21, [(3, .ptr 3 0 0 0), (5, .t (.mp rO)), (8, .t (.mpx b0 (mapL KR XU (setL lp)))), (9, .t (.adr rI 0)), (22, .t deT)], [(3, some ⟨5, 30, 0, [.t (encF f)]⟩)]⟩) (_) (⟨_, weak_keep (n := 21) (fr' := [(3, .ptr 3 0 0 0), (5, .t (.mp rO)), (8, .t (.mpx b0 (mapL KR XU (setL lp)))), (9, .t (.adr rI 0)), (22, .t deT)]) (st' := [(3, some ⟨5, 30, 0, [.t (encF f)]⟩)]) ⟨rfl, rfl, rfl, rfl, rfl, rfl, rfl, rfl, rfl, rfl, trivial⟩ ⟨rfl, okE_one rfl, trivial⟩, [], [], (by rw [gget_ne _ _ (Ne.symm hne)]; exact gget_same _ _ _), (by exact gget_same _ _ _), (by exact List.nodup_nil), (by intro j hj; simp at hj), (by exact cameF_nil _ _), rfl, rfl⟩) ?_
  rintro m s g ⟨seen, cur, hgO, hgI, hsn, hsb, hcm, rfl, rfl⟩
  refine awj_seq ?_
  refine awj_rj rfl ?_
  refine RJ.sNext (.tmp 8) rfl rfl rfl rfl rfl rfl hgI ?_ ?_
  · intro hall
    refine RJ.op rfl rfl (eff_extract rfl rfl rfl rfl) ?_
    refine RJ.nil ?_
    refine awj_seq ?_
    refine awj_cond rfl (fun h => nomatch h) (fun _ => ?_)
    refine awj_exit ?_
    refine awj_seq ?_
    refine awj_rj rfl ?_
    refine RJ.op rfl rfl (eff_move (v := .t _) rfl rfl rfl) ?_
    refine RJ.op rfl rfl (eff_assign (v := .t _) rfl rfl rfl) ?_
    refine RJ.nil ?_
    show AWJ _ _ _ _ _ _ _ _
    refine awj_freezeS 4 (l0 := cur) (stepF l f) rfl hgO (cameF_end hl hperm hcm hall) ?_
    refine awj_ret ?_
    first
      | exact ⟨Or.inr rfl, [_], ⟨.tmp (.t _), trivial⟩, .refl _⟩
      | exact ⟨Or.inr rfl, [_], ⟨.tmp (.t _), trivial⟩, (by repeat' first | exact trivial | exact Wk.refl _ | exact Wk.sl _ | refine And.intro ?_ ?_ | refine Wk.tupP ?_ | refine Wk.aggP ?_)⟩
      | exact ⟨Or.inr rfl, [_], ⟨.tmp (Res.ownT rfl rfl rfl rfl), trivial⟩, .refl _⟩
      | exact ⟨Or.inr rfl, [_], ⟨.tmp (Res.ownT rfl rfl rfl rfl), trivial⟩, (by repeat' first | exact trivial | exact Wk.refl _ | exact Wk.sl _ | refine And.intro ?_ ?_ | refine Wk.tupP ?_ | refine Wk.aggP ?_)⟩
  · intro q hq hqs
    refine RJ.op rfl rfl (eff_extract rfl rfl rfl rfl) ?_
    refine RJ.nil ?_
    refine awj_seq ?_
    refine awj_cond rfl (fun _ => ?_) (fun h => nomatch h)
    refine awj_skip ?_
    refine awj_block ?_
    refine awj_seq ?_
    refine awj_rj rfl ?_
    refine RJ.sEntry (.tmp 8) (seen := seen) hq rfl rfl rfl rfl rfl rfl (gget_same _ _ _) ?_
    refine RJ.op rfl rfl (eff_extract rfl rfl rfl rfl) ?_
    refine RJ.new rfl rfl (eff_allocK (k := 4) (id := 6) rfl rfl tz23 rfl rfl) ?_
    refine RJ.store rfl rfl (eff_storeW (v := .t _) (els := [_]) (els' := [_]) rfl rfl ti23 rfl rfl rfl rfl rfl rfl rfl rfl rfl) ?_
    refine RJ.nil ?_
    refine awj_seq ?_
    refine awj_rj rfl ?_
    refine RJ.op rfl rfl (eff_move (v := .t _) rfl rfl rfl) ?_
    refine RJ.op rfl rfl (eff_load rfl rfl ti23 rfl (.whole rfl rfl rfl rfl rfl rfl)) ?_
    refine RJ.sPut lp[q] cur rfl rfl (.inl rfl) Tryd.underlying78 rfl rfl rfl (by rw [gget_ne _ _ (Ne.symm hne)]; exact hgO) ?_
    refine RJ.nil ?_
    refine awj_rj rfl ?_
    refine RJ.op rfl rfl (eff_move (v := .t _) rfl rfl rfl) ?_
    refine RJ.op rfl rfl (eff_load rfl rfl ti23 rfl (.whole rfl rfl rfl rfl rfl rfl)) ?_
    refine RJ.op rfl rfl (eff_load rfl rfl ti30 rfl (.whole rfl rfl rfl rfl rfl rfl)) ?_
    refine RJ.op rfl rfl (eff_callXT (apply_ret _ _ (hp _ (hperm.mem_iff.1 (List.getElem_mem _)))) co14 rfl rfl rfl ⟨rfl, trivial⟩ rfl) ?_
    refine RJ.sPut (apply lp[q] f) (ins cur lp[q]) rfl rfl (.inl rfl) Tryd.underlying78 rfl rfl rfl (gget_same _ _ _) ?_
    refine RJ.nil ?_
    refine ⟨_, ?_, _, weak_keep (n := 21) (fr' := [(3, .ptr 3 0 0 0), (5, .t (.mp rO)), (8, .t (.mpx b0 (mapL KR XU (setL lp)))), (9, .t (.adr rI 0)), (22, .t deT)]) (st' := [(3, some ⟨5, 30, 0, [.t (encF f)]⟩)]) ⟨rfl, rfl, rfl, rfl, rfl, rfl, rfl, rfl, rfl, rfl, trivial⟩ ⟨rfl, okE_one rfl, trivial⟩, seen ++ [q], ins (ins cur lp[q]) (apply lp[q] f), (by exact gget_same _ _ _), (by rw [gget_ne _ _ hne, gget_ne _ _ hne]; exact gget_same _ _ _), (by exact seen_nodup hsn hqs), (by exact seen_bound hsb hq), (by exact cameF_step hcm hq), rfl, rfl⟩
    have hsl := seen_lt hsn hsb hq hqs
    simp only [List.length_append, List.length_singleton]
    omega

end Go.Tv.C34

end
section
open Go Go.Tv Go.Proofs
namespace Go.Tv.C34
set_option maxRecDepth 20000
set_option maxHeartbeats 2000000
set_option linter.unusedSimpArgs false
set_option linter.unusedVariables false
theorem sorted_ret (l : List Rep) (hl : Srt l) (hll : l.length ≤ 100000) : Ret Tryd.prog 46 [mset l] (.sl (l.map encR) false) := by
  refine ret_of_awr Tryd.func46 rfl (Nat.le_of_ble_eq_true rfl) ?_
  intro F0 w0
  refine awj_openS 0 (l := l) rfl (fun b0 lp hperm => ?_)
  have hpl := hperm.length_eq
  refine awj_seq ?_
  refine awj_rj rfl ?_
  refine RJ.op rfl rfl (eff_assign (v := .t _) rfl rfl rfl) ?_
  refine RJ.nil ?_
  refine awj_seq ?_
  refine awj_rj rfl ?_
  refine RJ.op rfl rfl (eff_assign (v := .t _) rfl rfl rfl) ?_
  refine RJ.nil ?_
  show AWJ _ _ _ _ _ _ _ _
  refine awj_weak (weak_adopt (d := 3) (id := 3) (k := 4) (ty := 23) rfl rfl) ?_
  refine awj_seq ?_
  refine awj_seq ?_
  refine awj_rj rfl ?_
  refine RJ.op rfl rfl (eff_move (v := .t _) rfl rfl rfl) ?_
  refine RJ.sRange rfl rfl rfl rfl Tryd.underlying78 rfl (fun rI hrI => ?_)
  refine RJ.nil ?_
  refine awj_block ?_
  refine awj_loopW (fun m s g => ∃ (seen : List Nat) (gn : Nat) (n : Nat) (els : List AV), (gget g rI = some (itM b0 lp.length seen)) ∧ (seen.Nodup) ∧ (∀ j, j ∈ seen → j < lp.length) ∧ (n = seen.length) ∧ (els = ((pick lp seen).map encR).map .t) ∧ m = lp.length - seen.length ∧ s = ⟨18, [(3, .own 3 gn 0 n), (5, .t (.mpx b0 (mapL KR XU (setL lp)))), (6, .t (.adr rI 0))], [(3, some ⟨4, 23, gn, els⟩)]⟩) (_) (⟨_, weak_keep (n := 18) (fr' := [(3, .own 3 0 0 0), (5, .t (.mpx b0 (mapL KR XU (setL lp)))), (6, .t (.adr rI 0))]) (st' := [(3, some ⟨4, 23, 0, ([])⟩)]) ⟨rfl, rfl, rfl, rfl, rfl, rfl, trivial⟩ ⟨rfl, (by first | exact okE_nil | (rw [he]; exact okE_t) | (rw [he]; intro x hx; simp only [List.mem_append, List.mem_map, List.mem_singleton] at hx; rcases hx with ⟨y, _, rfl⟩ | rfl <;> rfl)), trivial⟩, [], 0, 0, [], (by exact gget_same _ _ _), (by exact List.nodup_nil), (by intro j hj; simp at hj), (by rfl), (by rfl), rfl, rfl⟩) ?_
  rintro m s g ⟨seen, gn, n, els, hgI, hsn, hsb, hnn, he, rfl, rfl⟩
  refine awj_seq ?_
  refine awj_rj rfl ?_
  refine RJ.sNext (.tmp 5) rfl rfl rfl rfl rfl rfl hgI ?_ ?_
  · intro hall
    refine RJ.op rfl rfl (eff_extract rfl rfl rfl rfl) ?_
    refine RJ.nil ?_
    refine awj_seq ?_
    refine awj_cond rfl (fun h => nomatch h) (fun _ => ?_)
    refine awj_exit ?_
    refine awj_seq ?_
    refine awj_rj rfl ?_
    have hpa := pick_all hsn hsb hall ((hperm.nodup_iff).2 (srt_nodup hl))
    have hso : sortA cmpR (pick lp seen) = l := sort_srt hl (hpa.trans hperm)
    have hpn : (pick lp seen).length = l.length := (hpa.trans hperm).length_eq
    have hnl : n = (pick lp seen).length := by rw [hnn, pick_len hsb]
    refine RJ.op rfl rfl (eff_move (v := .own _ _ _ _) rfl rfl rfl) ?_
    refine RJ.new rfl rfl (eff_sortFunc Tryd.sortIv (cells := cellsR) (k := 4) (fun _ => rfl) (by decide) (cf := cmpR) cmpR_swo (g := 66) compare_ret co66 ti23 (id := 3) (gen := gn) (pick lp seen) (by omega) rfl co65 rfl rfl rfl rfl rfl rfl (he.trans (sortEls_eq _).symm) hnl ((sortEls_eq _).trans (by rw [hso]))) ?_
    refine RJ.nil ?_
    refine awj_seq ?_
    refine awj_rj rfl ?_
    refine RJ.op rfl rfl (eff_move (v := .own _ _ _ _) rfl rfl rfl) ?_
    refine RJ.op rfl rfl (eff_assign (v := .own _ _ _ _) rfl rfl rfl) ?_
    refine RJ.nil ?_
    refine awj_ret ?_
    exact ⟨Or.inr rfl, [_], ⟨.tmp (Res.ownT (xs := l.map encR) rfl rfl rfl (by rw [hnl, hpn]; simp)), trivial⟩, .refl _⟩
  · intro q hq hqs
    refine RJ.op rfl rfl (eff_extract rfl rfl rfl rfl) ?_
    refine RJ.nil ?_
    refine awj_seq ?_
    refine awj_cond rfl (fun _ => ?_) (fun h => nomatch h)
    refine awj_skip ?_
    refine awj_block ?_
    refine awj_seq ?_
    refine awj_rj rfl ?_
    refine RJ.sEntry (.tmp 5) (seen := seen) hq rfl rfl rfl rfl rfl rfl (gget_same _ _ _) ?_
    refine RJ.op rfl rfl (eff_extract rfl rfl rfl rfl) ?_
    refine RJ.new rfl rfl (eff_allocK (k := 4) (id := 4) rfl rfl tz23 rfl rfl) ?_
    refine RJ.store rfl rfl (eff_storeW (v := .t _) (els := [_]) (els' := [_]) rfl rfl ti23 rfl rfl rfl rfl rfl rfl rfl rfl rfl) ?_
    refine RJ.nil ?_
    refine awj_rj rfl ?_
    have hsl2 := seen_lt hsn hsb hq hqs
    refine RJ.op rfl rfl (eff_move (v := .own _ _ _ _) rfl rfl rfl) ?_
    refine RJ.op rfl rfl (eff_load rfl rfl ti23 rfl (.whole rfl rfl rfl rfl rfl rfl)) ?_
    refine RJ.new rfl rfl (eff_buildSliceL (id := 13) (els := [.t (.agg [_, _, _, _])]) rfl rfl te35 tz23 rfl (by decide) (by decide) rfl rfl rfl rfl) ?_
    refine RJ.new rfl rfl (eff_append (id := 3) (ys := [_]) rfl rfl ta35 rfl rfl rfl (by rw [he, hnn]; simp [pick_len hsb]) rfl rfl (srcOwn rfl rfl rfl rfl rfl rfl) (by simp) (by simp; omega) (by simp; omega)) ?_
    refine RJ.op rfl rfl (eff_assign (v := .own _ _ _ _) rfl rfl rfl) ?_
    refine RJ.nil ?_
    refine ⟨_, ?_, _, weak_keep (n := 18) (fr' := [(3, .own 3 _ 0 _), (5, .t (.mpx b0 (mapL KR XU (setL lp)))), (6, .t (.adr rI 0))]) (st' := [(3, some ⟨4, 23, _, _⟩)]) ⟨rfl, rfl, rfl, rfl, rfl, rfl, trivial⟩ ⟨rfl, (by first | exact okE_nil | (rw [he]; exact okE_t) | (rw [he]; intro x hx; simp only [List.mem_append, List.mem_map, List.mem_singleton] at hx; rcases hx with ⟨y, _, rfl⟩ | rfl <;> rfl)), trivial⟩, seen ++ [q], _, _, _, (by exact gget_same _ _ _), (by exact seen_nodup hsn hqs), (by exact seen_bound hsb hq), (by rw [hnn]; simp), (by rw [pick_step hq, he]; simp <;> rfl), rfl, rfl⟩
    have hsl := seen_lt hsn hsb hq hqs
    simp only [List.length_append, List.length_singleton]
    omega

theorem reach_ret (x : Rep) (l : List Frm) (hx : HP x) (hl : l.length ≤ 1000000) : RetT Tryd.prog 48 [(1, deT)] [encR x, .sl (l.map encF) false] (mset (reachF x l)) := by
  refine retT_of_awr Tryd.func48 rfl (Nat.le_of_ble_eq_true rfl) ?_
  intro F0 w0
  refine awj_seq ?_
  refine awj_rj rfl ?_
  refine RJ.new rfl rfl (eff_boxK (v := .t _) (k := 4) (id := 2) rfl rfl rfl rfl rfl rfl) ?_
  refine RJ.op rfl rfl (eff_assign (v := .junk) rfl rfl rfl) ?_
  refine RJ.nil ?_
  refine awj_seq ?_
  refine awj_rj rfl ?_
  refine RJ.sMake rfl rfl rfl rfl (fun rO hrO => ?_)
  refine RJ.op rfl rfl (eff_load rfl rfl ti23 rfl (.whole rfl rfl rfl rfl rfl rfl)) ?_
  refine RJ.sPut x [] rfl rfl (.inr rfl) Tryd.underlying78 rfl rfl rfl (gget_same _ _ _) ?_
  refine RJ.op rfl rfl (eff_move (v := .t _) rfl rfl rfl) ?_
  refine RJ.op rfl rfl (eff_assign (v := .t _) rfl rfl rfl) ?_
  refine RJ.nil ?_
  show AWJ _ _ _ _ _ _ _ _
  refine awj_freezeS 5 (l0 := ins [] x) [x] rfl (gget_same _ _ _) (by simp [ins]) ?_
  refine awj_seq ?_
  refine awj_seq ?_
  refine awj_rj rfl ?_
  refine RJ.op rfl rfl (eff_move (v := .t _) rfl rfl rfl) ?_
  refine RJ.op rfl rfl (eff_lenM rfl rfl te34 rfl) ?_
  refine RJ.op rfl rfl (eff_move (v := .t _) rfl rfl rfl) ?_
  refine RJ.nil ?_
  refine awj_block ?_
  refine awj_loopW (fun m s g => ∃ (i : Nat) (cur : List Rep), (i ≤ l.length) ∧ (cur = reachF x (l.take i)) ∧ m = l.length - i ∧ s = ⟨22, [(5, .t (mset cur)), (11, .t (.sl (l.map encF) false)), (12, .t (encI l.length)), (13, .t (encI (i : Nat))), (23, .t deT)], []⟩) (_) (⟨_, weak_keep (n := 22) (fr' := [(5, .t (mset ([x]))), (11, .t (.sl (l.map encF) false)), (12, .t (encI l.length)), (13, .t (encI (0 : Nat))), (23, .t deT)]) (st' := []) ⟨rfl, rfl, rfl, rfl, rfl, rfl, rfl, rfl, rfl, rfl, trivial⟩ trivial, 0, [x], (by omega), (by rfl), rfl, rfl⟩) ?_
  rintro m s g ⟨i, cur, hi, ho, rfl, rfl⟩
  refine awj_seq ?_
  refine awj_rj rfl ?_
  refine RJ.op rfl rfl (eff_iop rfl rfl rfl rfl rfl) ?_
  refine RJ.nil ?_
  refine awj_seq ?_
  refine awj_cond rfl (fun h1 => ?_) (fun h1 => ?_)
  · try simp only [decide_eq_true_eq, decide_eq_false_iff_not, beq_iff_eq, bne_iff_ne, bne_eq_false_iff_eq, beq_eq_false_iff_ne, Bool.not_eq_true, Bool.not_eq_false, Bool.not_eq_true', Bool.not_eq_false', ne_eq] at h1
    refine awj_skip ?_
    refine awj_seq ?_
    refine awj_block ?_
    refine awj_seq ?_
    refine awj_rj rfl ?_
    refine RJ.op rfl rfl (eff_indexM rfl rfl te34 rfl rfl rfl (by first | assumption | exact List.getElem?_eq_getElem (by omega)) rfl (by decide)) ?_
    refine RJ.op rfl rfl (eff_loadW rfl rfl ti30 rfl rfl rfl) ?_
    refine RJ.new rfl rfl (eff_allocK (k := 5) (id := 7) rfl rfl tz30 rfl rfl) ?_
    refine RJ.store rfl rfl (eff_storeW (v := .t _) (els := [_]) (els' := [_]) rfl rfl ti30 rfl rfl rfl rfl rfl rfl rfl rfl rfl) ?_
    refine RJ.nil ?_
    refine awj_rj rfl ?_
    refine RJ.op rfl rfl (eff_move (v := .t _) rfl rfl rfl) ?_
    refine RJ.op rfl rfl (eff_load rfl rfl ti30 rfl (.whole rfl rfl rfl rfl rfl rfl)) ?_
    refine RJ.op rfl rfl (eff_callXT (spread_ret cur _ (by rw [ho]; exact srt_reach _ _) (by rw [ho]; exact reach_hp hx _)) co43 rfl rfl rfl ⟨rfl, trivial⟩ rfl) ?_
    refine RJ.op rfl rfl (eff_assign (v := .t _) rfl rfl rfl) ?_
    refine RJ.nil ?_
    refine awj_rj rfl ?_
    refine RJ.op rfl rfl (eff_iop rfl rfl rfl rfl (iadd (by omega))) ?_
    refine RJ.op rfl rfl (eff_move (v := .t _) rfl rfl rfl) ?_
    refine RJ.nil ?_
    refine ⟨_, ?_, _, weak_keep (n := 22) (fr' := [(5, .t (mset (stepF cur (l[i]'(by omega))))), (11, .t (.sl (l.map encF) false)), (12, .t (encI l.length)), (13, .t (encI ((i + 1) : Nat))), (23, .t deT)]) (st' := []) ⟨rfl, rfl, rfl, rfl, rfl, rfl, rfl, rfl, rfl, rfl, trivial⟩ trivial, i + 1, stepF cur (l[i]'(by omega)), (by omega), (by rw [reachF_take (by omega), ho]), rfl, rfl⟩
    omega
  · try simp only [decide_eq_true_eq, decide_eq_false_iff_not, beq_iff_eq, bne_iff_ne, bne_eq_false_iff_eq, beq_eq_false_iff_ne, Bool.not_eq_true, Bool.not_eq_false, Bool.not_eq_true', Bool.not_eq_false', ne_eq] at h1
    refine awj_exit ?_
    refine awj_seq ?_
    refine awj_rj rfl ?_
    refine RJ.op rfl rfl (eff_move (v := .t _) rfl rfl rfl) ?_
    refine RJ.op rfl rfl (eff_assign (v := .t _) rfl rfl rfl) ?_
    refine RJ.nil ?_
    refine awj_ret ?_
    have hi2 : i = l.length := by omega
    subst hi2
    rw [List.take_length] at ho
    rw [← ho]
    exact ⟨Or.inr rfl, [_], ⟨.tmp (.t _), trivial⟩, .refl _⟩

end Go.Tv.C34

end
section
open Go Go.Tv Go.Proofs
namespace Go.Tv.C34
set_option maxRecDepth 20000
set_option maxHeartbeats 2000000
set_option linter.unusedSimpArgs false
set_option linter.unusedVariables false
theorem cloneO_retG (l : List Frm) (g : Nat) (hl : l.length ≤ 100000) (h0 : 0 < l.length) : RetG Tryd.prog 57 [(0, some ⟨5, 30, g, (l.map encF).map .t⟩)] [.own 0 g 0 l.length] [(0, some ⟨5, 30, g + 1, (l.map encF).map .t⟩), (5, some ⟨5, 30, 1, (l.map encF).map .t⟩)] (.own 5 1 0 l.length) := by
  refine retG_of_awp Tryd.func57 rfl (Nat.le_of_ble_eq_true rfl) ?_
  refine awp_seq ?_
  refine awp_rw rfl ?_
  refine RW.op rfl rfl (eff_assign (v := .t _) rfl rfl rfl) ?_
  refine RW.nil ?_
  refine awp_seq ?_
  refine awp_seq ?_
  refine awp_rw rfl ?_
  refine RW.op rfl rfl (eff_move (v := .own _ _ _ _) rfl rfl rfl) ?_
  refine RW.op rfl rfl (eff_ownNotNil rfl rfl te34 rfl rfl rfl h0) ?_
  refine RW.nil ?_
  refine awp_cond rfl (fun h => nomatch h) (fun _ => ?_)
  refine awp_skip ?_
  refine awp_seq ?_
  refine awp_rw rfl ?_
  refine RW.new rfl rfl (eff_buildSliceL (id := 5) (els := []) rfl rfl te34 tz30 rfl (by decide) (by decide) rfl rfl rfl rfl) ?_
  refine RW.op rfl rfl (eff_move (v := .own _ _ _ _) rfl rfl rfl) ?_
  refine RW.new rfl rfl (eff_appendAny (id := 5) rfl rfl ta34 rfl rfl rfl rfl rfl rfl (srcOwn' (ys := (l.map encF).map .t) rfl rfl rfl rfl (by simp) (by rw [List.take_of_length_le (by simp)]; rfl)) (by simp; omega) (by simp; omega)) ?_
  refine RW.op rfl rfl (eff_assign (v := .own _ _ _ _) rfl rfl rfl) ?_
  refine RW.nil ?_
  refine awp_ret ?_
  refine ⟨Or.inr rfl, [_], [.own 5 1 0 l.length], ⟨.tmp rfl, trivial⟩, rfl, Weak.trans (weak_raise (id := 0) (g + 1) rfl (by omega)) ?_, rfl⟩
  exact weak_keep ⟨(by show AV.own 5 _ 0 _ = AV.own 5 1 0 l.length; congr 1; simp), rfl, trivial⟩ ⟨rfl, okE_t, rfl, okE_t, trivial⟩

theorem ownO_retG (l : List Frm) (g : Nat) (hl : l.length ≤ 100000) (h0 : 0 < l.length) (hb : ∀ f, f ∈ l → f.body.length ≤ 1000000) : RetG Tryd.prog 44 [(0, some ⟨5, 30, g, (l.map encF).map .t⟩)] [.own 0 g 0 l.length] [(0, some ⟨5, 30, g + 1, (l.map encF).map .t⟩), (5, some ⟨5, 30, 1, (l.map encF).map .t⟩)] (.own 5 1 0 l.length) := by
  refine retG_of_awp Tryd.func44 rfl (Nat.le_of_ble_eq_true rfl) ?_
  refine awp_seq ?_
  refine awp_rw rfl ?_
  refine RW.op rfl rfl (eff_assign (v := .t _) rfl rfl rfl) ?_
  refine RW.nil ?_
  refine awp_seq ?_
  refine awp_rw rfl ?_
  refine RW.op rfl rfl (eff_move (v := .own _ _ _ _) rfl rfl rfl) ?_
  refine RW.new2 rfl rfl (eff_callG (cloneO_retG l g hl h0) co57 (fun id => id) rfl rfl rfl ⟨.own _ _ _ _ rfl rfl, trivial⟩ (.own _ _ _ _ rfl rfl) rfl ⟨⟨rfl, treeEls_t, ⟨_, rfl, Nat.lt_succ_self _⟩⟩, trivial⟩ ⟨⟨treeEls_t, .inl rfl⟩, ⟨treeEls_t, .inr rfl⟩, trivial⟩) ?_
  refine RW.op rfl rfl (eff_assign (v := .own _ _ _ _) rfl rfl rfl) ?_
  refine RW.nil ?_
  refine awp_seq ?_
  refine awp_seq ?_
  refine awp_rw rfl ?_
  refine RW.op rfl rfl (eff_move (v := .own _ _ _ _) rfl rfl rfl) ?_
  refine RW.op rfl rfl (eff_len rfl rfl te34 rfl rfl rfl) ?_
  refine RW.op rfl rfl (eff_move (v := .t _) rfl rfl rfl) ?_
  refine RW.nil ?_
  refine awp_block ?_
  refine awp_loopW (fun m s => ∃ (i : Nat), (i ≤ l.length) ∧ m = l.length - i ∧ s = ⟨23, [(0, .own 5 1 0 l.length), (7, .own 5 1 0 l.length), (8, .t (encI l.length)), (9, .t (encI (i : Nat)))], [(0, some ⟨5, 30, g + 1, (l.map encF).map .t⟩), (5, some ⟨5, 30, 1, (l.map encF).map .t⟩)]⟩) (_) (⟨_, weak_keep (n := 23) (fr' := [(0, .own 5 1 0 l.length), (7, .own 5 1 0 l.length), (8, .t (encI l.length)), (9, .t (encI (0 : Nat)))]) (st' := [(0, some ⟨5, 30, g + 1, (l.map encF).map .t⟩), (5, some ⟨5, 30, 1, (l.map encF).map .t⟩)]) ⟨rfl, rfl, rfl, rfl, rfl, rfl, rfl, rfl, trivial⟩ ⟨rfl, okE_t, rfl, okE_t, trivial⟩, 0, (by omega), rfl, rfl⟩) ?_
  rintro m s ⟨i, hi, rfl, rfl⟩
  refine awp_seq ?_
  refine awp_rw rfl ?_
  refine RW.op rfl rfl (eff_iop rfl rfl rfl rfl rfl) ?_
  refine RW.nil ?_
  refine awp_seq ?_
  refine awp_cond rfl (fun h1 => ?_) (fun h1 => ?_)
  · try simp only [decide_eq_true_eq, decide_eq_false_iff_not, beq_iff_eq, bne_iff_ne, bne_eq_false_iff_eq, beq_eq_false_iff_ne, Bool.not_eq_true, Bool.not_eq_false, Bool.not_eq_true', Bool.not_eq_false', ne_eq] at h1
    refine awp_skip ?_
    refine awp_seq ?_
    refine awp_block ?_
    refine awp_seq ?_
    refine awp_rw rfl ?_
    have hil : i < l.length := by omega
    have hbl := hb _ (List.getElem_mem hil)
    refine RW.op rfl rfl (eff_move (v := .t _) rfl rfl rfl) ?_
    refine RW.op rfl rfl (eff_indexAddr rfl rfl te34 rfl rfl rfl rfl rfl rfl (by omega)) ?_
    refine RW.op rfl rfl (eff_load (y := .t (encF (l[i]'hil))) rfl rfl ti30 rfl (.whole rfl rfl (by rw [Nat.zero_add]; exact elF hil) rfl rfl rfl)) ?_
    refine RW.new rfl rfl (eff_allocK (k := 5) (id := 4) rfl rfl tz30 rfl rfl) ?_
    refine RW.op rfl rfl (eff_assign (v := .t _) rfl rfl rfl) ?_
    refine RW.store rfl rfl (eff_storeW (v := .t _) (els := [_]) (els' := [_]) rfl rfl ti30 rfl rfl rfl rfl rfl rfl rfl rfl rfl) ?_
    refine RW.nil ?_
    refine awp_rw rfl ?_
    refine RW.op rfl rfl (eff_move (v := .own _ _ _ _) rfl rfl rfl) ?_
    refine RW.op rfl rfl (eff_move (v := .t _) rfl rfl rfl) ?_
    refine RW.op rfl rfl (eff_fieldAddr rfl rfl tf30_3 (by decide) rfl rfl rfl (Nat.le_of_ble_eq_true rfl)) ?_
    refine RW.op rfl rfl (eff_load (y := .t _) rfl rfl ti27 rfl (.one rfl rfl rfl rfl)) ?_
    refine RW.op rfl rfl (eff_callT (cloneB_ret _ hbl) co58 rfl rfl rfl rfl) ?_
    refine RW.op rfl rfl (eff_indexAddr rfl rfl te34 rfl rfl rfl rfl rfl rfl (by omega)) ?_
    refine RW.op rfl rfl (eff_fieldAddr rfl rfl tf30_3 (by decide) rfl rfl rfl (Nat.le_of_ble_eq_true rfl)) ?_
    refine RW.store rfl rfl (eff_storeS (v := .t _) (el := .t (encF (l[i]'hil))) (ys := [encI (l[i]'hil).seq, encI (l[i]'hil).key, .bool (l[i]'hil).unlock, .sl ((l[i]'hil).body.map encBy) false, .int .u64 (l[i]'hil).tag]) (els := (l.map encF).map .t) (els' := (l.map encF).map .t) rfl rfl ti27 rfl rfl rfl rfl rfl rfl (by rw [Nat.zero_add]; exact elF hil) (Nat.le_of_ble_eq_true rfl) rfl (by rw [Nat.zero_add]; exact setF_same hil)) ?_
    refine RW.nil ?_
    refine awp_rw rfl ?_
    refine RW.op rfl rfl (eff_iop rfl rfl rfl rfl (iadd (by omega))) ?_
    refine RW.op rfl rfl (eff_move (v := .t _) rfl rfl rfl) ?_
    refine RW.nil ?_
    refine ⟨_, ?_, _, weak_keep (n := 23) (fr' := [(0, .own 5 1 0 l.length), (7, .own 5 1 0 l.length), (8, .t (encI l.length)), (9, .t (encI ((i + 1) : Nat)))]) (st' := [(0, some ⟨5, 30, g + 1, (l.map encF).map .t⟩), (5, some ⟨5, 30, 1, (l.map encF).map .t⟩)]) ⟨rfl, rfl, rfl, rfl, rfl, rfl, rfl, rfl, trivial⟩ ⟨rfl, okE_t, rfl, okE_t, trivial⟩, i + 1, (by omega), rfl, rfl⟩
    omega
  · try simp only [decide_eq_true_eq, decide_eq_false_iff_not, beq_iff_eq, bne_iff_ne, bne_eq_false_iff_eq, beq_eq_false_iff_ne, Bool.not_eq_true, Bool.not_eq_false, Bool.not_eq_true', Bool.not_eq_false', ne_eq] at h1
    refine awp_exit ?_
    refine awp_seq ?_
    refine awp_rw rfl ?_
    refine RW.op rfl rfl (eff_move (v := .own _ _ _ _) rfl rfl rfl) ?_
    refine RW.op rfl rfl (eff_assign (v := .own _ _ _ _) rfl rfl rfl) ?_
    refine RW.nil ?_
    refine awp_ret ?_
    exact ⟨Or.inr rfl, [_], [.own 5 1 0 l.length], ⟨.tmp rfl, trivial⟩, rfl, weak_keep ⟨rfl, rfl, trivial⟩ ⟨rfl, okE_t, rfl, okE_t, trivial⟩, rfl⟩

theorem ownO (l : List Frm) (g n : Nat) (E : List AV) (hn : n = l.length) (hE : E = (l.map encF).map .t) (hl : l.length ≤ 100000) (h0 : 0 < l.length) (hb : ∀ f, f ∈ l → f.body.length ≤ 1000000) :
    RetG Tryd.prog 44 [(0, some ⟨5, 30, g, E⟩)] [.own 0 g 0 n] [(0, some ⟨5, 30, g + 1, E⟩), (5, some ⟨5, 30, 1, (l.map encF).map .t⟩)] (.own 5 1 0 l.length) := by
  subst hn hE; exact ownO_retG l g hl h0 hb
theorem treeEls_app {xs : List Tr} {y : Tr} {k g : Nat} {ty : TypeId} : treeEls ⟨k, ty, g, xs.map .t ++ [.t y]⟩ := by
  intro x hx
  rcases List.mem_append.1 hx with h | h
  · obtain ⟨z, _, rfl⟩ := List.mem_map.1 h; exact ⟨z, rfl⟩
  · rw [List.mem_singleton.1 h]; exact ⟨y, rfl⟩

theorem tsend_ret (t : Twn) (f : Frm) (hs : Srt t.poss) (hp : ∀ y, y ∈ t.poss → HP y) (hl : t.poss.length ≤ 1000) (hsl : t.sent.length ≤ 1000) (hb : ∀ x, x ∈ t.sent → x.body.length ≤ 1000000) (hbf : f.body.length ≤ 1000000) : RetT Tryd.prog 20 [(1, deT)] [encT t, encF f] (.tup [encT (send t f).1, encI (send t f).2]) := by
  refine retT_of_awr Tryd.func20 rfl (Nat.le_of_ble_eq_true rfl) ?_
  intro F0 w0
  refine awj_seq ?_
  refine awj_rj rfl ?_
  refine RJ.new rfl rfl (eff_boxK (v := .t _) (k := 2) (id := 2) rfl rfl rfl rfl rfl rfl) ?_
  refine RJ.new rfl rfl (eff_boxK (v := .t _) (k := 5) (id := 3) rfl rfl rfl rfl rfl rfl) ?_
  refine RJ.new rfl rfl (eff_allocK (k := 2) (id := 4) rfl rfl tz37 rfl rfl) ?_
  refine RJ.op rfl rfl (eff_assign (v := .t _) rfl rfl rfl) ?_
  refine RJ.nil ?_
  refine awj_seq ?_
  refine awj_seq ?_
  refine awj_rj rfl ?_
  refine RJ.op rfl rfl (eff_fieldAddr rfl rfl tf37_0 (by decide) rfl rfl rfl (Nat.le_of_ble_eq_true rfl)) ?_
  refine RJ.op rfl rfl (eff_load (y := .t _) rfl rfl ti34 rfl (.one rfl rfl rfl rfl)) ?_
  refine RJ.op rfl rfl (eff_lenM rfl rfl te34 rfl) ?_
  refine RJ.op rfl rfl (eff_assign (v := .t _) rfl rfl rfl) ?_
  refine RJ.nil ?_
  refine awj_seq ?_
  by_cases hc1 : 0 < t.sent.length
  · refine awj_rd [(some 13, []), (some 14, []), (some 15, []), (some 16, []), (some 17, []), (some 18, []), (some 19, []), (some 20, []), (some 21, []), (some 22, []), (some 23, []), (some 24, []), (some 25, []), (some 26, [])] [[], [0], [0, 1], [0, 1, 2], [0, 1, 2, 3], [0, 1, 2], [0, 1, 2, 5], [0, 1, 2, 3, 4, 5, 6], [0, 1, 2, 3, 4, 5, 6, 7], [0, 1, 2, 3, 4, 5, 6, 7, 8], [0, 1, 2], [0, 1, 2, 10], [0, 1, 2, 3, 4, 5, 6, 7, 8, 9, 10, 11], [0, 1, 2, 3, 4, 5, 6, 7, 8, 9, 10, 11, 12]] tm rfl rfl rfl rfl ?_
    refine RD.op rfl rfl rfl (eff_move (v := .t _) rfl rfl rfl) ?_
    refine RD.op rfl rfl rfl (eff_iop (r := .bool true) rfl rfl rfl rfl (by show some (Tr.bool (decide _)) = _; rw [decide_eq_true (by omega)])) ?_
    refine RD.op rfl rfl rfl (eff_move (v := .t _) rfl rfl rfl) ?_
    refine RD.gop rfl rfl rfl rfl rfl rfl rfl (eff_fieldAddr rfl rfl tf37_0 (by decide) rfl rfl rfl (Nat.le_of_ble_eq_true rfl)) ?_
    refine RD.gop rfl rfl rfl rfl rfl rfl rfl (eff_load (y := .t _) rfl rfl ti34 rfl (.one rfl rfl rfl rfl)) ?_
    refine RD.gop rfl rfl rfl rfl rfl rfl rfl (eff_move (v := .t _) rfl rfl rfl) ?_
    refine RD.gop rfl rfl rfl rfl rfl rfl rfl (eff_iop rfl rfl rfl rfl (isub (by omega))) ?_
    refine RD.gop rfl rfl rfl rfl rfl rfl rfl (eff_indexM (i := t.sent.length - 1) rfl rfl te34 rfl rfl (by first | rfl | omega) (by exact List.getElem?_eq_getElem (by omega)) rfl (by decide)) ?_
    refine RD.gop rfl rfl rfl rfl rfl rfl rfl (eff_fieldAddrT rfl rfl tf30_1 (by decide) rfl) ?_
    refine RD.gop rfl rfl rfl rfl rfl rfl rfl (eff_loadT1 rfl rfl ti3 rfl rfl) ?_
    refine RD.gop rfl rfl rfl rfl rfl rfl rfl (eff_fieldAddr rfl rfl tf30_1 (by decide) rfl rfl rfl (Nat.le_of_ble_eq_true rfl)) ?_
    refine RD.gop rfl rfl rfl rfl rfl rfl rfl (eff_load (y := .t _) rfl rfl ti3 rfl (.one rfl rfl rfl rfl)) ?_
    refine RD.gop rfl rfl rfl rfl rfl rfl rfl (eff_iop rfl rfl rfl rfl rfl) ?_
    refine RD.op rfl rfl rfl (eff_pick (v := .t _) rfl rfl rfl rfl) ?_
    refine RD.nil ?_
    refine awj_cond rfl (fun h2 => ?_) (fun h2 => ?_)
    · try simp only [decide_eq_true_eq, decide_eq_false_iff_not, beq_iff_eq, bne_iff_ne, bne_eq_false_iff_eq, beq_eq_false_iff_ne, Bool.not_eq_true, Bool.not_eq_false, Bool.not_eq_true', Bool.not_eq_false', ne_eq] at h2
      refine awj_seq ?_
      refine awj_rj rfl ?_
      refine RJ.op rfl rfl (eff_buildT (ys := [_, _]) rfl rfl tz37 tg37 rfl) ?_
      refine RJ.store rfl rfl (eff_storeW (v := .t _) (els := [_]) (els' := [_]) rfl rfl ti37 rfl rfl rfl rfl rfl rfl rfl rfl rfl) ?_
      refine RJ.op rfl rfl (eff_assign (v := .t _) rfl rfl rfl) ?_
      refine RJ.nil ?_
      refine awj_ret ?_
      first
        | (rw [send_late (by first | (rw [late_at (by omega)]; exact decide_eq_true (by first | assumption | omega)) | (exfalso; omega))]
           exact ⟨Or.inr rfl, [_, _], ⟨.cell rfl ti37 (.whole rfl rfl rfl rfl rfl rfl) (.t _), .tmp (.t _), trivial⟩, (by repeat' first | exact trivial | exact Wk.refl _ | exact Wk.sl _ | refine And.intro ?_ ?_ | refine Wk.tupP ?_ | refine Wk.aggP ?_)⟩)
        | (rw [send_many (by first | exact late_nil (by omega) | (rw [late_at (by omega)]; exact decide_eq_false (by first | assumption | omega))) (by omega)]
           exact ⟨Or.inr rfl, [_, _], ⟨.cell rfl ti37 (.whole rfl rfl rfl rfl rfl rfl) (.t _), .tmp (.t _), trivial⟩, (by repeat' first | exact trivial | exact Wk.refl _ | exact Wk.sl _ | refine And.intro ?_ ?_ | refine Wk.tupP ?_ | refine Wk.aggP ?_)⟩)
        | (rw [send_ok (by first | exact late_nil (by omega) | (rw [late_at (by omega)]; exact decide_eq_false (by first | assumption | omega))) (by omega)]
           exact ⟨Or.inr rfl, [_, _], ⟨.cell rfl ti37 (.whole rfl rfl rfl rfl rfl rfl) (Res.aggP (xs := [_, _]) ⟨Res.ownT (xs := (t.sent ++ [f]).map encF) rfl rfl rfl (by simp), .t _, trivial⟩), .tmp (.t _), trivial⟩, .refl _⟩)
    · try simp only [decide_eq_true_eq, decide_eq_false_iff_not, beq_iff_eq, bne_iff_ne, bne_eq_false_iff_eq, beq_eq_false_iff_ne, Bool.not_eq_true, Bool.not_eq_false, Bool.not_eq_true', Bool.not_eq_false', ne_eq] at h2
      refine awj_skip ?_
      refine awj_seq ?_
      refine awj_rj rfl ?_
      refine RJ.sMake rfl rfl rfl rfl (fun rO hrO => ?_)
      refine RJ.op rfl rfl (eff_assign (v := .t _) rfl rfl rfl) ?_
      refine RJ.nil ?_
      refine awj_seq ?_
      refine awj_seq ?_
      refine awj_rj rfl ?_
      refine RJ.op rfl rfl (eff_fieldAddr rfl rfl tf37_1 (by decide) rfl rfl rfl (Nat.le_of_ble_eq_true rfl)) ?_
      refine RJ.op rfl rfl (eff_load (y := .t _) rfl rfl ti35 rfl (.one rfl rfl rfl rfl)) ?_
      refine RJ.op rfl rfl (eff_lenM rfl rfl te35 rfl) ?_
      refine RJ.op rfl rfl (eff_move (v := .t _) rfl rfl rfl) ?_
      refine RJ.nil ?_
      refine awj_block ?_
      refine awj_loopW (fun m s g => ∃ (i : Nat), (i ≤ t.poss.length) ∧ (gget g rO = some (mapO KR XU (setL (t.poss.take i)))) ∧ m = t.poss.length - i ∧ s = ⟨56, [(2, .ptr 2 0 0 0), (3, .ptr 3 0 0 0), (4, .ptr 4 0 0 0), (7, .t (.mp rO)), (30, .t (.sl (t.poss.map encR) false)), (31, .t (encI t.poss.length)), (32, .t (encI (i : Nat))), (57, .t deT)], [(2, some ⟨2, 37, 0, [.t (encT t)]⟩), (3, some ⟨5, 30, 0, [.t (encF f)]⟩), (4, some ⟨2, 37, 0, [.t z37]⟩)]⟩) (_) (⟨_, weak_keep (n := 56) (fr' := [(2, .ptr 2 0 0 0), (3, .ptr 3 0 0 0), (4, .ptr 4 0 0 0), (7, .t (.mp rO)), (30, .t (.sl (t.poss.map encR) false)), (31, .t (encI t.poss.length)), (32, .t (encI (0 : Nat))), (57, .t deT)]) (st' := [(2, some ⟨2, 37, 0, [.t (encT t)]⟩), (3, some ⟨5, 30, 0, [.t (encF f)]⟩), (4, some ⟨2, 37, 0, [.t z37]⟩)]) ⟨rfl, rfl, rfl, rfl, rfl, rfl, rfl, rfl, rfl, rfl, rfl, rfl, rfl, rfl, rfl, rfl, trivial⟩ ⟨rfl, okE_one rfl, rfl, okE_one rfl, rfl, okE_one rfl, trivial⟩, 0, (by omega), (by exact gget_same _ _ _), rfl, rfl⟩) ?_
      rintro m s g ⟨i, hi, hgO, rfl, rfl⟩
      refine awj_seq ?_
      refine awj_rj rfl ?_
      refine RJ.op rfl rfl (eff_iop rfl rfl rfl rfl rfl) ?_
      refine RJ.nil ?_
      refine awj_seq ?_
      refine awj_cond rfl (fun h3 => ?_) (fun h3 => ?_)
      · try simp only [decide_eq_true_eq, decide_eq_false_iff_not, beq_iff_eq, bne_iff_ne, bne_eq_false_iff_eq, beq_eq_false_iff_ne, Bool.not_eq_true, Bool.not_eq_false, Bool.not_eq_true', Bool.not_eq_false', ne_eq] at h3
        refine awj_skip ?_
        refine awj_seq ?_
        refine awj_block ?_
        refine awj_seq ?_
        refine awj_rj rfl ?_
        refine RJ.op rfl rfl (eff_indexM rfl rfl te35 rfl rfl rfl (by first | assumption | exact List.getElem?_eq_getElem (by omega)) rfl (by decide)) ?_
        refine RJ.op rfl rfl (eff_loadW rfl rfl ti23 rfl rfl rfl) ?_
        refine RJ.new rfl rfl (eff_allocK (k := 4) (id := 9) rfl rfl tz23 rfl rfl) ?_
        refine RJ.store rfl rfl (eff_storeW (v := .t _) (els := [_]) (els' := [_]) rfl rfl ti23 rfl rfl rfl rfl rfl rfl rfl rfl rfl) ?_
        refine RJ.nil ?_
        refine awj_rj rfl ?_
        refine RJ.op rfl rfl (eff_move (v := .t _) rfl rfl rfl) ?_
        refine RJ.op rfl rfl (eff_load rfl rfl ti23 rfl (.whole rfl rfl rfl rfl rfl rfl)) ?_
        refine RJ.sPut (t.poss[i]'(by omega)) (t.poss.take i) rfl rfl (.inl rfl) Tryd.underlying78 rfl rfl rfl hgO ?_
        refine RJ.nil ?_
        refine awj_rj rfl ?_
        refine RJ.op rfl rfl (eff_iop rfl rfl rfl rfl (iadd (by omega))) ?_
        refine RJ.op rfl rfl (eff_move (v := .t _) rfl rfl rfl) ?_
        refine RJ.nil ?_
        refine ⟨_, ?_, _, weak_keep (n := 56) (fr' := [(2, .ptr 2 0 0 0), (3, .ptr 3 0 0 0), (4, .ptr 4 0 0 0), (7, .t (.mp rO)), (30, .t (.sl (t.poss.map encR) false)), (31, .t (encI t.poss.length)), (32, .t (encI ((i + 1) : Nat))), (57, .t deT)]) (st' := [(2, some ⟨2, 37, 0, [.t (encT t)]⟩), (3, some ⟨5, 30, 0, [.t (encF f)]⟩), (4, some ⟨2, 37, 0, [.t z37]⟩)]) ⟨rfl, rfl, rfl, rfl, rfl, rfl, rfl, rfl, rfl, rfl, rfl, rfl, rfl, rfl, rfl, rfl, trivial⟩ ⟨rfl, okE_one rfl, rfl, okE_one rfl, rfl, okE_one rfl, trivial⟩, i + 1, (by omega), (by rw [gget_same, ins_take (srt_nodup hs) (by omega)]), rfl, rfl⟩
        omega
      · try simp only [decide_eq_true_eq, decide_eq_false_iff_not, beq_iff_eq, bne_iff_ne, bne_eq_false_iff_eq, beq_eq_false_iff_ne, Bool.not_eq_true, Bool.not_eq_false, Bool.not_eq_true', Bool.not_eq_false', ne_eq] at h3
        refine awj_exit ?_
        refine awj_seq ?_
        have hi2 : i = t.poss.length := by omega
        subst hi2
        rw [List.take_length] at hgO
        refine awj_freezeS 7 (l0 := t.poss) t.poss rfl hgO (.refl _) ?_
        have hfl := stepF_len t.poss f
        refine awj_rj rfl ?_
        refine RJ.op rfl rfl (eff_move (v := .t _) rfl rfl rfl) ?_
        refine RJ.op rfl rfl (eff_load rfl rfl ti30 rfl (.whole rfl rfl rfl rfl rfl rfl)) ?_
        refine RJ.op rfl rfl (eff_callXT (spread_ret t.poss f hs hp) co43 rfl rfl rfl ⟨rfl, trivial⟩ rfl) ?_
        refine RJ.op rfl rfl (eff_assign (v := .t _) rfl rfl rfl) ?_
        refine RJ.nil ?_
        refine awj_seq ?_
        refine awj_seq ?_
        refine awj_rj rfl ?_
        refine RJ.op rfl rfl (eff_move (v := .t _) rfl rfl rfl) ?_
        refine RJ.op rfl rfl (eff_lenS rfl rfl Tryd.underlying78 rfl) ?_
        refine RJ.op rfl rfl (eff_iop rfl rfl rfl rfl rfl) ?_
        refine RJ.nil ?_
        refine awj_cond rfl (fun h4 => ?_) (fun h4 => ?_)
        · try simp only [decide_eq_true_eq, decide_eq_false_iff_not, beq_iff_eq, bne_iff_ne, bne_eq_false_iff_eq, beq_eq_false_iff_ne, Bool.not_eq_true, Bool.not_eq_false, Bool.not_eq_true', Bool.not_eq_false', ne_eq] at h4
          refine awj_seq ?_
          refine awj_rj rfl ?_
          refine RJ.op rfl rfl (eff_buildT (ys := [_, _]) rfl rfl tz37 tg37 rfl) ?_
          refine RJ.store rfl rfl (eff_storeW (v := .t _) (els := [_]) (els' := [_]) rfl rfl ti37 rfl rfl rfl rfl rfl rfl rfl rfl rfl) ?_
          refine RJ.op rfl rfl (eff_assign (v := .t _) rfl rfl rfl) ?_
          refine RJ.nil ?_
          refine awj_ret ?_
          first
            | (rw [send_late (by first | (rw [late_at (by omega)]; exact decide_eq_true (by first | assumption | omega)) | (exfalso; omega))]
               exact ⟨Or.inr rfl, [_, _], ⟨.cell rfl ti37 (.whole rfl rfl rfl rfl rfl rfl) (.t _), .tmp (.t _), trivial⟩, (by repeat' first | exact trivial | exact Wk.refl _ | exact Wk.sl _ | refine And.intro ?_ ?_ | refine Wk.tupP ?_ | refine Wk.aggP ?_)⟩)
            | (rw [send_many (by first | exact late_nil (by omega) | (rw [late_at (by omega)]; exact decide_eq_false (by first | assumption | omega))) (by omega)]
               exact ⟨Or.inr rfl, [_, _], ⟨.cell rfl ti37 (.whole rfl rfl rfl rfl rfl rfl) (.t _), .tmp (.t _), trivial⟩, (by repeat' first | exact trivial | exact Wk.refl _ | exact Wk.sl _ | refine And.intro ?_ ?_ | refine Wk.tupP ?_ | refine Wk.aggP ?_)⟩)
            | (rw [send_ok (by first | exact late_nil (by omega) | (rw [late_at (by omega)]; exact decide_eq_false (by first | assumption | omega))) (by omega)]
               exact ⟨Or.inr rfl, [_, _], ⟨.cell rfl ti37 (.whole rfl rfl rfl rfl rfl rfl) (Res.aggP (xs := [_, _]) ⟨Res.ownT (xs := (t.sent ++ [f]).map encF) rfl rfl rfl (by simp), .t _, trivial⟩), .tmp (.t _), trivial⟩, .refl _⟩)
        · try simp only [decide_eq_true_eq, decide_eq_false_iff_not, beq_iff_eq, bne_iff_ne, bne_eq_false_iff_eq, beq_eq_false_iff_ne, Bool.not_eq_true, Bool.not_eq_false, Bool.not_eq_true', Bool.not_eq_false', ne_eq] at h4
          refine awj_skip ?_
          refine awj_seq ?_
          refine awj_rd [(some 46, []), (some 47, []), (some 48, []), (some 49, []), (some 50, [50]), (some 51, [51]), (some 52, [51, 56]), (some 53, []), (some 54, []), (some 55, []), (none, [4]), (some 5, [])] [[], [0], [0, 1], [], [3], [0, 1, 2, 3, 4], [0, 1, 2, 3, 4, 5], [], [0, 1, 2, 3, 4, 5, 6, 7], [0, 1, 2, 3, 4, 5, 6, 7, 8], [0, 1, 2, 3, 4, 5, 6, 7, 8, 9], [0, 1, 2, 3, 4, 5, 6, 7, 8, 9, 10]] tm rfl rfl rfl rfl ?_
          refine RD.op rfl rfl rfl (eff_fieldAddr rfl rfl tf37_0 (by decide) rfl rfl rfl (Nat.le_of_ble_eq_true rfl)) ?_
          refine RD.op rfl rfl rfl (eff_load (y := .t _) rfl rfl ti34 rfl (.one rfl rfl rfl rfl)) ?_
          refine RD.op rfl rfl rfl (eff_callT (clip_ret t.sent) co45 rfl rfl rfl rfl) ?_
          refine RD.op rfl rfl rfl (eff_load rfl rfl ti30 rfl (.whole rfl rfl rfl rfl rfl rfl)) ?_
          refine RD.new rfl rfl rfl (eff_buildSliceL (id := 50) (els := [.t (.agg [_, _, _, _, _])]) rfl rfl te34 tz30 rfl (by decide) (by decide) rfl rfl rfl rfl) ?_
          refine RD.new rfl rfl rfl (eff_appendNew (id := 51) (ys := [_]) rfl rfl ta34 rfl rfl (fun z hz => by obtain ⟨q, _, rfl⟩ := List.mem_map.1 hz; rfl) (srcOwn rfl rfl rfl rfl rfl rfl) (Nat.le_of_ble_eq_true rfl) (by simp; omega) (by simp; omega)) ?_
          refine RD.new2 rfl rfl rfl (eff_callG (ownO (t.sent ++ [f]) 0 _ _ (by simp) (by simp; rfl) (by simp; omega) (by simp) (by intro q hq; rcases List.mem_append.1 hq with h | h; exact hb q h; rw [List.mem_singleton.1 h]; exact hbf)) co44 (fun id => id + 51) rfl rfl rfl ⟨.own _ _ _ _ rfl rfl, trivial⟩ (.own _ _ _ _ rfl rfl) rfl ⟨⟨rfl, treeEls_app, ⟨_, rfl, Nat.lt_succ_self _⟩⟩, trivial⟩ ⟨⟨treeEls_app, .inl rfl⟩, ⟨treeEls_t, .inr rfl⟩, trivial⟩) ?_
          refine RD.op rfl rfl rfl (eff_move (v := .t _) rfl rfl rfl) ?_
          refine RD.op rfl rfl rfl (eff_callT (sorted_ret _ (srt_stepF hs) (by omega)) co46 rfl rfl rfl rfl) ?_
          refine RD.op rfl rfl rfl (eff_buildA (ys := [_, _]) rfl rfl tz37 tg37 rfl rfl) ?_
          refine RD.store rfl rfl rfl (eff_storeW (v := .agg _) (els := [_]) (els' := [_]) rfl rfl ti37 rfl rfl rfl rfl rfl rfl rfl rfl rfl) ?_
          refine RD.op rfl rfl rfl (eff_assign (v := .t _) rfl rfl rfl) ?_
          refine RD.nil ?_
          refine awj_ret ?_
          first
            | (rw [send_late (by first | (rw [late_at (by omega)]; exact decide_eq_true (by first | assumption | omega)) | (exfalso; omega))]
               exact ⟨Or.inr rfl, [_, _], ⟨.cell rfl ti37 (.whole rfl rfl rfl rfl rfl rfl) (.t _), .tmp (.t _), trivial⟩, (by repeat' first | exact trivial | exact Wk.refl _ | exact Wk.sl _ | refine And.intro ?_ ?_ | refine Wk.tupP ?_ | refine Wk.aggP ?_)⟩)
            | (rw [send_many (by first | exact late_nil (by omega) | (rw [late_at (by omega)]; exact decide_eq_false (by first | assumption | omega))) (by omega)]
               exact ⟨Or.inr rfl, [_, _], ⟨.cell rfl ti37 (.whole rfl rfl rfl rfl rfl rfl) (.t _), .tmp (.t _), trivial⟩, (by repeat' first | exact trivial | exact Wk.refl _ | exact Wk.sl _ | refine And.intro ?_ ?_ | refine Wk.tupP ?_ | refine Wk.aggP ?_)⟩)
            | (rw [send_ok (by first | exact late_nil (by omega) | (rw [late_at (by omega)]; exact decide_eq_false (by first | assumption | omega))) (by omega)]
               exact ⟨Or.inr rfl, [_, _], ⟨.cell rfl ti37 (.whole rfl rfl rfl rfl rfl rfl) (Res.aggP (xs := [_, _]) ⟨Res.ownT (xs := (t.sent ++ [f]).map encF) rfl rfl rfl (by simp), .t _, trivial⟩), .tmp (.t _), trivial⟩, .refl _⟩)
  · refine awj_rd [(some 13, []), (some 14, []), (some 15, []), (some 16, []), (some 17, []), (some 18, []), (some 19, []), (some 20, []), (some 21, []), (some 22, []), (some 23, []), (some 24, []), (some 25, []), (some 26, [])] [[], [0], [0, 1], [0, 1, 2], [0, 1, 2, 3], [0, 1, 2], [0, 1, 2, 5], [0, 1, 2, 3, 4, 5, 6], [0, 1, 2, 3, 4, 5, 6, 7], [0, 1, 2, 3, 4, 5, 6, 7, 8], [0, 1, 2], [0, 1, 2, 10], [0, 1, 2, 3, 4, 5, 6, 7, 8, 9, 10, 11], [0, 1, 2, 3, 4, 5, 6, 7, 8, 9, 10, 11, 12]] tm rfl rfl rfl rfl ?_
    refine RD.op rfl rfl rfl (eff_move (v := .t _) rfl rfl rfl) ?_
    refine RD.op rfl rfl rfl (eff_iop (r := .bool false) rfl rfl rfl rfl (by show some (Tr.bool (decide _)) = _; rw [decide_eq_false (by omega)])) ?_
    refine RD.op rfl rfl rfl (eff_move (v := .t _) rfl rfl rfl) ?_
    refine RD.gskip rfl rfl rfl rfl rfl rfl (by decide) ?_
    refine RD.gskip rfl rfl rfl rfl rfl rfl (by decide) ?_
    refine RD.gskip rfl rfl rfl rfl rfl rfl (by decide) ?_
    refine RD.gskip rfl rfl rfl rfl rfl rfl (by decide) ?_
    refine RD.gskip rfl rfl rfl rfl rfl rfl (by decide) ?_
    refine RD.gskip rfl rfl rfl rfl rfl rfl (by decide) ?_
    refine RD.gskip rfl rfl rfl rfl rfl rfl (by decide) ?_
    refine RD.gskip rfl rfl rfl rfl rfl rfl (by decide) ?_
    refine RD.gskip rfl rfl rfl rfl rfl rfl (by decide) ?_
    refine RD.gskip rfl rfl rfl rfl rfl rfl (by decide) ?_
    refine RD.op rfl rfl rfl (eff_pick (v := .t _) rfl rfl rfl rfl) ?_
    refine RD.nil ?_
    refine awj_cond rfl (fun h => nomatch h) (fun _ => ?_)
    refine awj_skip ?_
    refine awj_seq ?_
    refine awj_rj rfl ?_
    refine RJ.sMake rfl rfl rfl rfl (fun rO hrO => ?_)
    refine RJ.op rfl rfl (eff_assign (v := .t _) rfl rfl rfl) ?_
    refine RJ.nil ?_
    refine awj_seq ?_
    refine awj_seq ?_
    refine awj_rj rfl ?_
    refine RJ.op rfl rfl (eff_fieldAddr rfl rfl tf37_1 (by decide) rfl rfl rfl (Nat.le_of_ble_eq_true rfl)) ?_
    refine RJ.op rfl rfl (eff_load (y := .t _) rfl rfl ti35 rfl (.one rfl rfl rfl rfl)) ?_
    refine RJ.op rfl rfl (eff_lenM rfl rfl te35 rfl) ?_
    refine RJ.op rfl rfl (eff_move (v := .t _) rfl rfl rfl) ?_
    refine RJ.nil ?_
    refine awj_block ?_
    refine awj_loopW (fun m s g => ∃ (i : Nat), (i ≤ t.poss.length) ∧ (gget g rO = some (mapO KR XU (setL (t.poss.take i)))) ∧ m = t.poss.length - i ∧ s = ⟨56, [(2, .ptr 2 0 0 0), (3, .ptr 3 0 0 0), (4, .ptr 4 0 0 0), (7, .t (.mp rO)), (30, .t (.sl (t.poss.map encR) false)), (31, .t (encI t.poss.length)), (32, .t (encI (i : Nat))), (57, .t deT)], [(2, some ⟨2, 37, 0, [.t (encT t)]⟩), (3, some ⟨5, 30, 0, [.t (encF f)]⟩), (4, some ⟨2, 37, 0, [.t z37]⟩)]⟩) (_) (⟨_, weak_keep (n := 56) (fr' := [(2, .ptr 2 0 0 0), (3, .ptr 3 0 0 0), (4, .ptr 4 0 0 0), (7, .t (.mp rO)), (30, .t (.sl (t.poss.map encR) false)), (31, .t (encI t.poss.length)), (32, .t (encI (0 : Nat))), (57, .t deT)]) (st' := [(2, some ⟨2, 37, 0, [.t (encT t)]⟩), (3, some ⟨5, 30, 0, [.t (encF f)]⟩), (4, some ⟨2, 37, 0, [.t z37]⟩)]) ⟨rfl, rfl, rfl, rfl, rfl, rfl, rfl, rfl, rfl, rfl, rfl, rfl, rfl, rfl, rfl, rfl, trivial⟩ ⟨rfl, okE_one rfl, rfl, okE_one rfl, rfl, okE_one rfl, trivial⟩, 0, (by omega), (by exact gget_same _ _ _), rfl, rfl⟩) ?_
    rintro m s g ⟨i, hi, hgO, rfl, rfl⟩
    refine awj_seq ?_
    refine awj_rj rfl ?_
    refine RJ.op rfl rfl (eff_iop rfl rfl rfl rfl rfl) ?_
    refine RJ.nil ?_
    refine awj_seq ?_
    refine awj_cond rfl (fun h5 => ?_) (fun h5 => ?_)
    · try simp only [decide_eq_true_eq, decide_eq_false_iff_not, beq_iff_eq, bne_iff_ne, bne_eq_false_iff_eq, beq_eq_false_iff_ne, Bool.not_eq_true, Bool.not_eq_false, Bool.not_eq_true', Bool.not_eq_false', ne_eq] at h5
      refine awj_skip ?_
      refine awj_seq ?_
      refine awj_block ?_
      refine awj_seq ?_
      refine awj_rj rfl ?_
      refine RJ.op rfl rfl (eff_indexM rfl rfl te35 rfl rfl rfl (by first | assumption | exact List.getElem?_eq_getElem (by omega)) rfl (by decide)) ?_
      refine RJ.op rfl rfl (eff_loadW rfl rfl ti23 rfl rfl rfl) ?_
      refine RJ.new rfl rfl (eff_allocK (k := 4) (id := 9) rfl rfl tz23 rfl rfl) ?_
      refine RJ.store rfl rfl (eff_storeW (v := .t _) (els := [_]) (els' := [_]) rfl rfl ti23 rfl rfl rfl rfl rfl rfl rfl rfl rfl) ?_
      refine RJ.nil ?_
      refine awj_rj rfl ?_
      refine RJ.op rfl rfl (eff_move (v := .t _) rfl rfl rfl) ?_
      refine RJ.op rfl rfl (eff_load rfl rfl ti23 rfl (.whole rfl rfl rfl rfl rfl rfl)) ?_
      refine RJ.sPut (t.poss[i]'(by omega)) (t.poss.take i) rfl rfl (.inl rfl) Tryd.underlying78 rfl rfl rfl hgO ?_
      refine RJ.nil ?_
      refine awj_rj rfl ?_
      refine RJ.op rfl rfl (eff_iop rfl rfl rfl rfl (iadd (by omega))) ?_
      refine RJ.op rfl rfl (eff_move (v := .t _) rfl rfl rfl) ?_
      refine RJ.nil ?_
      refine ⟨_, ?_, _, weak_keep (n := 56) (fr' := [(2, .ptr 2 0 0 0), (3, .ptr 3 0 0 0), (4, .ptr 4 0 0 0), (7, .t (.mp rO)), (30, .t (.sl (t.poss.map encR) false)), (31, .t (encI t.poss.length)), (32, .t (encI ((i + 1) : Nat))), (57, .t deT)]) (st' := [(2, some ⟨2, 37, 0, [.t (encT t)]⟩), (3, some ⟨5, 30, 0, [.t (encF f)]⟩), (4, some ⟨2, 37, 0, [.t z37]⟩)]) ⟨rfl, rfl, rfl, rfl, rfl, rfl, rfl, rfl, rfl, rfl, rfl, rfl, rfl, rfl, rfl, rfl, trivial⟩ ⟨rfl, okE_one rfl, rfl, okE_one rfl, rfl, okE_one rfl, trivial⟩, i + 1, (by omega), (by rw [gget_same, ins_take (srt_nodup hs) (by omega)]), rfl, rfl⟩
      omega
    · try simp only [decide_eq_true_eq, decide_eq_false_iff_not, beq_iff_eq, bne_iff_ne, bne_eq_false_iff_eq, beq_eq_false_iff_ne, Bool.not_eq_true, Bool.not_eq_false, Bool.not_eq_true', Bool.not_eq_false', ne_eq] at h5
      refine awj_exit ?_
      refine awj_seq ?_
      have hi2 : i = t.poss.length := by omega
      subst hi2
      rw [List.take_length] at hgO
      refine awj_freezeS 7 (l0 := t.poss) t.poss rfl hgO (.refl _) ?_
      have hfl := stepF_len t.poss f
      refine awj_rj rfl ?_
      refine RJ.op rfl rfl (eff_move (v := .t _) rfl rfl rfl) ?_
      refine RJ.op rfl rfl (eff_load rfl rfl ti30 rfl (.whole rfl rfl rfl rfl rfl rfl)) ?_
      refine RJ.op rfl rfl (eff_callXT (spread_ret t.poss f hs hp) co43 rfl rfl rfl ⟨rfl, trivial⟩ rfl) ?_
      refine RJ.op rfl rfl (eff_assign (v := .t _) rfl rfl rfl) ?_
      refine RJ.nil ?_
      refine awj_seq ?_
      refine awj_seq ?_
      refine awj_rj rfl ?_
      refine RJ.op rfl rfl (eff_move (v := .t _) rfl rfl rfl) ?_
      refine RJ.op rfl rfl (eff_lenS rfl rfl Tryd.underlying78 rfl) ?_
      refine RJ.op rfl rfl (eff_iop rfl rfl rfl rfl rfl) ?_
      refine RJ.nil ?_
      refine awj_cond rfl (fun h6 => ?_) (fun h6 => ?_)
      · try simp only [decide_eq_true_eq, decide_eq_false_iff_not, beq_iff_eq, bne_iff_ne, bne_eq_false_iff_eq, beq_eq_false_iff_ne, Bool.not_eq_true, Bool.not_eq_false, Bool.not_eq_true', Bool.not_eq_false', ne_eq] at h6
        refine awj_seq ?_
        refine awj_rj rfl ?_
        refine RJ.op rfl rfl (eff_buildT (ys := [_, _]) rfl rfl tz37 tg37 rfl) ?_
        refine RJ.store rfl rfl (eff_storeW (v := .t _) (els := [_]) (els' := [_]) rfl rfl ti37 rfl rfl rfl rfl rfl rfl rfl rfl rfl) ?_
        refine RJ.op rfl rfl (eff_assign (v := .t _) rfl rfl rfl) ?_
        refine RJ.nil ?_
        refine awj_ret ?_
        first
          | (rw [send_late (by first | (rw [late_at (by omega)]; exact decide_eq_true (by first | assumption | omega)) | (exfalso; omega))]
             exact ⟨Or.inr rfl, [_, _], ⟨.cell rfl ti37 (.whole rfl rfl rfl rfl rfl rfl) (.t _), .tmp (.t _), trivial⟩, (by repeat' first | exact trivial | exact Wk.refl _ | exact Wk.sl _ | refine And.intro ?_ ?_ | refine Wk.tupP ?_ | refine Wk.aggP ?_)⟩)
          | (rw [send_many (by first | exact late_nil (by omega) | (rw [late_at (by omega)]; exact decide_eq_false (by first | assumption | omega))) (by omega)]
             exact ⟨Or.inr rfl, [_, _], ⟨.cell rfl ti37 (.whole rfl rfl rfl rfl rfl rfl) (.t _), .tmp (.t _), trivial⟩, (by repeat' first | exact trivial | exact Wk.refl _ | exact Wk.sl _ | refine And.intro ?_ ?_ | refine Wk.tupP ?_ | refine Wk.aggP ?_)⟩)
          | (rw [send_ok (by first | exact late_nil (by omega) | (rw [late_at (by omega)]; exact decide_eq_false (by first | assumption | omega))) (by omega)]
             exact ⟨Or.inr rfl, [_, _], ⟨.cell rfl ti37 (.whole rfl rfl rfl rfl rfl rfl) (Res.aggP (xs := [_, _]) ⟨Res.ownT (xs := (t.sent ++ [f]).map encF) rfl rfl rfl (by simp), .t _, trivial⟩), .tmp (.t _), trivial⟩, .refl _⟩)
      · try simp only [decide_eq_true_eq, decide_eq_false_iff_not, beq_iff_eq, bne_iff_ne, bne_eq_false_iff_eq, beq_eq_false_iff_ne, Bool.not_eq_true, Bool.not_eq_false, Bool.not_eq_true', Bool.not_eq_false', ne_eq] at h6
        refine awj_skip ?_
        refine awj_seq ?_
        refine awj_rd [(some 46, []), (some 47, []), (some 48, []), (some 49, []), (some 50, [50]), (some 51, [51]), (some 52, [51, 56]), (some 53, []), (some 54, []), (some 55, []), (none, [4]), (some 5, [])] [[], [0], [0, 1], [], [3], [0, 1, 2, 3, 4], [0, 1, 2, 3, 4, 5], [], [0, 1, 2, 3, 4, 5, 6, 7], [0, 1, 2, 3, 4, 5, 6, 7, 8], [0, 1, 2, 3, 4, 5, 6, 7, 8, 9], [0, 1, 2, 3, 4, 5, 6, 7, 8, 9, 10]] tm rfl rfl rfl rfl ?_
        refine RD.op rfl rfl rfl (eff_fieldAddr rfl rfl tf37_0 (by decide) rfl rfl rfl (Nat.le_of_ble_eq_true rfl)) ?_
        refine RD.op rfl rfl rfl (eff_load (y := .t _) rfl rfl ti34 rfl (.one rfl rfl rfl rfl)) ?_
        refine RD.op rfl rfl rfl (eff_callT (clip_ret t.sent) co45 rfl rfl rfl rfl) ?_
        refine RD.op rfl rfl rfl (eff_load rfl rfl ti30 rfl (.whole rfl rfl rfl rfl rfl rfl)) ?_
        refine RD.new rfl rfl rfl (eff_buildSliceL (id := 50) (els := [.t (.agg [_, _, _, _, _])]) rfl rfl te34 tz30 rfl (by decide) (by decide) rfl rfl rfl rfl) ?_
        refine RD.new rfl rfl rfl (eff_appendNew (id := 51) (ys := [_]) rfl rfl ta34 rfl rfl (fun z hz => by obtain ⟨q, _, rfl⟩ := List.mem_map.1 hz; rfl) (srcOwn rfl rfl rfl rfl rfl rfl) (Nat.le_of_ble_eq_true rfl) (by simp; omega) (by simp; omega)) ?_
        refine RD.new2 rfl rfl rfl (eff_callG (ownO (t.sent ++ [f]) 0 _ _ (by simp) (by simp; rfl) (by simp; omega) (by simp) (by intro q hq; rcases List.mem_append.1 hq with h | h; exact hb q h; rw [List.mem_singleton.1 h]; exact hbf)) co44 (fun id => id + 51) rfl rfl rfl ⟨.own _ _ _ _ rfl rfl, trivial⟩ (.own _ _ _ _ rfl rfl) rfl ⟨⟨rfl, treeEls_app, ⟨_, rfl, Nat.lt_succ_self _⟩⟩, trivial⟩ ⟨⟨treeEls_app, .inl rfl⟩, ⟨treeEls_t, .inr rfl⟩, trivial⟩) ?_
        refine RD.op rfl rfl rfl (eff_move (v := .t _) rfl rfl rfl) ?_
        refine RD.op rfl rfl rfl (eff_callT (sorted_ret _ (srt_stepF hs) (by omega)) co46 rfl rfl rfl rfl) ?_
        refine RD.op rfl rfl rfl (eff_buildA (ys := [_, _]) rfl rfl tz37 tg37 rfl rfl) ?_
        refine RD.store rfl rfl rfl (eff_storeW (v := .agg _) (els := [_]) (els' := [_]) rfl rfl ti37 rfl rfl rfl rfl rfl rfl rfl rfl rfl) ?_
        refine RD.op rfl rfl rfl (eff_assign (v := .t _) rfl rfl rfl) ?_
        refine RD.nil ?_
        refine awj_ret ?_
        first
          | (rw [send_late (by first | (rw [late_at (by omega)]; exact decide_eq_true (by first | assumption | omega)) | (exfalso; omega))]
             exact ⟨Or.inr rfl, [_, _], ⟨.cell rfl ti37 (.whole rfl rfl rfl rfl rfl rfl) (.t _), .tmp (.t _), trivial⟩, (by repeat' first | exact trivial | exact Wk.refl _ | exact Wk.sl _ | refine And.intro ?_ ?_ | refine Wk.tupP ?_ | refine Wk.aggP ?_)⟩)
          | (rw [send_many (by first | exact late_nil (by omega) | (rw [late_at (by omega)]; exact decide_eq_false (by first | assumption | omega))) (by omega)]
             exact ⟨Or.inr rfl, [_, _], ⟨.cell rfl ti37 (.whole rfl rfl rfl rfl rfl rfl) (.t _), .tmp (.t _), trivial⟩, (by repeat' first | exact trivial | exact Wk.refl _ | exact Wk.sl _ | refine And.intro ?_ ?_ | refine Wk.tupP ?_ | refine Wk.aggP ?_)⟩)
          | (rw [send_ok (by first | exact late_nil (by omega) | (rw [late_at (by omega)]; exact decide_eq_false (by first | assumption | omega))) (by omega)]
             exact ⟨Or.inr rfl, [_, _], ⟨.cell rfl ti37 (.whole rfl rfl rfl rfl rfl rfl) (Res.aggP (xs := [_, _]) ⟨Res.ownT (xs := (t.sent ++ [f]).map encF) rfl rfl rfl (by simp), .t _, trivial⟩), .tmp (.t _), trivial⟩, .refl _⟩)

end Go.Tv.C34

end
