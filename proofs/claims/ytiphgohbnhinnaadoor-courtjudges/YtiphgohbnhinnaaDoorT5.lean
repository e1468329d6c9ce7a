/- CourtJudges: for every input that reads as data, the call returns true and leaves its arguments as they were. No condition. -/
import Derived.Test.YtiphgohbnhinnaaDoorT4
import Derived.Test.YtiphgohbnhinnaaDoorT2
import Derived.Test.YtiphgohbnhinnaaDoorT1
import Derived.Test.YtiphgohbnhinnaaDoorRows
import Derived.ProofKit
import Derived.Test.YtiphgohbnhinnaaDoorTie
import Derived.Test.YtiphgohbnhinnaaDoorCards
import Derived.SevenTiedAt
set_option linter.unnecessarySimpa false
set_option linter.unusedVariables false
set_option linter.unusedSimpArgs false
section
open Go Go.Tv Go.Proofs
namespace Go.Tv.C36
set_option maxRecDepth 20000
set_option maxHeartbeats 2000000
set_option linter.unusedSimpArgs false
set_option linter.unusedVariables false
theorem aroundK {n m : Int} {k : Nat} (hn : I64 n) (hm : 0 < m ∧ m ≤ 9223372036854775807) (h : around n m = (k : Int)) : Ret Tryd.prog 13 [encI n, encI m] (encI (k : Nat)) := by
  have := around_ret n m hn hm
  rwa [h] at this

theorem bent_ret (l : List Rcd) (p h n : Int) (hl : l.length ≤ 100000) (hp : I64 p) (hh : I64 h) (hn : I64 n) : Ret Tryd.prog 18 [.sl (l.map encC) false, encI p, encI h, encI n] (.sl ((bent l p h n).map encC) false) := by
  refine ret_of_awp Tryd.func18 rfl (Nat.le_of_ble_eq_true rfl) ?_
  refine awp_seq ?_
  refine awp_rw rfl ?_
  refine asT ?_
  refine RW.nil ?_
  refine awp_seq ?_
  refine awp_rw rfl ?_
  refine RW.new rfl rfl (eff_buildSliceL (id := 11) (els := []) rfl rfl te32 tz47 rfl (by decide) (by decide) rfl rfl rfl rfl) ?_
  refine mvT ?_
  refine RW.new rfl rfl (eff_appendAny (id := 11) rfl rfl ta32 rfl rfl rfl rfl rfl rfl (srcM rfl (fun _ => rfl)) (by simp; omega) (by simp; omega)) ?_
  refine asO ?_
  refine RW.nil ?_
  show AWP _ _ _ _
  refine awp_weak (weak_keep (n := 79) (fr' := [(1, .t (encI p)), (2, .t (encI h)), (3, .t (encI n)), (9, .own 11 1 0 l.length)]) (st' := [(11, some ⟨15, 47, 1, (l.map encC).map .t⟩)]) ⟨rfl, rfl, rfl, rfl, rfl, rfl, (by show AV.own 11 _ 0 _ = AV.own 11 1 0 l.length; congr 1; simp), rfl, trivial⟩ ⟨rfl, okE_t, trivial⟩) ?_
  refine awp_seq ?_
  refine awp_seq ?_
  refine awp_rw rfl ?_
  refine mvO ?_
  refine RW.op rfl rfl (eff_len rfl rfl te32 rfl rfl rfl) ?_
  refine ioT ?_
  refine RW.nil ?_
  refine awp_cond rfl (fun h1 => ?_) (fun h1 => ?_)
  · try simp only [cl] at h1
    refine awp_seq ?_
    refine awp_rw rfl ?_
    refine mvO ?_
    refine asO ?_
    refine RW.nil ?_
    refine awp_ret ?_
    rw [bent_nil (by omega)]
    exact ⟨Or.inr rfl, [_], ⟨.tmp (Res.ownM (xs := l.map encC) rfl (by simp)), trivial⟩, .refl _⟩
  · try simp only [cl] at h1
    refine awp_skip ?_
    refine awp_seq ?_
    refine awp_rw rfl ?_
    have hrg := around_range (n := p) (m := (l.length : Int)) (by omega)
    obtain ⟨k, hk⟩ : ∃ k : Nat, around p (l.length : Int) = (k : Int) := ⟨(around p (l.length : Int)).toNat, by omega⟩
    have hkl : k < l.length := by omega
    refine mvT ?_
    refine mvO ?_
    refine RW.op rfl rfl (eff_len rfl rfl te32 rfl rfl rfl) ?_
    refine RW.op rfl rfl (eff_callT (aroundK hp (by omega) hk) co13 rfl rfl rfl rfl) ?_
    refine asT ?_
    refine RW.nil ?_
    refine awp_seq ?_
    refine awp_seq ?_
    refine awp_rw rfl ?_
    refine mvT ?_
    refine RW.op rfl rfl (eff_callT (around_ret h 7 hh (by decide)) co13 rfl rfl rfl rfl) ?_
    refine RW.nil ?_
    refine awp_block ?_
    refine awp_seq ?_
    refine awp_rw rfl ?_
    refine ioT ?_
    refine asT ?_
    refine RW.nil ?_
    refine awp_cond rfl (fun h2 => ?_) (fun h2 => ?_)
    · try simp only [cl] at h2
      refine awp_rw rfl ?_
      have hb : bentR (around h 7) n (l[k]'hkl) = ⟨n, (l[k]'hkl).kind, (l[k]'hkl).frame, (l[k]'hkl).rep, (l[k]'hkl).dec⟩ := by unfold bentR; rw [if_pos (by omega)]
      refine mvO ?_
      refine mvT ?_
      refine mvT ?_
      refine RW.op rfl rfl (eff_indexAddr (i := k) rfl rfl te32 rfl rfl rfl rfl rfl rfl (by omega)) ?_
      refine faT tf47_0 ?_
      refine RW.store rfl rfl (eff_storeS (v := .t _) (el := .t (encC (l[k]'hkl))) (ys := [encI n, encI (l[k]'hkl).kind, encI (l[k]'hkl).frame.seq, encI (l[k]'hkl).frame.key, .bool (l[k]'hkl).frame.unlock, .sl ((l[k]'hkl).frame.body.map encBy) false, .int .u64 (l[k]'hkl).frame.tag, encI (l[k]'hkl).rep.next, encI (l[k]'hkl).rep.have_, encI (l[k]'hkl).rep.key, .bool (l[k]'hkl).rep.locked, encI (l[k]'hkl).dec.tick, encI (l[k]'hkl).dec.op, encI (l[k]'hkl).dec.kind, encI (l[k]'hkl).dec.seq]) (els := (l.map encC).map .t) (els' := ((l.set k (bentR (around h 7) n (l[k]'hkl))).map encC).map .t) rfl rfl ti3 rfl rfl rfl rfl rfl rfl (by first | exact elC hkl | (rw [Nat.zero_add]; exact elC hkl)) (Nat.le_of_ble_eq_true rfl) rfl (by first | exact setC_eq (by rw [hb]; rfl) | (rw [Nat.zero_add]; exact setC_eq (by rw [hb]; rfl)))) ?_
      refine RW.nil ?_
      refine awp_seq ?_
      refine awp_rw rfl ?_
      refine mvO ?_
      refine asO ?_
      refine RW.nil ?_
      refine awp_ret ?_
      rw [bent_at hk hkl rfl]
      exact ⟨Or.inr rfl, [_], ⟨.tmp (Res.ownT (xs := (l.set k (bentR (around h 7) n (l[k]'hkl))).map encC) rfl rfl rfl (by simp)), trivial⟩, .refl _⟩
    · try simp only [cl] at h2
      refine awp_seq ?_
      refine awp_rw rfl ?_
      refine ioT ?_
      refine asT ?_
      refine RW.nil ?_
      refine awp_cond rfl (fun h3 => ?_) (fun h3 => ?_)
      · try simp only [cl] at h3
        refine awp_rw rfl ?_
        have hb : bentR (around h 7) n (l[k]'hkl) = ⟨(l[k]'hkl).tick, n, (l[k]'hkl).frame, (l[k]'hkl).rep, (l[k]'hkl).dec⟩ := by unfold bentR; rw [if_neg (by omega), if_pos (by omega)]
        refine mvO ?_
        refine mvT ?_
        refine mvT ?_
        refine RW.op rfl rfl (eff_indexAddr (i := k) rfl rfl te32 rfl rfl rfl rfl rfl rfl (by omega)) ?_
        refine faT tf47_1 ?_
        refine RW.store rfl rfl (eff_storeS (v := .t _) (el := .t (encC (l[k]'hkl))) (ys := [encI (l[k]'hkl).tick, encI n, encI (l[k]'hkl).frame.seq, encI (l[k]'hkl).frame.key, .bool (l[k]'hkl).frame.unlock, .sl ((l[k]'hkl).frame.body.map encBy) false, .int .u64 (l[k]'hkl).frame.tag, encI (l[k]'hkl).rep.next, encI (l[k]'hkl).rep.have_, encI (l[k]'hkl).rep.key, .bool (l[k]'hkl).rep.locked, encI (l[k]'hkl).dec.tick, encI (l[k]'hkl).dec.op, encI (l[k]'hkl).dec.kind, encI (l[k]'hkl).dec.seq]) (els := (l.map encC).map .t) (els' := ((l.set k (bentR (around h 7) n (l[k]'hkl))).map encC).map .t) rfl rfl ti3 rfl rfl rfl rfl rfl rfl (by first | exact elC hkl | (rw [Nat.zero_add]; exact elC hkl)) (Nat.le_of_ble_eq_true rfl) rfl (by first | exact setC_eq (by rw [hb]; rfl) | (rw [Nat.zero_add]; exact setC_eq (by rw [hb]; rfl)))) ?_
        refine RW.nil ?_
        refine awp_seq ?_
        refine awp_rw rfl ?_
        refine mvO ?_
        refine asO ?_
        refine RW.nil ?_
        refine awp_ret ?_
        rw [bent_at hk hkl rfl]
        exact ⟨Or.inr rfl, [_], ⟨.tmp (Res.ownT (xs := (l.set k (bentR (around h 7) n (l[k]'hkl))).map encC) rfl rfl rfl (by simp)), trivial⟩, .refl _⟩
      · try simp only [cl] at h3
        refine awp_seq ?_
        refine awp_rw rfl ?_
        refine ioT ?_
        refine asT ?_
        refine RW.nil ?_
        refine awp_cond rfl (fun h4 => ?_) (fun h4 => ?_)
        · try simp only [cl] at h4
          refine awp_rw rfl ?_
          have hb : bentR (around h 7) n (l[k]'hkl) = ⟨(l[k]'hkl).tick, (l[k]'hkl).kind, (l[k]'hkl).frame, (l[k]'hkl).rep, ⟨n, (l[k]'hkl).dec.op, (l[k]'hkl).dec.kind, (l[k]'hkl).dec.seq⟩⟩ := by unfold bentR; rw [if_neg (by omega), if_neg (by omega), if_pos (by omega)]
          refine mvO ?_
          refine mvT ?_
          refine mvT ?_
          refine RW.op rfl rfl (eff_indexAddr (i := k) rfl rfl te32 rfl rfl rfl rfl rfl rfl (by omega)) ?_
          refine faT tf47_4 ?_
          refine faT tf28_0 ?_
          refine RW.store rfl rfl (eff_storeS (v := .t _) (el := .t (encC (l[k]'hkl))) (ys := [encI (l[k]'hkl).tick, encI (l[k]'hkl).kind, encI (l[k]'hkl).frame.seq, encI (l[k]'hkl).frame.key, .bool (l[k]'hkl).frame.unlock, .sl ((l[k]'hkl).frame.body.map encBy) false, .int .u64 (l[k]'hkl).frame.tag, encI (l[k]'hkl).rep.next, encI (l[k]'hkl).rep.have_, encI (l[k]'hkl).rep.key, .bool (l[k]'hkl).rep.locked, encI n, encI (l[k]'hkl).dec.op, encI (l[k]'hkl).dec.kind, encI (l[k]'hkl).dec.seq]) (els := (l.map encC).map .t) (els' := ((l.set k (bentR (around h 7) n (l[k]'hkl))).map encC).map .t) rfl rfl ti3 rfl rfl rfl rfl rfl rfl (by first | exact elC hkl | (rw [Nat.zero_add]; exact elC hkl)) (Nat.le_of_ble_eq_true rfl) rfl (by first | exact setC_eq (by rw [hb]; rfl) | (rw [Nat.zero_add]; exact setC_eq (by rw [hb]; rfl)))) ?_
          refine RW.nil ?_
          refine awp_seq ?_
          refine awp_rw rfl ?_
          refine mvO ?_
          refine asO ?_
          refine RW.nil ?_
          refine awp_ret ?_
          rw [bent_at hk hkl rfl]
          exact ⟨Or.inr rfl, [_], ⟨.tmp (Res.ownT (xs := (l.set k (bentR (around h 7) n (l[k]'hkl))).map encC) rfl rfl rfl (by simp)), trivial⟩, .refl _⟩
        · try simp only [cl] at h4
          refine awp_seq ?_
          refine awp_rw rfl ?_
          refine ioT ?_
          refine asT ?_
          refine RW.nil ?_
          refine awp_cond rfl (fun h5 => ?_) (fun h5 => ?_)
          · try simp only [cl] at h5
            refine awp_rw rfl ?_
            have hb : bentR (around h 7) n (l[k]'hkl) = ⟨(l[k]'hkl).tick, (l[k]'hkl).kind, (l[k]'hkl).frame, (l[k]'hkl).rep, ⟨(l[k]'hkl).dec.tick, (l[k]'hkl).dec.op, n, (l[k]'hkl).dec.seq⟩⟩ := by unfold bentR; rw [if_neg (by omega), if_neg (by omega), if_neg (by omega), if_pos (by omega)]
            refine mvO ?_
            refine mvT ?_
            refine mvT ?_
            refine RW.op rfl rfl (eff_indexAddr (i := k) rfl rfl te32 rfl rfl rfl rfl rfl rfl (by omega)) ?_
            refine faT tf47_4 ?_
            refine faT tf28_2 ?_
            refine RW.store rfl rfl (eff_storeS (v := .t _) (el := .t (encC (l[k]'hkl))) (ys := [encI (l[k]'hkl).tick, encI (l[k]'hkl).kind, encI (l[k]'hkl).frame.seq, encI (l[k]'hkl).frame.key, .bool (l[k]'hkl).frame.unlock, .sl ((l[k]'hkl).frame.body.map encBy) false, .int .u64 (l[k]'hkl).frame.tag, encI (l[k]'hkl).rep.next, encI (l[k]'hkl).rep.have_, encI (l[k]'hkl).rep.key, .bool (l[k]'hkl).rep.locked, encI (l[k]'hkl).dec.tick, encI (l[k]'hkl).dec.op, encI n, encI (l[k]'hkl).dec.seq]) (els := (l.map encC).map .t) (els' := ((l.set k (bentR (around h 7) n (l[k]'hkl))).map encC).map .t) rfl rfl ti3 rfl rfl rfl rfl rfl rfl (by first | exact elC hkl | (rw [Nat.zero_add]; exact elC hkl)) (Nat.le_of_ble_eq_true rfl) rfl (by first | exact setC_eq (by rw [hb]; rfl) | (rw [Nat.zero_add]; exact setC_eq (by rw [hb]; rfl)))) ?_
            refine RW.nil ?_
            refine awp_seq ?_
            refine awp_rw rfl ?_
            refine mvO ?_
            refine asO ?_
            refine RW.nil ?_
            refine awp_ret ?_
            rw [bent_at hk hkl rfl]
            exact ⟨Or.inr rfl, [_], ⟨.tmp (Res.ownT (xs := (l.set k (bentR (around h 7) n (l[k]'hkl))).map encC) rfl rfl rfl (by simp)), trivial⟩, .refl _⟩
          · try simp only [cl] at h5
            refine awp_seq ?_
            refine awp_rw rfl ?_
            refine ioT ?_
            refine asT ?_
            refine RW.nil ?_
            refine awp_cond rfl (fun h6 => ?_) (fun h6 => ?_)
            · try simp only [cl] at h6
              refine awp_rw rfl ?_
              have hb : bentR (around h 7) n (l[k]'hkl) = ⟨(l[k]'hkl).tick, (l[k]'hkl).kind, (l[k]'hkl).frame, (l[k]'hkl).rep, ⟨(l[k]'hkl).dec.tick, (l[k]'hkl).dec.op, (l[k]'hkl).dec.kind, n⟩⟩ := by unfold bentR; rw [if_neg (by omega), if_neg (by omega), if_neg (by omega), if_neg (by omega), if_pos (by omega)]
              refine mvO ?_
              refine mvT ?_
              refine mvT ?_
              refine RW.op rfl rfl (eff_indexAddr (i := k) rfl rfl te32 rfl rfl rfl rfl rfl rfl (by omega)) ?_
              refine faT tf47_4 ?_
              refine faT tf28_3 ?_
              refine RW.store rfl rfl (eff_storeS (v := .t _) (el := .t (encC (l[k]'hkl))) (ys := [encI (l[k]'hkl).tick, encI (l[k]'hkl).kind, encI (l[k]'hkl).frame.seq, encI (l[k]'hkl).frame.key, .bool (l[k]'hkl).frame.unlock, .sl ((l[k]'hkl).frame.body.map encBy) false, .int .u64 (l[k]'hkl).frame.tag, encI (l[k]'hkl).rep.next, encI (l[k]'hkl).rep.have_, encI (l[k]'hkl).rep.key, .bool (l[k]'hkl).rep.locked, encI (l[k]'hkl).dec.tick, encI (l[k]'hkl).dec.op, encI (l[k]'hkl).dec.kind, encI n]) (els := (l.map encC).map .t) (els' := ((l.set k (bentR (around h 7) n (l[k]'hkl))).map encC).map .t) rfl rfl ti3 rfl rfl rfl rfl rfl rfl (by first | exact elC hkl | (rw [Nat.zero_add]; exact elC hkl)) (Nat.le_of_ble_eq_true rfl) rfl (by first | exact setC_eq (by rw [hb]; rfl) | (rw [Nat.zero_add]; exact setC_eq (by rw [hb]; rfl)))) ?_
              refine RW.nil ?_
              refine awp_seq ?_
              refine awp_rw rfl ?_
              refine mvO ?_
              refine asO ?_
              refine RW.nil ?_
              refine awp_ret ?_
              rw [bent_at hk hkl rfl]
              exact ⟨Or.inr rfl, [_], ⟨.tmp (Res.ownT (xs := (l.set k (bentR (around h 7) n (l[k]'hkl))).map encC) rfl rfl rfl (by simp)), trivial⟩, .refl _⟩
            · try simp only [cl] at h6
              refine awp_seq ?_
              refine awp_rw rfl ?_
              refine ioT ?_
              refine asT ?_
              refine RW.nil ?_
              refine awp_cond rfl (fun h7 => ?_) (fun h7 => ?_)
              · try simp only [cl] at h7
                refine awp_rw rfl ?_
                have hb : bentR (around h 7) n (l[k]'hkl) = ⟨(l[k]'hkl).tick, (l[k]'hkl).kind, ⟨(l[k]'hkl).frame.seq, around n 20, (l[k]'hkl).frame.unlock, (l[k]'hkl).frame.body, (l[k]'hkl).frame.tag⟩, (l[k]'hkl).rep, (l[k]'hkl).dec⟩ := by unfold bentR; rw [if_neg (by omega), if_neg (by omega), if_neg (by omega), if_neg (by omega), if_neg (by omega), if_pos (by omega)]
                refine mvO ?_
                refine mvT ?_
                refine mvT ?_
                refine RW.op rfl rfl (eff_callT (around_ret n 20 hn (by decide)) co13 rfl rfl rfl rfl) ?_
                refine RW.op rfl rfl (eff_indexAddr (i := k) rfl rfl te32 rfl rfl rfl rfl rfl rfl (by omega)) ?_
                refine faT tf47_2 ?_
                refine faT tf45_1 ?_
                refine RW.store rfl rfl (eff_storeS (v := .t _) (el := .t (encC (l[k]'hkl))) (ys := [encI (l[k]'hkl).tick, encI (l[k]'hkl).kind, encI (l[k]'hkl).frame.seq, encI (around n 20), .bool (l[k]'hkl).frame.unlock, .sl ((l[k]'hkl).frame.body.map encBy) false, .int .u64 (l[k]'hkl).frame.tag, encI (l[k]'hkl).rep.next, encI (l[k]'hkl).rep.have_, encI (l[k]'hkl).rep.key, .bool (l[k]'hkl).rep.locked, encI (l[k]'hkl).dec.tick, encI (l[k]'hkl).dec.op, encI (l[k]'hkl).dec.kind, encI (l[k]'hkl).dec.seq]) (els := (l.map encC).map .t) (els' := ((l.set k (bentR (around h 7) n (l[k]'hkl))).map encC).map .t) rfl rfl ti3 rfl rfl rfl rfl rfl rfl (by first | exact elC hkl | (rw [Nat.zero_add]; exact elC hkl)) (Nat.le_of_ble_eq_true rfl) rfl (by first | exact setC_eq (by rw [hb]; rfl) | (rw [Nat.zero_add]; exact setC_eq (by rw [hb]; rfl)))) ?_
                refine RW.nil ?_
                refine awp_seq ?_
                refine awp_rw rfl ?_
                refine mvO ?_
                refine asO ?_
                refine RW.nil ?_
                refine awp_ret ?_
                rw [bent_at hk hkl rfl]
                exact ⟨Or.inr rfl, [_], ⟨.tmp (Res.ownT (xs := (l.set k (bentR (around h 7) n (l[k]'hkl))).map encC) rfl rfl rfl (by simp)), trivial⟩, .refl _⟩
              · try simp only [cl] at h7
                refine awp_rw rfl ?_
                have hb : bentR (around h 7) n (l[k]'hkl) = ⟨(l[k]'hkl).tick, (l[k]'hkl).kind, (l[k]'hkl).frame, ⟨around n 20, (l[k]'hkl).rep.have_, (l[k]'hkl).rep.key, (l[k]'hkl).rep.locked⟩, (l[k]'hkl).dec⟩ := by unfold bentR; rw [if_neg (by omega), if_neg (by omega), if_neg (by omega), if_neg (by omega), if_neg (by omega), if_neg (by omega)]
                refine mvO ?_
                refine mvT ?_
                refine mvT ?_
                refine RW.op rfl rfl (eff_callT (around_ret n 20 hn (by decide)) co13 rfl rfl rfl rfl) ?_
                refine RW.op rfl rfl (eff_indexAddr (i := k) rfl rfl te32 rfl rfl rfl rfl rfl rfl (by omega)) ?_
                refine faT tf47_3 ?_
                refine faT tf23_0 ?_
                refine RW.store rfl rfl (eff_storeS (v := .t _) (el := .t (encC (l[k]'hkl))) (ys := [encI (l[k]'hkl).tick, encI (l[k]'hkl).kind, encI (l[k]'hkl).frame.seq, encI (l[k]'hkl).frame.key, .bool (l[k]'hkl).frame.unlock, .sl ((l[k]'hkl).frame.body.map encBy) false, .int .u64 (l[k]'hkl).frame.tag, encI (around n 20), encI (l[k]'hkl).rep.have_, encI (l[k]'hkl).rep.key, .bool (l[k]'hkl).rep.locked, encI (l[k]'hkl).dec.tick, encI (l[k]'hkl).dec.op, encI (l[k]'hkl).dec.kind, encI (l[k]'hkl).dec.seq]) (els := (l.map encC).map .t) (els' := ((l.set k (bentR (around h 7) n (l[k]'hkl))).map encC).map .t) rfl rfl ti3 rfl rfl rfl rfl rfl rfl (by first | exact elC hkl | (rw [Nat.zero_add]; exact elC hkl)) (Nat.le_of_ble_eq_true rfl) rfl (by first | exact setC_eq (by rw [hb]; rfl) | (rw [Nat.zero_add]; exact setC_eq (by rw [hb]; rfl)))) ?_
                refine RW.nil ?_
                refine awp_seq ?_
                refine awp_rw rfl ?_
                refine mvO ?_
                refine asO ?_
                refine RW.nil ?_
                refine awp_ret ?_
                rw [bent_at hk hkl rfl]
                exact ⟨Or.inr rfl, [_], ⟨.tmp (Res.ownT (xs := (l.set k (bentR (around h 7) n (l[k]'hkl))).map encC) rfl rfl rfl (by simp)), trivial⟩, .refl _⟩

theorem lives1 : RetT Tryd.prog 22 [(1, deT)] [.sl (late4.map encC) false, encD dAg] (.tup [encV zv, encI 0]) := by have h := judge_ret late4 dAg okLate; rw [livA] at h; exact h
theorem lives2 : RetT Tryd.prog 22 [(1, deT)] [.sl (late4.map encC) false, encD dTo] (.tup [encV ⟨false, ⟨1, 0, 1, false⟩⟩, encI 0]) := by have h := judge_ret late4 dTo okLate; rw [livB] at h; exact h
theorem lives3 : RetT Tryd.prog 22 [(1, deT)] [.sl (early4.map encC) false, encD dAg] (.tup [encV ⟨true, zr⟩, encI 0]) := by have h := judge_ret early4 dAg okEarly; rw [livC] at h; exact h
theorem lives4 : RetT Tryd.prog 19 [(1, deT)] [.sl (early4.map encC) false] (.tup [.sl ([2].map encN) false, encI 0]) := by have h := held_ret early4 okEarly; rw [livD] at h; exact h
theorem lives5 : Ret Tryd.prog 21 [.sl ([2].map encN) false, .sl ([2].map encN) false] (.bool true) := sameN_ret [2] (by decide)

theorem lives_ret  : RetT Tryd.prog 16 [(1, deT)] [] (.bool true) := by
  refine retT_of_awp Tryd.func16 rfl (Nat.le_of_ble_eq_true rfl) ?_
  refine awp_seq ?_
  refine awp_rw rfl ?_
  refine asT ?_
  refine RW.nil ?_
  refine awp_seq ?_
  refine awp_rw rfl ?_
  refine RW.op rfl rfl (eff_buildT (ys := [_, _, _, _, _, _, _, _, _, _, _, _, _, _, _]) rfl rfl tz47 tg47 rfl) ?_
  refine RW.new rfl rfl (eff_allocK (k := 15) (id := 1) rfl rfl tz47 rfl rfl) ?_
  refine RW.store rfl rfl (eff_storeW (v := .t _) (els := [_]) (els' := [_]) rfl rfl ti47 rfl rfl rfl rfl rfl rfl rfl rfl rfl) ?_
  refine RW.nil ?_
  refine awp_seq ?_
  refine awp_rw rfl ?_
  refine RW.op rfl rfl (eff_buildT (ys := [_, _, _, _]) rfl rfl tz23 tg23 rfl) ?_
  refine RW.op rfl rfl (eff_buildT (ys := [_, _, _, _, _, _, _, _, _, _, _, _, _, _, _]) rfl rfl tz47 tg47 rfl) ?_
  refine RW.new rfl rfl (eff_allocK (k := 15) (id := 2) rfl rfl tz47 rfl rfl) ?_
  refine RW.store rfl rfl (eff_storeW (v := .t _) (els := [_]) (els' := [_]) rfl rfl ti47 rfl rfl rfl rfl rfl rfl rfl rfl rfl) ?_
  refine RW.nil ?_
  refine awp_seq ?_
  refine awp_rw rfl ?_
  refine RW.op rfl rfl (eff_buildT (ys := [_, _, _, _]) rfl rfl tz28 tg28 rfl) ?_
  refine RW.new rfl rfl (eff_allocK (k := 4) (id := 3) rfl rfl tz28 rfl rfl) ?_
  refine RW.store rfl rfl (eff_storeW (v := .t _) (els := [_]) (els' := [_]) rfl rfl ti28 rfl rfl rfl rfl rfl rfl rfl rfl rfl) ?_
  refine RW.nil ?_
  refine awp_seq ?_
  refine awp_rw rfl ?_
  refine RW.op rfl rfl (eff_buildT (ys := [_, _, _, _]) rfl rfl tz28 tg28 rfl) ?_
  refine RW.new rfl rfl (eff_allocK (k := 4) (id := 4) rfl rfl tz28 rfl rfl) ?_
  refine RW.store rfl rfl (eff_storeW (v := .t _) (els := [_]) (els' := [_]) rfl rfl ti28 rfl rfl rfl rfl rfl rfl rfl rfl rfl) ?_
  refine RW.nil ?_
  refine awp_seq ?_
  refine awp_rw rfl ?_
  refine RW.op rfl rfl (eff_load rfl rfl ti28 rfl (.whole rfl rfl rfl rfl rfl rfl)) ?_
  refine RW.op rfl rfl (eff_buildT (ys := [_, _, _, _, _, _, _, _, _, _, _, _, _, _, _]) rfl rfl tz47 tg47 rfl) ?_
  refine RW.new rfl rfl (eff_allocK (k := 15) (id := 5) rfl rfl tz47 rfl rfl) ?_
  refine RW.store rfl rfl (eff_storeW (v := .t _) (els := [_]) (els' := [_]) rfl rfl ti47 rfl rfl rfl rfl rfl rfl rfl rfl rfl) ?_
  refine RW.nil ?_
  refine awp_seq ?_
  refine awp_rw rfl ?_
  refine RW.op rfl rfl (eff_load rfl rfl ti28 rfl (.whole rfl rfl rfl rfl rfl rfl)) ?_
  refine RW.op rfl rfl (eff_buildT (ys := [_, _, _, _, _, _, _, _, _, _, _, _, _, _, _]) rfl rfl tz47 tg47 rfl) ?_
  refine RW.new rfl rfl (eff_allocK (k := 15) (id := 6) rfl rfl tz47 rfl rfl) ?_
  refine RW.store rfl rfl (eff_storeW (v := .t _) (els := [_]) (els' := [_]) rfl rfl ti47 rfl rfl rfl rfl rfl rfl rfl rfl rfl) ?_
  refine RW.nil ?_
  refine awp_seq ?_
  refine awp_rw rfl ?_
  refine RW.op rfl rfl (eff_load rfl rfl ti47 rfl (.whole rfl rfl rfl rfl rfl rfl)) ?_
  refine RW.op rfl rfl (eff_load rfl rfl ti47 rfl (.whole rfl rfl rfl rfl rfl rfl)) ?_
  refine RW.op rfl rfl (eff_load rfl rfl ti47 rfl (.whole rfl rfl rfl rfl rfl rfl)) ?_
  refine RW.op rfl rfl (eff_load rfl rfl ti47 rfl (.whole rfl rfl rfl rfl rfl rfl)) ?_
  refine RW.weak (weak_slot 26 (y := encC rSe) rfl (by first | ((repeat' (first | exact trivial | exact Wk.refl _ | exact Wk.sl _ | refine And.intro ?_ ?_ | refine Wk.tupP ?_ | refine Wk.aggP ?_)); done) | fail)) rfl ?_
  refine RW.weak (weak_slot 27 (y := encC rX) rfl (by first | ((repeat' (first | exact trivial | exact Wk.refl _ | exact Wk.sl _ | refine And.intro ?_ ?_ | refine Wk.tupP ?_ | refine Wk.aggP ?_)); done) | fail)) rfl ?_
  refine RW.weak (weak_slot 28 (y := encC rY) rfl (by first | ((repeat' (first | exact trivial | exact Wk.refl _ | exact Wk.sl _ | refine And.intro ?_ ?_ | refine Wk.tupP ?_ | refine Wk.aggP ?_)); done) | fail)) rfl ?_
  refine RW.weak (weak_slot 29 (y := encC rHe) rfl (by first | ((repeat' (first | exact trivial | exact Wk.refl _ | exact Wk.sl _ | refine And.intro ?_ ?_ | refine Wk.tupP ?_ | refine Wk.aggP ?_)); done) | fail)) rfl ?_
  refine RW.new rfl rfl (eff_buildSliceL (id := 30) (els := [.t (.agg [_, _, _, _, _, _, _, _, _, _, _, _, _, _, _]), .t (.agg [_, _, _, _, _, _, _, _, _, _, _, _, _, _, _]), .t (.agg [_, _, _, _, _, _, _, _, _, _, _, _, _, _, _]), .t (.agg [_, _, _, _, _, _, _, _, _, _, _, _, _, _, _])]) rfl rfl te32 tz47 rfl (by decide) (by decide) rfl rfl rfl rfl) ?_
  refine asO ?_
  refine RW.nil ?_
  refine awp_seq ?_
  refine awp_rw rfl ?_
  refine RW.op rfl rfl (eff_load rfl rfl ti47 rfl (.whole rfl rfl rfl rfl rfl rfl)) ?_
  refine RW.op rfl rfl (eff_load rfl rfl ti47 rfl (.whole rfl rfl rfl rfl rfl rfl)) ?_
  refine RW.op rfl rfl (eff_load rfl rfl ti47 rfl (.whole rfl rfl rfl rfl rfl rfl)) ?_
  refine RW.op rfl rfl (eff_load rfl rfl ti47 rfl (.whole rfl rfl rfl rfl rfl rfl)) ?_
  refine RW.weak (weak_slot 31 (y := encC rSe) rfl (by first | ((repeat' (first | exact trivial | exact Wk.refl _ | exact Wk.sl _ | refine And.intro ?_ ?_ | refine Wk.tupP ?_ | refine Wk.aggP ?_)); done) | fail)) rfl ?_
  refine RW.weak (weak_slot 32 (y := encC rHe) rfl (by first | ((repeat' (first | exact trivial | exact Wk.refl _ | exact Wk.sl _ | refine And.intro ?_ ?_ | refine Wk.tupP ?_ | refine Wk.aggP ?_)); done) | fail)) rfl ?_
  refine RW.weak (weak_slot 33 (y := encC rX) rfl (by first | ((repeat' (first | exact trivial | exact Wk.refl _ | exact Wk.sl _ | refine And.intro ?_ ?_ | refine Wk.tupP ?_ | refine Wk.aggP ?_)); done) | fail)) rfl ?_
  refine RW.weak (weak_slot 34 (y := encC rY) rfl (by first | ((repeat' (first | exact trivial | exact Wk.refl _ | exact Wk.sl _ | refine And.intro ?_ ?_ | refine Wk.tupP ?_ | refine Wk.aggP ?_)); done) | fail)) rfl ?_
  refine RW.new rfl rfl (eff_buildSliceL (id := 35) (els := [.t (.agg [_, _, _, _, _, _, _, _, _, _, _, _, _, _, _]), .t (.agg [_, _, _, _, _, _, _, _, _, _, _, _, _, _, _]), .t (.agg [_, _, _, _, _, _, _, _, _, _, _, _, _, _, _]), .t (.agg [_, _, _, _, _, _, _, _, _, _, _, _, _, _, _])]) rfl rfl te32 tz47 rfl (by decide) (by decide) rfl rfl rfl rfl) ?_
  refine asO ?_
  refine RW.nil ?_
  refine awp_seq ?_
  refine awp_weak (weak_frz (n := 93) (fr' := [(3, .ptr 3 0 0 0), (4, .ptr 4 0 0 0), (7, .t (.sl (late4.map encC) false)), (8, .t (.sl (early4.map encC) false)), (94, .t deT)]) (st' := [(3, some ⟨4, 28, 0, [.t (encD dAg)]⟩), (4, some ⟨4, 28, 0, [.t (encD dTo)]⟩)]) [(30, some ⟨15, 47, 0, (late4.map encC).map .t⟩), (35, some ⟨15, 47, 0, (early4.map encC).map .t⟩)] ⟨rfl, rfl, trivial⟩ ⟨rfl, rfl, trivial⟩ ⟨wa_eq rfl rfl, wa_eq rfl rfl, .res (Res.ownT (xs := late4.map encC) rfl rfl rfl rfl) (.refl _), .res (Res.ownT (xs := early4.map encC) rfl rfl rfl rfl) (.refl _), wa_eq rfl rfl, trivial⟩ ⟨rfl, okE_one rfl, rfl, okE_one rfl, trivial⟩) ?_
  refine awp_rw rfl ?_
  refine mvT ?_
  refine RW.op rfl rfl (eff_load rfl rfl ti28 rfl (.whole rfl rfl rfl rfl rfl rfl)) ?_
  refine RW.op rfl rfl (eff_callXT (lives1) co22 rfl rfl rfl ⟨rfl, trivial⟩ rfl) ?_
  refine mvT ?_
  refine RW.op rfl rfl (eff_extract rfl rfl rfl rfl) ?_
  refine RW.op rfl rfl (eff_extract rfl rfl rfl rfl) ?_
  refine RW.new rfl rfl (eff_allocK (k := 5) (id := 9) rfl rfl tz49 rfl rfl) ?_
  refine RW.store rfl rfl (eff_storeW (v := .t _) (els := [_]) (els' := [_]) rfl rfl ti49 rfl rfl rfl rfl rfl rfl rfl rfl rfl) ?_
  refine asT ?_
  refine RW.nil ?_
  refine awp_seq ?_
  refine awp_rw rfl ?_
  refine mvT ?_
  refine RW.op rfl rfl (eff_load rfl rfl ti28 rfl (.whole rfl rfl rfl rfl rfl rfl)) ?_
  refine RW.op rfl rfl (eff_callXT (lives2) co22 rfl rfl rfl ⟨rfl, trivial⟩ rfl) ?_
  refine mvT ?_
  refine RW.op rfl rfl (eff_extract rfl rfl rfl rfl) ?_
  refine RW.op rfl rfl (eff_extract rfl rfl rfl rfl) ?_
  refine RW.new rfl rfl (eff_allocK (k := 5) (id := 11) rfl rfl tz49 rfl rfl) ?_
  refine RW.store rfl rfl (eff_storeW (v := .t _) (els := [_]) (els' := [_]) rfl rfl ti49 rfl rfl rfl rfl rfl rfl rfl rfl rfl) ?_
  refine asT ?_
  refine RW.nil ?_
  refine awp_seq ?_
  refine awp_rw rfl ?_
  refine mvT ?_
  refine RW.op rfl rfl (eff_load rfl rfl ti28 rfl (.whole rfl rfl rfl rfl rfl rfl)) ?_
  refine RW.op rfl rfl (eff_callXT (lives3) co22 rfl rfl rfl ⟨rfl, trivial⟩ rfl) ?_
  refine mvT ?_
  refine RW.op rfl rfl (eff_extract rfl rfl rfl rfl) ?_
  refine RW.op rfl rfl (eff_extract rfl rfl rfl rfl) ?_
  refine RW.new rfl rfl (eff_allocK (k := 5) (id := 13) rfl rfl tz49 rfl rfl) ?_
  refine RW.store rfl rfl (eff_storeW (v := .t _) (els := [_]) (els' := [_]) rfl rfl ti49 rfl rfl rfl rfl rfl rfl rfl rfl rfl) ?_
  refine asT ?_
  refine RW.nil ?_
  refine awp_seq ?_
  refine awp_rw rfl ?_
  refine mvT ?_
  refine RW.op rfl rfl (eff_callXT (lives4) co19 rfl rfl rfl ⟨rfl, trivial⟩ rfl) ?_
  refine mvT ?_
  refine RW.op rfl rfl (eff_extract rfl rfl rfl rfl) ?_
  refine RW.op rfl rfl (eff_extract rfl rfl rfl rfl) ?_
  refine asT ?_
  refine asT ?_
  refine RW.nil ?_
  refine awp_seq ?_
  refine awp_seq ?_
  refine awp_rw rfl ?_
  refine mvT ?_
  refine RW.op rfl rfl (eff_iop (r := .bool false) rfl rfl rfl rfl (by rfl)) ?_
  refine mvT ?_
  refine RW.gop rfl rfl rfl rfl rfl rfl (eff_move (v := .t _) rfl rfl rfl) ?_
  refine RW.gop rfl rfl rfl rfl rfl rfl (eff_iop (r := .bool false) rfl rfl rfl rfl (by rfl)) ?_
  refine pkT ?_
  refine mvT ?_
  refine RW.gop rfl rfl rfl rfl rfl rfl (eff_move (v := .t _) rfl rfl rfl) ?_
  refine RW.gop rfl rfl rfl rfl rfl rfl (eff_iop (r := .bool false) rfl rfl rfl rfl (by rfl)) ?_
  refine pkT ?_
  refine mvT ?_
  refine RW.gop rfl rfl rfl rfl rfl rfl (eff_move (v := .t _) rfl rfl rfl) ?_
  refine RW.gop rfl rfl rfl rfl rfl rfl (eff_iop (r := .bool false) rfl rfl rfl rfl (by rfl)) ?_
  refine pkT ?_
  refine mvT ?_
  refine RW.gop rfl rfl rfl rfl rfl rfl (eff_move (v := .t _) rfl rfl rfl) ?_
  refine RW.gop rfl rfl rfl rfl rfl rfl (eff_buildSliceT (xs := [2].map encN) rfl rfl te26 tz3 rfl (by decide) rfl rfl rfl (by decide)) ?_
  refine RW.gop rfl rfl rfl rfl rfl rfl (eff_callW (xs := [_, _]) (lives5) co21 rfl rfl rfl rfl (by repeat' first | exact trivial | exact Wk.refl _ | exact Wk.sl _ | refine And.intro ?_ ?_ | refine Wk.aggP ?_)) ?_
  refine RW.gop rfl rfl rfl rfl rfl rfl (eff_unop rfl rfl rfl rfl) ?_
  refine pkT ?_
  refine RW.nil ?_
  refine awp_cond rfl (fun h => nomatch h) (fun _ => ?_)
  refine awp_skip ?_
  refine awp_seq ?_
  refine awp_rw rfl ?_
  refine RW.op rfl rfl (eff_load rfl rfl ti49 rfl (.whole rfl rfl rfl rfl rfl rfl)) ?_
  refine RW.op rfl rfl (eff_buildT (ys := [_, _, _, _, _]) rfl rfl tz49 tg49 rfl) ?_
  refine RW.op rfl rfl (eff_structEqlAB (cells := cellsV) (a := zv) (b := zv) (r := true) rfl rfl ts49s ti49 th49 cellsV_inj cellsV_kind rfl rfl (by decide)) ?_
  refine mvT ?_
  refine RW.gop rfl rfl rfl rfl rfl rfl (eff_load rfl rfl ti49 rfl (.whole rfl rfl rfl rfl rfl rfl)) ?_
  refine RW.gop rfl rfl rfl rfl rfl rfl (eff_buildT (ys := [_, _, _, _]) rfl rfl tz23 tg23 rfl) ?_
  refine RW.gop rfl rfl rfl rfl rfl rfl (eff_buildT (ys := [_, _, _, _, _]) rfl rfl tz49 tg49 rfl) ?_
  refine RW.gop rfl rfl rfl rfl rfl rfl (eff_structEqlAB (cells := cellsV) (a := ⟨false, ⟨1, 0, 1, false⟩⟩) (b := ⟨false, ⟨1, 0, 1, false⟩⟩) (r := true) rfl rfl ts49s ti49 th49 cellsV_inj cellsV_kind rfl rfl (by decide)) ?_
  refine pkT ?_
  refine mvT ?_
  refine RW.gop rfl rfl rfl rfl rfl rfl (eff_load rfl rfl ti49 rfl (.whole rfl rfl rfl rfl rfl rfl)) ?_
  refine RW.gop rfl rfl rfl rfl rfl rfl (eff_buildT (ys := [_, _, _, _, _]) rfl rfl tz49 tg49 rfl) ?_
  refine RW.gop rfl rfl rfl rfl rfl rfl (eff_structEqlAB (cells := cellsV) (a := ⟨true, zr⟩) (b := ⟨true, zr⟩) (r := true) rfl rfl ts49s ti49 th49 cellsV_inj cellsV_kind rfl rfl (by decide)) ?_
  refine pkT ?_
  refine asT ?_
  refine RW.nil ?_
  refine awp_ret ?_
  exact ⟨Or.inr rfl, [_], ⟨.tmp (.t _), trivial⟩, .refl _⟩

end Go.Tv.C36

end
section
open Go Go.Tv Go.Proofs
namespace Go.Tv.C36
set_option maxRecDepth 20000
set_option maxHeartbeats 2000000
set_option linter.unusedSimpArgs false
set_option linter.unusedVariables false
abbrev encL (l : List Rcd) : Tr := .sl (l.map encC) false
theorem held_len {l : List Rcd} : (held l).1.length ≤ l.length := by
  by_cases h : (allOf l).2 = 0
  · rw [held_ok h]; exact heldTo_len _ _
  · rw [held_bad (all_zt h) h]; exact Nat.zero_le _
theorem two_mem {α : Type} {p : α → Prop} {a b : α} (ha : p a) (hb : p b) : ∀ x, x ∈ [a, b] → p x := by
  intro x hx
  rcases List.mem_cons.1 hx with rfl | hx
  · exact ha
  · rw [List.mem_singleton.1 hx]; exact hb

end Go.Tv.C36

end
section
open Go Go.Tv Go.Proofs
namespace Go.Tv.C36
set_option maxRecDepth 20000
set_option maxHeartbeats 2000000
set_option linter.unusedSimpArgs false
set_option linter.unusedVariables false
theorem law4 (l what : List Int) (p h n : Int) (hI : ∀ x, x ∈ l → I64 x) (hl : l.length ≤ 9223372036854775807) (hJ : ∀ x, x ∈ what → I64 x) (hwl : what.length ≤ 9223372036854775807) (hp : I64 p) (hh : I64 h) (hn : I64 n) : RetT Tryd.prog 4 [(1, deT)] [.sl (l.map encI) false, .sl (what.map encI) false, encI p, encI h, encI n] (.bool true) := by
  refine retT_of_awp Tryd.func4 rfl (Nat.le_of_ble_eq_true rfl) ?_
  refine awp_seq ?_
  refine awp_rw rfl ?_
  refine asT ?_
  refine RW.nil ?_
  refine awp_seq ?_
  refine awp_rw rfl ?_
  refine mvT ?_
  refine mvT ?_
  refine RW.op rfl rfl (eff_callT (ledger_ret l what hI hl hJ hwl) co17 rfl rfl rfl rfl) ?_
  refine mvT ?_
  refine RW.op rfl rfl (eff_extract rfl rfl rfl rfl) ?_
  refine RW.op rfl rfl (eff_extract rfl rfl rfl rfl) ?_
  refine asT ?_
  refine asT ?_
  refine RW.nil ?_
  refine awp_seq ?_
  refine awp_rw rfl ?_
  have hled := ledger_led l what
  have hfew := ledger_few l what
  have hsh := hled.short
  have hG2 : ∀ x, x ∈ [(ledger l what).1, bent (ledger l what).1 p h n] → OKL x := two_mem hled.okl (hled.bentO hfew p h n)
  refine mvT ?_
  refine mvT ?_
  refine mvT ?_
  refine mvT ?_
  refine mvT ?_
  refine RW.op rfl rfl (eff_callT (bent_ret (ledger l what).1 p h n (by omega) hp hh hn) co18 rfl rfl rfl rfl) ?_
  refine RW.op rfl rfl (eff_buildSliceT (xs := [(ledger l what).1, bent (ledger l what).1 p h n].map encL) rfl rfl te37 tz32 rfl (by decide) rfl rfl rfl (by decide)) ?_
  refine asT ?_
  refine RW.nil ?_
  refine awp_seq ?_
  refine awp_seq ?_
  refine awp_rw rfl ?_
  refine asT ?_
  refine RW.nil ?_
  refine awp_block ?_
  refine awp_loopW (fun m s => ∃ (i : Nat), (i ≤ 2) ∧ m = 2 - i ∧ s = ⟨111, [(13, .t (.sl ([(ledger l what).1, bent (ledger l what).1 p h n].map encL) true)), (14, .t (encI (i : Nat))), (112, .t deT)], []⟩) (_) (⟨_, weak_keep (n := 111) (fr' := [(13, .t (.sl ([(ledger l what).1, bent (ledger l what).1 p h n].map encL) true)), (14, .t (encI (0 : Nat))), (112, .t deT)]) (st' := []) ⟨rfl, rfl, rfl, rfl, rfl, rfl, trivial⟩ trivial, 0, (by omega), rfl, rfl⟩) ?_
  rintro m s ⟨i, hi, rfl, rfl⟩
  refine awp_seq ?_
  refine awp_seq ?_
  refine awp_rw rfl ?_
  refine mvT ?_
  refine ioT ?_
  refine RW.nil ?_
  refine awp_cond rfl (fun h1 => ?_) (fun h1 => ?_)
  · try simp only [cl] at h1
    refine awp_skip ?_
    refine awp_seq ?_
    refine awp_block ?_
    refine awp_seq ?_
    refine awp_rw rfl ?_
    have hOi := hG2 _ (List.getElem_mem (show i < [(ledger l what).1, bent (ledger l what).1 p h n].length by show i < 2; omega))
    have hOl := hOi.len
    refine mvT ?_
    refine mvT ?_
    refine RW.op rfl rfl (eff_indexM (i := i) rfl rfl te37 rfl rfl (by first | rfl | omega) (by exact List.getElem?_eq_getElem (show i < [(ledger l what).1, bent (ledger l what).1 p h n].length by show i < 2; omega)) rfl (by decide)) ?_
    refine RW.op rfl rfl (eff_loadW1 rfl rfl ti32 rfl rfl) ?_
    refine RW.op rfl rfl (eff_callXT (held_ret ([(ledger l what).1, bent (ledger l what).1 p h n][i]'(by show i < 2; omega)) hOi) co19 rfl rfl rfl ⟨rfl, trivial⟩ rfl) ?_
    refine mvT ?_
    refine RW.op rfl rfl (eff_extract rfl rfl rfl rfl) ?_
    refine RW.op rfl rfl (eff_extract rfl rfl rfl rfl) ?_
    refine asT ?_
    refine asT ?_
    refine RW.nil ?_
    refine awp_seq ?_
    refine awp_rw rfl ?_
    refine mvT ?_
    refine mvT ?_
    refine RW.op rfl rfl (eff_indexM (i := i) rfl rfl te37 rfl rfl (by first | rfl | omega) (by exact List.getElem?_eq_getElem (show i < [(ledger l what).1, bent (ledger l what).1 p h n].length by show i < 2; omega)) rfl (by decide)) ?_
    refine RW.op rfl rfl (eff_loadW1 rfl rfl ti32 rfl rfl) ?_
    refine RW.op rfl rfl (eff_callT (rheld_ret ([(ledger l what).1, bent (ledger l what).1 p h n][i]'(by show i < 2; omega)) hOi) co20 rfl rfl rfl rfl) ?_
    refine mvT ?_
    refine RW.op rfl rfl (eff_extract rfl rfl rfl rfl) ?_
    refine RW.op rfl rfl (eff_extract rfl rfl rfl rfl) ?_
    refine asT ?_
    refine asT ?_
    refine RW.nil ?_
    refine awp_seq ?_
    refine awp_seq ?_
    refine awp_rw rfl ?_
    refine mvT ?_
    refine mvT ?_
    refine RW.op rfl rfl (eff_iop (r := .bool false) rfl rfl rfl rfl (by simp [iop])) ?_
    refine mvT ?_
    refine RW.gop rfl rfl rfl rfl rfl rfl (eff_move (v := .t _) rfl rfl rfl) ?_
    refine RW.gop rfl rfl rfl rfl rfl rfl (eff_move (v := .t _) rfl rfl rfl) ?_
    refine RW.gop rfl rfl rfl rfl rfl rfl (eff_callT (sameN_ret (held ([(ledger l what).1, bent (ledger l what).1 p h n][i]'(by show i < 2; omega))).1 (by have := held_len (l := ([(ledger l what).1, bent (ledger l what).1 p h n][i]'(by show i < 2; omega))); omega)) co21 rfl rfl rfl rfl) ?_
    refine RW.gop rfl rfl rfl rfl rfl rfl (eff_unop rfl rfl rfl rfl) ?_
    refine pkT ?_
    refine RW.nil ?_
    refine awp_cond rfl (fun h => nomatch h) (fun _ => ?_)
    refine awp_skip ?_
    refine awp_seq ?_
    refine awp_rw rfl ?_
    refine asT ?_
    refine RW.nil ?_
    refine awp_block ?_
    refine awp_loopW (fun m s => ∃ (k : Nat), (k ≤ (([(ledger l what).1, bent (ledger l what).1 p h n][i]'(by show i < 2; omega))).length) ∧ m = (([(ledger l what).1, bent (ledger l what).1 p h n][i]'(by show i < 2; omega))).length - k ∧ s = ⟨111, [(13, .t (.sl ([(ledger l what).1, bent (ledger l what).1 p h n].map encL) true)), (14, .t (encI (i : Nat))), (19, .t (encI (k : Nat))), (112, .t deT)], []⟩) (_) (⟨_, weak_keep (n := 111) (fr' := [(13, .t (.sl ([(ledger l what).1, bent (ledger l what).1 p h n].map encL) true)), (14, .t (encI (i : Nat))), (19, .t (encI (0 : Nat))), (112, .t deT)]) (st' := []) ⟨rfl, rfl, rfl, rfl, rfl, rfl, rfl, rfl, trivial⟩ trivial, 0, (by omega), rfl, rfl⟩) ?_
    rintro m s ⟨k, hk, rfl, rfl⟩
    refine awp_seq ?_
    refine awp_seq ?_
    refine awp_rw rfl ?_
    refine mvT ?_
    refine mvT ?_
    refine mvT ?_
    refine RW.op rfl rfl (eff_indexM (i := i) rfl rfl te37 rfl rfl (by first | rfl | omega) (by exact List.getElem?_eq_getElem (show i < [(ledger l what).1, bent (ledger l what).1 p h n].length by show i < 2; omega)) rfl (by decide)) ?_
    refine RW.op rfl rfl (eff_loadW1 rfl rfl ti32 rfl rfl) ?_
    refine RW.op rfl rfl (eff_lenM rfl rfl te32 rfl) ?_
    refine ioT ?_
    refine RW.nil ?_
    refine awp_cond rfl (fun h2 => ?_) (fun h2 => ?_)
    · try simp only [cl] at h2
      refine awp_skip ?_
      refine awp_seq ?_
      refine awp_block ?_
      refine awp_seq ?_
      refine awp_rw rfl ?_
      have hil : k < (([(ledger l what).1, bent (ledger l what).1 p h n][i]'(by show i < 2; omega))).length := by omega
      refine mvT ?_
      refine mvT ?_
      refine RW.op rfl rfl (eff_indexM (i := i) rfl rfl te37 rfl rfl (by first | rfl | omega) (by exact List.getElem?_eq_getElem (show i < [(ledger l what).1, bent (ledger l what).1 p h n].length by show i < 2; omega)) rfl (by decide)) ?_
      refine RW.op rfl rfl (eff_loadW1 rfl rfl ti32 rfl rfl) ?_
      refine mvT ?_
      refine RW.op rfl rfl (eff_indexM (i := k) rfl rfl te32 rfl rfl (by first | rfl | omega) (by first | assumption | exact List.getElem?_eq_getElem (by omega)) rfl (by decide)) ?_
      refine RW.op rfl rfl (eff_fieldAddrT rfl rfl tf47_4 (by decide) rfl) ?_
      refine RW.op rfl rfl (eff_loadT (ys := [_, _, _, _]) rfl rfl ti28 rfl rfl rfl) ?_
      refine RW.new rfl rfl (eff_allocK (k := 4) (id := 20) rfl rfl tz28 rfl rfl) ?_
      refine RW.store rfl rfl (eff_storeW (v := .t _) (els := [_]) (els' := [_]) rfl rfl ti28 rfl rfl rfl rfl rfl rfl rfl rfl rfl) ?_
      refine RW.nil ?_
      refine awp_seq ?_
      refine awp_rd [(some 85, []), (some 86, []), (some 87, []), (some 88, []), (some 89, []), (some 90, []), (some 84, []), (some 91, []), (some 92, []), (some 21, [21]), (none, [21]), (some 22, [])] [[], [], [0, 1], [0, 1, 2], [], [0, 1, 2, 3, 4], [0, 1, 2, 3, 4, 5], [0, 1, 2, 3, 4, 5, 6], [0, 1, 2, 3, 4, 5, 6], [], [0, 1, 2, 3, 4, 5, 6, 7, 9], [0, 1, 2, 3, 4, 5, 6, 7, 8, 9, 10]] tm rfl rfl rfl rfl ?_
      refine mvD ?_
      refine mvD ?_
      refine RD.op rfl rfl rfl (eff_indexM (i := i) rfl rfl te37 rfl rfl (by first | rfl | omega) (by exact List.getElem?_eq_getElem (show i < [(ledger l what).1, bent (ledger l what).1 p h n].length by show i < 2; omega)) rfl (by decide)) ?_
      refine RD.op rfl rfl rfl (eff_loadW1 rfl rfl ti32 rfl rfl) ?_
      refine RD.op rfl rfl rfl (eff_load rfl rfl ti28 rfl (.whole rfl rfl rfl rfl rfl rfl)) ?_
      refine RD.op rfl rfl rfl (eff_callXT (judge_ret ([(ledger l what).1, bent (ledger l what).1 p h n][i]'(by show i < 2; omega)) ((([(ledger l what).1, bent (ledger l what).1 p h n][i]'(by show i < 2; omega)))[k]'(by omega)).dec hOi) co22 rfl rfl rfl ⟨rfl, trivial⟩ rfl) ?_
      refine mvD ?_
      refine RD.op rfl rfl rfl (eff_extract rfl rfl rfl rfl) ?_
      refine RD.op rfl rfl rfl (eff_extract rfl rfl rfl rfl) ?_
      refine RD.new rfl rfl rfl (eff_allocK (k := 5) (id := 21) rfl rfl tz49 rfl rfl) ?_
      refine RD.store rfl rfl rfl (eff_storeW (v := .t _) (els := [_]) (els' := [_]) rfl rfl ti49 rfl rfl rfl rfl rfl rfl rfl rfl rfl) ?_
      refine RD.op rfl rfl rfl (eff_assign (v := .t _) rfl rfl rfl) ?_
      refine RD.nil ?_
      refine awp_seq ?_
      refine awp_rd [(some 94, []), (some 95, []), (some 96, []), (some 97, []), (some 98, []), (some 99, []), (some 93, []), (some 100, []), (some 101, []), (some 23, [23]), (none, [23]), (some 24, [])] [[], [], [0, 1], [0, 1, 2], [], [0, 1, 2, 3, 4], [0, 1, 2, 3, 4, 5], [0, 1, 2, 3, 4, 5, 6], [0, 1, 2, 3, 4, 5, 6], [], [0, 1, 2, 3, 4, 5, 6, 7, 9], [0, 1, 2, 3, 4, 5, 6, 7, 8, 9, 10]] tm rfl rfl rfl rfl ?_
      refine mvD ?_
      refine mvD ?_
      refine RD.op rfl rfl rfl (eff_indexM (i := i) rfl rfl te37 rfl rfl (by first | rfl | omega) (by exact List.getElem?_eq_getElem (show i < [(ledger l what).1, bent (ledger l what).1 p h n].length by show i < 2; omega)) rfl (by decide)) ?_
      refine RD.op rfl rfl rfl (eff_loadW1 rfl rfl ti32 rfl rfl) ?_
      refine RD.op rfl rfl rfl (eff_load rfl rfl ti28 rfl (.whole rfl rfl rfl rfl rfl rfl)) ?_
      refine RD.op rfl rfl rfl (eff_callT (rjudge_ret ([(ledger l what).1, bent (ledger l what).1 p h n][i]'(by show i < 2; omega)) ((([(ledger l what).1, bent (ledger l what).1 p h n][i]'(by show i < 2; omega)))[k]'(by omega)).dec hOi) co23 rfl rfl rfl rfl) ?_
      refine mvD ?_
      refine RD.op rfl rfl rfl (eff_extract rfl rfl rfl rfl) ?_
      refine RD.op rfl rfl rfl (eff_extract rfl rfl rfl rfl) ?_
      refine RD.new rfl rfl rfl (eff_allocK (k := 5) (id := 23) rfl rfl tz49 rfl rfl) ?_
      refine RD.store rfl rfl rfl (eff_storeW (v := .t _) (els := [_]) (els' := [_]) rfl rfl ti49 rfl rfl rfl rfl rfl rfl rfl rfl rfl) ?_
      refine RD.op rfl rfl rfl (eff_assign (v := .t _) rfl rfl rfl) ?_
      refine RD.nil ?_
      refine awp_seq ?_
      refine awp_rw rfl ?_
      refine mvT ?_
      refine mvT ?_
      refine RW.op rfl rfl (eff_iop (r := .bool false) rfl rfl rfl rfl (by simp [iop])) ?_
      refine mvT ?_
      refine RW.gop rfl rfl rfl rfl rfl rfl (eff_load rfl rfl ti49 rfl (.whole rfl rfl rfl rfl rfl rfl)) ?_
      refine RW.gop rfl rfl rfl rfl rfl rfl (eff_load rfl rfl ti49 rfl (.whole rfl rfl rfl rfl rfl rfl)) ?_
      refine RW.gop rfl rfl rfl rfl rfl rfl (eff_structNeqA (cells := cellsV) (a := (judge ([(ledger l what).1, bent (ledger l what).1 p h n][i]'(by show i < 2; omega)) ((([(ledger l what).1, bent (ledger l what).1 p h n][i]'(by show i < 2; omega)))[k]'(by omega)).dec).1) (b := (judge ([(ledger l what).1, bent (ledger l what).1 p h n][i]'(by show i < 2; omega)) ((([(ledger l what).1, bent (ledger l what).1 p h n][i]'(by show i < 2; omega)))[k]'(by omega)).dec).1) rfl rfl ts49s ti49 th49 cellsV_inj cellsV_kind rfl rfl) ?_
      refine pkT ?_
      refine RW.nil ?_
      refine awp_cond rfl (fun h3 => ?_) (fun h3 => ?_)
      · try simp only [cl] at h3
        refine awp_seq ?_
        refine awp_rw rfl ?_
        refine asT ?_
        refine RW.nil ?_
        refine awp_ret ?_
        exact absurd trivial ‹¬ True›
      · try simp only [cl] at h3
        refine awp_skip ?_
        refine awp_rw rfl ?_
        refine mvT ?_
        refine RW.op rfl rfl (eff_iop rfl rfl rfl rfl (iadd (by omega))) ?_
        refine asT ?_
        refine RW.nil ?_
        refine ⟨_, ?_, _, weak_keep (n := 111) (fr' := [(13, .t (.sl ([(ledger l what).1, bent (ledger l what).1 p h n].map encL) true)), (14, .t (encI (i : Nat))), (19, .t (encI ((k + 1) : Nat))), (112, .t deT)]) (st' := []) ⟨rfl, rfl, rfl, rfl, rfl, rfl, rfl, rfl, trivial⟩ trivial, k + 1, (by omega), rfl, rfl⟩
        omega
    · try simp only [cl] at h2
      refine awp_exit ?_
      refine awp_rw rfl ?_
      refine mvT ?_
      refine RW.op rfl rfl (eff_iop rfl rfl rfl rfl (iadd (by omega))) ?_
      refine asT ?_
      refine RW.nil ?_
      refine ⟨_, ?_, _, weak_keep (n := 111) (fr' := [(13, .t (.sl ([(ledger l what).1, bent (ledger l what).1 p h n].map encL) true)), (14, .t (encI ((i + 1) : Nat))), (112, .t deT)]) (st' := []) ⟨rfl, rfl, rfl, rfl, rfl, rfl, trivial⟩ trivial, i + 1, (by omega), rfl, rfl⟩
      omega
  · try simp only [cl] at h1
    refine awp_exit ?_
    refine awp_seq ?_
    refine awp_rw rfl ?_
    refine RW.op rfl rfl (eff_callXT (lives_ret) co16 rfl rfl rfl ⟨rfl, trivial⟩ rfl) ?_
    refine asT ?_
    refine RW.nil ?_
    refine awp_ret ?_
    exact ⟨Or.inr rfl, [_], ⟨.tmp (.t _), trivial⟩, .refl _⟩

end Go.Tv.C36

end
section
open Go Go.Tv Go.Proofs Go.ChangeShapes Go.WideShapes Go.ChangeAt Go.RowKit
namespace Go.Tv.C36
set_option maxRecDepth 100000

theorem wfI64 {n : Int} (h : (Lit.int .i64 n).wf = true) : I64 n := by
  unfold I64
  simp [Lit.wf, IntKind.min, IntKind.max, IntKind.signed, IntKind.bits] at h; omega
theorem map_of {α : Type} {f : α → Tr} {p : α → Prop} : ∀ {els : List Tr}, (∀ x, x ∈ els → ∃ n, p n ∧ x = f n) → ∃ l : List α, els = l.map f ∧ ∀ n, n ∈ l → p n
  | [], _ => ⟨[], rfl, fun n h => by simp at h⟩
  | x :: els, h => by
    obtain ⟨n, hp, rfl⟩ := h x List.mem_cons_self
    obtain ⟨l, rfl, hl⟩ := map_of (els := els) (fun y hy => h y (List.mem_cons_of_mem _ hy))
    exact ⟨n :: l, rfl, fun m hm => (List.mem_cons.1 hm).elim (fun e => e ▸ hp) (hl m)⟩
theorem rd3 : Reads Tryd.prog 3 1 (fun ts => ∃ n, ts = [encI n] ∧ I64 n) := (reads_int Tryd.underlying3 (by kernel_rfl)).mono (fun ts ⟨n, h, hw⟩ => ⟨n, h, wfI64 hw⟩)
theorem rd26 : Reads Tryd.prog 26 1 (fun ts => ∃ l : List Int, ts = [.sl (l.map encI) false] ∧ l.length ≤ maxLen ∧ ∀ n, n ∈ l → I64 n) :=
  (reads_slice Tryd.underlying26 (by kernel_rfl) (by decide) (.inr rfl) rd3 (g := false)).mono (by
    rintro ts ⟨els, rfl, hm, h⟩
    obtain ⟨l, rfl, hl⟩ := map_of (f := encI) (p := I64) (fun x hx => by obtain ⟨_, ⟨n, rfl, hn⟩, rfl⟩ := h x hx; exact ⟨n, hn, rfl⟩)
    exact ⟨l, rfl, by simpa using hm, hl⟩)
def laid1 : List (String × DataW Unit) := [("math/bits.deBruijn32tab", Go.Proofs.YtiphgohbnhinnaaDoor.Rows.laid_math_bits_deBruijn32tab), ("math/bits.deBruijn64tab", Go.Proofs.YtiphgohbnhinnaaDoor.Rows.laid_math_bits_deBruijn64tab)]
theorem gDe : Tryd.prog.globalNamed "math/bits.deBruijn64tab" = some 1 := by kernel_rfl
theorem tDe : (Tryd.prog.globals[1]?).map (·.type) = some 125 := by kernel_rfl
theorem door_met (os : Os) (args : Array Value) : laidMetH Tryd.prog laid1 ((World.doorLaid Tryd.prog 400 os).forCall (fun _ _ => 0) ⟨#[], args, []⟩).memory :=
  laidMetH_of_parts3 (fuel := 8) (laidMet_of_run' 8 (by kernel_rfl) (by kernel_rfl)) (by kernel_rfl) (by kernel_rfl)
theorem tabs_of_laid {W : World} (h : laidMetH Tryd.prog laid1 W) : TabOK W (fun _ => False) [(1, deT)] := by
  intro g x hm
  simp only [List.mem_singleton, Prod.mk.injEq] at hm
  obtain ⟨rfl, rfl⟩ := hm
  exact tab_of_laid (l := deB) (k := .u8) h rfl (List.mem_cons_of_mem _ (List.mem_singleton.2 rfl)) (by intro e; cases e) gDe tDe Tryd.underlying125 Tryd.underlying5 (by kernel_rfl)
end Go.Tv.C36

end
section
namespace Go.Proofs.YtiphgohbnhinnaaDoor
open Go Go.Tv Go.Tv.C36 Go.ChangeShapes Go.WideShapes Go.ChangeAt Go.RowKit
set_option linter.unusedVariables false
set_option maxRecDepth 100000
theorem courtJudges_contract (H : Type) (enc : TypeId × Value → H) (W : World) (base : Nat) (args : Array Value) (ds gs : List (DataW H)) (before : List MemPlace)
    (hval : ∀ (j : Nat) t v, Tryd.f4.params[j]? = some t → args[j]? = some v → Value.okWide Tryd.prog W .any base t v)
    (hW : DataW.Whole enc Tryd.prog Tryd.f4.params.toList Rows.courtJudgesSpec.vars false W args.toList ds gs before) (hL : laidMetH Tryd.prog laid1 W) :
    Calls Tryd.prog 4 args W fun e W' => ∃ v, e = .returned v ∧ Rows.courtJudgesSpec.post enc Tryd.prog Tryd.f4 false true false false W args v W' := by
  have hW' := hW
  obtain ⟨p, q, hA0, hV, rfl, hfz, hnd⟩ := hW
  have hA : DataW.TrodAll enc Tryd.prog W 0 (fun _ => true) true Tryd.f4.params.toList args.toList ds p := hA0
  rw [Tryd.params4] at hA hval
  obtain ⟨v0, vs0, d0, ds0, p0, q0, hargs, rfl, rfl, h0, r0⟩ := trodAll_cons hA
  obtain ⟨v1, vs1, d1, ds1, p1, q1, rfl, rfl, rfl, h1, r1⟩ := trodAll_cons r0
  obtain ⟨v2, vs2, d2, ds2, p2, q2, rfl, rfl, rfl, h2, r2⟩ := trodAll_cons r1
  obtain ⟨v3, vs3, d3, ds3, p3, q3, rfl, rfl, rfl, h3, r3⟩ := trodAll_cons r2
  obtain ⟨v4, vs4, d4, ds4, p4, q4, rfl, rfl, rfl, h4, r4⟩ := trodAll_cons r3
  obtain ⟨rfl, rfl, rfl⟩ := trodAll_nil r4
  obtain rfl : args = #[v0, v1, v2, v3, v4] := by cases args; simp_all
  obtain ⟨rfl, rfl⟩ := trodVars_none hV
  have k0 := hval 0 26 v0 rfl rfl
  have k1 := hval 1 26 v1 rfl rfl
  have k2 := hval 2 3 v2 rfl rfl
  have k3 := hval 3 3 v3 rfl rfl
  have k4 := hval 4 3 v4 rfl rfl
  obtain ⟨x0, hx0, l, e0, m0, b0⟩ := arg_slice Tryd.underlying26 rd26 k0 h0
  obtain rfl : x0 = .sl (l.map Go.Tv.C36.encI) false := by simpa using e0
  unfold maxLen at m0
  have n0 : l.length ≤ 9223372036854775807 := by simpa using m0
  obtain ⟨x1, hx1, wh, e1, m1, b1⟩ := arg_slice Tryd.underlying26 rd26 k1 h1
  obtain rfl : x1 = .sl (wh.map Go.Tv.C36.encI) false := by simpa using e1
  unfold maxLen at m1
  have n1 : wh.length ≤ 9223372036854775807 := by simpa using m1
  obtain ⟨p, rfl, wp⟩ := arg_int Tryd.underlying3 k2 h2
  have i_p := wfI64 wp
  obtain ⟨hw, rfl, whw⟩ := arg_int Tryd.underlying3 k3 h3
  have i_hw := wfI64 whw
  obtain ⟨nn, rfl, wnn⟩ := arg_int Tryd.underlying3 k4 h4
  have i_nn := wfI64 wnn
  refine (law_callsT (law4 l wh p hw nn b0 n0 b1 n1 i_p i_hw i_nn) (tabs_of_laid hL) (vl_cons hx0 (vl_cons hx1 (vl_cons (.int _ _) (vl_cons (.int _ _) (vl_cons (.int _ _) vl_nil)))))).mono ?_
  rintro e W' ⟨rfl, hb⟩
  refine ⟨_, rfl, law_post (P := Tryd.prog) (by kernel_rfl) rfl (fun t ht => ?_) rfl Tryd.underlying4 hW' ⟨rfl, rfl, rfl⟩ hb⟩
  rw [Tryd.params4] at ht
  simp only [List.mem_cons, List.not_mem_nil, or_false] at ht
  rcases ht with rfl | rfl | rfl | rfl | rfl <;> exact ⟨by kernel_rfl, Nat.le_of_ble_eq_true (by kernel_rfl)⟩

theorem courtJudges_lifted (os : Os) (started : os.Started) (H : Type) (enc : TypeId × Value → H) :
    ReturnsInHanded {} Tryd.checked os 4 .any (fun w args => (Rows.courtJudgesSpec.pre enc Tryd.prog Tryd.f4 [] false w args ∧ laidMetH Tryd.prog laid1 w) ∧ sizedMet enc Tryd.prog Tryd.f4 (OpenSpec.ofChange Rows.courtJudgesSpec) false w args)
      (Rows.courtJudgesSpec.post enc Tryd.prog Tryd.f4 false true false false) := by
  refine returnsInHanded_of_change_and (C := Tryd.checked) (X := fun w _ => laidMetH Tryd.prog laid1 w) (fun _ _ _ hh h => h.of_heap hh) (by kernel_rfl) started (by kernel_rfl) Tryd.func4
    (ChangeSpec.witness_shaped (enc := enc) (C := Tryd.checked) (os := os) (X := fun w _ => laidMetH Tryd.prog laid1 w) false (World.doorLaid Tryd.prog 400 os) #[.slice none 0 0, .slice none 0 0, .int .i64 0, .int .i64 0, .int .i64 0] 8 rfl (World.shaped_of_RefB (by kernel_rfl) (by kernel_rfl)) (by kernel_rfl) (by kernel_rfl) (by kernel_rfl) (door_met os _)) ?_
  intro W base args ds gs before hval hW _ _ hL _
  exact courtJudges_contract H enc W base args ds gs before hval hW hL

theorem courtJudges_row_holds : Rows.CourtJudgesSaid :=
  OpenClaim.holds_of_wide 4 Tryd.f4 rfl rfl rfl rfl rfl rfl rfl ⟨rfl, rfl, rfl, rfl, rfl⟩ rfl rfl rfl rfl rfl (by kernel_rfl) Tryd.func4 (by kernel_rfl)
    (of_decide_eq_true (by kernel_rfl)) (by unfold Func.isWrapper; first | (rw [if_pos (by decide +kernel)]; kernel_rfl) | (rw [if_neg (by decide +kernel)]; exact ⟨rfl, rfl⟩))
    (fun os started H enc _ => courtJudges_lifted os started H enc)

theorem courtJudgesCard_holds : Rows.CourtJudgesCardSaid :=
  Claim7.holds_tied_plain_at .later [] [.data, .data] true _ false
    courtJudges_row_holds (fun _ h => by cases h) (by kernel_rfl) (fun _ h => by cases h) courtJudges_row_tie rfl ⟨rfl, rfl⟩ (by kernel_rfl) rfl
    (fun f fn hf hfn => by
      obtain rfl : f = 4 := Option.some.inj ((show Tryd.prog.funcNamed "perigee/perigeelaw36.CourtJudges" = some 4 by kernel_rfl).symm.trans hf) |>.symm
      obtain rfl : fn = Tryd.f4 := (Option.some.inj (Tryd.func4.symm.trans hfn)).symm
      exact ⟨by kernel_rfl, fun j t ht => by
        rw [Tryd.params4] at ht
        have hm : t ∈ [26, 26, 3, 3, 3] := by simpa using Array.mem_of_getElem? ht
        have hall : ([26, 26, 3, 3, 3].all fun u => !Tryd.prog.wantsStandIn u) = true := by kernel_rfl
        exact (show Tryd.prog.wantsStandIn t = false by simpa using List.all_eq_true.1 hall t hm)⟩)
    (by kernel_rfl)

end Go.Proofs.YtiphgohbnhinnaaDoor

end
