/- Part of the proof that the laws of this seat return true for every input. No condition. -/
import Derived.Test.YtgicknpbpdfadaaT3
import Derived.Test.YtgicknpbpdfadaaT2
section
open Go Go.Tv Go.Proofs
namespace Go.Tv.C27

/-- What accepting can end in. -/
theorem accept_ends {n : Nat} {s : Store} {b : Bundle} (h : VInv n s) (hb : Bytes b.data) (hl : b.data.length ≤ 256) :
    (∃ A, accept s b = (A, true, 0) ∧ VInv (n + 1) A ∧ b.id ∈ A.seen) ∨ accept s b = (zs, false, 9) ∨ accept s b = (zs, false, 42) := by
  rw [accept_eq]
  by_cases h1 : b.id ∈ s.seen
  · rw [if_pos ⟨hl, h1⟩]; exact .inl ⟨s, rfl, h.mono (by omega), h1⟩
  · rw [if_neg (fun hh => h1 hh.2)]
    by_cases he : (create s b).2 = 0
    · obtain ⟨g1, g2, g3⟩ := inv_create h hb he
      refine .inl ⟨(create s b).1, by simp [he], g1, ?_⟩
      rw [g2]; exact ins_mem.2 (.inl rfl)
    · have hc : create s b = (zs, 9) ∨ create s b = (zs, 42) := by
        unfold create at he ⊢
        rw [if_neg (by omega), if_neg h1] at he ⊢
        split
        · exact .inl rfl
        · rename_i h3
          rw [if_neg h3] at he
          split
          · exact .inr rfl
          · rename_i h4; rw [if_neg h4] at he; simp at he
      rcases hc with hc | hc <;> rw [hc]
      · exact .inr (.inl rfl)
      · exact .inr (.inr rfl)

theorem accept_again {s : Store} {b : Bundle} (hl : b.data.length ≤ 256) (h : b.id ∈ s.seen) : accept s b = (s, true, 0) := by
  rw [accept_eq, if_pos ⟨hl, h⟩]

theorem confirm_ends {n : Nat} {s : Store} (h : VInv n s) (k : Int) :
    (k ∉ ids s ∧ confirm s k = (zs, 3)) ∨ ∃ V, confirm s k = (V, 0) ∧ VInv n V ∧ V = ⟨s.quota, s.bundles.filter (fun b => decide (b.id ≠ k)), s.passed.filter (· != k), s.seen⟩ := by
  by_cases he : (confirm s k).2 = 0
  · obtain ⟨g1, g2, _⟩ := inv_confirm h he
    refine .inr ⟨(confirm s k).1, ?_, g1, g2⟩
    rw [← he]
  · have : findIx s.bundles k < 0 := by
      apply Classical.byContradiction
      intro hh
      unfold confirm at he
      rw [if_neg hh] at he
      exact he rfl
    refine .inl ⟨findIx_neg.1 this, ?_⟩
    unfold confirm
    rw [if_pos this]

theorem count_zero {l : List Bundle} {k : Int} (h : k ∉ l.map (·.id)) : countB l k = 0 := by
  unfold countB
  have : (l.filter fun b => b.id == k) = [] := by
    rw [List.filter_eq_nil_iff]
    intro b hb he
    exact h (List.mem_map.2 ⟨b, hb, by simpa using he⟩)
  rw [this]; rfl

theorem count_filtered {l : List Bundle} {k : Int} : countB (l.filter (fun b => decide (b.id ≠ k))) k = 0 := by
  apply count_zero
  intro h
  obtain ⟨b, hb, he⟩ := List.mem_map.1 h
  have := (List.mem_filter.1 hb).2
  simp [he] at this

/-- Passing on what is there and was not passed on. -/
theorem pass_ok {n : Nat} {s : Store} {k : Int} (h : VInv n s) (hk : k ∈ ids s) (hp : k ∉ s.passed) :
    ∃ t, pass s k = (t, 0) ∧ t = ⟨s.quota, s.bundles, ins k s.passed, s.seen⟩ ∧ VInv (n + 1) t := by
  have h1 : ¬ findIx s.bundles k < 0 := fun hh => findIx_neg.1 hh hk
  have he : (pass s k).2 = 0 := by unfold pass; rw [if_neg h1, if_neg hp]
  obtain ⟨g1, g2, _, _⟩ := inv_pass h he
  exact ⟨(pass s k).1, by rw [← he], g2, g1⟩

end Go.Tv.C27

end
section
open Go Go.Tv Go.Proofs
namespace Go.Tv.C27

def keepA (s : Store) (o : Opn) (L : List Int) : List Int := if (doS s o).2.2 = 0 ∧ o.kind ≤ 1 ∧ s.bundles.length < (doS s o).1.bundles.length then L ++ [o.bundle.id] else L
def keepF (o : Opn) (L : List Int) : List Int := L.filter (fun x => decide (o.kind ≠ 3 ∨ x ≠ o.id))

theorem keepF_other {o : Opn} (h : o.kind ≠ 3) (L : List Int) : keepF o L = L := by
  unfold keepF
  exact List.filter_eq_self.2 (fun x _ => decide_eq_true (.inl h))

theorem keep_create {s : Store} {o : Opn} {L : List Int} (h3 : o.kind ≤ 1) (hL : L.Perm (ids s)) (h : (doS s o).1 = s ∨ ((doS s o).2.2 = 0 ∧ (doS s o).1.bundles = s.bundles ++ [o.bundle])) :
    (keepF o (keepA s o L)).Perm (ids (doS s o).1) := by
  rw [keepF_other (by omega)]
  unfold keepA
  rcases h with h | ⟨h, h4⟩
  · rw [if_neg (by rw [h]; omega), h]; exact hL
  · rw [if_pos ⟨h, h3, by rw [h4]; simp⟩]
    unfold ids
    rw [h4, List.map_append]
    exact hL.append_right _

theorem keep_same {s : Store} {o : Opn} {L : List Int} (h3 : o.kind ≠ 3) (hL : L.Perm (ids s)) (h : (doS s o).1.bundles = s.bundles) : (keepF o (keepA s o L)).Perm (ids (doS s o).1) := by
  rw [keepF_other h3]
  unfold keepA
  rw [if_neg (by rw [h]; omega)]
  unfold ids
  rw [h]; exact hL

theorem do_err' {s : Store} {o : Opn} (he : ¬ (rawS s o).2.2 = 0) : (doS s o).1 = s := by unfold doS; rw [if_neg he]
theorem do_ok' {s : Store} {o : Opn} (he : (rawS s o).2.2 = 0) : (doS s o).1 = (rawS s o).1 ∧ (doS s o).2.2 = 0 := by unfold doS; rw [if_pos he]; exact ⟨rfl, he⟩

theorem kept_step {n : Nat} {s : Store} {o : Opn} {L : List Int} (h : VInv n s) (hb : Bytes o.bundle.data) (hL : L.Perm (ids s)) :
    (keepF o (keepA s o L)).Perm (ids (doS s o).1) := by
  by_cases h0 : o.kind = 0
  · refine keep_create (by omega) hL ?_
    by_cases he : (rawS s o).2.2 = 0
    · rw [(do_ok' he).1, (do_ok' he).2]
      rw [raw0 h0] at he ⊢
      exact .inr ⟨rfl, by rw [(inv_create h hb he).2.1]⟩
    · exact .inl (do_err' he)
  · by_cases h1 : o.kind = 1
    · refine keep_create (by omega) hL ?_
      by_cases he : (rawS s o).2.2 = 0
      · rw [(do_ok' he).1, (do_ok' he).2]
        rw [raw1 h1] at he ⊢
        simp only at he ⊢
        rw [accept_eq] at he ⊢
        split
        · exact .inl rfl
        · rename_i h2
          rw [if_neg h2] at he
          exact .inr ⟨by trivial, by rw [(inv_create h hb he).2.1]⟩
      · exact .inl (do_err' he)
    · by_cases h3 : o.kind = 3
      · have hA : keepA s o L = L := by unfold keepA; exact if_neg (by omega)
        rw [hA]
        by_cases he : (rawS s o).2.2 = 0
        · rw [(do_ok' he).1]
          rw [raw3 h3] at he ⊢
          rw [(inv_confirm h he).2.1]
          have e : ids ⟨s.quota, s.bundles.filter (fun b => decide (b.id ≠ o.id)), s.passed.filter (· != o.id), s.seen⟩ = keepF o (ids s) := by
            unfold ids keepF
            rw [List.filter_map]
            congr 1
            refine List.filter_congr (fun b _ => ?_)
            simp [h3]
          rw [e]
          exact hL.filter _
        · rw [do_err' he]
          rw [raw3 h3] at he
          have hn : o.id ∉ ids s := by
            rcases confirm_ends h o.id with ⟨hn, _⟩ | ⟨V, hC, _⟩
            · exact hn
            · rw [hC] at he; exact absurd rfl he
          have e : keepF o L = L := by
            unfold keepF
            refine List.filter_eq_self.2 (fun x hx => decide_eq_true (.inr (fun e => hn ?_)))
            rw [← e]; exact hL.mem_iff.1 hx
          rw [e]; exact hL
      · refine keep_same h3 hL ?_
        by_cases he : (rawS s o).2.2 = 0
        · rw [(do_ok' he).1]
          by_cases h2 : o.kind = 2
          · rw [raw2 h2] at he ⊢
            rw [(inv_pass h he).2.1]
          · by_cases h4 : o.kind = 4
            · rw [raw4 h4]; rfl
            · rw [raw5 h0 h1 h2 h3 h4]
        · rw [do_err' he]

theorem count_one {n : Nat} {s : Store} {k : Int} (h : VInv n s) (hk : k ∈ ids s) : countB s.bundles k = 1 := by
  unfold countB
  have e : ((s.bundles.filter fun b => b.id == k).length : Int) = ((ids s).count k : Nat) := by
    unfold ids List.count
    rw [List.countP_map, List.countP_eq_length_filter]
    rfl
  rw [e, h.nd.count, if_pos hk]
  rfl

theorem keepF_take {o : Opn} {M : List Int} {j : Nat} (h : j < M.length) : keepF o (M.take (j + 1)) = keepF o (M.take j) ++ (if o.kind ≠ 3 ∨ M[j] ≠ o.id then [M[j]] else []) := by
  unfold keepF
  rw [take_succ_get h, List.filter_append, List.filter_cons, List.filter_nil]
  by_cases hc : o.kind ≠ 3 ∨ M[j] ≠ o.id
  · rw [if_pos hc]; rw [if_pos (decide_eq_true hc)]
  · rw [if_neg hc]; rw [if_neg (by rw [decide_eq_false hc]; simp)]
theorem keepF_le {o : Opn} {M : List Int} : (keepF o M).length ≤ M.length := List.length_filter_le _ _

end Go.Tv.C27

end
section
open Go Go.Tv Go.Proofs
namespace Go.Tv.C27

def at' (L : List Store) (j : Nat) : Store := L.getD j zs

/-- Four valid stores; what a store has seen is in it or in a later one. -/
structure LInv (n : Nat) (L : List Store) : Prop where
  len : L.length = 4
  vi : ∀ j, j < 4 → VInv n (at' L j)
  fl : ∀ j c, j < 4 → c ∈ (at' L j).seen → ∃ k, j ≤ k ∧ k < 4 ∧ c ∈ ids (at' L k)

theorem at_set {L : List Store} {i j : Nat} {t : Store} (hL : L.length = 4) (hi : i < 4) : at' (L.set i t) j = if j = i then t else at' L j := by
  unfold at'
  rw [List.getD_eq_getElem?_getD, List.getD_eq_getElem?_getD, List.getElem?_set]
  by_cases e : j = i
  · subst e; rw [if_pos rfl, if_pos rfl, if_pos (by omega)]; rfl
  · rw [if_neg (fun h => e h.symm), if_neg e]

theorem LInv.mono {n m : Nat} {L : List Store} (h : LInv n L) (hm : n ≤ m) : LInv m L := { h with vi := fun j hj => (h.vi j hj).mono hm }

theorem LInv.upd {n m i : Nat} {L : List Store} {t : Store} (h : LInv n L) (hi : i < 4) (ht : VInv m t) (hnm : n ≤ m)
    (hs : ∀ c, c ∈ t.seen → c ∈ ids t ∨ ∃ k, i < k ∧ k < 4 ∧ c ∈ ids (at' L k))
    (hd : ∀ c, c ∈ ids (at' L i) → c ∉ ids t → ∃ k, i < k ∧ k < 4 ∧ c ∈ ids (at' L k)) : LInv m (L.set i t) := by
  have hat := fun j => at_set (L := L) (i := i) (j := j) (t := t) h.len hi
  have later : ∀ j c, j ≤ i → (∃ k, i < k ∧ k < 4 ∧ c ∈ ids (at' L k)) → ∃ k, j ≤ k ∧ k < 4 ∧ c ∈ ids (at' (L.set i t) k) := by
    rintro j c hj ⟨k, h1, h2, h3⟩
    exact ⟨k, by omega, h2, by rw [hat, if_neg (by omega)]; exact h3⟩
  refine ⟨by simp [h.len], fun j hj => ?_, fun j c hj hc => ?_⟩
  · rw [hat]; split
    · exact ht
    · exact (h.vi j hj).mono hnm
  · rw [hat] at hc
    by_cases e : j = i
    · rw [if_pos e] at hc
      rcases hs c hc with h1 | h1
      · exact ⟨i, by omega, hi, by rw [hat, if_pos rfl]; exact h1⟩
      · exact later j c (by omega) h1
    · rw [if_neg e] at hc
      obtain ⟨k, h1, h2, h3⟩ := h.fl j c hj hc
      by_cases ek : k = i
      · subst ek
        by_cases hct : c ∈ ids t
        · exact ⟨k, h1, h2, by rw [hat, if_pos rfl]; exact hct⟩
        · exact later j c h1 (hd c h3 hct)
      · exact ⟨k, h1, h2, by rw [hat, if_neg ek]; exact h3⟩

theorem LInv.seen_at {n i : Nat} {L : List Store} (h : LInv n L) (hi : i < 4) {c : Int} (hc : c ∈ (at' L i).seen) : c ∈ ids (at' L i) ∨ ∃ k, i < k ∧ k < 4 ∧ c ∈ ids (at' L k) := by
  obtain ⟨k, h1, h2, h3⟩ := h.fl i c hi hc
  by_cases e : k = i
  · subst e; exact .inl h3
  · exact .inr ⟨k, by omega, h2, h3⟩

/-- A store changes but in what was passed on. -/
theorem LInv.same {n m i : Nat} {L : List Store} {t : Store} (h : LInv n L) (hi : i < 4) (ht : VInv m t) (hnm : n ≤ m) (hs : t.seen = (at' L i).seen) (hb : t.bundles = (at' L i).bundles) : LInv m (L.set i t) := by
  have he : ids t = ids (at' L i) := by unfold ids; rw [hb]
  refine h.upd hi ht hnm (fun c hc => ?_) (fun c hc hn => ?_)
  · rw [hs] at hc; rw [he]; exact h.seen_at hi hc
  · rw [he] at hn; exact absurd hc hn

theorem LInv.acc {n i : Nat} {L : List Store} {b : Bundle} (h : LInv n L) (hi : i < 4) (hb : Bytes b.data) (he : (accept (at' L i) b).2.2 = 0) :
    LInv (n + 1) (L.set i (accept (at' L i) b).1) ∧ b.id ∈ (accept (at' L i) b).1.seen := by
  rw [accept_eq] at he ⊢
  split
  · rename_i h1
    exact ⟨h.same hi ((h.vi i hi).mono (by omega)) (by omega) rfl rfl, h1.2⟩
  · rename_i h1
    rw [if_neg h1] at he
    obtain ⟨g1, g2, g3⟩ := inv_create (h.vi i hi) hb he
    refine ⟨h.upd hi g1 (by omega) (fun c hc => ?_) (fun c hc hn => ?_), ?_⟩
    · simp only at hc ⊢
      rw [g2] at hc ⊢
      rcases ins_mem.1 hc with rfl | hc
      · exact .inl (by unfold ids; simp)
      · refine (h.seen_at hi hc).imp (fun hh => ?_) (fun hh => hh)
        unfold ids at hh ⊢
        rw [List.map_append]; exact List.mem_append_left _ hh
    · refine absurd ?_ hn
      simp only
      rw [g2]
      unfold ids at hc ⊢
      rw [List.map_append]; exact List.mem_append_left _ hc
    · simp only
      rw [g2]; exact ins_mem.2 (.inl rfl)

theorem LInv.conf {n i : Nat} {L : List Store} {k : Int} (h : LInv n L) (hi : i < 4) (hfw : ∃ j, i < j ∧ j < 4 ∧ k ∈ ids (at' L j)) (he : (confirm (at' L i) k).2 = 0) :
    LInv n (L.set i (confirm (at' L i) k).1) := by
  obtain ⟨g1, g2, g3⟩ := inv_confirm (h.vi i hi) he
  have hin : ∀ c, c ∈ ids (at' L i) → c ≠ k → c ∈ ids (confirm (at' L i) k).1 := by
    intro c hc hne
    rw [g2]
    obtain ⟨b, hb, rfl⟩ := List.mem_map.1 hc
    exact List.mem_map.2 ⟨b, List.mem_filter.2 ⟨hb, by simpa using hne⟩, rfl⟩
  refine h.upd hi g1 (Nat.le_refl _) (fun c hc => ?_) (fun c hc hn => ?_)
  · rw [g2] at hc
    rcases h.seen_at hi hc with hh | hh
    · by_cases e : c = k
      · rw [e]; exact .inr hfw
      · exact .inl (hin c hh e)
    · exact .inr hh
  · by_cases e : c = k
    · rw [e]; exact hfw
    · exact absurd (hin c hc e) hn

/-- Offers that arrive, k times. -/
def accN (I : Nat) (b : Bundle) : Nat → List Store → List Store × Bool
  | 0, L => (L, false)
  | k + 1, L => (if (accept (at' (accN I b k L).1 (I + 1)) b).2.2 = 0 then (accN I b k L).1.set (I + 1) (accept (at' (accN I b k L).1 (I + 1)) b).1 else (accN I b k L).1,
      (accN I b k L).2 || (accept (at' (accN I b k L).1 (I + 1)) b).2.1)

/-- Confirmations that arrive, k times. -/
def cfN (I : Nat) (c : Int) : Nat → List Store → List Store
  | 0, L => L
  | k + 1, L => if (confirm (at' (cfN I c k L) I) c).2 = 0 then (cfN I c k L).set I (confirm (at' (cfN I c k L) I) c).1 else cfN I c k L

theorem accept_true {s : Store} {b : Bundle} (h : (accept s b).2.1 = true) : (accept s b).2.2 = 0 := by
  rw [accept_eq] at h ⊢
  split
  · rfl
  · rename_i h1
    rw [if_neg h1] at h
    simpa using h

theorem accN_inv {I : Nat} {b : Bundle} (hI : I < 3) (hb : Bytes b.data) {n : Nat} {L : List Store} (h : LInv n L) : ∀ k,
    LInv (n + k) (accN I b k L).1 ∧ ((accN I b k L).2 = true → b.id ∈ (at' (accN I b k L).1 (I + 1)).seen) ∧ at' (accN I b k L).1 I = at' L I
  | 0 => ⟨h, (fun h => nomatch h), rfl⟩
  | k + 1 => by
    obtain ⟨h1, h2, h3⟩ := accN_inv hI hb h k
    unfold accN
    by_cases he : (accept (at' (accN I b k L).1 (I + 1)) b).2.2 = 0
    · rw [if_pos he]
      obtain ⟨g1, g2⟩ := h1.acc (i := I + 1) (by omega) hb he
      refine ⟨g1, fun _ => ?_, ?_⟩
      · show b.id ∈ (at' ((accN I b k L).1.set (I + 1) _) (I + 1)).seen
        rw [at_set h1.len (by omega), if_pos rfl]; exact g2
      · show at' ((accN I b k L).1.set (I + 1) _) I = _
        rw [at_set h1.len (by omega), if_neg (by omega)]; exact h3
    · rw [if_neg he]
      refine ⟨h1.mono (by omega), fun hh => ?_, h3⟩
      simp only [Bool.or_eq_true] at hh
      exact hh.elim h2 (fun hh => absurd (accept_true hh) he)

theorem cfN_inv {I : Nat} {c : Int} (hI : I < 3) {n : Nat} {L : List Store} (h : LInv n L) (hfw : ∃ j, I < j ∧ j < 4 ∧ c ∈ ids (at' L j)) : ∀ k,
    LInv n (cfN I c k L) ∧ (∃ j, I < j ∧ j < 4 ∧ c ∈ ids (at' (cfN I c k L) j))
  | 0 => ⟨h, hfw⟩
  | k + 1 => by
    obtain ⟨h1, j, g1, g2, g3⟩ := cfN_inv hI h hfw k
    unfold cfN
    split
    · rename_i he
      exact ⟨h1.conf (by omega) ⟨j, g1, g2, g3⟩ he, j, g1, g2, by rw [at_set h1.len (by omega), if_neg (by omega)]; exact g3⟩
    · exact ⟨h1, j, g1, g2, g3⟩

/-- A fate of a line. -/
structure Fate where
  node : Int
  offers : Int
  confirms : Int
  retr : Bool

/-- The line behind the first steps of an event: retried, or not. -/
def evR (L : List Store) (I : Nat) (r : Bool) : List Store := if r then L.set I (retry (at' L I)) else L
/-- .. behind the rest, the bundle b being on offer. -/
def evB (L : List Store) (I : Nat) (b : Bundle) (n m : Nat) : List Store :=
  if (accN I b n (L.set I (pass (at' L I) b.id).1)).2 then cfN I b.id m (accN I b n (L.set I (pass (at' L I) b.id).1)).1 else (accN I b n (L.set I (pass (at' L I) b.id).1)).1
def evt (L : List Store) (I : Nat) (r : Bool) (n m : Nat) : List Store :=
  if (offer (at' (evR L I r) I) 1000).2 then evB (evR L I r) I (offer (at' (evR L I r) I) 1000).1 n m else evR L I r

theorem evR_inv {n I : Nat} {L : List Store} (h : LInv n L) (hI : I < 3) (r : Bool) : LInv n (evR L I r) := by
  unfold evR
  split
  · exact h.same (by omega) (inv_retry (h.vi I (by omega))) (Nat.le_refl _) rfl rfl
  · exact h

theorem offer_in {s : Store} {r : Int} (h : (offer s r).2 = true) : (offer s r).1 ∈ s.bundles ∧ (offer s r).1.id ∉ s.passed := by
  unfold offer at h ⊢
  cases hf : s.bundles.find? (fits s r) with
  | none => rw [hf] at h; cases h
  | some b =>
    have := List.find?_some hf
    unfold fits at this
    simp only [decide_eq_true_eq] at this
    exact ⟨List.mem_of_find?_eq_some hf, this.1⟩

theorem evB_inv {n I : Nat} {L : List Store} {b : Bundle} (h : LInv n L) (hI : I < 3) (hb : b ∈ (at' L I).bundles) (hp : b.id ∉ (at' L I).passed) (k m : Nat) : LInv (n + 1 + k) (evB L I b k m) := by
  have hV := h.vi I (by omega)
  have hid : b.id ∈ ids (at' L I) := List.mem_map.2 ⟨b, hb, rfl⟩
  obtain ⟨t, ht, hte, hVt⟩ := pass_ok hV hid hp
  have h1 : LInv (n + 1) (L.set I (pass (at' L I) b.id).1) := by
    rw [ht]; exact h.same (by omega) hVt (by omega) (by rw [hte]) (by rw [hte])
  obtain ⟨g1, g2, g3⟩ := accN_inv hI (hV.bs b hb).2.1 h1 k
  unfold evB
  split
  · rename_i hacc
    obtain ⟨j, j1, j2, j3⟩ := g1.fl (I + 1) b.id (by omega) (g2 hacc)
    exact (cfN_inv hI g1 ⟨j, by omega, j2, j3⟩ m).1
  · exact g1

theorem evt_inv {n I : Nat} {L : List Store} (h : LInv n L) (hI : I < 3) (r : Bool) (k m : Nat) : LInv (n + 1 + k) (evt L I r k m) := by
  unfold evt
  have h1 := evR_inv h hI r
  split
  · rename_i ho
    obtain ⟨g1, g2⟩ := offer_in ho
    exact evB_inv h1 hI g1 g2 k m
  · exact h1.mono (by omega)

end Go.Tv.C27

end
section
open Go Go.Tv Go.Proofs
namespace Go.Tv.C27
set_option maxRecDepth 20000
set_option maxHeartbeats 2000000
set_option linter.unusedSimpArgs false
set_option linter.unusedVariables false
abbrev encL (L : List Store) : List AV := (L.map encS).map .t
abbrev encF (nd f1 f2 : Int) (r : Bool) : Tr := .agg [.int .u8 nd, .int .u8 f1, .int .u8 f2, .bool r]
theorem tu58 : Try.prog.underlying 58 = some (.array 4 29) := by kernel_rfl
theorem ael {L : List Store} {i : Nat} (hL : L.length = 4) (hi : i < 4) : (encL L)[i]? = some (.t (encS (at' L i))) := by
  unfold encL at'
  rw [List.getElem?_map, List.getElem?_map, List.getD_eq_getElem?_getD, List.getElem?_eq_getElem (by omega)]; rfl
theorem aset {L : List Store} {i : Nat} {t : Store} : (encL L).set i (.t (encS t)) = encL (L.set i t) := by
  unfold encL; rw [List.map_set, List.map_set]
theorem alen {L : List Store} {i : Nat} (hL : L.length = 4) (hi : i < 4) : i < (encL L).length := by unfold encL; simp; omega

theorem eventN0 (gg n : Nat) (hn : n ≤ 1000) (L : List Store) (hL : LInv n L) (nd f1 f2 : Int) (hnd : 0 ≤ nd ∧ nd < 256) (hf1 : 0 ≤ f1 ∧ f1 < 256) (hf2 : 0 ≤ f2 ∧ f2 < 256) (I K C : Nat) (hI : nd % 3 = (I : Int)) (hI3 : I < 3) (hK : f1 % 3 = (K : Int)) (hC : f2 % 3 = (C : Int)) (hLL : LInv n L) (bx : Bundle) (ho : offer (at' L I) 1000 = (bx, false)) : RetK Try.prog 30 [(0, some ⟨4, 58, gg, encL L⟩)] [.ptr 0 gg 0 0, .t (encF nd f1 f2 false)] [(0, some ⟨4, 58, gg, encL L⟩)] (.t (.bool true)) [(0, .ptr 0 gg 0 0)] := by
  refine retK_of_awj (kp := fun i => Nat.beq i 0) Try.func30 rfl (Nat.le_of_ble_eq_true rfl) (by simp) ?_
  intro F0 w0
  refine awj_seq ?_
  refine awj_rj rfl ?_
  refine RJ.new rfl rfl (eff_boxK (v := .t _) (k := 4) (id := 3) rfl rfl rfl rfl rfl rfl) ?_
  refine RJ.op rfl rfl (eff_assign (v := .t _) rfl rfl rfl) ?_
  refine RJ.nil ?_
  refine awj_seq ?_
  refine awj_rj rfl ?_
  refine RJ.op rfl rfl (eff_fieldAddr rfl rfl tf64_0 (by decide) rfl rfl rfl (Nat.le_of_ble_eq_true rfl)) ?_
  refine RJ.op rfl rfl (eff_load (y := .t _) rfl rfl ti5 rfl (.one rfl rfl rfl rfl)) ?_
  refine RJ.op rfl rfl (eff_convIntE (m := nd) rfl rfl (by rw [tu5]; rfl) tu3 rfl (wrap64 (by omega) (by omega))) ?_
  refine RJ.op rfl rfl (eff_remE (r := (I : Int)) rfl rfl rfl rfl (by decide) (by rw [← hI]; exact tmod_pos hnd.1)) ?_
  refine RJ.op rfl rfl (eff_assign (v := .t _) rfl rfl rfl) ?_
  refine RJ.nil ?_
  refine awj_seq ?_
  refine awj_seq ?_
  refine awj_rj rfl ?_
  refine RJ.op rfl rfl (eff_fieldAddr rfl rfl tf64_3 (by decide) rfl rfl rfl (Nat.le_of_ble_eq_true rfl)) ?_
  refine RJ.op rfl rfl (eff_load (y := .t _) rfl rfl ti4 rfl (.one rfl rfl rfl rfl)) ?_
  refine RJ.nil ?_
  refine awj_cond rfl (fun h => nomatch h) (fun _ => ?_)
  refine awj_skip ?_
  refine awj_seq ?_
  refine awj_rj rfl ?_
  refine RJ.op rfl rfl (eff_move (v := .ptr _ _ _ _) rfl rfl rfl) ?_
  refine RJ.op rfl rfl (eff_move (v := .t _) rfl rfl rfl) ?_
  refine RJ.op rfl rfl (eff_nilCheck (v := .ptr _ _ _ _) rfl rfl rfl rfl (fun _ _ _ _ e => by cases e; exact ⟨_, rfl, rfl⟩)) ?_
  refine RJ.op rfl rfl (eff_indexAddrP (i := I) rfl rfl tu58 ti29 rfl rfl (by first | rfl | omega) (by omega) rfl rfl rfl (alen hLL.len (by omega))) ?_
  refine RJ.op rfl rfl (eff_load (y := .t (encS (at' L (I)))) rfl rfl ti29 rfl (.whole rfl rfl (ael hLL.len (by omega)) rfl rfl rfl)) ?_
  refine RJ.op rfl rfl (eff_callT ((by have h := offer18_ret (at' L I) 1000 ((hLL.vi (I) (by omega)).sok (by omega)) (hLL.vi I (by omega)).ps; rw [ho] at h; exact h)) co18 rfl rfl rfl rfl) ?_
  refine RJ.op rfl rfl (eff_move (v := .t _) rfl rfl rfl) ?_
  refine RJ.op rfl rfl (eff_extract rfl rfl rfl rfl) ?_
  refine RJ.op rfl rfl (eff_extract rfl rfl rfl rfl) ?_
  refine RJ.new rfl rfl (eff_allocK (k := 8) (id := 6) rfl rfl tz38 rfl rfl) ?_
  refine RJ.store rfl rfl (eff_storeW (v := .t _) (els := [_]) (els' := [_]) rfl rfl ti38 rfl rfl rfl rfl rfl rfl rfl rfl rfl) ?_
  refine RJ.op rfl rfl (eff_assign (v := .t _) rfl rfl rfl) ?_
  refine RJ.nil ?_
  refine awj_seq ?_
  refine awj_seq ?_
  refine awj_rj rfl ?_
  refine RJ.op rfl rfl (eff_move (v := .t _) rfl rfl rfl) ?_
  refine RJ.op rfl rfl (eff_unop rfl rfl rfl rfl) ?_
  refine RJ.nil ?_
  refine awj_cond rfl (fun _ => ?_) (fun h => nomatch h)
  refine awj_seq ?_
  refine awj_rj rfl ?_
  refine RJ.op rfl rfl (eff_assign (v := .t _) rfl rfl rfl) ?_
  refine RJ.nil ?_
  refine awj_ret ?_
  exact ⟨Or.inr rfl, [_], [.t (.bool true)], ⟨.tmp rfl, trivial⟩, rfl, weak_keep ⟨rfl, rfl, rfl, rfl, trivial⟩ ⟨rfl, okE_t, trivial⟩, rfl⟩

theorem eventN1 (gg n : Nat) (hn : n ≤ 1000) (L : List Store) (hL : LInv n L) (nd f1 f2 : Int) (hnd : 0 ≤ nd ∧ nd < 256) (hf1 : 0 ≤ f1 ∧ f1 < 256) (hf2 : 0 ≤ f2 ∧ f2 < 256) (I K C : Nat) (hI : nd % 3 = (I : Int)) (hI3 : I < 3) (hK : f1 % 3 = (K : Int)) (hC : f2 % 3 = (C : Int)) (hLL : LInv n L) (b : Bundle) (hbb : Bytes b.data) (hbl : b.data.length ≤ 256) (ho : offer (at' L I) 1000 = (b, true)) (s2 : Store) (hp : pass (at' L I) b.id = (s2, 0)) (hL2 : LInv (n + 1) (L.set I s2)) (hA : (accN I b K (L.set I s2)).2 = false) : RetK Try.prog 30 [(0, some ⟨4, 58, gg, encL L⟩)] [.ptr 0 gg 0 0, .t (encF nd f1 f2 false)] [(0, some ⟨4, 58, gg, encL (accN I b K (L.set I s2)).1⟩)] (.t (.bool true)) [(0, .ptr 0 gg 0 0)] := by
  refine retK_of_awj (kp := fun i => Nat.beq i 0) Try.func30 rfl (Nat.le_of_ble_eq_true rfl) (by simp) ?_
  intro F0 w0
  refine awj_seq ?_
  refine awj_rj rfl ?_
  refine RJ.new rfl rfl (eff_boxK (v := .t _) (k := 4) (id := 3) rfl rfl rfl rfl rfl rfl) ?_
  refine RJ.op rfl rfl (eff_assign (v := .t _) rfl rfl rfl) ?_
  refine RJ.nil ?_
  refine awj_seq ?_
  refine awj_rj rfl ?_
  refine RJ.op rfl rfl (eff_fieldAddr rfl rfl tf64_0 (by decide) rfl rfl rfl (Nat.le_of_ble_eq_true rfl)) ?_
  refine RJ.op rfl rfl (eff_load (y := .t _) rfl rfl ti5 rfl (.one rfl rfl rfl rfl)) ?_
  refine RJ.op rfl rfl (eff_convIntE (m := nd) rfl rfl (by rw [tu5]; rfl) tu3 rfl (wrap64 (by omega) (by omega))) ?_
  refine RJ.op rfl rfl (eff_remE (r := (I : Int)) rfl rfl rfl rfl (by decide) (by rw [← hI]; exact tmod_pos hnd.1)) ?_
  refine RJ.op rfl rfl (eff_assign (v := .t _) rfl rfl rfl) ?_
  refine RJ.nil ?_
  refine awj_seq ?_
  refine awj_seq ?_
  refine awj_rj rfl ?_
  refine RJ.op rfl rfl (eff_fieldAddr rfl rfl tf64_3 (by decide) rfl rfl rfl (Nat.le_of_ble_eq_true rfl)) ?_
  refine RJ.op rfl rfl (eff_load (y := .t _) rfl rfl ti4 rfl (.one rfl rfl rfl rfl)) ?_
  refine RJ.nil ?_
  refine awj_cond rfl (fun h => nomatch h) (fun _ => ?_)
  refine awj_skip ?_
  refine awj_seq ?_
  refine awj_rj rfl ?_
  refine RJ.op rfl rfl (eff_move (v := .ptr _ _ _ _) rfl rfl rfl) ?_
  refine RJ.op rfl rfl (eff_move (v := .t _) rfl rfl rfl) ?_
  refine RJ.op rfl rfl (eff_nilCheck (v := .ptr _ _ _ _) rfl rfl rfl rfl (fun _ _ _ _ e => by cases e; exact ⟨_, rfl, rfl⟩)) ?_
  refine RJ.op rfl rfl (eff_indexAddrP (i := I) rfl rfl tu58 ti29 rfl rfl (by first | rfl | omega) (by omega) rfl rfl rfl (alen hLL.len (by omega))) ?_
  refine RJ.op rfl rfl (eff_load (y := .t (encS (at' L (I)))) rfl rfl ti29 rfl (.whole rfl rfl (ael hLL.len (by omega)) rfl rfl rfl)) ?_
  refine RJ.op rfl rfl (eff_callT ((by have h := offer18_ret (at' L I) 1000 ((hLL.vi (I) (by omega)).sok (by omega)) (hLL.vi I (by omega)).ps; rw [ho] at h; exact h)) co18 rfl rfl rfl rfl) ?_
  refine RJ.op rfl rfl (eff_move (v := .t _) rfl rfl rfl) ?_
  refine RJ.op rfl rfl (eff_extract rfl rfl rfl rfl) ?_
  refine RJ.op rfl rfl (eff_extract rfl rfl rfl rfl) ?_
  refine RJ.new rfl rfl (eff_allocK (k := 8) (id := 6) rfl rfl tz38 rfl rfl) ?_
  refine RJ.store rfl rfl (eff_storeW (v := .t _) (els := [_]) (els' := [_]) rfl rfl ti38 rfl rfl rfl rfl rfl rfl rfl rfl rfl) ?_
  refine RJ.op rfl rfl (eff_assign (v := .t _) rfl rfl rfl) ?_
  refine RJ.nil ?_
  refine awj_seq ?_
  refine awj_seq ?_
  refine awj_rj rfl ?_
  refine RJ.op rfl rfl (eff_move (v := .t _) rfl rfl rfl) ?_
  refine RJ.op rfl rfl (eff_unop rfl rfl rfl rfl) ?_
  refine RJ.nil ?_
  refine awj_cond rfl (fun h => nomatch h) (fun _ => ?_)
  refine awj_skip ?_
  refine awj_seq ?_
  refine awj_rd [(some 46, []), (some 47, []), (some 48, []), (some 49, []), (some 50, []), (some 51, []), (some 52, []), (some 53, []), (some 45, []), (some 54, []), (some 55, []), (some 8, [8]), (none, [8]), (some 9, [])] [[], [], [0], [0, 1, 2], [0, 1, 2, 3], [], [5], [0, 1, 2, 3, 4, 5, 6], [0, 1, 2, 3, 4, 5, 6, 7], [0, 1, 2, 3, 4, 5, 6, 7, 8], [0, 1, 2, 3, 4, 5, 6, 7, 8], [], [0, 1, 2, 3, 4, 5, 6, 7, 8, 9, 11], [0, 1, 2, 3, 4, 5, 6, 7, 8, 9, 10, 11, 12]] tm rfl rfl rfl rfl ?_
  refine RD.op rfl rfl rfl (eff_move (v := .ptr _ _ _ _) rfl rfl rfl) ?_
  refine RD.op rfl rfl rfl (eff_move (v := .t _) rfl rfl rfl) ?_
  refine RD.op rfl rfl rfl (eff_nilCheck (v := .ptr _ _ _ _) rfl rfl rfl rfl (fun _ _ _ _ e => by cases e; exact ⟨_, rfl, rfl⟩)) ?_
  refine RD.op rfl rfl rfl (eff_indexAddrP (i := I) rfl rfl tu58 ti29 rfl rfl (by first | rfl | omega) (by omega) rfl rfl rfl (alen hLL.len (by omega))) ?_
  refine RD.op rfl rfl rfl (eff_load (y := .t (encS (at' L (I)))) rfl rfl ti29 rfl (.whole rfl rfl (ael hLL.len (by omega)) rfl rfl rfl)) ?_
  refine RD.op rfl rfl rfl (eff_fieldAddr rfl rfl tf38_0 (by decide) rfl rfl rfl (Nat.le_of_ble_eq_true rfl)) ?_
  refine RD.op rfl rfl rfl (eff_load (y := .t _) rfl rfl ti3 rfl (.one rfl rfl rfl rfl)) ?_
  refine RD.op rfl rfl rfl (eff_callT ((by have h := pass26_ret insC (at' L I) b.id ((hLL.vi (I) (by omega)).sok (by omega)) (hLL.vi I (by omega)).ps; rw [hp] at h; exact h)) co26 rfl rfl rfl rfl) ?_
  refine RD.op rfl rfl rfl (eff_move (v := .t _) rfl rfl rfl) ?_
  refine RD.op rfl rfl rfl (eff_extract rfl rfl rfl rfl) ?_
  refine RD.op rfl rfl rfl (eff_extract rfl rfl rfl rfl) ?_
  refine RD.new rfl rfl rfl (eff_allocK (k := 4) (id := 8) rfl rfl tz29 rfl rfl) ?_
  refine RD.store rfl rfl rfl (eff_storeW (v := .t _) (els := [_]) (els' := [_]) rfl rfl ti29 rfl rfl rfl rfl rfl rfl rfl rfl rfl) ?_
  refine RD.op rfl rfl rfl (eff_assign (v := .t _) rfl rfl rfl) ?_
  refine RD.nil ?_
  refine awj_seq ?_
  refine awj_seq ?_
  refine awj_rj rfl ?_
  refine RJ.op rfl rfl (eff_move (v := .t _) rfl rfl rfl) ?_
  refine RJ.op rfl rfl (eff_iop (r := .bool false) rfl rfl rfl rfl (by exact iop_neq_f (by rfl))) ?_
  refine RJ.nil ?_
  refine awj_cond rfl (fun h => nomatch h) (fun _ => ?_)
  refine awj_skip ?_
  refine awj_seq ?_
  refine awj_rd [(some 58, []), (some 59, []), (some 60, []), (some 61, []), (some 62, []), (none, [0])] [[], [], [], [0], [0, 1, 2, 3], [0, 1, 2, 3, 4]] tm rfl rfl rfl rfl ?_
  refine RD.op rfl rfl rfl (eff_move (v := .ptr _ _ _ _) rfl rfl rfl) ?_
  refine RD.op rfl rfl rfl (eff_move (v := .t _) rfl rfl rfl) ?_
  refine RD.op rfl rfl rfl (eff_load rfl rfl ti29 rfl (.whole rfl rfl rfl rfl rfl rfl)) ?_
  refine RD.op rfl rfl rfl (eff_nilCheck (v := .ptr _ _ _ _) rfl rfl rfl rfl (fun _ _ _ _ e => by cases e; exact ⟨_, rfl, rfl⟩)) ?_
  refine RD.op rfl rfl rfl (eff_indexAddrP (i := I) rfl rfl tu58 ti29 rfl rfl (by first | rfl | omega) (by omega) rfl rfl rfl (alen hLL.len (by omega))) ?_
  refine RD.store rfl rfl rfl (eff_storeW (v := .t (encS s2)) (els := encL L) (els' := encL (L.set I s2)) (el := .t (encS (at' L (I)))) rfl rfl ti29 rfl rfl rfl rfl rfl rfl (ael hLL.len (by omega)) rfl aset) ?_
  refine RD.nil ?_
  refine awj_seq ?_
  refine awj_rj rfl ?_
  refine RJ.op rfl rfl (eff_assign (v := .t _) rfl rfl rfl) ?_
  refine RJ.nil ?_
  refine awj_seq ?_
  refine awj_seq ?_
  refine awj_rj rfl ?_
  refine RJ.op rfl rfl (eff_assign (v := .t _) rfl rfl rfl) ?_
  refine RJ.nil ?_
  refine awj_block ?_
  refine awj_loopW (fun m s g => ∃ (k : Nat) (M : List Store) (ac : Bool), (k ≤ K) ∧ (M = (accN I b k (L.set I s2)).1) ∧ (ac = (accN I b k (L.set I s2)).2) ∧ m = K - k ∧ s = ⟨134, [(0, .ptr 0 gg 0 0), (3, .ptr 3 0 0 0), (5, .t (encI (I : Nat))), (6, .ptr 6 0 0 0), (10, .t (.bool ac)), (11, .t (encI (k : Nat)))], [(0, some ⟨4, 58, gg, encL M⟩), (3, some ⟨4, 64, 0, [.t (encF nd f1 f2 false)]⟩), (6, some ⟨8, 38, 0, [.t (encB b)]⟩)]⟩) (_) (⟨_, weak_keep (n := 134) (fr' := [(0, .ptr 0 gg 0 0), (3, .ptr 3 0 0 0), (5, .t (encI (I : Nat))), (6, .ptr 6 0 0 0), (10, .t (.bool _)), (11, .t (encI (0 : Nat)))]) (st' := [(0, some ⟨4, 58, gg, encL _⟩), (3, some ⟨4, 64, 0, [.t (encF nd f1 f2 false)]⟩), (6, some ⟨8, 38, 0, [.t (encB b)]⟩)]) ⟨rfl, rfl, rfl, rfl, rfl, rfl, rfl, rfl, rfl, rfl, rfl, rfl, trivial⟩ ⟨rfl, okE_t, rfl, okE_one rfl, rfl, okE_one rfl, trivial⟩, 0, _, _, (by omega), (by rfl), (by rfl), rfl, rfl⟩) ?_
  rintro m s g ⟨k, M, ac, hk, hM, hac, rfl, rfl⟩
  have hMI : LInv (n + 1 + k) M := by rw [hM]; exact (accN_inv hI3 hbb hL2 k).1
  refine awj_seq ?_
  refine awj_seq ?_
  refine awj_rj rfl ?_
  refine RJ.op rfl rfl (eff_move (v := .t _) rfl rfl rfl) ?_
  refine RJ.op rfl rfl (eff_fieldAddr rfl rfl tf64_1 (by decide) rfl rfl rfl (Nat.le_of_ble_eq_true rfl)) ?_
  refine RJ.op rfl rfl (eff_load (y := .t _) rfl rfl ti5 rfl (.one rfl rfl rfl rfl)) ?_
  refine RJ.op rfl rfl (eff_remE (r := (K : Int)) rfl rfl rfl rfl (by decide) (by rw [← hK]; exact tmod_pos hf1.1)) ?_
  refine RJ.op rfl rfl (eff_convIntE (m := (K : Int)) rfl rfl (by rw [tu5]; rfl) tu3 rfl (wrap64 (by omega) (by omega))) ?_
  refine RJ.op rfl rfl (eff_iop rfl rfl rfl rfl rfl) ?_
  refine RJ.nil ?_
  refine awj_cond rfl (fun h1 => ?_) (fun h1 => ?_)
  · try simp only [decide_eq_true_eq, decide_eq_false_iff_not, beq_iff_eq, bne_iff_ne, bne_eq_false_iff_eq, beq_eq_false_iff_ne, Bool.not_eq_true, Bool.not_eq_false, Bool.not_eq_true', Bool.not_eq_false', ne_eq] at h1
    refine awj_skip ?_
    refine awj_seq ?_
    refine awj_block ?_
    refine awj_seq ?_
    refine awj_rd [(some 72, []), (some 73, []), (some 74, []), (some 75, []), (some 76, []), (some 77, []), (some 78, []), (some 79, []), (some 71, []), (some 80, []), (some 81, []), (some 82, []), (some 12, [12]), (none, [12]), (some 13, []), (some 14, [])] [[], [], [1], [0], [0, 1, 2, 3], [0, 1, 2, 3, 4], [], [0, 1, 2, 3, 4, 5, 6], [0, 1, 2, 3, 4, 5, 6, 7], [0, 1, 2, 3, 4, 5, 6, 7, 8], [0, 1, 2, 3, 4, 5, 6, 7, 8], [0, 1, 2, 3, 4, 5, 6, 7, 8], [], [0, 1, 2, 3, 4, 5, 6, 7, 8, 9, 12], [0, 1, 2, 3, 4, 5, 6, 7, 8, 9, 10, 12, 13], [0, 1, 2, 3, 4, 5, 6, 7, 8, 9, 10, 11, 12, 13, 14]] tm rfl rfl rfl rfl ?_
    refine RD.op rfl rfl rfl (eff_move (v := .ptr _ _ _ _) rfl rfl rfl) ?_
    refine RD.op rfl rfl rfl (eff_move (v := .t _) rfl rfl rfl) ?_
    refine RD.op rfl rfl rfl (eff_iop rfl rfl rfl rfl (iadd (by omega))) ?_
    refine RD.op rfl rfl rfl (eff_nilCheck (v := .ptr _ _ _ _) rfl rfl rfl rfl (fun _ _ _ _ e => by cases e; exact ⟨_, rfl, rfl⟩)) ?_
    refine RD.op rfl rfl rfl (eff_indexAddrP (i := I + 1) rfl rfl tu58 ti29 rfl rfl (by first | rfl | omega) (by omega) rfl rfl rfl (alen hMI.len (by omega))) ?_
    refine RD.op rfl rfl rfl (eff_load (y := .t (encS (at' M (I + 1)))) rfl rfl ti29 rfl (.whole rfl rfl (ael hMI.len (by omega)) rfl rfl rfl)) ?_
    refine RD.op rfl rfl rfl (eff_load rfl rfl ti38 rfl (.whole rfl rfl rfl rfl rfl rfl)) ?_
    refine RD.op rfl rfl rfl (eff_callT (accept23_ret insC (at' M (I + 1)) b ((hMI.vi (I + 1) (by omega)).sok (by omega)) (by unfold BOK; omega) (hMI.vi (I + 1) (by omega)).ss) co23 rfl rfl rfl rfl) ?_
    refine RD.op rfl rfl rfl (eff_move (v := .t _) rfl rfl rfl) ?_
    refine RD.op rfl rfl rfl (eff_extract rfl rfl rfl rfl) ?_
    refine RD.op rfl rfl rfl (eff_extract rfl rfl rfl rfl) ?_
    refine RD.op rfl rfl rfl (eff_extract rfl rfl rfl rfl) ?_
    refine RD.new rfl rfl rfl (eff_allocK (k := 4) (id := 12) rfl rfl tz29 rfl rfl) ?_
    refine RD.store rfl rfl rfl (eff_storeW (v := .t _) (els := [_]) (els' := [_]) rfl rfl ti29 rfl rfl rfl rfl rfl rfl rfl rfl rfl) ?_
    refine RD.op rfl rfl rfl (eff_assign (v := .t _) rfl rfl rfl) ?_
    refine RD.op rfl rfl rfl (eff_assign (v := .t _) rfl rfl rfl) ?_
    refine RD.nil ?_
    refine awj_seq ?_
    refine awj_seq ?_
    refine awj_rj rfl ?_
    refine RJ.op rfl rfl (eff_move (v := .t _) rfl rfl rfl) ?_
    refine RJ.op rfl rfl (eff_iop rfl rfl rfl rfl rfl) ?_
    refine RJ.nil ?_
    refine awj_cond rfl (fun h2 => ?_) (fun h2 => ?_)
    · try simp only [decide_eq_true_eq, decide_eq_false_iff_not, beq_iff_eq, bne_iff_ne, bne_eq_false_iff_eq, beq_eq_false_iff_ne, Bool.not_eq_true, Bool.not_eq_false, Bool.not_eq_true', Bool.not_eq_false', ne_eq] at h2
      refine awj_rd [(some 85, []), (some 86, []), (some 87, []), (some 88, []), (some 89, []), (some 90, []), (none, [0])] [[], [], [1], [], [0], [0, 1, 2, 3, 4], [0, 1, 2, 3, 4, 5]] tm rfl rfl rfl rfl ?_
      refine RD.op rfl rfl rfl (eff_move (v := .ptr _ _ _ _) rfl rfl rfl) ?_
      refine RD.op rfl rfl rfl (eff_move (v := .t _) rfl rfl rfl) ?_
      refine RD.op rfl rfl rfl (eff_iop rfl rfl rfl rfl (iadd (by omega))) ?_
      refine RD.op rfl rfl rfl (eff_load rfl rfl ti29 rfl (.whole rfl rfl rfl rfl rfl rfl)) ?_
      refine RD.op rfl rfl rfl (eff_nilCheck (v := .ptr _ _ _ _) rfl rfl rfl rfl (fun _ _ _ _ e => by cases e; exact ⟨_, rfl, rfl⟩)) ?_
      refine RD.op rfl rfl rfl (eff_indexAddrP (i := I + 1) rfl rfl tu58 ti29 rfl rfl (by first | rfl | omega) (by omega) rfl rfl rfl (alen hMI.len (by omega))) ?_
      refine RD.store rfl rfl rfl (eff_storeW (v := .t (encS (accept (at' M (I + 1)) b).1)) (els := encL M) (els' := encL (M.set (I + 1) (accept (at' M (I + 1)) b).1)) (el := .t (encS (at' M (I + 1)))) rfl rfl ti29 rfl rfl rfl rfl rfl rfl (ael hMI.len (by omega)) rfl aset) ?_
      refine RD.nil ?_
      refine awj_rj rfl ?_
      refine RJ.op rfl rfl (eff_move (v := .t _) rfl rfl rfl) ?_
      refine RJ.op rfl rfl (eff_move (v := .t _) rfl rfl rfl) ?_
      refine RJ.split 92 rfl (fun h3 => ?_) (fun h3 => ?_)
      · try simp only [decide_eq_true_eq, decide_eq_false_iff_not, beq_iff_eq, bne_iff_ne, bne_eq_false_iff_eq, beq_eq_false_iff_ne, Bool.not_eq_true, Bool.not_eq_false, Bool.not_eq_true', Bool.not_eq_false', ne_eq] at h3
        refine RJ.gskip rfl rfl rfl rfl rfl (by decide) ?_
        refine RJ.op rfl rfl (eff_pick (v := .t _) rfl rfl rfl rfl) ?_
        refine RJ.op rfl rfl (eff_assign (v := .t _) rfl rfl rfl) ?_
        refine RJ.nil ?_
        refine awj_rj rfl ?_
        refine RJ.op rfl rfl (eff_move (v := .t _) rfl rfl rfl) ?_
        refine RJ.op rfl rfl (eff_iop rfl rfl rfl rfl (iadd (by omega))) ?_
        refine RJ.op rfl rfl (eff_assign (v := .t _) rfl rfl rfl) ?_
        refine RJ.nil ?_
        refine ⟨_, ?_, _, weak_keep (n := 134) (fr' := [(0, .ptr 0 gg 0 0), (3, .ptr 3 0 0 0), (5, .t (encI (I : Nat))), (6, .ptr 6 0 0 0), (10, .t (.bool _)), (11, .t (encI ((k + 1) : Nat)))]) (st' := [(0, some ⟨4, 58, gg, encL _⟩), (3, some ⟨4, 64, 0, [.t (encF nd f1 f2 false)]⟩), (6, some ⟨8, 38, 0, [.t (encB b)]⟩)]) ⟨rfl, rfl, rfl, rfl, rfl, rfl, rfl, rfl, rfl, rfl, rfl, rfl, trivial⟩ ⟨rfl, okE_t, rfl, okE_one rfl, rfl, okE_one rfl, trivial⟩, k + 1, _, _, (by omega), (by show _ = (if _ then _ else _); rw [← hM]; first | rw [if_pos (by assumption)] | rw [if_neg (by assumption)]), (by show _ = ((accN I b k (L.set I s2)).2 || _); rw [← hac, ← hM]; first | (rw [(by assumption : ac = true)]; rfl) | (rw [(by assumption : ac = false)]; rfl)), rfl, rfl⟩
        omega
      · try simp only [decide_eq_true_eq, decide_eq_false_iff_not, beq_iff_eq, bne_iff_ne, bne_eq_false_iff_eq, beq_eq_false_iff_ne, Bool.not_eq_true, Bool.not_eq_false, Bool.not_eq_true', Bool.not_eq_false', ne_eq] at h3
        refine RJ.gop rfl rfl rfl rfl rfl rfl (eff_move (v := .t _) rfl rfl rfl) ?_
        refine RJ.op rfl rfl (eff_pick (v := .t _) rfl rfl rfl rfl) ?_
        refine RJ.op rfl rfl (eff_assign (v := .t _) rfl rfl rfl) ?_
        refine RJ.nil ?_
        refine awj_rj rfl ?_
        refine RJ.op rfl rfl (eff_move (v := .t _) rfl rfl rfl) ?_
        refine RJ.op rfl rfl (eff_iop rfl rfl rfl rfl (iadd (by omega))) ?_
        refine RJ.op rfl rfl (eff_assign (v := .t _) rfl rfl rfl) ?_
        refine RJ.nil ?_
        refine ⟨_, ?_, _, weak_keep (n := 134) (fr' := [(0, .ptr 0 gg 0 0), (3, .ptr 3 0 0 0), (5, .t (encI (I : Nat))), (6, .ptr 6 0 0 0), (10, .t (.bool _)), (11, .t (encI ((k + 1) : Nat)))]) (st' := [(0, some ⟨4, 58, gg, encL _⟩), (3, some ⟨4, 64, 0, [.t (encF nd f1 f2 false)]⟩), (6, some ⟨8, 38, 0, [.t (encB b)]⟩)]) ⟨rfl, rfl, rfl, rfl, rfl, rfl, rfl, rfl, rfl, rfl, rfl, rfl, trivial⟩ ⟨rfl, okE_t, rfl, okE_one rfl, rfl, okE_one rfl, trivial⟩, k + 1, _, _, (by omega), (by show _ = (if _ then _ else _); rw [← hM]; first | rw [if_pos (by assumption)] | rw [if_neg (by assumption)]), (by show _ = ((accN I b k (L.set I s2)).2 || _); rw [← hac, ← hM]; first | (rw [(by assumption : ac = true)]; rfl) | (rw [(by assumption : ac = false)]; rfl)), rfl, rfl⟩
        omega
    · try simp only [decide_eq_true_eq, decide_eq_false_iff_not, beq_iff_eq, bne_iff_ne, bne_eq_false_iff_eq, beq_eq_false_iff_ne, Bool.not_eq_true, Bool.not_eq_false, Bool.not_eq_true', Bool.not_eq_false', ne_eq] at h2
      refine awj_skip ?_
      refine awj_rj rfl ?_
      refine RJ.op rfl rfl (eff_move (v := .t _) rfl rfl rfl) ?_
      refine RJ.op rfl rfl (eff_move (v := .t _) rfl rfl rfl) ?_
      refine RJ.split 92 rfl (fun h4 => ?_) (fun h4 => ?_)
      · try simp only [decide_eq_true_eq, decide_eq_false_iff_not, beq_iff_eq, bne_iff_ne, bne_eq_false_iff_eq, beq_eq_false_iff_ne, Bool.not_eq_true, Bool.not_eq_false, Bool.not_eq_true', Bool.not_eq_false', ne_eq] at h4
        refine RJ.gskip rfl rfl rfl rfl rfl (by decide) ?_
        refine RJ.op rfl rfl (eff_pick (v := .t _) rfl rfl rfl rfl) ?_
        refine RJ.op rfl rfl (eff_assign (v := .t _) rfl rfl rfl) ?_
        refine RJ.nil ?_
        refine awj_rj rfl ?_
        refine RJ.op rfl rfl (eff_move (v := .t _) rfl rfl rfl) ?_
        refine RJ.op rfl rfl (eff_iop rfl rfl rfl rfl (iadd (by omega))) ?_
        refine RJ.op rfl rfl (eff_assign (v := .t _) rfl rfl rfl) ?_
        refine RJ.nil ?_
        refine ⟨_, ?_, _, weak_keep (n := 134) (fr' := [(0, .ptr 0 gg 0 0), (3, .ptr 3 0 0 0), (5, .t (encI (I : Nat))), (6, .ptr 6 0 0 0), (10, .t (.bool _)), (11, .t (encI ((k + 1) : Nat)))]) (st' := [(0, some ⟨4, 58, gg, encL _⟩), (3, some ⟨4, 64, 0, [.t (encF nd f1 f2 false)]⟩), (6, some ⟨8, 38, 0, [.t (encB b)]⟩)]) ⟨rfl, rfl, rfl, rfl, rfl, rfl, rfl, rfl, rfl, rfl, rfl, rfl, trivial⟩ ⟨rfl, okE_t, rfl, okE_one rfl, rfl, okE_one rfl, trivial⟩, k + 1, _, _, (by omega), (by show _ = (if _ then _ else _); rw [← hM]; first | rw [if_pos (by assumption)] | rw [if_neg (by assumption)]), (by show _ = ((accN I b k (L.set I s2)).2 || _); rw [← hac, ← hM]; first | (rw [(by assumption : ac = true)]; rfl) | (rw [(by assumption : ac = false)]; rfl)), rfl, rfl⟩
        omega
      · try simp only [decide_eq_true_eq, decide_eq_false_iff_not, beq_iff_eq, bne_iff_ne, bne_eq_false_iff_eq, beq_eq_false_iff_ne, Bool.not_eq_true, Bool.not_eq_false, Bool.not_eq_true', Bool.not_eq_false', ne_eq] at h4
        refine RJ.gop rfl rfl rfl rfl rfl rfl (eff_move (v := .t _) rfl rfl rfl) ?_
        refine RJ.op rfl rfl (eff_pick (v := .t _) rfl rfl rfl rfl) ?_
        refine RJ.op rfl rfl (eff_assign (v := .t _) rfl rfl rfl) ?_
        refine RJ.nil ?_
        refine awj_rj rfl ?_
        refine RJ.op rfl rfl (eff_move (v := .t _) rfl rfl rfl) ?_
        refine RJ.op rfl rfl (eff_iop rfl rfl rfl rfl (iadd (by omega))) ?_
        refine RJ.op rfl rfl (eff_assign (v := .t _) rfl rfl rfl) ?_
        refine RJ.nil ?_
        refine ⟨_, ?_, _, weak_keep (n := 134) (fr' := [(0, .ptr 0 gg 0 0), (3, .ptr 3 0 0 0), (5, .t (encI (I : Nat))), (6, .ptr 6 0 0 0), (10, .t (.bool _)), (11, .t (encI ((k + 1) : Nat)))]) (st' := [(0, some ⟨4, 58, gg, encL _⟩), (3, some ⟨4, 64, 0, [.t (encF nd f1 f2 false)]⟩), (6, some ⟨8, 38, 0, [.t (encB b)]⟩)]) ⟨rfl, rfl, rfl, rfl, rfl, rfl, rfl, rfl, rfl, rfl, rfl, rfl, trivial⟩ ⟨rfl, okE_t, rfl, okE_one rfl, rfl, okE_one rfl, trivial⟩, k + 1, _, _, (by omega), (by show _ = (if _ then _ else _); rw [← hM]; first | rw [if_pos (by assumption)] | rw [if_neg (by assumption)]), (by show _ = ((accN I b k (L.set I s2)).2 || _); rw [← hac, ← hM]; first | (rw [(by assumption : ac = true)]; rfl) | (rw [(by assumption : ac = false)]; rfl)), rfl, rfl⟩
        omega
  · try simp only [decide_eq_true_eq, decide_eq_false_iff_not, beq_iff_eq, bne_iff_ne, bne_eq_false_iff_eq, beq_eq_false_iff_ne, Bool.not_eq_true, Bool.not_eq_false, Bool.not_eq_true', Bool.not_eq_false', ne_eq] at h1
    refine awj_exit ?_
    refine awj_seq ?_
    refine awj_seq ?_
    refine awj_rj rfl ?_
    have hk2 : K = k := by omega
    subst hk2
    rw [hA] at hac
    subst hac
    subst hM
    refine RJ.op rfl rfl (eff_assign (v := .t _) rfl rfl rfl) ?_
    refine RJ.nil ?_
    refine awj_block ?_
    refine awj_loopW (fun m s g => ∃ (c : Nat), (c = 0) ∧ m = C - c ∧ s = ⟨134, [(0, .ptr 0 gg 0 0), (3, .ptr 3 0 0 0), (5, .t (encI (I : Nat))), (6, .ptr 6 0 0 0), (10, .t (.bool false)), (15, .t (encI (c : Nat)))], [(0, some ⟨4, 58, gg, encL (accN I b K (L.set I s2)).1⟩), (3, some ⟨4, 64, 0, [.t (encF nd f1 f2 false)]⟩), (6, some ⟨8, 38, 0, [.t (encB b)]⟩)]⟩) (_) (⟨_, weak_keep (n := 134) (fr' := [(0, .ptr 0 gg 0 0), (3, .ptr 3 0 0 0), (5, .t (encI (I : Nat))), (6, .ptr 6 0 0 0), (10, .t (.bool false)), (15, .t (encI (0 : Nat)))]) (st' := [(0, some ⟨4, 58, gg, encL (accN I b K (L.set I s2)).1⟩), (3, some ⟨4, 64, 0, [.t (encF nd f1 f2 false)]⟩), (6, some ⟨8, 38, 0, [.t (encB b)]⟩)]) ⟨rfl, rfl, rfl, rfl, rfl, rfl, rfl, rfl, rfl, rfl, rfl, rfl, trivial⟩ ⟨rfl, okE_t, rfl, okE_one rfl, rfl, okE_one rfl, trivial⟩, 0, (by rfl), rfl, rfl⟩) ?_
    rintro m s g ⟨c, hc, rfl, rfl⟩
    refine awj_seq ?_
    refine awj_seq ?_
    refine awj_rj rfl ?_
    refine RJ.op rfl rfl (eff_move (v := .t _) rfl rfl rfl) ?_
    refine RJ.op rfl rfl (eff_fieldAddr rfl rfl tf64_2 (by decide) rfl rfl rfl (Nat.le_of_ble_eq_true rfl)) ?_
    refine RJ.op rfl rfl (eff_load (y := .t _) rfl rfl ti5 rfl (.one rfl rfl rfl rfl)) ?_
    refine RJ.op rfl rfl (eff_remE (r := (C : Int)) rfl rfl rfl rfl (by decide) (by rw [← hC]; exact tmod_pos hf2.1)) ?_
    refine RJ.op rfl rfl (eff_convIntE (m := (C : Int)) rfl rfl (by rw [tu5]; rfl) tu3 rfl (wrap64 (by omega) (by omega))) ?_
    refine RJ.op rfl rfl (eff_iop rfl rfl rfl rfl rfl) ?_
    refine RJ.op rfl rfl (eff_move (v := .t _) rfl rfl rfl) ?_
    refine RJ.split 101 rfl (fun h5 => ?_) (fun h5 => ?_)
    · try simp only [decide_eq_true_eq, decide_eq_false_iff_not, beq_iff_eq, bne_iff_ne, bne_eq_false_iff_eq, beq_eq_false_iff_ne, Bool.not_eq_true, Bool.not_eq_false, Bool.not_eq_true', Bool.not_eq_false', ne_eq] at h5
      refine RJ.gop rfl rfl rfl rfl rfl rfl (eff_move (v := .t _) rfl rfl rfl) ?_
      refine RJ.op rfl rfl (eff_pick (v := .t _) rfl rfl rfl rfl) ?_
      refine RJ.nil ?_
      refine awj_cond rfl (fun h => nomatch h) (fun _ => ?_)
      refine awj_exit ?_
      refine awj_seq ?_
      refine awj_rj rfl ?_
      refine RJ.op rfl rfl (eff_assign (v := .t _) rfl rfl rfl) ?_
      refine RJ.nil ?_
      refine awj_ret ?_
      exact ⟨Or.inr rfl, [_], [.t (.bool true)], ⟨.tmp rfl, trivial⟩, rfl, weak_keep ⟨rfl, rfl, rfl, rfl, trivial⟩ ⟨rfl, okE_t, trivial⟩, rfl⟩
    · try simp only [decide_eq_true_eq, decide_eq_false_iff_not, beq_iff_eq, bne_iff_ne, bne_eq_false_iff_eq, beq_eq_false_iff_ne, Bool.not_eq_true, Bool.not_eq_false, Bool.not_eq_true', Bool.not_eq_false', ne_eq] at h5
      refine RJ.gskip rfl rfl rfl rfl rfl (by decide) ?_
      refine RJ.op rfl rfl (eff_pick (v := .t _) rfl rfl rfl rfl) ?_
      refine RJ.nil ?_
      refine awj_cond rfl (fun h => nomatch h) (fun _ => ?_)
      refine awj_exit ?_
      refine awj_seq ?_
      refine awj_rj rfl ?_
      refine RJ.op rfl rfl (eff_assign (v := .t _) rfl rfl rfl) ?_
      refine RJ.nil ?_
      refine awj_ret ?_
      exact ⟨Or.inr rfl, [_], [.t (.bool true)], ⟨.tmp rfl, trivial⟩, rfl, weak_keep ⟨rfl, rfl, rfl, rfl, trivial⟩ ⟨rfl, okE_t, trivial⟩, rfl⟩

theorem eventN2 (gg n : Nat) (hn : n ≤ 1000) (L : List Store) (hL : LInv n L) (nd f1 f2 : Int) (hnd : 0 ≤ nd ∧ nd < 256) (hf1 : 0 ≤ f1 ∧ f1 < 256) (hf2 : 0 ≤ f2 ∧ f2 < 256) (I K C : Nat) (hI : nd % 3 = (I : Int)) (hI3 : I < 3) (hK : f1 % 3 = (K : Int)) (hC : f2 % 3 = (C : Int)) (hLL : LInv n L) (b : Bundle) (hbb : Bytes b.data) (hbl : b.data.length ≤ 256) (ho : offer (at' L I) 1000 = (b, true)) (s2 : Store) (hp : pass (at' L I) b.id = (s2, 0)) (hL2 : LInv (n + 1) (L.set I s2)) (hA : (accN I b K (L.set I s2)).2 = true) (hcf : ∀ c N, N = (cfN I b.id c (accN I b K (L.set I s2)).1) → LInv (n + 1 + K) N ∧ ((confirm (at' N I) b.id).2 = 0 ∨ ((confirm (at' N I) b.id).2 = 3 ∧ c ≠ 0))) : RetK Try.prog 30 [(0, some ⟨4, 58, gg, encL L⟩)] [.ptr 0 gg 0 0, .t (encF nd f1 f2 false)] [(0, some ⟨4, 58, gg, encL (cfN I b.id C (accN I b K (L.set I s2)).1)⟩)] (.t (.bool true)) [(0, .ptr 0 gg 0 0)] := by
  refine retK_of_awj (kp := fun i => Nat.beq i 0) Try.func30 rfl (Nat.le_of_ble_eq_true rfl) (by simp) ?_
  intro F0 w0
  refine awj_seq ?_
  refine awj_rj rfl ?_
  refine RJ.new rfl rfl (eff_boxK (v := .t _) (k := 4) (id := 3) rfl rfl rfl rfl rfl rfl) ?_
  refine RJ.op rfl rfl (eff_assign (v := .t _) rfl rfl rfl) ?_
  refine RJ.nil ?_
  refine awj_seq ?_
  refine awj_rj rfl ?_
  refine RJ.op rfl rfl (eff_fieldAddr rfl rfl tf64_0 (by decide) rfl rfl rfl (Nat.le_of_ble_eq_true rfl)) ?_
  refine RJ.op rfl rfl (eff_load (y := .t _) rfl rfl ti5 rfl (.one rfl rfl rfl rfl)) ?_
  refine RJ.op rfl rfl (eff_convIntE (m := nd) rfl rfl (by rw [tu5]; rfl) tu3 rfl (wrap64 (by omega) (by omega))) ?_
  refine RJ.op rfl rfl (eff_remE (r := (I : Int)) rfl rfl rfl rfl (by decide) (by rw [← hI]; exact tmod_pos hnd.1)) ?_
  refine RJ.op rfl rfl (eff_assign (v := .t _) rfl rfl rfl) ?_
  refine RJ.nil ?_
  refine awj_seq ?_
  refine awj_seq ?_
  refine awj_rj rfl ?_
  refine RJ.op rfl rfl (eff_fieldAddr rfl rfl tf64_3 (by decide) rfl rfl rfl (Nat.le_of_ble_eq_true rfl)) ?_
  refine RJ.op rfl rfl (eff_load (y := .t _) rfl rfl ti4 rfl (.one rfl rfl rfl rfl)) ?_
  refine RJ.nil ?_
  refine awj_cond rfl (fun h => nomatch h) (fun _ => ?_)
  refine awj_skip ?_
  refine awj_seq ?_
  refine awj_rj rfl ?_
  refine RJ.op rfl rfl (eff_move (v := .ptr _ _ _ _) rfl rfl rfl) ?_
  refine RJ.op rfl rfl (eff_move (v := .t _) rfl rfl rfl) ?_
  refine RJ.op rfl rfl (eff_nilCheck (v := .ptr _ _ _ _) rfl rfl rfl rfl (fun _ _ _ _ e => by cases e; exact ⟨_, rfl, rfl⟩)) ?_
  refine RJ.op rfl rfl (eff_indexAddrP (i := I) rfl rfl tu58 ti29 rfl rfl (by first | rfl | omega) (by omega) rfl rfl rfl (alen hLL.len (by omega))) ?_
  refine RJ.op rfl rfl (eff_load (y := .t (encS (at' L (I)))) rfl rfl ti29 rfl (.whole rfl rfl (ael hLL.len (by omega)) rfl rfl rfl)) ?_
  refine RJ.op rfl rfl (eff_callT ((by have h := offer18_ret (at' L I) 1000 ((hLL.vi (I) (by omega)).sok (by omega)) (hLL.vi I (by omega)).ps; rw [ho] at h; exact h)) co18 rfl rfl rfl rfl) ?_
  refine RJ.op rfl rfl (eff_move (v := .t _) rfl rfl rfl) ?_
  refine RJ.op rfl rfl (eff_extract rfl rfl rfl rfl) ?_
  refine RJ.op rfl rfl (eff_extract rfl rfl rfl rfl) ?_
  refine RJ.new rfl rfl (eff_allocK (k := 8) (id := 6) rfl rfl tz38 rfl rfl) ?_
  refine RJ.store rfl rfl (eff_storeW (v := .t _) (els := [_]) (els' := [_]) rfl rfl ti38 rfl rfl rfl rfl rfl rfl rfl rfl rfl) ?_
  refine RJ.op rfl rfl (eff_assign (v := .t _) rfl rfl rfl) ?_
  refine RJ.nil ?_
  refine awj_seq ?_
  refine awj_seq ?_
  refine awj_rj rfl ?_
  refine RJ.op rfl rfl (eff_move (v := .t _) rfl rfl rfl) ?_
  refine RJ.op rfl rfl (eff_unop rfl rfl rfl rfl) ?_
  refine RJ.nil ?_
  refine awj_cond rfl (fun h => nomatch h) (fun _ => ?_)
  refine awj_skip ?_
  refine awj_seq ?_
  refine awj_rd [(some 46, []), (some 47, []), (some 48, []), (some 49, []), (some 50, []), (some 51, []), (some 52, []), (some 53, []), (some 45, []), (some 54, []), (some 55, []), (some 8, [8]), (none, [8]), (some 9, [])] [[], [], [0], [0, 1, 2], [0, 1, 2, 3], [], [5], [0, 1, 2, 3, 4, 5, 6], [0, 1, 2, 3, 4, 5, 6, 7], [0, 1, 2, 3, 4, 5, 6, 7, 8], [0, 1, 2, 3, 4, 5, 6, 7, 8], [], [0, 1, 2, 3, 4, 5, 6, 7, 8, 9, 11], [0, 1, 2, 3, 4, 5, 6, 7, 8, 9, 10, 11, 12]] tm rfl rfl rfl rfl ?_
  refine RD.op rfl rfl rfl (eff_move (v := .ptr _ _ _ _) rfl rfl rfl) ?_
  refine RD.op rfl rfl rfl (eff_move (v := .t _) rfl rfl rfl) ?_
  refine RD.op rfl rfl rfl (eff_nilCheck (v := .ptr _ _ _ _) rfl rfl rfl rfl (fun _ _ _ _ e => by cases e; exact ⟨_, rfl, rfl⟩)) ?_
  refine RD.op rfl rfl rfl (eff_indexAddrP (i := I) rfl rfl tu58 ti29 rfl rfl (by first | rfl | omega) (by omega) rfl rfl rfl (alen hLL.len (by omega))) ?_
  refine RD.op rfl rfl rfl (eff_load (y := .t (encS (at' L (I)))) rfl rfl ti29 rfl (.whole rfl rfl (ael hLL.len (by omega)) rfl rfl rfl)) ?_
  refine RD.op rfl rfl rfl (eff_fieldAddr rfl rfl tf38_0 (by decide) rfl rfl rfl (Nat.le_of_ble_eq_true rfl)) ?_
  refine RD.op rfl rfl rfl (eff_load (y := .t _) rfl rfl ti3 rfl (.one rfl rfl rfl rfl)) ?_
  refine RD.op rfl rfl rfl (eff_callT ((by have h := pass26_ret insC (at' L I) b.id ((hLL.vi (I) (by omega)).sok (by omega)) (hLL.vi I (by omega)).ps; rw [hp] at h; exact h)) co26 rfl rfl rfl rfl) ?_
  refine RD.op rfl rfl rfl (eff_move (v := .t _) rfl rfl rfl) ?_
  refine RD.op rfl rfl rfl (eff_extract rfl rfl rfl rfl) ?_
  refine RD.op rfl rfl rfl (eff_extract rfl rfl rfl rfl) ?_
  refine RD.new rfl rfl rfl (eff_allocK (k := 4) (id := 8) rfl rfl tz29 rfl rfl) ?_
  refine RD.store rfl rfl rfl (eff_storeW (v := .t _) (els := [_]) (els' := [_]) rfl rfl ti29 rfl rfl rfl rfl rfl rfl rfl rfl rfl) ?_
  refine RD.op rfl rfl rfl (eff_assign (v := .t _) rfl rfl rfl) ?_
  refine RD.nil ?_
  refine awj_seq ?_
  refine awj_seq ?_
  refine awj_rj rfl ?_
  refine RJ.op rfl rfl (eff_move (v := .t _) rfl rfl rfl) ?_
  refine RJ.op rfl rfl (eff_iop (r := .bool false) rfl rfl rfl rfl (by exact iop_neq_f (by rfl))) ?_
  refine RJ.nil ?_
  refine awj_cond rfl (fun h => nomatch h) (fun _ => ?_)
  refine awj_skip ?_
  refine awj_seq ?_
  refine awj_rd [(some 58, []), (some 59, []), (some 60, []), (some 61, []), (some 62, []), (none, [0])] [[], [], [], [0], [0, 1, 2, 3], [0, 1, 2, 3, 4]] tm rfl rfl rfl rfl ?_
  refine RD.op rfl rfl rfl (eff_move (v := .ptr _ _ _ _) rfl rfl rfl) ?_
  refine RD.op rfl rfl rfl (eff_move (v := .t _) rfl rfl rfl) ?_
  refine RD.op rfl rfl rfl (eff_load rfl rfl ti29 rfl (.whole rfl rfl rfl rfl rfl rfl)) ?_
  refine RD.op rfl rfl rfl (eff_nilCheck (v := .ptr _ _ _ _) rfl rfl rfl rfl (fun _ _ _ _ e => by cases e; exact ⟨_, rfl, rfl⟩)) ?_
  refine RD.op rfl rfl rfl (eff_indexAddrP (i := I) rfl rfl tu58 ti29 rfl rfl (by first | rfl | omega) (by omega) rfl rfl rfl (alen hLL.len (by omega))) ?_
  refine RD.store rfl rfl rfl (eff_storeW (v := .t (encS s2)) (els := encL L) (els' := encL (L.set I s2)) (el := .t (encS (at' L (I)))) rfl rfl ti29 rfl rfl rfl rfl rfl rfl (ael hLL.len (by omega)) rfl aset) ?_
  refine RD.nil ?_
  refine awj_seq ?_
  refine awj_rj rfl ?_
  refine RJ.op rfl rfl (eff_assign (v := .t _) rfl rfl rfl) ?_
  refine RJ.nil ?_
  refine awj_seq ?_
  refine awj_seq ?_
  refine awj_rj rfl ?_
  refine RJ.op rfl rfl (eff_assign (v := .t _) rfl rfl rfl) ?_
  refine RJ.nil ?_
  refine awj_block ?_
  refine awj_loopW (fun m s g => ∃ (k : Nat) (M : List Store) (ac : Bool), (k ≤ K) ∧ (M = (accN I b k (L.set I s2)).1) ∧ (ac = (accN I b k (L.set I s2)).2) ∧ m = K - k ∧ s = ⟨134, [(0, .ptr 0 gg 0 0), (3, .ptr 3 0 0 0), (5, .t (encI (I : Nat))), (6, .ptr 6 0 0 0), (10, .t (.bool ac)), (11, .t (encI (k : Nat)))], [(0, some ⟨4, 58, gg, encL M⟩), (3, some ⟨4, 64, 0, [.t (encF nd f1 f2 false)]⟩), (6, some ⟨8, 38, 0, [.t (encB b)]⟩)]⟩) (_) (⟨_, weak_keep (n := 134) (fr' := [(0, .ptr 0 gg 0 0), (3, .ptr 3 0 0 0), (5, .t (encI (I : Nat))), (6, .ptr 6 0 0 0), (10, .t (.bool _)), (11, .t (encI (0 : Nat)))]) (st' := [(0, some ⟨4, 58, gg, encL _⟩), (3, some ⟨4, 64, 0, [.t (encF nd f1 f2 false)]⟩), (6, some ⟨8, 38, 0, [.t (encB b)]⟩)]) ⟨rfl, rfl, rfl, rfl, rfl, rfl, rfl, rfl, rfl, rfl, rfl, rfl, trivial⟩ ⟨rfl, okE_t, rfl, okE_one rfl, rfl, okE_one rfl, trivial⟩, 0, _, _, (by omega), (by rfl), (by rfl), rfl, rfl⟩) ?_
  rintro m s g ⟨k, M, ac, hk, hM, hac, rfl, rfl⟩
  have hMI : LInv (n + 1 + k) M := by rw [hM]; exact (accN_inv hI3 hbb hL2 k).1
  refine awj_seq ?_
  refine awj_seq ?_
  refine awj_rj rfl ?_
  refine RJ.op rfl rfl (eff_move (v := .t _) rfl rfl rfl) ?_
  refine RJ.op rfl rfl (eff_fieldAddr rfl rfl tf64_1 (by decide) rfl rfl rfl (Nat.le_of_ble_eq_true rfl)) ?_
  refine RJ.op rfl rfl (eff_load (y := .t _) rfl rfl ti5 rfl (.one rfl rfl rfl rfl)) ?_
  refine RJ.op rfl rfl (eff_remE (r := (K : Int)) rfl rfl rfl rfl (by decide) (by rw [← hK]; exact tmod_pos hf1.1)) ?_
  refine RJ.op rfl rfl (eff_convIntE (m := (K : Int)) rfl rfl (by rw [tu5]; rfl) tu3 rfl (wrap64 (by omega) (by omega))) ?_
  refine RJ.op rfl rfl (eff_iop rfl rfl rfl rfl rfl) ?_
  refine RJ.nil ?_
  refine awj_cond rfl (fun h1 => ?_) (fun h1 => ?_)
  · try simp only [decide_eq_true_eq, decide_eq_false_iff_not, beq_iff_eq, bne_iff_ne, bne_eq_false_iff_eq, beq_eq_false_iff_ne, Bool.not_eq_true, Bool.not_eq_false, Bool.not_eq_true', Bool.not_eq_false', ne_eq] at h1
    refine awj_skip ?_
    refine awj_seq ?_
    refine awj_block ?_
    refine awj_seq ?_
    refine awj_rd [(some 72, []), (some 73, []), (some 74, []), (some 75, []), (some 76, []), (some 77, []), (some 78, []), (some 79, []), (some 71, []), (some 80, []), (some 81, []), (some 82, []), (some 12, [12]), (none, [12]), (some 13, []), (some 14, [])] [[], [], [1], [0], [0, 1, 2, 3], [0, 1, 2, 3, 4], [], [0, 1, 2, 3, 4, 5, 6], [0, 1, 2, 3, 4, 5, 6, 7], [0, 1, 2, 3, 4, 5, 6, 7, 8], [0, 1, 2, 3, 4, 5, 6, 7, 8], [0, 1, 2, 3, 4, 5, 6, 7, 8], [], [0, 1, 2, 3, 4, 5, 6, 7, 8, 9, 12], [0, 1, 2, 3, 4, 5, 6, 7, 8, 9, 10, 12, 13], [0, 1, 2, 3, 4, 5, 6, 7, 8, 9, 10, 11, 12, 13, 14]] tm rfl rfl rfl rfl ?_
    refine RD.op rfl rfl rfl (eff_move (v := .ptr _ _ _ _) rfl rfl rfl) ?_
    refine RD.op rfl rfl rfl (eff_move (v := .t _) rfl rfl rfl) ?_
    refine RD.op rfl rfl rfl (eff_iop rfl rfl rfl rfl (iadd (by omega))) ?_
    refine RD.op rfl rfl rfl (eff_nilCheck (v := .ptr _ _ _ _) rfl rfl rfl rfl (fun _ _ _ _ e => by cases e; exact ⟨_, rfl, rfl⟩)) ?_
    refine RD.op rfl rfl rfl (eff_indexAddrP (i := I + 1) rfl rfl tu58 ti29 rfl rfl (by first | rfl | omega) (by omega) rfl rfl rfl (alen hMI.len (by omega))) ?_
    refine RD.op rfl rfl rfl (eff_load (y := .t (encS (at' M (I + 1)))) rfl rfl ti29 rfl (.whole rfl rfl (ael hMI.len (by omega)) rfl rfl rfl)) ?_
    refine RD.op rfl rfl rfl (eff_load rfl rfl ti38 rfl (.whole rfl rfl rfl rfl rfl rfl)) ?_
    refine RD.op rfl rfl rfl (eff_callT (accept23_ret insC (at' M (I + 1)) b ((hMI.vi (I + 1) (by omega)).sok (by omega)) (by unfold BOK; omega) (hMI.vi (I + 1) (by omega)).ss) co23 rfl rfl rfl rfl) ?_
    refine RD.op rfl rfl rfl (eff_move (v := .t _) rfl rfl rfl) ?_
    refine RD.op rfl rfl rfl (eff_extract rfl rfl rfl rfl) ?_
    refine RD.op rfl rfl rfl (eff_extract rfl rfl rfl rfl) ?_
    refine RD.op rfl rfl rfl (eff_extract rfl rfl rfl rfl) ?_
    refine RD.new rfl rfl rfl (eff_allocK (k := 4) (id := 12) rfl rfl tz29 rfl rfl) ?_
    refine RD.store rfl rfl rfl (eff_storeW (v := .t _) (els := [_]) (els' := [_]) rfl rfl ti29 rfl rfl rfl rfl rfl rfl rfl rfl rfl) ?_
    refine RD.op rfl rfl rfl (eff_assign (v := .t _) rfl rfl rfl) ?_
    refine RD.op rfl rfl rfl (eff_assign (v := .t _) rfl rfl rfl) ?_
    refine RD.nil ?_
    refine awj_seq ?_
    refine awj_seq ?_
    refine awj_rj rfl ?_
    refine RJ.op rfl rfl (eff_move (v := .t _) rfl rfl rfl) ?_
    refine RJ.op rfl rfl (eff_iop rfl rfl rfl rfl rfl) ?_
    refine RJ.nil ?_
    refine awj_cond rfl (fun h2 => ?_) (fun h2 => ?_)
    · try simp only [decide_eq_true_eq, decide_eq_false_iff_not, beq_iff_eq, bne_iff_ne, bne_eq_false_iff_eq, beq_eq_false_iff_ne, Bool.not_eq_true, Bool.not_eq_false, Bool.not_eq_true', Bool.not_eq_false', ne_eq] at h2
      refine awj_rd [(some 85, []), (some 86, []), (some 87, []), (some 88, []), (some 89, []), (some 90, []), (none, [0])] [[], [], [1], [], [0], [0, 1, 2, 3, 4], [0, 1, 2, 3, 4, 5]] tm rfl rfl rfl rfl ?_
      refine RD.op rfl rfl rfl (eff_move (v := .ptr _ _ _ _) rfl rfl rfl) ?_
      refine RD.op rfl rfl rfl (eff_move (v := .t _) rfl rfl rfl) ?_
      refine RD.op rfl rfl rfl (eff_iop rfl rfl rfl rfl (iadd (by omega))) ?_
      refine RD.op rfl rfl rfl (eff_load rfl rfl ti29 rfl (.whole rfl rfl rfl rfl rfl rfl)) ?_
      refine RD.op rfl rfl rfl (eff_nilCheck (v := .ptr _ _ _ _) rfl rfl rfl rfl (fun _ _ _ _ e => by cases e; exact ⟨_, rfl, rfl⟩)) ?_
      refine RD.op rfl rfl rfl (eff_indexAddrP (i := I + 1) rfl rfl tu58 ti29 rfl rfl (by first | rfl | omega) (by omega) rfl rfl rfl (alen hMI.len (by omega))) ?_
      refine RD.store rfl rfl rfl (eff_storeW (v := .t (encS (accept (at' M (I + 1)) b).1)) (els := encL M) (els' := encL (M.set (I + 1) (accept (at' M (I + 1)) b).1)) (el := .t (encS (at' M (I + 1)))) rfl rfl ti29 rfl rfl rfl rfl rfl rfl (ael hMI.len (by omega)) rfl aset) ?_
      refine RD.nil ?_
      refine awj_rj rfl ?_
      refine RJ.op rfl rfl (eff_move (v := .t _) rfl rfl rfl) ?_
      refine RJ.op rfl rfl (eff_move (v := .t _) rfl rfl rfl) ?_
      refine RJ.split 92 rfl (fun h3 => ?_) (fun h3 => ?_)
      · try simp only [decide_eq_true_eq, decide_eq_false_iff_not, beq_iff_eq, bne_iff_ne, bne_eq_false_iff_eq, beq_eq_false_iff_ne, Bool.not_eq_true, Bool.not_eq_false, Bool.not_eq_true', Bool.not_eq_false', ne_eq] at h3
        refine RJ.gskip rfl rfl rfl rfl rfl (by decide) ?_
        refine RJ.op rfl rfl (eff_pick (v := .t _) rfl rfl rfl rfl) ?_
        refine RJ.op rfl rfl (eff_assign (v := .t _) rfl rfl rfl) ?_
        refine RJ.nil ?_
        refine awj_rj rfl ?_
        refine RJ.op rfl rfl (eff_move (v := .t _) rfl rfl rfl) ?_
        refine RJ.op rfl rfl (eff_iop rfl rfl rfl rfl (iadd (by omega))) ?_
        refine RJ.op rfl rfl (eff_assign (v := .t _) rfl rfl rfl) ?_
        refine RJ.nil ?_
        refine ⟨_, ?_, _, weak_keep (n := 134) (fr' := [(0, .ptr 0 gg 0 0), (3, .ptr 3 0 0 0), (5, .t (encI (I : Nat))), (6, .ptr 6 0 0 0), (10, .t (.bool _)), (11, .t (encI ((k + 1) : Nat)))]) (st' := [(0, some ⟨4, 58, gg, encL _⟩), (3, some ⟨4, 64, 0, [.t (encF nd f1 f2 false)]⟩), (6, some ⟨8, 38, 0, [.t (encB b)]⟩)]) ⟨rfl, rfl, rfl, rfl, rfl, rfl, rfl, rfl, rfl, rfl, rfl, rfl, trivial⟩ ⟨rfl, okE_t, rfl, okE_one rfl, rfl, okE_one rfl, trivial⟩, k + 1, _, _, (by omega), (by show _ = (if _ then _ else _); rw [← hM]; first | rw [if_pos (by assumption)] | rw [if_neg (by assumption)]), (by show _ = ((accN I b k (L.set I s2)).2 || _); rw [← hac, ← hM]; first | (rw [(by assumption : ac = true)]; rfl) | (rw [(by assumption : ac = false)]; rfl)), rfl, rfl⟩
        omega
      · try simp only [decide_eq_true_eq, decide_eq_false_iff_not, beq_iff_eq, bne_iff_ne, bne_eq_false_iff_eq, beq_eq_false_iff_ne, Bool.not_eq_true, Bool.not_eq_false, Bool.not_eq_true', Bool.not_eq_false', ne_eq] at h3
        refine RJ.gop rfl rfl rfl rfl rfl rfl (eff_move (v := .t _) rfl rfl rfl) ?_
        refine RJ.op rfl rfl (eff_pick (v := .t _) rfl rfl rfl rfl) ?_
        refine RJ.op rfl rfl (eff_assign (v := .t _) rfl rfl rfl) ?_
        refine RJ.nil ?_
        refine awj_rj rfl ?_
        refine RJ.op rfl rfl (eff_move (v := .t _) rfl rfl rfl) ?_
        refine RJ.op rfl rfl (eff_iop rfl rfl rfl rfl (iadd (by omega))) ?_
        refine RJ.op rfl rfl (eff_assign (v := .t _) rfl rfl rfl) ?_
        refine RJ.nil ?_
        refine ⟨_, ?_, _, weak_keep (n := 134) (fr' := [(0, .ptr 0 gg 0 0), (3, .ptr 3 0 0 0), (5, .t (encI (I : Nat))), (6, .ptr 6 0 0 0), (10, .t (.bool _)), (11, .t (encI ((k + 1) : Nat)))]) (st' := [(0, some ⟨4, 58, gg, encL _⟩), (3, some ⟨4, 64, 0, [.t (encF nd f1 f2 false)]⟩), (6, some ⟨8, 38, 0, [.t (encB b)]⟩)]) ⟨rfl, rfl, rfl, rfl, rfl, rfl, rfl, rfl, rfl, rfl, rfl, rfl, trivial⟩ ⟨rfl, okE_t, rfl, okE_one rfl, rfl, okE_one rfl, trivial⟩, k + 1, _, _, (by omega), (by show _ = (if _ then _ else _); rw [← hM]; first | rw [if_pos (by assumption)] | rw [if_neg (by assumption)]), (by show _ = ((accN I b k (L.set I s2)).2 || _); rw [← hac, ← hM]; first | (rw [(by assumption : ac = true)]; rfl) | (rw [(by assumption : ac = false)]; rfl)), rfl, rfl⟩
        omega
    · try simp only [decide_eq_true_eq, decide_eq_false_iff_not, beq_iff_eq, bne_iff_ne, bne_eq_false_iff_eq, beq_eq_false_iff_ne, Bool.not_eq_true, Bool.not_eq_false, Bool.not_eq_true', Bool.not_eq_false', ne_eq] at h2
      refine awj_skip ?_
      refine awj_rj rfl ?_
      refine RJ.op rfl rfl (eff_move (v := .t _) rfl rfl rfl) ?_
      refine RJ.op rfl rfl (eff_move (v := .t _) rfl rfl rfl) ?_
      refine RJ.split 92 rfl (fun h4 => ?_) (fun h4 => ?_)
      · try simp only [decide_eq_true_eq, decide_eq_false_iff_not, beq_iff_eq, bne_iff_ne, bne_eq_false_iff_eq, beq_eq_false_iff_ne, Bool.not_eq_true, Bool.not_eq_false, Bool.not_eq_true', Bool.not_eq_false', ne_eq] at h4
        refine RJ.gskip rfl rfl rfl rfl rfl (by decide) ?_
        refine RJ.op rfl rfl (eff_pick (v := .t _) rfl rfl rfl rfl) ?_
        refine RJ.op rfl rfl (eff_assign (v := .t _) rfl rfl rfl) ?_
        refine RJ.nil ?_
        refine awj_rj rfl ?_
        refine RJ.op rfl rfl (eff_move (v := .t _) rfl rfl rfl) ?_
        refine RJ.op rfl rfl (eff_iop rfl rfl rfl rfl (iadd (by omega))) ?_
        refine RJ.op rfl rfl (eff_assign (v := .t _) rfl rfl rfl) ?_
        refine RJ.nil ?_
        refine ⟨_, ?_, _, weak_keep (n := 134) (fr' := [(0, .ptr 0 gg 0 0), (3, .ptr 3 0 0 0), (5, .t (encI (I : Nat))), (6, .ptr 6 0 0 0), (10, .t (.bool _)), (11, .t (encI ((k + 1) : Nat)))]) (st' := [(0, some ⟨4, 58, gg, encL _⟩), (3, some ⟨4, 64, 0, [.t (encF nd f1 f2 false)]⟩), (6, some ⟨8, 38, 0, [.t (encB b)]⟩)]) ⟨rfl, rfl, rfl, rfl, rfl, rfl, rfl, rfl, rfl, rfl, rfl, rfl, trivial⟩ ⟨rfl, okE_t, rfl, okE_one rfl, rfl, okE_one rfl, trivial⟩, k + 1, _, _, (by omega), (by show _ = (if _ then _ else _); rw [← hM]; first | rw [if_pos (by assumption)] | rw [if_neg (by assumption)]), (by show _ = ((accN I b k (L.set I s2)).2 || _); rw [← hac, ← hM]; first | (rw [(by assumption : ac = true)]; rfl) | (rw [(by assumption : ac = false)]; rfl)), rfl, rfl⟩
        omega
      · try simp only [decide_eq_true_eq, decide_eq_false_iff_not, beq_iff_eq, bne_iff_ne, bne_eq_false_iff_eq, beq_eq_false_iff_ne, Bool.not_eq_true, Bool.not_eq_false, Bool.not_eq_true', Bool.not_eq_false', ne_eq] at h4
        refine RJ.gop rfl rfl rfl rfl rfl rfl (eff_move (v := .t _) rfl rfl rfl) ?_
        refine RJ.op rfl rfl (eff_pick (v := .t _) rfl rfl rfl rfl) ?_
        refine RJ.op rfl rfl (eff_assign (v := .t _) rfl rfl rfl) ?_
        refine RJ.nil ?_
        refine awj_rj rfl ?_
        refine RJ.op rfl rfl (eff_move (v := .t _) rfl rfl rfl) ?_
        refine RJ.op rfl rfl (eff_iop rfl rfl rfl rfl (iadd (by omega))) ?_
        refine RJ.op rfl rfl (eff_assign (v := .t _) rfl rfl rfl) ?_
        refine RJ.nil ?_
        refine ⟨_, ?_, _, weak_keep (n := 134) (fr' := [(0, .ptr 0 gg 0 0), (3, .ptr 3 0 0 0), (5, .t (encI (I : Nat))), (6, .ptr 6 0 0 0), (10, .t (.bool _)), (11, .t (encI ((k + 1) : Nat)))]) (st' := [(0, some ⟨4, 58, gg, encL _⟩), (3, some ⟨4, 64, 0, [.t (encF nd f1 f2 false)]⟩), (6, some ⟨8, 38, 0, [.t (encB b)]⟩)]) ⟨rfl, rfl, rfl, rfl, rfl, rfl, rfl, rfl, rfl, rfl, rfl, rfl, trivial⟩ ⟨rfl, okE_t, rfl, okE_one rfl, rfl, okE_one rfl, trivial⟩, k + 1, _, _, (by omega), (by show _ = (if _ then _ else _); rw [← hM]; first | rw [if_pos (by assumption)] | rw [if_neg (by assumption)]), (by show _ = ((accN I b k (L.set I s2)).2 || _); rw [← hac, ← hM]; first | (rw [(by assumption : ac = true)]; rfl) | (rw [(by assumption : ac = false)]; rfl)), rfl, rfl⟩
        omega
  · try simp only [decide_eq_true_eq, decide_eq_false_iff_not, beq_iff_eq, bne_iff_ne, bne_eq_false_iff_eq, beq_eq_false_iff_ne, Bool.not_eq_true, Bool.not_eq_false, Bool.not_eq_true', Bool.not_eq_false', ne_eq] at h1
    refine awj_exit ?_
    refine awj_seq ?_
    refine awj_seq ?_
    refine awj_rj rfl ?_
    have hk2 : K = k := by omega
    subst hk2
    rw [hA] at hac
    subst hac
    subst hM
    refine RJ.op rfl rfl (eff_assign (v := .t _) rfl rfl rfl) ?_
    refine RJ.nil ?_
    refine awj_block ?_
    refine awj_loopW (fun m s g => ∃ (c : Nat) (N : List Store), (c ≤ C) ∧ (N = (cfN I b.id c (accN I b K (L.set I s2)).1)) ∧ m = C - c ∧ s = ⟨134, [(0, .ptr 0 gg 0 0), (3, .ptr 3 0 0 0), (5, .t (encI (I : Nat))), (6, .ptr 6 0 0 0), (10, .t (.bool true)), (15, .t (encI (c : Nat)))], [(0, some ⟨4, 58, gg, encL N⟩), (3, some ⟨4, 64, 0, [.t (encF nd f1 f2 false)]⟩), (6, some ⟨8, 38, 0, [.t (encB b)]⟩)]⟩) (_) (⟨_, weak_keep (n := 134) (fr' := [(0, .ptr 0 gg 0 0), (3, .ptr 3 0 0 0), (5, .t (encI (I : Nat))), (6, .ptr 6 0 0 0), (10, .t (.bool true)), (15, .t (encI (0 : Nat)))]) (st' := [(0, some ⟨4, 58, gg, encL _⟩), (3, some ⟨4, 64, 0, [.t (encF nd f1 f2 false)]⟩), (6, some ⟨8, 38, 0, [.t (encB b)]⟩)]) ⟨rfl, rfl, rfl, rfl, rfl, rfl, rfl, rfl, rfl, rfl, rfl, rfl, trivial⟩ ⟨rfl, okE_t, rfl, okE_one rfl, rfl, okE_one rfl, trivial⟩, 0, _, (by omega), (by rfl), rfl, rfl⟩) ?_
    rintro m s g ⟨c, N, hc, hN, rfl, rfl⟩
    obtain ⟨hNI, hfst⟩ := hcf c N hN
    refine awj_seq ?_
    refine awj_seq ?_
    refine awj_rj rfl ?_
    refine RJ.op rfl rfl (eff_move (v := .t _) rfl rfl rfl) ?_
    refine RJ.op rfl rfl (eff_fieldAddr rfl rfl tf64_2 (by decide) rfl rfl rfl (Nat.le_of_ble_eq_true rfl)) ?_
    refine RJ.op rfl rfl (eff_load (y := .t _) rfl rfl ti5 rfl (.one rfl rfl rfl rfl)) ?_
    refine RJ.op rfl rfl (eff_remE (r := (C : Int)) rfl rfl rfl rfl (by decide) (by rw [← hC]; exact tmod_pos hf2.1)) ?_
    refine RJ.op rfl rfl (eff_convIntE (m := (C : Int)) rfl rfl (by rw [tu5]; rfl) tu3 rfl (wrap64 (by omega) (by omega))) ?_
    refine RJ.op rfl rfl (eff_iop rfl rfl rfl rfl rfl) ?_
    refine RJ.op rfl rfl (eff_move (v := .t _) rfl rfl rfl) ?_
    refine RJ.split 101 rfl (fun h5 => ?_) (fun h5 => ?_)
    · try simp only [decide_eq_true_eq, decide_eq_false_iff_not, beq_iff_eq, bne_iff_ne, bne_eq_false_iff_eq, beq_eq_false_iff_ne, Bool.not_eq_true, Bool.not_eq_false, Bool.not_eq_true', Bool.not_eq_false', ne_eq] at h5
      refine RJ.gop rfl rfl rfl rfl rfl rfl (eff_move (v := .t _) rfl rfl rfl) ?_
      refine RJ.op rfl rfl (eff_pick (v := .t _) rfl rfl rfl rfl) ?_
      refine RJ.nil ?_
      refine awj_cond rfl (fun _ => ?_) (fun h => nomatch h)
      refine awj_skip ?_
      refine awj_seq ?_
      refine awj_block ?_
      refine awj_seq ?_
      refine awj_rd [(some 107, []), (some 108, []), (some 109, []), (some 110, []), (some 111, []), (some 112, []), (some 113, []), (some 114, []), (some 106, []), (some 115, []), (some 116, []), (some 16, [16]), (none, [16]), (some 17, [])] [[], [], [0], [0, 1, 2], [0, 1, 2, 3], [], [5], [0, 1, 2, 3, 4, 5, 6], [0, 1, 2, 3, 4, 5, 6, 7], [0, 1, 2, 3, 4, 5, 6, 7, 8], [0, 1, 2, 3, 4, 5, 6, 7, 8], [], [0, 1, 2, 3, 4, 5, 6, 7, 8, 9, 11], [0, 1, 2, 3, 4, 5, 6, 7, 8, 9, 10, 11, 12]] tm rfl rfl rfl rfl ?_
      refine RD.op rfl rfl rfl (eff_move (v := .ptr _ _ _ _) rfl rfl rfl) ?_
      refine RD.op rfl rfl rfl (eff_move (v := .t _) rfl rfl rfl) ?_
      refine RD.op rfl rfl rfl (eff_nilCheck (v := .ptr _ _ _ _) rfl rfl rfl rfl (fun _ _ _ _ e => by cases e; exact ⟨_, rfl, rfl⟩)) ?_
      refine RD.op rfl rfl rfl (eff_indexAddrP (i := I) rfl rfl tu58 ti29 rfl rfl (by first | rfl | omega) (by omega) rfl rfl rfl (alen hNI.len (by omega))) ?_
      refine RD.op rfl rfl rfl (eff_load (y := .t (encS (at' N (I)))) rfl rfl ti29 rfl (.whole rfl rfl (ael hNI.len (by omega)) rfl rfl rfl)) ?_
      refine RD.op rfl rfl rfl (eff_fieldAddr rfl rfl tf38_0 (by decide) rfl rfl rfl (Nat.le_of_ble_eq_true rfl)) ?_
      refine RD.op rfl rfl rfl (eff_load (y := .t _) rfl rfl ti3 rfl (.one rfl rfl rfl rfl)) ?_
      refine RD.op rfl rfl rfl (eff_callT (confirm24_ret (at' N I) b.id ((hNI.vi (I) (by omega)).sok (by omega)) (hNI.vi I (by omega)).ps) co24 rfl rfl rfl rfl) ?_
      refine RD.op rfl rfl rfl (eff_move (v := .t _) rfl rfl rfl) ?_
      refine RD.op rfl rfl rfl (eff_extract rfl rfl rfl rfl) ?_
      refine RD.op rfl rfl rfl (eff_extract rfl rfl rfl rfl) ?_
      refine RD.new rfl rfl rfl (eff_allocK (k := 4) (id := 16) rfl rfl tz29 rfl rfl) ?_
      refine RD.store rfl rfl rfl (eff_storeW (v := .t _) (els := [_]) (els' := [_]) rfl rfl ti29 rfl rfl rfl rfl rfl rfl rfl rfl rfl) ?_
      refine RD.op rfl rfl rfl (eff_assign (v := .t _) rfl rfl rfl) ?_
      refine RD.nil ?_
      refine awj_seq ?_
      refine awj_seq ?_
      refine awj_rj rfl ?_
      refine RJ.op rfl rfl (eff_move (v := .t _) rfl rfl rfl) ?_
      refine RJ.op rfl rfl (eff_iop rfl rfl rfl rfl rfl) ?_
      refine RJ.op rfl rfl (eff_move (v := .t _) rfl rfl rfl) ?_
      refine RJ.split 119 rfl (fun h6 => ?_) (fun h6 => ?_)
      · try simp only [decide_eq_true_eq, decide_eq_false_iff_not, beq_iff_eq, bne_iff_ne, bne_eq_false_iff_eq, beq_eq_false_iff_ne, Bool.not_eq_true, Bool.not_eq_false, Bool.not_eq_true', Bool.not_eq_false', ne_eq] at h6
        refine RJ.gop rfl rfl rfl rfl rfl rfl (eff_move (v := .t _) rfl rfl rfl) ?_
        refine RJ.gop rfl rfl rfl rfl rfl rfl (eff_iop rfl rfl rfl rfl rfl) ?_
        refine RJ.gop rfl rfl rfl rfl rfl rfl (eff_move (v := .t _) rfl rfl rfl) ?_
        refine RJ.split 122 rfl (fun h7 => ?_) (fun h7 => ?_)
        · try simp only [decide_eq_true_eq, decide_eq_false_iff_not, beq_iff_eq, bne_iff_ne, bne_eq_false_iff_eq, beq_eq_false_iff_ne, Bool.not_eq_true, Bool.not_eq_false, Bool.not_eq_true', Bool.not_eq_false', ne_eq] at h7
          refine RJ.gskip rfl rfl rfl rfl rfl (by decide) ?_
          refine RJ.gskip rfl rfl rfl rfl rfl (by decide) ?_
          refine RJ.gop rfl rfl rfl rfl rfl rfl (eff_pick (v := .t _) rfl rfl rfl rfl) ?_
          refine RJ.op rfl rfl (eff_pick (v := .t _) rfl rfl rfl rfl) ?_
          refine RJ.nil ?_
          refine awj_cond rfl (fun _ => ?_) (fun h => nomatch h)
          refine awj_seq ?_
          refine awj_rj rfl ?_
          refine RJ.op rfl rfl (eff_assign (v := .t _) rfl rfl rfl) ?_
          refine RJ.nil ?_
          refine awj_ret ?_
          first
            | (exfalso; omega)
            | (have hc2 : C = c := by omega
               subst hc2
               subst hN
               exact ⟨Or.inr rfl, [_], [.t (.bool true)], ⟨.tmp rfl, trivial⟩, rfl, weak_keep ⟨rfl, rfl, rfl, rfl, trivial⟩ ⟨rfl, okE_t, trivial⟩, rfl⟩)
        · try simp only [decide_eq_true_eq, decide_eq_false_iff_not, beq_iff_eq, bne_iff_ne, bne_eq_false_iff_eq, beq_eq_false_iff_ne, Bool.not_eq_true, Bool.not_eq_false, Bool.not_eq_true', Bool.not_eq_false', ne_eq] at h7
          refine RJ.gop rfl rfl rfl rfl rfl rfl (eff_move (v := .t _) rfl rfl rfl) ?_
          refine RJ.gop rfl rfl rfl rfl rfl rfl (eff_iop rfl rfl rfl rfl rfl) ?_
          refine RJ.gop rfl rfl rfl rfl rfl rfl (eff_pick (v := .t _) rfl rfl rfl rfl) ?_
          refine RJ.op rfl rfl (eff_pick (v := .t _) rfl rfl rfl rfl) ?_
          refine RJ.nil ?_
          refine awj_cond rfl (fun h8 => ?_) (fun h8 => ?_)
          · try simp only [decide_eq_true_eq, decide_eq_false_iff_not, beq_iff_eq, bne_iff_ne, bne_eq_false_iff_eq, beq_eq_false_iff_ne, Bool.not_eq_true, Bool.not_eq_false, Bool.not_eq_true', Bool.not_eq_false', ne_eq] at h8
            refine awj_seq ?_
            refine awj_rj rfl ?_
            refine RJ.op rfl rfl (eff_assign (v := .t _) rfl rfl rfl) ?_
            refine RJ.nil ?_
            refine awj_ret ?_
            first
              | (exfalso; omega)
              | (have hc2 : C = c := by omega
                 subst hc2
                 subst hN
                 exact ⟨Or.inr rfl, [_], [.t (.bool true)], ⟨.tmp rfl, trivial⟩, rfl, weak_keep ⟨rfl, rfl, rfl, rfl, trivial⟩ ⟨rfl, okE_t, trivial⟩, rfl⟩)
          · try simp only [decide_eq_true_eq, decide_eq_false_iff_not, beq_iff_eq, bne_iff_ne, bne_eq_false_iff_eq, beq_eq_false_iff_ne, Bool.not_eq_true, Bool.not_eq_false, Bool.not_eq_true', Bool.not_eq_false', ne_eq] at h8
            refine awj_skip ?_
            refine awj_seq ?_
            refine awj_rj rfl ?_
            refine RJ.op rfl rfl (eff_move (v := .t _) rfl rfl rfl) ?_
            refine RJ.op rfl rfl (eff_iop rfl rfl rfl rfl rfl) ?_
            refine RJ.nil ?_
            refine awj_cond rfl (fun h9 => ?_) (fun h9 => ?_)
            · try simp only [decide_eq_true_eq, decide_eq_false_iff_not, beq_iff_eq, bne_iff_ne, bne_eq_false_iff_eq, beq_eq_false_iff_ne, Bool.not_eq_true, Bool.not_eq_false, Bool.not_eq_true', Bool.not_eq_false', ne_eq] at h9
              refine awj_rd [(some 129, []), (some 130, []), (some 131, []), (some 132, []), (some 133, []), (none, [0])] [[], [], [], [0], [0, 1, 2, 3], [0, 1, 2, 3, 4]] tm rfl rfl rfl rfl ?_
              refine RD.op rfl rfl rfl (eff_move (v := .ptr _ _ _ _) rfl rfl rfl) ?_
              refine RD.op rfl rfl rfl (eff_move (v := .t _) rfl rfl rfl) ?_
              refine RD.op rfl rfl rfl (eff_load rfl rfl ti29 rfl (.whole rfl rfl rfl rfl rfl rfl)) ?_
              refine RD.op rfl rfl rfl (eff_nilCheck (v := .ptr _ _ _ _) rfl rfl rfl rfl (fun _ _ _ _ e => by cases e; exact ⟨_, rfl, rfl⟩)) ?_
              refine RD.op rfl rfl rfl (eff_indexAddrP (i := I) rfl rfl tu58 ti29 rfl rfl (by first | rfl | omega) (by omega) rfl rfl rfl (alen hNI.len (by omega))) ?_
              refine RD.store rfl rfl rfl (eff_storeW (v := .t (encS (confirm (at' N I) b.id).1)) (els := encL N) (els' := encL (N.set I (confirm (at' N I) b.id).1)) (el := .t (encS (at' N (I)))) rfl rfl ti29 rfl rfl rfl rfl rfl rfl (ael hNI.len (by omega)) rfl aset) ?_
              refine RD.nil ?_
              refine awj_rj rfl ?_
              refine RJ.op rfl rfl (eff_move (v := .t _) rfl rfl rfl) ?_
              refine RJ.op rfl rfl (eff_iop rfl rfl rfl rfl (iadd (by omega))) ?_
              refine RJ.op rfl rfl (eff_assign (v := .t _) rfl rfl rfl) ?_
              refine RJ.nil ?_
              refine ⟨_, ?_, _, weak_keep (n := 134) (fr' := [(0, .ptr 0 gg 0 0), (3, .ptr 3 0 0 0), (5, .t (encI (I : Nat))), (6, .ptr 6 0 0 0), (10, .t (.bool true)), (15, .t (encI ((c + 1) : Nat)))]) (st' := [(0, some ⟨4, 58, gg, encL _⟩), (3, some ⟨4, 64, 0, [.t (encF nd f1 f2 false)]⟩), (6, some ⟨8, 38, 0, [.t (encB b)]⟩)]) ⟨rfl, rfl, rfl, rfl, rfl, rfl, rfl, rfl, rfl, rfl, rfl, rfl, trivial⟩ ⟨rfl, okE_t, rfl, okE_one rfl, rfl, okE_one rfl, trivial⟩, c + 1, _, (by omega), (by first | contradiction | (show _ = (if _ then _ else _); rw [← hN]; first | rw [if_pos (by assumption)] | rw [if_neg (by assumption)])), rfl, rfl⟩
              omega
            · try simp only [decide_eq_true_eq, decide_eq_false_iff_not, beq_iff_eq, bne_iff_ne, bne_eq_false_iff_eq, beq_eq_false_iff_ne, Bool.not_eq_true, Bool.not_eq_false, Bool.not_eq_true', Bool.not_eq_false', ne_eq] at h9
              refine awj_skip ?_
              refine awj_rj rfl ?_
              refine RJ.op rfl rfl (eff_move (v := .t _) rfl rfl rfl) ?_
              refine RJ.op rfl rfl (eff_iop rfl rfl rfl rfl (iadd (by omega))) ?_
              refine RJ.op rfl rfl (eff_assign (v := .t _) rfl rfl rfl) ?_
              refine RJ.nil ?_
              refine ⟨_, ?_, _, weak_keep (n := 134) (fr' := [(0, .ptr 0 gg 0 0), (3, .ptr 3 0 0 0), (5, .t (encI (I : Nat))), (6, .ptr 6 0 0 0), (10, .t (.bool true)), (15, .t (encI ((c + 1) : Nat)))]) (st' := [(0, some ⟨4, 58, gg, encL _⟩), (3, some ⟨4, 64, 0, [.t (encF nd f1 f2 false)]⟩), (6, some ⟨8, 38, 0, [.t (encB b)]⟩)]) ⟨rfl, rfl, rfl, rfl, rfl, rfl, rfl, rfl, rfl, rfl, rfl, rfl, trivial⟩ ⟨rfl, okE_t, rfl, okE_one rfl, rfl, okE_one rfl, trivial⟩, c + 1, _, (by omega), (by first | contradiction | (show _ = (if _ then _ else _); rw [← hN]; first | rw [if_pos (by assumption)] | rw [if_neg (by assumption)])), rfl, rfl⟩
              omega
      · try simp only [decide_eq_true_eq, decide_eq_false_iff_not, beq_iff_eq, bne_iff_ne, bne_eq_false_iff_eq, beq_eq_false_iff_ne, Bool.not_eq_true, Bool.not_eq_false, Bool.not_eq_true', Bool.not_eq_false', ne_eq] at h6
        refine RJ.gskip rfl rfl rfl rfl rfl (by decide) ?_
        refine RJ.gskip rfl rfl rfl rfl rfl (by decide) ?_
        refine RJ.gskip rfl rfl rfl rfl rfl (by decide) ?_
        refine RJ.gundef rfl rfl rfl rfl rfl ?_
        refine RJ.gundef rfl rfl rfl rfl rfl ?_
        refine RJ.gskip rfl rfl rfl rfl rfl (by decide) ?_
        refine RJ.op rfl rfl (eff_pick (v := .t _) rfl rfl rfl rfl) ?_
        refine RJ.nil ?_
        refine awj_cond rfl (fun h => nomatch h) (fun _ => ?_)
        refine awj_skip ?_
        refine awj_seq ?_
        refine awj_rj rfl ?_
        refine RJ.op rfl rfl (eff_move (v := .t _) rfl rfl rfl) ?_
        refine RJ.op rfl rfl (eff_iop rfl rfl rfl rfl rfl) ?_
        refine RJ.nil ?_
        refine awj_cond rfl (fun h10 => ?_) (fun h10 => ?_)
        · try simp only [decide_eq_true_eq, decide_eq_false_iff_not, beq_iff_eq, bne_iff_ne, bne_eq_false_iff_eq, beq_eq_false_iff_ne, Bool.not_eq_true, Bool.not_eq_false, Bool.not_eq_true', Bool.not_eq_false', ne_eq] at h10
          refine awj_rd [(some 129, []), (some 130, []), (some 131, []), (some 132, []), (some 133, []), (none, [0])] [[], [], [], [0], [0, 1, 2, 3], [0, 1, 2, 3, 4]] tm rfl rfl rfl rfl ?_
          refine RD.op rfl rfl rfl (eff_move (v := .ptr _ _ _ _) rfl rfl rfl) ?_
          refine RD.op rfl rfl rfl (eff_move (v := .t _) rfl rfl rfl) ?_
          refine RD.op rfl rfl rfl (eff_load rfl rfl ti29 rfl (.whole rfl rfl rfl rfl rfl rfl)) ?_
          refine RD.op rfl rfl rfl (eff_nilCheck (v := .ptr _ _ _ _) rfl rfl rfl rfl (fun _ _ _ _ e => by cases e; exact ⟨_, rfl, rfl⟩)) ?_
          refine RD.op rfl rfl rfl (eff_indexAddrP (i := I) rfl rfl tu58 ti29 rfl rfl (by first | rfl | omega) (by omega) rfl rfl rfl (alen hNI.len (by omega))) ?_
          refine RD.store rfl rfl rfl (eff_storeW (v := .t (encS (confirm (at' N I) b.id).1)) (els := encL N) (els' := encL (N.set I (confirm (at' N I) b.id).1)) (el := .t (encS (at' N (I)))) rfl rfl ti29 rfl rfl rfl rfl rfl rfl (ael hNI.len (by omega)) rfl aset) ?_
          refine RD.nil ?_
          refine awj_rj rfl ?_
          refine RJ.op rfl rfl (eff_move (v := .t _) rfl rfl rfl) ?_
          refine RJ.op rfl rfl (eff_iop rfl rfl rfl rfl (iadd (by omega))) ?_
          refine RJ.op rfl rfl (eff_assign (v := .t _) rfl rfl rfl) ?_
          refine RJ.nil ?_
          refine ⟨_, ?_, _, weak_keep (n := 134) (fr' := [(0, .ptr 0 gg 0 0), (3, .ptr 3 0 0 0), (5, .t (encI (I : Nat))), (6, .ptr 6 0 0 0), (10, .t (.bool true)), (15, .t (encI ((c + 1) : Nat)))]) (st' := [(0, some ⟨4, 58, gg, encL _⟩), (3, some ⟨4, 64, 0, [.t (encF nd f1 f2 false)]⟩), (6, some ⟨8, 38, 0, [.t (encB b)]⟩)]) ⟨rfl, rfl, rfl, rfl, rfl, rfl, rfl, rfl, rfl, rfl, rfl, rfl, trivial⟩ ⟨rfl, okE_t, rfl, okE_one rfl, rfl, okE_one rfl, trivial⟩, c + 1, _, (by omega), (by first | contradiction | (show _ = (if _ then _ else _); rw [← hN]; first | rw [if_pos (by assumption)] | rw [if_neg (by assumption)])), rfl, rfl⟩
          omega
        · try simp only [decide_eq_true_eq, decide_eq_false_iff_not, beq_iff_eq, bne_iff_ne, bne_eq_false_iff_eq, beq_eq_false_iff_ne, Bool.not_eq_true, Bool.not_eq_false, Bool.not_eq_true', Bool.not_eq_false', ne_eq] at h10
          refine awj_skip ?_
          refine awj_rj rfl ?_
          refine RJ.op rfl rfl (eff_move (v := .t _) rfl rfl rfl) ?_
          refine RJ.op rfl rfl (eff_iop rfl rfl rfl rfl (iadd (by omega))) ?_
          refine RJ.op rfl rfl (eff_assign (v := .t _) rfl rfl rfl) ?_
          refine RJ.nil ?_
          refine ⟨_, ?_, _, weak_keep (n := 134) (fr' := [(0, .ptr 0 gg 0 0), (3, .ptr 3 0 0 0), (5, .t (encI (I : Nat))), (6, .ptr 6 0 0 0), (10, .t (.bool true)), (15, .t (encI ((c + 1) : Nat)))]) (st' := [(0, some ⟨4, 58, gg, encL _⟩), (3, some ⟨4, 64, 0, [.t (encF nd f1 f2 false)]⟩), (6, some ⟨8, 38, 0, [.t (encB b)]⟩)]) ⟨rfl, rfl, rfl, rfl, rfl, rfl, rfl, rfl, rfl, rfl, rfl, rfl, trivial⟩ ⟨rfl, okE_t, rfl, okE_one rfl, rfl, okE_one rfl, trivial⟩, c + 1, _, (by omega), (by first | contradiction | (show _ = (if _ then _ else _); rw [← hN]; first | rw [if_pos (by assumption)] | rw [if_neg (by assumption)])), rfl, rfl⟩
          omega
    · try simp only [decide_eq_true_eq, decide_eq_false_iff_not, beq_iff_eq, bne_iff_ne, bne_eq_false_iff_eq, beq_eq_false_iff_ne, Bool.not_eq_true, Bool.not_eq_false, Bool.not_eq_true', Bool.not_eq_false', ne_eq] at h5
      refine RJ.gskip rfl rfl rfl rfl rfl (by decide) ?_
      refine RJ.op rfl rfl (eff_pick (v := .t _) rfl rfl rfl rfl) ?_
      refine RJ.nil ?_
      refine awj_cond rfl (fun h => nomatch h) (fun _ => ?_)
      refine awj_exit ?_
      refine awj_seq ?_
      refine awj_rj rfl ?_
      refine RJ.op rfl rfl (eff_assign (v := .t _) rfl rfl rfl) ?_
      refine RJ.nil ?_
      refine awj_ret ?_
      first
        | (exfalso; omega)
        | (have hc2 : C = c := by omega
           subst hc2
           subst hN
           exact ⟨Or.inr rfl, [_], [.t (.bool true)], ⟨.tmp rfl, trivial⟩, rfl, weak_keep ⟨rfl, rfl, rfl, rfl, trivial⟩ ⟨rfl, okE_t, trivial⟩, rfl⟩)

theorem eventR0 (gg n : Nat) (hn : n ≤ 1000) (L : List Store) (hL : LInv n L) (nd f1 f2 : Int) (hnd : 0 ≤ nd ∧ nd < 256) (hf1 : 0 ≤ f1 ∧ f1 < 256) (hf2 : 0 ≤ f2 ∧ f2 < 256) (I K C : Nat) (hI : nd % 3 = (I : Int)) (hI3 : I < 3) (hK : f1 % 3 = (K : Int)) (hC : f2 % 3 = (C : Int)) (hLL : LInv n (L.set I (retry (at' L I)))) (bx : Bundle) (ho : offer (at' (L.set I (retry (at' L I))) I) 1000 = (bx, false)) : RetK Try.prog 30 [(0, some ⟨4, 58, gg, encL L⟩)] [.ptr 0 gg 0 0, .t (encF nd f1 f2 true)] [(0, some ⟨4, 58, gg, encL (L.set I (retry (at' L I)))⟩)] (.t (.bool true)) [(0, .ptr 0 gg 0 0)] := by
  refine retK_of_awj (kp := fun i => Nat.beq i 0) Try.func30 rfl (Nat.le_of_ble_eq_true rfl) (by simp) ?_
  intro F0 w0
  refine awj_seq ?_
  refine awj_rj rfl ?_
  refine RJ.new rfl rfl (eff_boxK (v := .t _) (k := 4) (id := 3) rfl rfl rfl rfl rfl rfl) ?_
  refine RJ.op rfl rfl (eff_assign (v := .t _) rfl rfl rfl) ?_
  refine RJ.nil ?_
  refine awj_seq ?_
  refine awj_rj rfl ?_
  refine RJ.op rfl rfl (eff_fieldAddr rfl rfl tf64_0 (by decide) rfl rfl rfl (Nat.le_of_ble_eq_true rfl)) ?_
  refine RJ.op rfl rfl (eff_load (y := .t _) rfl rfl ti5 rfl (.one rfl rfl rfl rfl)) ?_
  refine RJ.op rfl rfl (eff_convIntE (m := nd) rfl rfl (by rw [tu5]; rfl) tu3 rfl (wrap64 (by omega) (by omega))) ?_
  refine RJ.op rfl rfl (eff_remE (r := (I : Int)) rfl rfl rfl rfl (by decide) (by rw [← hI]; exact tmod_pos hnd.1)) ?_
  refine RJ.op rfl rfl (eff_assign (v := .t _) rfl rfl rfl) ?_
  refine RJ.nil ?_
  refine awj_seq ?_
  refine awj_seq ?_
  refine awj_rj rfl ?_
  refine RJ.op rfl rfl (eff_fieldAddr rfl rfl tf64_3 (by decide) rfl rfl rfl (Nat.le_of_ble_eq_true rfl)) ?_
  refine RJ.op rfl rfl (eff_load (y := .t _) rfl rfl ti4 rfl (.one rfl rfl rfl rfl)) ?_
  refine RJ.nil ?_
  refine awj_cond rfl (fun _ => ?_) (fun h => nomatch h)
  refine awj_rd [(some 24, []), (some 25, []), (some 26, []), (some 27, []), (some 28, []), (some 29, []), (some 30, []), (some 31, []), (some 32, []), (some 33, []), (none, [0])] [[], [], [], [], [2], [2, 3, 4], [2, 3, 4, 5], [2, 3, 4, 5, 6], [0], [0, 1, 2, 3, 4, 5, 6, 7, 8], [0, 1, 2, 3, 4, 5, 6, 7, 8, 9]] tm rfl rfl rfl rfl ?_
  refine RD.op rfl rfl rfl (eff_move (v := .ptr _ _ _ _) rfl rfl rfl) ?_
  refine RD.op rfl rfl rfl (eff_move (v := .t _) rfl rfl rfl) ?_
  refine RD.op rfl rfl rfl (eff_move (v := .ptr _ _ _ _) rfl rfl rfl) ?_
  refine RD.op rfl rfl rfl (eff_move (v := .t _) rfl rfl rfl) ?_
  refine RD.op rfl rfl rfl (eff_nilCheck (v := .ptr _ _ _ _) rfl rfl rfl rfl (fun _ _ _ _ e => by cases e; exact ⟨_, rfl, rfl⟩)) ?_
  refine RD.op rfl rfl rfl (eff_indexAddrP (i := I) rfl rfl tu58 ti29 rfl rfl (by first | rfl | omega) (by omega) rfl rfl rfl (alen hL.len (by omega))) ?_
  refine RD.op rfl rfl rfl (eff_load (y := .t (encS (at' L (I)))) rfl rfl ti29 rfl (.whole rfl rfl (ael hL.len (by omega)) rfl rfl rfl)) ?_
  refine RD.op rfl rfl rfl (eff_callT (retry27_ret (at' L I) ((hL.vi (I) (by omega)).sok (by omega))) co27 rfl rfl rfl rfl) ?_
  refine RD.op rfl rfl rfl (eff_nilCheck (v := .ptr _ _ _ _) rfl rfl rfl rfl (fun _ _ _ _ e => by cases e; exact ⟨_, rfl, rfl⟩)) ?_
  refine RD.op rfl rfl rfl (eff_indexAddrP (i := I) rfl rfl tu58 ti29 rfl rfl (by first | rfl | omega) (by omega) rfl rfl rfl (alen hL.len (by omega))) ?_
  refine RD.store rfl rfl rfl (eff_storeW (v := .t (encS (retry (at' L I)))) (els := encL L) (els' := encL (L.set I (retry (at' L I)))) (el := .t (encS (at' L (I)))) rfl rfl ti29 rfl rfl rfl rfl rfl rfl (ael hL.len (by omega)) rfl aset) ?_
  refine RD.nil ?_
  refine awj_seq ?_
  refine awj_rj rfl ?_
  refine RJ.op rfl rfl (eff_move (v := .ptr _ _ _ _) rfl rfl rfl) ?_
  refine RJ.op rfl rfl (eff_move (v := .t _) rfl rfl rfl) ?_
  refine RJ.op rfl rfl (eff_nilCheck (v := .ptr _ _ _ _) rfl rfl rfl rfl (fun _ _ _ _ e => by cases e; exact ⟨_, rfl, rfl⟩)) ?_
  refine RJ.op rfl rfl (eff_indexAddrP (i := I) rfl rfl tu58 ti29 rfl rfl (by first | rfl | omega) (by omega) rfl rfl rfl (alen hLL.len (by omega))) ?_
  refine RJ.op rfl rfl (eff_load (y := .t (encS (at' (L.set I (retry (at' L I))) (I)))) rfl rfl ti29 rfl (.whole rfl rfl (ael hLL.len (by omega)) rfl rfl rfl)) ?_
  refine RJ.op rfl rfl (eff_callT ((by have h := offer18_ret (at' (L.set I (retry (at' L I))) I) 1000 ((hLL.vi (I) (by omega)).sok (by omega)) (hLL.vi I (by omega)).ps; rw [ho] at h; exact h)) co18 rfl rfl rfl rfl) ?_
  refine RJ.op rfl rfl (eff_move (v := .t _) rfl rfl rfl) ?_
  refine RJ.op rfl rfl (eff_extract rfl rfl rfl rfl) ?_
  refine RJ.op rfl rfl (eff_extract rfl rfl rfl rfl) ?_
  refine RJ.new rfl rfl (eff_allocK (k := 8) (id := 6) rfl rfl tz38 rfl rfl) ?_
  refine RJ.store rfl rfl (eff_storeW (v := .t _) (els := [_]) (els' := [_]) rfl rfl ti38 rfl rfl rfl rfl rfl rfl rfl rfl rfl) ?_
  refine RJ.op rfl rfl (eff_assign (v := .t _) rfl rfl rfl) ?_
  refine RJ.nil ?_
  refine awj_seq ?_
  refine awj_seq ?_
  refine awj_rj rfl ?_
  refine RJ.op rfl rfl (eff_move (v := .t _) rfl rfl rfl) ?_
  refine RJ.op rfl rfl (eff_unop rfl rfl rfl rfl) ?_
  refine RJ.nil ?_
  refine awj_cond rfl (fun _ => ?_) (fun h => nomatch h)
  refine awj_seq ?_
  refine awj_rj rfl ?_
  refine RJ.op rfl rfl (eff_assign (v := .t _) rfl rfl rfl) ?_
  refine RJ.nil ?_
  refine awj_ret ?_
  exact ⟨Or.inr rfl, [_], [.t (.bool true)], ⟨.tmp rfl, trivial⟩, rfl, weak_keep ⟨rfl, rfl, rfl, rfl, trivial⟩ ⟨rfl, okE_t, trivial⟩, rfl⟩

theorem eventR1 (gg n : Nat) (hn : n ≤ 1000) (L : List Store) (hL : LInv n L) (nd f1 f2 : Int) (hnd : 0 ≤ nd ∧ nd < 256) (hf1 : 0 ≤ f1 ∧ f1 < 256) (hf2 : 0 ≤ f2 ∧ f2 < 256) (I K C : Nat) (hI : nd % 3 = (I : Int)) (hI3 : I < 3) (hK : f1 % 3 = (K : Int)) (hC : f2 % 3 = (C : Int)) (hLL : LInv n (L.set I (retry (at' L I)))) (b : Bundle) (hbb : Bytes b.data) (hbl : b.data.length ≤ 256) (ho : offer (at' (L.set I (retry (at' L I))) I) 1000 = (b, true)) (s2 : Store) (hp : pass (at' (L.set I (retry (at' L I))) I) b.id = (s2, 0)) (hL2 : LInv (n + 1) ((L.set I (retry (at' L I))).set I s2)) (hA : (accN I b K ((L.set I (retry (at' L I))).set I s2)).2 = false) : RetK Try.prog 30 [(0, some ⟨4, 58, gg, encL L⟩)] [.ptr 0 gg 0 0, .t (encF nd f1 f2 true)] [(0, some ⟨4, 58, gg, encL (accN I b K ((L.set I (retry (at' L I))).set I s2)).1⟩)] (.t (.bool true)) [(0, .ptr 0 gg 0 0)] := by
  refine retK_of_awj (kp := fun i => Nat.beq i 0) Try.func30 rfl (Nat.le_of_ble_eq_true rfl) (by simp) ?_
  intro F0 w0
  refine awj_seq ?_
  refine awj_rj rfl ?_
  refine RJ.new rfl rfl (eff_boxK (v := .t _) (k := 4) (id := 3) rfl rfl rfl rfl rfl rfl) ?_
  refine RJ.op rfl rfl (eff_assign (v := .t _) rfl rfl rfl) ?_
  refine RJ.nil ?_
  refine awj_seq ?_
  refine awj_rj rfl ?_
  refine RJ.op rfl rfl (eff_fieldAddr rfl rfl tf64_0 (by decide) rfl rfl rfl (Nat.le_of_ble_eq_true rfl)) ?_
  refine RJ.op rfl rfl (eff_load (y := .t _) rfl rfl ti5 rfl (.one rfl rfl rfl rfl)) ?_
  refine RJ.op rfl rfl (eff_convIntE (m := nd) rfl rfl (by rw [tu5]; rfl) tu3 rfl (wrap64 (by omega) (by omega))) ?_
  refine RJ.op rfl rfl (eff_remE (r := (I : Int)) rfl rfl rfl rfl (by decide) (by rw [← hI]; exact tmod_pos hnd.1)) ?_
  refine RJ.op rfl rfl (eff_assign (v := .t _) rfl rfl rfl) ?_
  refine RJ.nil ?_
  refine awj_seq ?_
  refine awj_seq ?_
  refine awj_rj rfl ?_
  refine RJ.op rfl rfl (eff_fieldAddr rfl rfl tf64_3 (by decide) rfl rfl rfl (Nat.le_of_ble_eq_true rfl)) ?_
  refine RJ.op rfl rfl (eff_load (y := .t _) rfl rfl ti4 rfl (.one rfl rfl rfl rfl)) ?_
  refine RJ.nil ?_
  refine awj_cond rfl (fun _ => ?_) (fun h => nomatch h)
  refine awj_rd [(some 24, []), (some 25, []), (some 26, []), (some 27, []), (some 28, []), (some 29, []), (some 30, []), (some 31, []), (some 32, []), (some 33, []), (none, [0])] [[], [], [], [], [2], [2, 3, 4], [2, 3, 4, 5], [2, 3, 4, 5, 6], [0], [0, 1, 2, 3, 4, 5, 6, 7, 8], [0, 1, 2, 3, 4, 5, 6, 7, 8, 9]] tm rfl rfl rfl rfl ?_
  refine RD.op rfl rfl rfl (eff_move (v := .ptr _ _ _ _) rfl rfl rfl) ?_
  refine RD.op rfl rfl rfl (eff_move (v := .t _) rfl rfl rfl) ?_
  refine RD.op rfl rfl rfl (eff_move (v := .ptr _ _ _ _) rfl rfl rfl) ?_
  refine RD.op rfl rfl rfl (eff_move (v := .t _) rfl rfl rfl) ?_
  refine RD.op rfl rfl rfl (eff_nilCheck (v := .ptr _ _ _ _) rfl rfl rfl rfl (fun _ _ _ _ e => by cases e; exact ⟨_, rfl, rfl⟩)) ?_
  refine RD.op rfl rfl rfl (eff_indexAddrP (i := I) rfl rfl tu58 ti29 rfl rfl (by first | rfl | omega) (by omega) rfl rfl rfl (alen hL.len (by omega))) ?_
  refine RD.op rfl rfl rfl (eff_load (y := .t (encS (at' L (I)))) rfl rfl ti29 rfl (.whole rfl rfl (ael hL.len (by omega)) rfl rfl rfl)) ?_
  refine RD.op rfl rfl rfl (eff_callT (retry27_ret (at' L I) ((hL.vi (I) (by omega)).sok (by omega))) co27 rfl rfl rfl rfl) ?_
  refine RD.op rfl rfl rfl (eff_nilCheck (v := .ptr _ _ _ _) rfl rfl rfl rfl (fun _ _ _ _ e => by cases e; exact ⟨_, rfl, rfl⟩)) ?_
  refine RD.op rfl rfl rfl (eff_indexAddrP (i := I) rfl rfl tu58 ti29 rfl rfl (by first | rfl | omega) (by omega) rfl rfl rfl (alen hL.len (by omega))) ?_
  refine RD.store rfl rfl rfl (eff_storeW (v := .t (encS (retry (at' L I)))) (els := encL L) (els' := encL (L.set I (retry (at' L I)))) (el := .t (encS (at' L (I)))) rfl rfl ti29 rfl rfl rfl rfl rfl rfl (ael hL.len (by omega)) rfl aset) ?_
  refine RD.nil ?_
  refine awj_seq ?_
  refine awj_rj rfl ?_
  refine RJ.op rfl rfl (eff_move (v := .ptr _ _ _ _) rfl rfl rfl) ?_
  refine RJ.op rfl rfl (eff_move (v := .t _) rfl rfl rfl) ?_
  refine RJ.op rfl rfl (eff_nilCheck (v := .ptr _ _ _ _) rfl rfl rfl rfl (fun _ _ _ _ e => by cases e; exact ⟨_, rfl, rfl⟩)) ?_
  refine RJ.op rfl rfl (eff_indexAddrP (i := I) rfl rfl tu58 ti29 rfl rfl (by first | rfl | omega) (by omega) rfl rfl rfl (alen hLL.len (by omega))) ?_
  refine RJ.op rfl rfl (eff_load (y := .t (encS (at' (L.set I (retry (at' L I))) (I)))) rfl rfl ti29 rfl (.whole rfl rfl (ael hLL.len (by omega)) rfl rfl rfl)) ?_
  refine RJ.op rfl rfl (eff_callT ((by have h := offer18_ret (at' (L.set I (retry (at' L I))) I) 1000 ((hLL.vi (I) (by omega)).sok (by omega)) (hLL.vi I (by omega)).ps; rw [ho] at h; exact h)) co18 rfl rfl rfl rfl) ?_
  refine RJ.op rfl rfl (eff_move (v := .t _) rfl rfl rfl) ?_
  refine RJ.op rfl rfl (eff_extract rfl rfl rfl rfl) ?_
  refine RJ.op rfl rfl (eff_extract rfl rfl rfl rfl) ?_
  refine RJ.new rfl rfl (eff_allocK (k := 8) (id := 6) rfl rfl tz38 rfl rfl) ?_
  refine RJ.store rfl rfl (eff_storeW (v := .t _) (els := [_]) (els' := [_]) rfl rfl ti38 rfl rfl rfl rfl rfl rfl rfl rfl rfl) ?_
  refine RJ.op rfl rfl (eff_assign (v := .t _) rfl rfl rfl) ?_
  refine RJ.nil ?_
  refine awj_seq ?_
  refine awj_seq ?_
  refine awj_rj rfl ?_
  refine RJ.op rfl rfl (eff_move (v := .t _) rfl rfl rfl) ?_
  refine RJ.op rfl rfl (eff_unop rfl rfl rfl rfl) ?_
  refine RJ.nil ?_
  refine awj_cond rfl (fun h => nomatch h) (fun _ => ?_)
  refine awj_skip ?_
  refine awj_seq ?_
  refine awj_rd [(some 46, []), (some 47, []), (some 48, []), (some 49, []), (some 50, []), (some 51, []), (some 52, []), (some 53, []), (some 45, []), (some 54, []), (some 55, []), (some 8, [8]), (none, [8]), (some 9, [])] [[], [], [0], [0, 1, 2], [0, 1, 2, 3], [], [5], [0, 1, 2, 3, 4, 5, 6], [0, 1, 2, 3, 4, 5, 6, 7], [0, 1, 2, 3, 4, 5, 6, 7, 8], [0, 1, 2, 3, 4, 5, 6, 7, 8], [], [0, 1, 2, 3, 4, 5, 6, 7, 8, 9, 11], [0, 1, 2, 3, 4, 5, 6, 7, 8, 9, 10, 11, 12]] tm rfl rfl rfl rfl ?_
  refine RD.op rfl rfl rfl (eff_move (v := .ptr _ _ _ _) rfl rfl rfl) ?_
  refine RD.op rfl rfl rfl (eff_move (v := .t _) rfl rfl rfl) ?_
  refine RD.op rfl rfl rfl (eff_nilCheck (v := .ptr _ _ _ _) rfl rfl rfl rfl (fun _ _ _ _ e => by cases e; exact ⟨_, rfl, rfl⟩)) ?_
  refine RD.op rfl rfl rfl (eff_indexAddrP (i := I) rfl rfl tu58 ti29 rfl rfl (by first | rfl | omega) (by omega) rfl rfl rfl (alen hLL.len (by omega))) ?_
  refine RD.op rfl rfl rfl (eff_load (y := .t (encS (at' (L.set I (retry (at' L I))) (I)))) rfl rfl ti29 rfl (.whole rfl rfl (ael hLL.len (by omega)) rfl rfl rfl)) ?_
  refine RD.op rfl rfl rfl (eff_fieldAddr rfl rfl tf38_0 (by decide) rfl rfl rfl (Nat.le_of_ble_eq_true rfl)) ?_
  refine RD.op rfl rfl rfl (eff_load (y := .t _) rfl rfl ti3 rfl (.one rfl rfl rfl rfl)) ?_
  refine RD.op rfl rfl rfl (eff_callT ((by have h := pass26_ret insC (at' (L.set I (retry (at' L I))) I) b.id ((hLL.vi (I) (by omega)).sok (by omega)) (hLL.vi I (by omega)).ps; rw [hp] at h; exact h)) co26 rfl rfl rfl rfl) ?_
  refine RD.op rfl rfl rfl (eff_move (v := .t _) rfl rfl rfl) ?_
  refine RD.op rfl rfl rfl (eff_extract rfl rfl rfl rfl) ?_
  refine RD.op rfl rfl rfl (eff_extract rfl rfl rfl rfl) ?_
  refine RD.new rfl rfl rfl (eff_allocK (k := 4) (id := 8) rfl rfl tz29 rfl rfl) ?_
  refine RD.store rfl rfl rfl (eff_storeW (v := .t _) (els := [_]) (els' := [_]) rfl rfl ti29 rfl rfl rfl rfl rfl rfl rfl rfl rfl) ?_
  refine RD.op rfl rfl rfl (eff_assign (v := .t _) rfl rfl rfl) ?_
  refine RD.nil ?_
  refine awj_seq ?_
  refine awj_seq ?_
  refine awj_rj rfl ?_
  refine RJ.op rfl rfl (eff_move (v := .t _) rfl rfl rfl) ?_
  refine RJ.op rfl rfl (eff_iop (r := .bool false) rfl rfl rfl rfl (by exact iop_neq_f (by rfl))) ?_
  refine RJ.nil ?_
  refine awj_cond rfl (fun h => nomatch h) (fun _ => ?_)
  refine awj_skip ?_
  refine awj_seq ?_
  refine awj_rd [(some 58, []), (some 59, []), (some 60, []), (some 61, []), (some 62, []), (none, [0])] [[], [], [], [0], [0, 1, 2, 3], [0, 1, 2, 3, 4]] tm rfl rfl rfl rfl ?_
  refine RD.op rfl rfl rfl (eff_move (v := .ptr _ _ _ _) rfl rfl rfl) ?_
  refine RD.op rfl rfl rfl (eff_move (v := .t _) rfl rfl rfl) ?_
  refine RD.op rfl rfl rfl (eff_load rfl rfl ti29 rfl (.whole rfl rfl rfl rfl rfl rfl)) ?_
  refine RD.op rfl rfl rfl (eff_nilCheck (v := .ptr _ _ _ _) rfl rfl rfl rfl (fun _ _ _ _ e => by cases e; exact ⟨_, rfl, rfl⟩)) ?_
  refine RD.op rfl rfl rfl (eff_indexAddrP (i := I) rfl rfl tu58 ti29 rfl rfl (by first | rfl | omega) (by omega) rfl rfl rfl (alen hLL.len (by omega))) ?_
  refine RD.store rfl rfl rfl (eff_storeW (v := .t (encS s2)) (els := encL (L.set I (retry (at' L I)))) (els' := encL ((L.set I (retry (at' L I))).set I s2)) (el := .t (encS (at' (L.set I (retry (at' L I))) (I)))) rfl rfl ti29 rfl rfl rfl rfl rfl rfl (ael hLL.len (by omega)) rfl aset) ?_
  refine RD.nil ?_
  refine awj_seq ?_
  refine awj_rj rfl ?_
  refine RJ.op rfl rfl (eff_assign (v := .t _) rfl rfl rfl) ?_
  refine RJ.nil ?_
  refine awj_seq ?_
  refine awj_seq ?_
  refine awj_rj rfl ?_
  refine RJ.op rfl rfl (eff_assign (v := .t _) rfl rfl rfl) ?_
  refine RJ.nil ?_
  refine awj_block ?_
  refine awj_loopW (fun m s g => ∃ (k : Nat) (M : List Store) (ac : Bool), (k ≤ K) ∧ (M = (accN I b k ((L.set I (retry (at' L I))).set I s2)).1) ∧ (ac = (accN I b k ((L.set I (retry (at' L I))).set I s2)).2) ∧ m = K - k ∧ s = ⟨134, [(0, .ptr 0 gg 0 0), (3, .ptr 3 0 0 0), (5, .t (encI (I : Nat))), (6, .ptr 6 0 0 0), (10, .t (.bool ac)), (11, .t (encI (k : Nat)))], [(0, some ⟨4, 58, gg, encL M⟩), (3, some ⟨4, 64, 0, [.t (encF nd f1 f2 true)]⟩), (6, some ⟨8, 38, 0, [.t (encB b)]⟩)]⟩) (_) (⟨_, weak_keep (n := 134) (fr' := [(0, .ptr 0 gg 0 0), (3, .ptr 3 0 0 0), (5, .t (encI (I : Nat))), (6, .ptr 6 0 0 0), (10, .t (.bool _)), (11, .t (encI (0 : Nat)))]) (st' := [(0, some ⟨4, 58, gg, encL _⟩), (3, some ⟨4, 64, 0, [.t (encF nd f1 f2 true)]⟩), (6, some ⟨8, 38, 0, [.t (encB b)]⟩)]) ⟨rfl, rfl, rfl, rfl, rfl, rfl, rfl, rfl, rfl, rfl, rfl, rfl, trivial⟩ ⟨rfl, okE_t, rfl, okE_one rfl, rfl, okE_one rfl, trivial⟩, 0, _, _, (by omega), (by rfl), (by rfl), rfl, rfl⟩) ?_
  rintro m s g ⟨k, M, ac, hk, hM, hac, rfl, rfl⟩
  have hMI : LInv (n + 1 + k) M := by rw [hM]; exact (accN_inv hI3 hbb hL2 k).1
  refine awj_seq ?_
  refine awj_seq ?_
  refine awj_rj rfl ?_
  refine RJ.op rfl rfl (eff_move (v := .t _) rfl rfl rfl) ?_
  refine RJ.op rfl rfl (eff_fieldAddr rfl rfl tf64_1 (by decide) rfl rfl rfl (Nat.le_of_ble_eq_true rfl)) ?_
  refine RJ.op rfl rfl (eff_load (y := .t _) rfl rfl ti5 rfl (.one rfl rfl rfl rfl)) ?_
  refine RJ.op rfl rfl (eff_remE (r := (K : Int)) rfl rfl rfl rfl (by decide) (by rw [← hK]; exact tmod_pos hf1.1)) ?_
  refine RJ.op rfl rfl (eff_convIntE (m := (K : Int)) rfl rfl (by rw [tu5]; rfl) tu3 rfl (wrap64 (by omega) (by omega))) ?_
  refine RJ.op rfl rfl (eff_iop rfl rfl rfl rfl rfl) ?_
  refine RJ.nil ?_
  refine awj_cond rfl (fun h1 => ?_) (fun h1 => ?_)
  · try simp only [decide_eq_true_eq, decide_eq_false_iff_not, beq_iff_eq, bne_iff_ne, bne_eq_false_iff_eq, beq_eq_false_iff_ne, Bool.not_eq_true, Bool.not_eq_false, Bool.not_eq_true', Bool.not_eq_false', ne_eq] at h1
    refine awj_skip ?_
    refine awj_seq ?_
    refine awj_block ?_
    refine awj_seq ?_
    refine awj_rd [(some 72, []), (some 73, []), (some 74, []), (some 75, []), (some 76, []), (some 77, []), (some 78, []), (some 79, []), (some 71, []), (some 80, []), (some 81, []), (some 82, []), (some 12, [12]), (none, [12]), (some 13, []), (some 14, [])] [[], [], [1], [0], [0, 1, 2, 3], [0, 1, 2, 3, 4], [], [0, 1, 2, 3, 4, 5, 6], [0, 1, 2, 3, 4, 5, 6, 7], [0, 1, 2, 3, 4, 5, 6, 7, 8], [0, 1, 2, 3, 4, 5, 6, 7, 8], [0, 1, 2, 3, 4, 5, 6, 7, 8], [], [0, 1, 2, 3, 4, 5, 6, 7, 8, 9, 12], [0, 1, 2, 3, 4, 5, 6, 7, 8, 9, 10, 12, 13], [0, 1, 2, 3, 4, 5, 6, 7, 8, 9, 10, 11, 12, 13, 14]] tm rfl rfl rfl rfl ?_
    refine RD.op rfl rfl rfl (eff_move (v := .ptr _ _ _ _) rfl rfl rfl) ?_
    refine RD.op rfl rfl rfl (eff_move (v := .t _) rfl rfl rfl) ?_
    refine RD.op rfl rfl rfl (eff_iop rfl rfl rfl rfl (iadd (by omega))) ?_
    refine RD.op rfl rfl rfl (eff_nilCheck (v := .ptr _ _ _ _) rfl rfl rfl rfl (fun _ _ _ _ e => by cases e; exact ⟨_, rfl, rfl⟩)) ?_
    refine RD.op rfl rfl rfl (eff_indexAddrP (i := I + 1) rfl rfl tu58 ti29 rfl rfl (by first | rfl | omega) (by omega) rfl rfl rfl (alen hMI.len (by omega))) ?_
    refine RD.op rfl rfl rfl (eff_load (y := .t (encS (at' M (I + 1)))) rfl rfl ti29 rfl (.whole rfl rfl (ael hMI.len (by omega)) rfl rfl rfl)) ?_
    refine RD.op rfl rfl rfl (eff_load rfl rfl ti38 rfl (.whole rfl rfl rfl rfl rfl rfl)) ?_
    refine RD.op rfl rfl rfl (eff_callT (accept23_ret insC (at' M (I + 1)) b ((hMI.vi (I + 1) (by omega)).sok (by omega)) (by unfold BOK; omega) (hMI.vi (I + 1) (by omega)).ss) co23 rfl rfl rfl rfl) ?_
    refine RD.op rfl rfl rfl (eff_move (v := .t _) rfl rfl rfl) ?_
    refine RD.op rfl rfl rfl (eff_extract rfl rfl rfl rfl) ?_
    refine RD.op rfl rfl rfl (eff_extract rfl rfl rfl rfl) ?_
    refine RD.op rfl rfl rfl (eff_extract rfl rfl rfl rfl) ?_
    refine RD.new rfl rfl rfl (eff_allocK (k := 4) (id := 12) rfl rfl tz29 rfl rfl) ?_
    refine RD.store rfl rfl rfl (eff_storeW (v := .t _) (els := [_]) (els' := [_]) rfl rfl ti29 rfl rfl rfl rfl rfl rfl rfl rfl rfl) ?_
    refine RD.op rfl rfl rfl (eff_assign (v := .t _) rfl rfl rfl) ?_
    refine RD.op rfl rfl rfl (eff_assign (v := .t _) rfl rfl rfl) ?_
    refine RD.nil ?_
    refine awj_seq ?_
    refine awj_seq ?_
    refine awj_rj rfl ?_
    refine RJ.op rfl rfl (eff_move (v := .t _) rfl rfl rfl) ?_
    refine RJ.op rfl rfl (eff_iop rfl rfl rfl rfl rfl) ?_
    refine RJ.nil ?_
    refine awj_cond rfl (fun h2 => ?_) (fun h2 => ?_)
    · try simp only [decide_eq_true_eq, decide_eq_false_iff_not, beq_iff_eq, bne_iff_ne, bne_eq_false_iff_eq, beq_eq_false_iff_ne, Bool.not_eq_true, Bool.not_eq_false, Bool.not_eq_true', Bool.not_eq_false', ne_eq] at h2
      refine awj_rd [(some 85, []), (some 86, []), (some 87, []), (some 88, []), (some 89, []), (some 90, []), (none, [0])] [[], [], [1], [], [0], [0, 1, 2, 3, 4], [0, 1, 2, 3, 4, 5]] tm rfl rfl rfl rfl ?_
      refine RD.op rfl rfl rfl (eff_move (v := .ptr _ _ _ _) rfl rfl rfl) ?_
      refine RD.op rfl rfl rfl (eff_move (v := .t _) rfl rfl rfl) ?_
      refine RD.op rfl rfl rfl (eff_iop rfl rfl rfl rfl (iadd (by omega))) ?_
      refine RD.op rfl rfl rfl (eff_load rfl rfl ti29 rfl (.whole rfl rfl rfl rfl rfl rfl)) ?_
      refine RD.op rfl rfl rfl (eff_nilCheck (v := .ptr _ _ _ _) rfl rfl rfl rfl (fun _ _ _ _ e => by cases e; exact ⟨_, rfl, rfl⟩)) ?_
      refine RD.op rfl rfl rfl (eff_indexAddrP (i := I + 1) rfl rfl tu58 ti29 rfl rfl (by first | rfl | omega) (by omega) rfl rfl rfl (alen hMI.len (by omega))) ?_
      refine RD.store rfl rfl rfl (eff_storeW (v := .t (encS (accept (at' M (I + 1)) b).1)) (els := encL M) (els' := encL (M.set (I + 1) (accept (at' M (I + 1)) b).1)) (el := .t (encS (at' M (I + 1)))) rfl rfl ti29 rfl rfl rfl rfl rfl rfl (ael hMI.len (by omega)) rfl aset) ?_
      refine RD.nil ?_
      refine awj_rj rfl ?_
      refine RJ.op rfl rfl (eff_move (v := .t _) rfl rfl rfl) ?_
      refine RJ.op rfl rfl (eff_move (v := .t _) rfl rfl rfl) ?_
      refine RJ.split 92 rfl (fun h3 => ?_) (fun h3 => ?_)
      · try simp only [decide_eq_true_eq, decide_eq_false_iff_not, beq_iff_eq, bne_iff_ne, bne_eq_false_iff_eq, beq_eq_false_iff_ne, Bool.not_eq_true, Bool.not_eq_false, Bool.not_eq_true', Bool.not_eq_false', ne_eq] at h3
        refine RJ.gskip rfl rfl rfl rfl rfl (by decide) ?_
        refine RJ.op rfl rfl (eff_pick (v := .t _) rfl rfl rfl rfl) ?_
        refine RJ.op rfl rfl (eff_assign (v := .t _) rfl rfl rfl) ?_
        refine RJ.nil ?_
        refine awj_rj rfl ?_
        refine RJ.op rfl rfl (eff_move (v := .t _) rfl rfl rfl) ?_
        refine RJ.op rfl rfl (eff_iop rfl rfl rfl rfl (iadd (by omega))) ?_
        refine RJ.op rfl rfl (eff_assign (v := .t _) rfl rfl rfl) ?_
        refine RJ.nil ?_
        refine ⟨_, ?_, _, weak_keep (n := 134) (fr' := [(0, .ptr 0 gg 0 0), (3, .ptr 3 0 0 0), (5, .t (encI (I : Nat))), (6, .ptr 6 0 0 0), (10, .t (.bool _)), (11, .t (encI ((k + 1) : Nat)))]) (st' := [(0, some ⟨4, 58, gg, encL _⟩), (3, some ⟨4, 64, 0, [.t (encF nd f1 f2 true)]⟩), (6, some ⟨8, 38, 0, [.t (encB b)]⟩)]) ⟨rfl, rfl, rfl, rfl, rfl, rfl, rfl, rfl, rfl, rfl, rfl, rfl, trivial⟩ ⟨rfl, okE_t, rfl, okE_one rfl, rfl, okE_one rfl, trivial⟩, k + 1, _, _, (by omega), (by show _ = (if _ then _ else _); rw [← hM]; first | rw [if_pos (by assumption)] | rw [if_neg (by assumption)]), (by show _ = ((accN I b k ((L.set I (retry (at' L I))).set I s2)).2 || _); rw [← hac, ← hM]; first | (rw [(by assumption : ac = true)]; rfl) | (rw [(by assumption : ac = false)]; rfl)), rfl, rfl⟩
        omega
      · try simp only [decide_eq_true_eq, decide_eq_false_iff_not, beq_iff_eq, bne_iff_ne, bne_eq_false_iff_eq, beq_eq_false_iff_ne, Bool.not_eq_true, Bool.not_eq_false, Bool.not_eq_true', Bool.not_eq_false', ne_eq] at h3
        refine RJ.gop rfl rfl rfl rfl rfl rfl (eff_move (v := .t _) rfl rfl rfl) ?_
        refine RJ.op rfl rfl (eff_pick (v := .t _) rfl rfl rfl rfl) ?_
        refine RJ.op rfl rfl (eff_assign (v := .t _) rfl rfl rfl) ?_
        refine RJ.nil ?_
        refine awj_rj rfl ?_
        refine RJ.op rfl rfl (eff_move (v := .t _) rfl rfl rfl) ?_
        refine RJ.op rfl rfl (eff_iop rfl rfl rfl rfl (iadd (by omega))) ?_
        refine RJ.op rfl rfl (eff_assign (v := .t _) rfl rfl rfl) ?_
        refine RJ.nil ?_
        refine ⟨_, ?_, _, weak_keep (n := 134) (fr' := [(0, .ptr 0 gg 0 0), (3, .ptr 3 0 0 0), (5, .t (encI (I : Nat))), (6, .ptr 6 0 0 0), (10, .t (.bool _)), (11, .t (encI ((k + 1) : Nat)))]) (st' := [(0, some ⟨4, 58, gg, encL _⟩), (3, some ⟨4, 64, 0, [.t (encF nd f1 f2 true)]⟩), (6, some ⟨8, 38, 0, [.t (encB b)]⟩)]) ⟨rfl, rfl, rfl, rfl, rfl, rfl, rfl, rfl, rfl, rfl, rfl, rfl, trivial⟩ ⟨rfl, okE_t, rfl, okE_one rfl, rfl, okE_one rfl, trivial⟩, k + 1, _, _, (by omega), (by show _ = (if _ then _ else _); rw [← hM]; first | rw [if_pos (by assumption)] | rw [if_neg (by assumption)]), (by show _ = ((accN I b k ((L.set I (retry (at' L I))).set I s2)).2 || _); rw [← hac, ← hM]; first | (rw [(by assumption : ac = true)]; rfl) | (rw [(by assumption : ac = false)]; rfl)), rfl, rfl⟩
        omega
    · try simp only [decide_eq_true_eq, decide_eq_false_iff_not, beq_iff_eq, bne_iff_ne, bne_eq_false_iff_eq, beq_eq_false_iff_ne, Bool.not_eq_true, Bool.not_eq_false, Bool.not_eq_true', Bool.not_eq_false', ne_eq] at h2
      refine awj_skip ?_
      refine awj_rj rfl ?_
      refine RJ.op rfl rfl (eff_move (v := .t _) rfl rfl rfl) ?_
      refine RJ.op rfl rfl (eff_move (v := .t _) rfl rfl rfl) ?_
      refine RJ.split 92 rfl (fun h4 => ?_) (fun h4 => ?_)
      · try simp only [decide_eq_true_eq, decide_eq_false_iff_not, beq_iff_eq, bne_iff_ne, bne_eq_false_iff_eq, beq_eq_false_iff_ne, Bool.not_eq_true, Bool.not_eq_false, Bool.not_eq_true', Bool.not_eq_false', ne_eq] at h4
        refine RJ.gskip rfl rfl rfl rfl rfl (by decide) ?_
        refine RJ.op rfl rfl (eff_pick (v := .t _) rfl rfl rfl rfl) ?_
        refine RJ.op rfl rfl (eff_assign (v := .t _) rfl rfl rfl) ?_
        refine RJ.nil ?_
        refine awj_rj rfl ?_
        refine RJ.op rfl rfl (eff_move (v := .t _) rfl rfl rfl) ?_
        refine RJ.op rfl rfl (eff_iop rfl rfl rfl rfl (iadd (by omega))) ?_
        refine RJ.op rfl rfl (eff_assign (v := .t _) rfl rfl rfl) ?_
        refine RJ.nil ?_
        refine ⟨_, ?_, _, weak_keep (n := 134) (fr' := [(0, .ptr 0 gg 0 0), (3, .ptr 3 0 0 0), (5, .t (encI (I : Nat))), (6, .ptr 6 0 0 0), (10, .t (.bool _)), (11, .t (encI ((k + 1) : Nat)))]) (st' := [(0, some ⟨4, 58, gg, encL _⟩), (3, some ⟨4, 64, 0, [.t (encF nd f1 f2 true)]⟩), (6, some ⟨8, 38, 0, [.t (encB b)]⟩)]) ⟨rfl, rfl, rfl, rfl, rfl, rfl, rfl, rfl, rfl, rfl, rfl, rfl, trivial⟩ ⟨rfl, okE_t, rfl, okE_one rfl, rfl, okE_one rfl, trivial⟩, k + 1, _, _, (by omega), (by show _ = (if _ then _ else _); rw [← hM]; first | rw [if_pos (by assumption)] | rw [if_neg (by assumption)]), (by show _ = ((accN I b k ((L.set I (retry (at' L I))).set I s2)).2 || _); rw [← hac, ← hM]; first | (rw [(by assumption : ac = true)]; rfl) | (rw [(by assumption : ac = false)]; rfl)), rfl, rfl⟩
        omega
      · try simp only [decide_eq_true_eq, decide_eq_false_iff_not, beq_iff_eq, bne_iff_ne, bne_eq_false_iff_eq, beq_eq_false_iff_ne, Bool.not_eq_true, Bool.not_eq_false, Bool.not_eq_true', Bool.not_eq_false', ne_eq] at h4
        refine RJ.gop rfl rfl rfl rfl rfl rfl (eff_move (v := .t _) rfl rfl rfl) ?_
        refine RJ.op rfl rfl (eff_pick (v := .t _) rfl rfl rfl rfl) ?_
        refine RJ.op rfl rfl (eff_assign (v := .t _) rfl rfl rfl) ?_
        refine RJ.nil ?_
        refine awj_rj rfl ?_
        refine RJ.op rfl rfl (eff_move (v := .t _) rfl rfl rfl) ?_
        refine RJ.op rfl rfl (eff_iop rfl rfl rfl rfl (iadd (by omega))) ?_
        refine RJ.op rfl rfl (eff_assign (v := .t _) rfl rfl rfl) ?_
        refine RJ.nil ?_
        refine ⟨_, ?_, _, weak_keep (n := 134) (fr' := [(0, .ptr 0 gg 0 0), (3, .ptr 3 0 0 0), (5, .t (encI (I : Nat))), (6, .ptr 6 0 0 0), (10, .t (.bool _)), (11, .t (encI ((k + 1) : Nat)))]) (st' := [(0, some ⟨4, 58, gg, encL _⟩), (3, some ⟨4, 64, 0, [.t (encF nd f1 f2 true)]⟩), (6, some ⟨8, 38, 0, [.t (encB b)]⟩)]) ⟨rfl, rfl, rfl, rfl, rfl, rfl, rfl, rfl, rfl, rfl, rfl, rfl, trivial⟩ ⟨rfl, okE_t, rfl, okE_one rfl, rfl, okE_one rfl, trivial⟩, k + 1, _, _, (by omega), (by show _ = (if _ then _ else _); rw [← hM]; first | rw [if_pos (by assumption)] | rw [if_neg (by assumption)]), (by show _ = ((accN I b k ((L.set I (retry (at' L I))).set I s2)).2 || _); rw [← hac, ← hM]; first | (rw [(by assumption : ac = true)]; rfl) | (rw [(by assumption : ac = false)]; rfl)), rfl, rfl⟩
        omega
  · try simp only [decide_eq_true_eq, decide_eq_false_iff_not, beq_iff_eq, bne_iff_ne, bne_eq_false_iff_eq, beq_eq_false_iff_ne, Bool.not_eq_true, Bool.not_eq_false, Bool.not_eq_true', Bool.not_eq_false', ne_eq] at h1
    refine awj_exit ?_
    refine awj_seq ?_
    refine awj_seq ?_
    refine awj_rj rfl ?_
    have hk2 : K = k := by omega
    subst hk2
    rw [hA] at hac
    subst hac
    subst hM
    refine RJ.op rfl rfl (eff_assign (v := .t _) rfl rfl rfl) ?_
    refine RJ.nil ?_
    refine awj_block ?_
    refine awj_loopW (fun m s g => ∃ (c : Nat), (c = 0) ∧ m = C - c ∧ s = ⟨134, [(0, .ptr 0 gg 0 0), (3, .ptr 3 0 0 0), (5, .t (encI (I : Nat))), (6, .ptr 6 0 0 0), (10, .t (.bool false)), (15, .t (encI (c : Nat)))], [(0, some ⟨4, 58, gg, encL (accN I b K ((L.set I (retry (at' L I))).set I s2)).1⟩), (3, some ⟨4, 64, 0, [.t (encF nd f1 f2 true)]⟩), (6, some ⟨8, 38, 0, [.t (encB b)]⟩)]⟩) (_) (⟨_, weak_keep (n := 134) (fr' := [(0, .ptr 0 gg 0 0), (3, .ptr 3 0 0 0), (5, .t (encI (I : Nat))), (6, .ptr 6 0 0 0), (10, .t (.bool false)), (15, .t (encI (0 : Nat)))]) (st' := [(0, some ⟨4, 58, gg, encL (accN I b K ((L.set I (retry (at' L I))).set I s2)).1⟩), (3, some ⟨4, 64, 0, [.t (encF nd f1 f2 true)]⟩), (6, some ⟨8, 38, 0, [.t (encB b)]⟩)]) ⟨rfl, rfl, rfl, rfl, rfl, rfl, rfl, rfl, rfl, rfl, rfl, rfl, trivial⟩ ⟨rfl, okE_t, rfl, okE_one rfl, rfl, okE_one rfl, trivial⟩, 0, (by rfl), rfl, rfl⟩) ?_
    rintro m s g ⟨c, hc, rfl, rfl⟩
    refine awj_seq ?_
    refine awj_seq ?_
    refine awj_rj rfl ?_
    refine RJ.op rfl rfl (eff_move (v := .t _) rfl rfl rfl) ?_
    refine RJ.op rfl rfl (eff_fieldAddr rfl rfl tf64_2 (by decide) rfl rfl rfl (Nat.le_of_ble_eq_true rfl)) ?_
    refine RJ.op rfl rfl (eff_load (y := .t _) rfl rfl ti5 rfl (.one rfl rfl rfl rfl)) ?_
    refine RJ.op rfl rfl (eff_remE (r := (C : Int)) rfl rfl rfl rfl (by decide) (by rw [← hC]; exact tmod_pos hf2.1)) ?_
    refine RJ.op rfl rfl (eff_convIntE (m := (C : Int)) rfl rfl (by rw [tu5]; rfl) tu3 rfl (wrap64 (by omega) (by omega))) ?_
    refine RJ.op rfl rfl (eff_iop rfl rfl rfl rfl rfl) ?_
    refine RJ.op rfl rfl (eff_move (v := .t _) rfl rfl rfl) ?_
    refine RJ.split 101 rfl (fun h5 => ?_) (fun h5 => ?_)
    · try simp only [decide_eq_true_eq, decide_eq_false_iff_not, beq_iff_eq, bne_iff_ne, bne_eq_false_iff_eq, beq_eq_false_iff_ne, Bool.not_eq_true, Bool.not_eq_false, Bool.not_eq_true', Bool.not_eq_false', ne_eq] at h5
      refine RJ.gop rfl rfl rfl rfl rfl rfl (eff_move (v := .t _) rfl rfl rfl) ?_
      refine RJ.op rfl rfl (eff_pick (v := .t _) rfl rfl rfl rfl) ?_
      refine RJ.nil ?_
      refine awj_cond rfl (fun h => nomatch h) (fun _ => ?_)
      refine awj_exit ?_
      refine awj_seq ?_
      refine awj_rj rfl ?_
      refine RJ.op rfl rfl (eff_assign (v := .t _) rfl rfl rfl) ?_
      refine RJ.nil ?_
      refine awj_ret ?_
      exact ⟨Or.inr rfl, [_], [.t (.bool true)], ⟨.tmp rfl, trivial⟩, rfl, weak_keep ⟨rfl, rfl, rfl, rfl, trivial⟩ ⟨rfl, okE_t, trivial⟩, rfl⟩
    · try simp only [decide_eq_true_eq, decide_eq_false_iff_not, beq_iff_eq, bne_iff_ne, bne_eq_false_iff_eq, beq_eq_false_iff_ne, Bool.not_eq_true, Bool.not_eq_false, Bool.not_eq_true', Bool.not_eq_false', ne_eq] at h5
      refine RJ.gskip rfl rfl rfl rfl rfl (by decide) ?_
      refine RJ.op rfl rfl (eff_pick (v := .t _) rfl rfl rfl rfl) ?_
      refine RJ.nil ?_
      refine awj_cond rfl (fun h => nomatch h) (fun _ => ?_)
      refine awj_exit ?_
      refine awj_seq ?_
      refine awj_rj rfl ?_
      refine RJ.op rfl rfl (eff_assign (v := .t _) rfl rfl rfl) ?_
      refine RJ.nil ?_
      refine awj_ret ?_
      exact ⟨Or.inr rfl, [_], [.t (.bool true)], ⟨.tmp rfl, trivial⟩, rfl, weak_keep ⟨rfl, rfl, rfl, rfl, trivial⟩ ⟨rfl, okE_t, trivial⟩, rfl⟩

theorem eventR2 (gg n : Nat) (hn : n ≤ 1000) (L : List Store) (hL : LInv n L) (nd f1 f2 : Int) (hnd : 0 ≤ nd ∧ nd < 256) (hf1 : 0 ≤ f1 ∧ f1 < 256) (hf2 : 0 ≤ f2 ∧ f2 < 256) (I K C : Nat) (hI : nd % 3 = (I : Int)) (hI3 : I < 3) (hK : f1 % 3 = (K : Int)) (hC : f2 % 3 = (C : Int)) (hLL : LInv n (L.set I (retry (at' L I)))) (b : Bundle) (hbb : Bytes b.data) (hbl : b.data.length ≤ 256) (ho : offer (at' (L.set I (retry (at' L I))) I) 1000 = (b, true)) (s2 : Store) (hp : pass (at' (L.set I (retry (at' L I))) I) b.id = (s2, 0)) (hL2 : LInv (n + 1) ((L.set I (retry (at' L I))).set I s2)) (hA : (accN I b K ((L.set I (retry (at' L I))).set I s2)).2 = true) (hcf : ∀ c N, N = (cfN I b.id c (accN I b K ((L.set I (retry (at' L I))).set I s2)).1) → LInv (n + 1 + K) N ∧ ((confirm (at' N I) b.id).2 = 0 ∨ ((confirm (at' N I) b.id).2 = 3 ∧ c ≠ 0))) : RetK Try.prog 30 [(0, some ⟨4, 58, gg, encL L⟩)] [.ptr 0 gg 0 0, .t (encF nd f1 f2 true)] [(0, some ⟨4, 58, gg, encL (cfN I b.id C (accN I b K ((L.set I (retry (at' L I))).set I s2)).1)⟩)] (.t (.bool true)) [(0, .ptr 0 gg 0 0)] := by
  refine retK_of_awj (kp := fun i => Nat.beq i 0) Try.func30 rfl (Nat.le_of_ble_eq_true rfl) (by simp) ?_
  intro F0 w0
  refine awj_seq ?_
  refine awj_rj rfl ?_
  refine RJ.new rfl rfl (eff_boxK (v := .t _) (k := 4) (id := 3) rfl rfl rfl rfl rfl rfl) ?_
  refine RJ.op rfl rfl (eff_assign (v := .t _) rfl rfl rfl) ?_
  refine RJ.nil ?_
  refine awj_seq ?_
  refine awj_rj rfl ?_
  refine RJ.op rfl rfl (eff_fieldAddr rfl rfl tf64_0 (by decide) rfl rfl rfl (Nat.le_of_ble_eq_true rfl)) ?_
  refine RJ.op rfl rfl (eff_load (y := .t _) rfl rfl ti5 rfl (.one rfl rfl rfl rfl)) ?_
  refine RJ.op rfl rfl (eff_convIntE (m := nd) rfl rfl (by rw [tu5]; rfl) tu3 rfl (wrap64 (by omega) (by omega))) ?_
  refine RJ.op rfl rfl (eff_remE (r := (I : Int)) rfl rfl rfl rfl (by decide) (by rw [← hI]; exact tmod_pos hnd.1)) ?_
  refine RJ.op rfl rfl (eff_assign (v := .t _) rfl rfl rfl) ?_
  refine RJ.nil ?_
  refine awj_seq ?_
  refine awj_seq ?_
  refine awj_rj rfl ?_
  refine RJ.op rfl rfl (eff_fieldAddr rfl rfl tf64_3 (by decide) rfl rfl rfl (Nat.le_of_ble_eq_true rfl)) ?_
  refine RJ.op rfl rfl (eff_load (y := .t _) rfl rfl ti4 rfl (.one rfl rfl rfl rfl)) ?_
  refine RJ.nil ?_
  refine awj_cond rfl (fun _ => ?_) (fun h => nomatch h)
  refine awj_rd [(some 24, []), (some 25, []), (some 26, []), (some 27, []), (some 28, []), (some 29, []), (some 30, []), (some 31, []), (some 32, []), (some 33, []), (none, [0])] [[], [], [], [], [2], [2, 3, 4], [2, 3, 4, 5], [2, 3, 4, 5, 6], [0], [0, 1, 2, 3, 4, 5, 6, 7, 8], [0, 1, 2, 3, 4, 5, 6, 7, 8, 9]] tm rfl rfl rfl rfl ?_
  refine RD.op rfl rfl rfl (eff_move (v := .ptr _ _ _ _) rfl rfl rfl) ?_
  refine RD.op rfl rfl rfl (eff_move (v := .t _) rfl rfl rfl) ?_
  refine RD.op rfl rfl rfl (eff_move (v := .ptr _ _ _ _) rfl rfl rfl) ?_
  refine RD.op rfl rfl rfl (eff_move (v := .t _) rfl rfl rfl) ?_
  refine RD.op rfl rfl rfl (eff_nilCheck (v := .ptr _ _ _ _) rfl rfl rfl rfl (fun _ _ _ _ e => by cases e; exact ⟨_, rfl, rfl⟩)) ?_
  refine RD.op rfl rfl rfl (eff_indexAddrP (i := I) rfl rfl tu58 ti29 rfl rfl (by first | rfl | omega) (by omega) rfl rfl rfl (alen hL.len (by omega))) ?_
  refine RD.op rfl rfl rfl (eff_load (y := .t (encS (at' L (I)))) rfl rfl ti29 rfl (.whole rfl rfl (ael hL.len (by omega)) rfl rfl rfl)) ?_
  refine RD.op rfl rfl rfl (eff_callT (retry27_ret (at' L I) ((hL.vi (I) (by omega)).sok (by omega))) co27 rfl rfl rfl rfl) ?_
  refine RD.op rfl rfl rfl (eff_nilCheck (v := .ptr _ _ _ _) rfl rfl rfl rfl (fun _ _ _ _ e => by cases e; exact ⟨_, rfl, rfl⟩)) ?_
  refine RD.op rfl rfl rfl (eff_indexAddrP (i := I) rfl rfl tu58 ti29 rfl rfl (by first | rfl | omega) (by omega) rfl rfl rfl (alen hL.len (by omega))) ?_
  refine RD.store rfl rfl rfl (eff_storeW (v := .t (encS (retry (at' L I)))) (els := encL L) (els' := encL (L.set I (retry (at' L I)))) (el := .t (encS (at' L (I)))) rfl rfl ti29 rfl rfl rfl rfl rfl rfl (ael hL.len (by omega)) rfl aset) ?_
  refine RD.nil ?_
  refine awj_seq ?_
  refine awj_rj rfl ?_
  refine RJ.op rfl rfl (eff_move (v := .ptr _ _ _ _) rfl rfl rfl) ?_
  refine RJ.op rfl rfl (eff_move (v := .t _) rfl rfl rfl) ?_
  refine RJ.op rfl rfl (eff_nilCheck (v := .ptr _ _ _ _) rfl rfl rfl rfl (fun _ _ _ _ e => by cases e; exact ⟨_, rfl, rfl⟩)) ?_
  refine RJ.op rfl rfl (eff_indexAddrP (i := I) rfl rfl tu58 ti29 rfl rfl (by first | rfl | omega) (by omega) rfl rfl rfl (alen hLL.len (by omega))) ?_
  refine RJ.op rfl rfl (eff_load (y := .t (encS (at' (L.set I (retry (at' L I))) (I)))) rfl rfl ti29 rfl (.whole rfl rfl (ael hLL.len (by omega)) rfl rfl rfl)) ?_
  refine RJ.op rfl rfl (eff_callT ((by have h := offer18_ret (at' (L.set I (retry (at' L I))) I) 1000 ((hLL.vi (I) (by omega)).sok (by omega)) (hLL.vi I (by omega)).ps; rw [ho] at h; exact h)) co18 rfl rfl rfl rfl) ?_
  refine RJ.op rfl rfl (eff_move (v := .t _) rfl rfl rfl) ?_
  refine RJ.op rfl rfl (eff_extract rfl rfl rfl rfl) ?_
  refine RJ.op rfl rfl (eff_extract rfl rfl rfl rfl) ?_
  refine RJ.new rfl rfl (eff_allocK (k := 8) (id := 6) rfl rfl tz38 rfl rfl) ?_
  refine RJ.store rfl rfl (eff_storeW (v := .t _) (els := [_]) (els' := [_]) rfl rfl ti38 rfl rfl rfl rfl rfl rfl rfl rfl rfl) ?_
  refine RJ.op rfl rfl (eff_assign (v := .t _) rfl rfl rfl) ?_
  refine RJ.nil ?_
  refine awj_seq ?_
  refine awj_seq ?_
  refine awj_rj rfl ?_
  refine RJ.op rfl rfl (eff_move (v := .t _) rfl rfl rfl) ?_
  refine RJ.op rfl rfl (eff_unop rfl rfl rfl rfl) ?_
  refine RJ.nil ?_
  refine awj_cond rfl (fun h => nomatch h) (fun _ => ?_)
  refine awj_skip ?_
  refine awj_seq ?_
  refine awj_rd [(some 46, []), (some 47, []), (some 48, []), (some 49, []), (some 50, []), (some 51, []), (some 52, []), (some 53, []), (some 45, []), (some 54, []), (some 55, []), (some 8, [8]), (none, [8]), (some 9, [])] [[], [], [0], [0, 1, 2], [0, 1, 2, 3], [], [5], [0, 1, 2, 3, 4, 5, 6], [0, 1, 2, 3, 4, 5, 6, 7], [0, 1, 2, 3, 4, 5, 6, 7, 8], [0, 1, 2, 3, 4, 5, 6, 7, 8], [], [0, 1, 2, 3, 4, 5, 6, 7, 8, 9, 11], [0, 1, 2, 3, 4, 5, 6, 7, 8, 9, 10, 11, 12]] tm rfl rfl rfl rfl ?_
  refine RD.op rfl rfl rfl (eff_move (v := .ptr _ _ _ _) rfl rfl rfl) ?_
  refine RD.op rfl rfl rfl (eff_move (v := .t _) rfl rfl rfl) ?_
  refine RD.op rfl rfl rfl (eff_nilCheck (v := .ptr _ _ _ _) rfl rfl rfl rfl (fun _ _ _ _ e => by cases e; exact ⟨_, rfl, rfl⟩)) ?_
  refine RD.op rfl rfl rfl (eff_indexAddrP (i := I) rfl rfl tu58 ti29 rfl rfl (by first | rfl | omega) (by omega) rfl rfl rfl (alen hLL.len (by omega))) ?_
  refine RD.op rfl rfl rfl (eff_load (y := .t (encS (at' (L.set I (retry (at' L I))) (I)))) rfl rfl ti29 rfl (.whole rfl rfl (ael hLL.len (by omega)) rfl rfl rfl)) ?_
  refine RD.op rfl rfl rfl (eff_fieldAddr rfl rfl tf38_0 (by decide) rfl rfl rfl (Nat.le_of_ble_eq_true rfl)) ?_
  refine RD.op rfl rfl rfl (eff_load (y := .t _) rfl rfl ti3 rfl (.one rfl rfl rfl rfl)) ?_
  refine RD.op rfl rfl rfl (eff_callT ((by have h := pass26_ret insC (at' (L.set I (retry (at' L I))) I) b.id ((hLL.vi (I) (by omega)).sok (by omega)) (hLL.vi I (by omega)).ps; rw [hp] at h; exact h)) co26 rfl rfl rfl rfl) ?_
  refine RD.op rfl rfl rfl (eff_move (v := .t _) rfl rfl rfl) ?_
  refine RD.op rfl rfl rfl (eff_extract rfl rfl rfl rfl) ?_
  refine RD.op rfl rfl rfl (eff_extract rfl rfl rfl rfl) ?_
  refine RD.new rfl rfl rfl (eff_allocK (k := 4) (id := 8) rfl rfl tz29 rfl rfl) ?_
  refine RD.store rfl rfl rfl (eff_storeW (v := .t _) (els := [_]) (els' := [_]) rfl rfl ti29 rfl rfl rfl rfl rfl rfl rfl rfl rfl) ?_
  refine RD.op rfl rfl rfl (eff_assign (v := .t _) rfl rfl rfl) ?_
  refine RD.nil ?_
  refine awj_seq ?_
  refine awj_seq ?_
  refine awj_rj rfl ?_
  refine RJ.op rfl rfl (eff_move (v := .t _) rfl rfl rfl) ?_
  refine RJ.op rfl rfl (eff_iop (r := .bool false) rfl rfl rfl rfl (by exact iop_neq_f (by rfl))) ?_
  refine RJ.nil ?_
  refine awj_cond rfl (fun h => nomatch h) (fun _ => ?_)
  refine awj_skip ?_
  refine awj_seq ?_
  refine awj_rd [(some 58, []), (some 59, []), (some 60, []), (some 61, []), (some 62, []), (none, [0])] [[], [], [], [0], [0, 1, 2, 3], [0, 1, 2, 3, 4]] tm rfl rfl rfl rfl ?_
  refine RD.op rfl rfl rfl (eff_move (v := .ptr _ _ _ _) rfl rfl rfl) ?_
  refine RD.op rfl rfl rfl (eff_move (v := .t _) rfl rfl rfl) ?_
  refine RD.op rfl rfl rfl (eff_load rfl rfl ti29 rfl (.whole rfl rfl rfl rfl rfl rfl)) ?_
  refine RD.op rfl rfl rfl (eff_nilCheck (v := .ptr _ _ _ _) rfl rfl rfl rfl (fun _ _ _ _ e => by cases e; exact ⟨_, rfl, rfl⟩)) ?_
  refine RD.op rfl rfl rfl (eff_indexAddrP (i := I) rfl rfl tu58 ti29 rfl rfl (by first | rfl | omega) (by omega) rfl rfl rfl (alen hLL.len (by omega))) ?_
  refine RD.store rfl rfl rfl (eff_storeW (v := .t (encS s2)) (els := encL (L.set I (retry (at' L I)))) (els' := encL ((L.set I (retry (at' L I))).set I s2)) (el := .t (encS (at' (L.set I (retry (at' L I))) (I)))) rfl rfl ti29 rfl rfl rfl rfl rfl rfl (ael hLL.len (by omega)) rfl aset) ?_
  refine RD.nil ?_
  refine awj_seq ?_
  refine awj_rj rfl ?_
  refine RJ.op rfl rfl (eff_assign (v := .t _) rfl rfl rfl) ?_
  refine RJ.nil ?_
  refine awj_seq ?_
  refine awj_seq ?_
  refine awj_rj rfl ?_
  refine RJ.op rfl rfl (eff_assign (v := .t _) rfl rfl rfl) ?_
  refine RJ.nil ?_
  refine awj_block ?_
  refine awj_loopW (fun m s g => ∃ (k : Nat) (M : List Store) (ac : Bool), (k ≤ K) ∧ (M = (accN I b k ((L.set I (retry (at' L I))).set I s2)).1) ∧ (ac = (accN I b k ((L.set I (retry (at' L I))).set I s2)).2) ∧ m = K - k ∧ s = ⟨134, [(0, .ptr 0 gg 0 0), (3, .ptr 3 0 0 0), (5, .t (encI (I : Nat))), (6, .ptr 6 0 0 0), (10, .t (.bool ac)), (11, .t (encI (k : Nat)))], [(0, some ⟨4, 58, gg, encL M⟩), (3, some ⟨4, 64, 0, [.t (encF nd f1 f2 true)]⟩), (6, some ⟨8, 38, 0, [.t (encB b)]⟩)]⟩) (_) (⟨_, weak_keep (n := 134) (fr' := [(0, .ptr 0 gg 0 0), (3, .ptr 3 0 0 0), (5, .t (encI (I : Nat))), (6, .ptr 6 0 0 0), (10, .t (.bool _)), (11, .t (encI (0 : Nat)))]) (st' := [(0, some ⟨4, 58, gg, encL _⟩), (3, some ⟨4, 64, 0, [.t (encF nd f1 f2 true)]⟩), (6, some ⟨8, 38, 0, [.t (encB b)]⟩)]) ⟨rfl, rfl, rfl, rfl, rfl, rfl, rfl, rfl, rfl, rfl, rfl, rfl, trivial⟩ ⟨rfl, okE_t, rfl, okE_one rfl, rfl, okE_one rfl, trivial⟩, 0, _, _, (by omega), (by rfl), (by rfl), rfl, rfl⟩) ?_
  rintro m s g ⟨k, M, ac, hk, hM, hac, rfl, rfl⟩
  have hMI : LInv (n + 1 + k) M := by rw [hM]; exact (accN_inv hI3 hbb hL2 k).1
  refine awj_seq ?_
  refine awj_seq ?_
  refine awj_rj rfl ?_
  refine RJ.op rfl rfl (eff_move (v := .t _) rfl rfl rfl) ?_
  refine RJ.op rfl rfl (eff_fieldAddr rfl rfl tf64_1 (by decide) rfl rfl rfl (Nat.le_of_ble_eq_true rfl)) ?_
  refine RJ.op rfl rfl (eff_load (y := .t _) rfl rfl ti5 rfl (.one rfl rfl rfl rfl)) ?_
  refine RJ.op rfl rfl (eff_remE (r := (K : Int)) rfl rfl rfl rfl (by decide) (by rw [← hK]; exact tmod_pos hf1.1)) ?_
  refine RJ.op rfl rfl (eff_convIntE (m := (K : Int)) rfl rfl (by rw [tu5]; rfl) tu3 rfl (wrap64 (by omega) (by omega))) ?_
  refine RJ.op rfl rfl (eff_iop rfl rfl rfl rfl rfl) ?_
  refine RJ.nil ?_
  refine awj_cond rfl (fun h1 => ?_) (fun h1 => ?_)
  · try simp only [decide_eq_true_eq, decide_eq_false_iff_not, beq_iff_eq, bne_iff_ne, bne_eq_false_iff_eq, beq_eq_false_iff_ne, Bool.not_eq_true, Bool.not_eq_false, Bool.not_eq_true', Bool.not_eq_false', ne_eq] at h1
    refine awj_skip ?_
    refine awj_seq ?_
    refine awj_block ?_
    refine awj_seq ?_
    refine awj_rd [(some 72, []), (some 73, []), (some 74, []), (some 75, []), (some 76, []), (some 77, []), (some 78, []), (some 79, []), (some 71, []), (some 80, []), (some 81, []), (some 82, []), (some 12, [12]), (none, [12]), (some 13, []), (some 14, [])] [[], [], [1], [0], [0, 1, 2, 3], [0, 1, 2, 3, 4], [], [0, 1, 2, 3, 4, 5, 6], [0, 1, 2, 3, 4, 5, 6, 7], [0, 1, 2, 3, 4, 5, 6, 7, 8], [0, 1, 2, 3, 4, 5, 6, 7, 8], [0, 1, 2, 3, 4, 5, 6, 7, 8], [], [0, 1, 2, 3, 4, 5, 6, 7, 8, 9, 12], [0, 1, 2, 3, 4, 5, 6, 7, 8, 9, 10, 12, 13], [0, 1, 2, 3, 4, 5, 6, 7, 8, 9, 10, 11, 12, 13, 14]] tm rfl rfl rfl rfl ?_
    refine RD.op rfl rfl rfl (eff_move (v := .ptr _ _ _ _) rfl rfl rfl) ?_
    refine RD.op rfl rfl rfl (eff_move (v := .t _) rfl rfl rfl) ?_
    refine RD.op rfl rfl rfl (eff_iop rfl rfl rfl rfl (iadd (by omega))) ?_
    refine RD.op rfl rfl rfl (eff_nilCheck (v := .ptr _ _ _ _) rfl rfl rfl rfl (fun _ _ _ _ e => by cases e; exact ⟨_, rfl, rfl⟩)) ?_
    refine RD.op rfl rfl rfl (eff_indexAddrP (i := I + 1) rfl rfl tu58 ti29 rfl rfl (by first | rfl | omega) (by omega) rfl rfl rfl (alen hMI.len (by omega))) ?_
    refine RD.op rfl rfl rfl (eff_load (y := .t (encS (at' M (I + 1)))) rfl rfl ti29 rfl (.whole rfl rfl (ael hMI.len (by omega)) rfl rfl rfl)) ?_
    refine RD.op rfl rfl rfl (eff_load rfl rfl ti38 rfl (.whole rfl rfl rfl rfl rfl rfl)) ?_
    refine RD.op rfl rfl rfl (eff_callT (accept23_ret insC (at' M (I + 1)) b ((hMI.vi (I + 1) (by omega)).sok (by omega)) (by unfold BOK; omega) (hMI.vi (I + 1) (by omega)).ss) co23 rfl rfl rfl rfl) ?_
    refine RD.op rfl rfl rfl (eff_move (v := .t _) rfl rfl rfl) ?_
    refine RD.op rfl rfl rfl (eff_extract rfl rfl rfl rfl) ?_
    refine RD.op rfl rfl rfl (eff_extract rfl rfl rfl rfl) ?_
    refine RD.op rfl rfl rfl (eff_extract rfl rfl rfl rfl) ?_
    refine RD.new rfl rfl rfl (eff_allocK (k := 4) (id := 12) rfl rfl tz29 rfl rfl) ?_
    refine RD.store rfl rfl rfl (eff_storeW (v := .t _) (els := [_]) (els' := [_]) rfl rfl ti29 rfl rfl rfl rfl rfl rfl rfl rfl rfl) ?_
    refine RD.op rfl rfl rfl (eff_assign (v := .t _) rfl rfl rfl) ?_
    refine RD.op rfl rfl rfl (eff_assign (v := .t _) rfl rfl rfl) ?_
    refine RD.nil ?_
    refine awj_seq ?_
    refine awj_seq ?_
    refine awj_rj rfl ?_
    refine RJ.op rfl rfl (eff_move (v := .t _) rfl rfl rfl) ?_
    refine RJ.op rfl rfl (eff_iop rfl rfl rfl rfl rfl) ?_
    refine RJ.nil ?_
    refine awj_cond rfl (fun h2 => ?_) (fun h2 => ?_)
    · try simp only [decide_eq_true_eq, decide_eq_false_iff_not, beq_iff_eq, bne_iff_ne, bne_eq_false_iff_eq, beq_eq_false_iff_ne, Bool.not_eq_true, Bool.not_eq_false, Bool.not_eq_true', Bool.not_eq_false', ne_eq] at h2
      refine awj_rd [(some 85, []), (some 86, []), (some 87, []), (some 88, []), (some 89, []), (some 90, []), (none, [0])] [[], [], [1], [], [0], [0, 1, 2, 3, 4], [0, 1, 2, 3, 4, 5]] tm rfl rfl rfl rfl ?_
      refine RD.op rfl rfl rfl (eff_move (v := .ptr _ _ _ _) rfl rfl rfl) ?_
      refine RD.op rfl rfl rfl (eff_move (v := .t _) rfl rfl rfl) ?_
      refine RD.op rfl rfl rfl (eff_iop rfl rfl rfl rfl (iadd (by omega))) ?_
      refine RD.op rfl rfl rfl (eff_load rfl rfl ti29 rfl (.whole rfl rfl rfl rfl rfl rfl)) ?_
      refine RD.op rfl rfl rfl (eff_nilCheck (v := .ptr _ _ _ _) rfl rfl rfl rfl (fun _ _ _ _ e => by cases e; exact ⟨_, rfl, rfl⟩)) ?_
      refine RD.op rfl rfl rfl (eff_indexAddrP (i := I + 1) rfl rfl tu58 ti29 rfl rfl (by first | rfl | omega) (by omega) rfl rfl rfl (alen hMI.len (by omega))) ?_
      refine RD.store rfl rfl rfl (eff_storeW (v := .t (encS (accept (at' M (I + 1)) b).1)) (els := encL M) (els' := encL (M.set (I + 1) (accept (at' M (I + 1)) b).1)) (el := .t (encS (at' M (I + 1)))) rfl rfl ti29 rfl rfl rfl rfl rfl rfl (ael hMI.len (by omega)) rfl aset) ?_
      refine RD.nil ?_
      refine awj_rj rfl ?_
      refine RJ.op rfl rfl (eff_move (v := .t _) rfl rfl rfl) ?_
      refine RJ.op rfl rfl (eff_move (v := .t _) rfl rfl rfl) ?_
      refine RJ.split 92 rfl (fun h3 => ?_) (fun h3 => ?_)
      · try simp only [decide_eq_true_eq, decide_eq_false_iff_not, beq_iff_eq, bne_iff_ne, bne_eq_false_iff_eq, beq_eq_false_iff_ne, Bool.not_eq_true, Bool.not_eq_false, Bool.not_eq_true', Bool.not_eq_false', ne_eq] at h3
        refine RJ.gskip rfl rfl rfl rfl rfl (by decide) ?_
        refine RJ.op rfl rfl (eff_pick (v := .t _) rfl rfl rfl rfl) ?_
        refine RJ.op rfl rfl (eff_assign (v := .t _) rfl rfl rfl) ?_
        refine RJ.nil ?_
        refine awj_rj rfl ?_
        refine RJ.op rfl rfl (eff_move (v := .t _) rfl rfl rfl) ?_
        refine RJ.op rfl rfl (eff_iop rfl rfl rfl rfl (iadd (by omega))) ?_
        refine RJ.op rfl rfl (eff_assign (v := .t _) rfl rfl rfl) ?_
        refine RJ.nil ?_
        refine ⟨_, ?_, _, weak_keep (n := 134) (fr' := [(0, .ptr 0 gg 0 0), (3, .ptr 3 0 0 0), (5, .t (encI (I : Nat))), (6, .ptr 6 0 0 0), (10, .t (.bool _)), (11, .t (encI ((k + 1) : Nat)))]) (st' := [(0, some ⟨4, 58, gg, encL _⟩), (3, some ⟨4, 64, 0, [.t (encF nd f1 f2 true)]⟩), (6, some ⟨8, 38, 0, [.t (encB b)]⟩)]) ⟨rfl, rfl, rfl, rfl, rfl, rfl, rfl, rfl, rfl, rfl, rfl, rfl, trivial⟩ ⟨rfl, okE_t, rfl, okE_one rfl, rfl, okE_one rfl, trivial⟩, k + 1, _, _, (by omega), (by show _ = (if _ then _ else _); rw [← hM]; first | rw [if_pos (by assumption)] | rw [if_neg (by assumption)]), (by show _ = ((accN I b k ((L.set I (retry (at' L I))).set I s2)).2 || _); rw [← hac, ← hM]; first | (rw [(by assumption : ac = true)]; rfl) | (rw [(by assumption : ac = false)]; rfl)), rfl, rfl⟩
        omega
      · try simp only [decide_eq_true_eq, decide_eq_false_iff_not, beq_iff_eq, bne_iff_ne, bne_eq_false_iff_eq, beq_eq_false_iff_ne, Bool.not_eq_true, Bool.not_eq_false, Bool.not_eq_true', Bool.not_eq_false', ne_eq] at h3
        refine RJ.gop rfl rfl rfl rfl rfl rfl (eff_move (v := .t _) rfl rfl rfl) ?_
        refine RJ.op rfl rfl (eff_pick (v := .t _) rfl rfl rfl rfl) ?_
        refine RJ.op rfl rfl (eff_assign (v := .t _) rfl rfl rfl) ?_
        refine RJ.nil ?_
        refine awj_rj rfl ?_
        refine RJ.op rfl rfl (eff_move (v := .t _) rfl rfl rfl) ?_
        refine RJ.op rfl rfl (eff_iop rfl rfl rfl rfl (iadd (by omega))) ?_
        refine RJ.op rfl rfl (eff_assign (v := .t _) rfl rfl rfl) ?_
        refine RJ.nil ?_
        refine ⟨_, ?_, _, weak_keep (n := 134) (fr' := [(0, .ptr 0 gg 0 0), (3, .ptr 3 0 0 0), (5, .t (encI (I : Nat))), (6, .ptr 6 0 0 0), (10, .t (.bool _)), (11, .t (encI ((k + 1) : Nat)))]) (st' := [(0, some ⟨4, 58, gg, encL _⟩), (3, some ⟨4, 64, 0, [.t (encF nd f1 f2 true)]⟩), (6, some ⟨8, 38, 0, [.t (encB b)]⟩)]) ⟨rfl, rfl, rfl, rfl, rfl, rfl, rfl, rfl, rfl, rfl, rfl, rfl, trivial⟩ ⟨rfl, okE_t, rfl, okE_one rfl, rfl, okE_one rfl, trivial⟩, k + 1, _, _, (by omega), (by show _ = (if _ then _ else _); rw [← hM]; first | rw [if_pos (by assumption)] | rw [if_neg (by assumption)]), (by show _ = ((accN I b k ((L.set I (retry (at' L I))).set I s2)).2 || _); rw [← hac, ← hM]; first | (rw [(by assumption : ac = true)]; rfl) | (rw [(by assumption : ac = false)]; rfl)), rfl, rfl⟩
        omega
    · try simp only [decide_eq_true_eq, decide_eq_false_iff_not, beq_iff_eq, bne_iff_ne, bne_eq_false_iff_eq, beq_eq_false_iff_ne, Bool.not_eq_true, Bool.not_eq_false, Bool.not_eq_true', Bool.not_eq_false', ne_eq] at h2
      refine awj_skip ?_
      refine awj_rj rfl ?_
      refine RJ.op rfl rfl (eff_move (v := .t _) rfl rfl rfl) ?_
      refine RJ.op rfl rfl (eff_move (v := .t _) rfl rfl rfl) ?_
      refine RJ.split 92 rfl (fun h4 => ?_) (fun h4 => ?_)
      · try simp only [decide_eq_true_eq, decide_eq_false_iff_not, beq_iff_eq, bne_iff_ne, bne_eq_false_iff_eq, beq_eq_false_iff_ne, Bool.not_eq_true, Bool.not_eq_false, Bool.not_eq_true', Bool.not_eq_false', ne_eq] at h4
        refine RJ.gskip rfl rfl rfl rfl rfl (by decide) ?_
        refine RJ.op rfl rfl (eff_pick (v := .t _) rfl rfl rfl rfl) ?_
        refine RJ.op rfl rfl (eff_assign (v := .t _) rfl rfl rfl) ?_
        refine RJ.nil ?_
        refine awj_rj rfl ?_
        refine RJ.op rfl rfl (eff_move (v := .t _) rfl rfl rfl) ?_
        refine RJ.op rfl rfl (eff_iop rfl rfl rfl rfl (iadd (by omega))) ?_
        refine RJ.op rfl rfl (eff_assign (v := .t _) rfl rfl rfl) ?_
        refine RJ.nil ?_
        refine ⟨_, ?_, _, weak_keep (n := 134) (fr' := [(0, .ptr 0 gg 0 0), (3, .ptr 3 0 0 0), (5, .t (encI (I : Nat))), (6, .ptr 6 0 0 0), (10, .t (.bool _)), (11, .t (encI ((k + 1) : Nat)))]) (st' := [(0, some ⟨4, 58, gg, encL _⟩), (3, some ⟨4, 64, 0, [.t (encF nd f1 f2 true)]⟩), (6, some ⟨8, 38, 0, [.t (encB b)]⟩)]) ⟨rfl, rfl, rfl, rfl, rfl, rfl, rfl, rfl, rfl, rfl, rfl, rfl, trivial⟩ ⟨rfl, okE_t, rfl, okE_one rfl, rfl, okE_one rfl, trivial⟩, k + 1, _, _, (by omega), (by show _ = (if _ then _ else _); rw [← hM]; first | rw [if_pos (by assumption)] | rw [if_neg (by assumption)]), (by show _ = ((accN I b k ((L.set I (retry (at' L I))).set I s2)).2 || _); rw [← hac, ← hM]; first | (rw [(by assumption : ac = true)]; rfl) | (rw [(by assumption : ac = false)]; rfl)), rfl, rfl⟩
        omega
      · try simp only [decide_eq_true_eq, decide_eq_false_iff_not, beq_iff_eq, bne_iff_ne, bne_eq_false_iff_eq, beq_eq_false_iff_ne, Bool.not_eq_true, Bool.not_eq_false, Bool.not_eq_true', Bool.not_eq_false', ne_eq] at h4
        refine RJ.gop rfl rfl rfl rfl rfl rfl (eff_move (v := .t _) rfl rfl rfl) ?_
        refine RJ.op rfl rfl (eff_pick (v := .t _) rfl rfl rfl rfl) ?_
        refine RJ.op rfl rfl (eff_assign (v := .t _) rfl rfl rfl) ?_
        refine RJ.nil ?_
        refine awj_rj rfl ?_
        refine RJ.op rfl rfl (eff_move (v := .t _) rfl rfl rfl) ?_
        refine RJ.op rfl rfl (eff_iop rfl rfl rfl rfl (iadd (by omega))) ?_
        refine RJ.op rfl rfl (eff_assign (v := .t _) rfl rfl rfl) ?_
        refine RJ.nil ?_
        refine ⟨_, ?_, _, weak_keep (n := 134) (fr' := [(0, .ptr 0 gg 0 0), (3, .ptr 3 0 0 0), (5, .t (encI (I : Nat))), (6, .ptr 6 0 0 0), (10, .t (.bool _)), (11, .t (encI ((k + 1) : Nat)))]) (st' := [(0, some ⟨4, 58, gg, encL _⟩), (3, some ⟨4, 64, 0, [.t (encF nd f1 f2 true)]⟩), (6, some ⟨8, 38, 0, [.t (encB b)]⟩)]) ⟨rfl, rfl, rfl, rfl, rfl, rfl, rfl, rfl, rfl, rfl, rfl, rfl, trivial⟩ ⟨rfl, okE_t, rfl, okE_one rfl, rfl, okE_one rfl, trivial⟩, k + 1, _, _, (by omega), (by show _ = (if _ then _ else _); rw [← hM]; first | rw [if_pos (by assumption)] | rw [if_neg (by assumption)]), (by show _ = ((accN I b k ((L.set I (retry (at' L I))).set I s2)).2 || _); rw [← hac, ← hM]; first | (rw [(by assumption : ac = true)]; rfl) | (rw [(by assumption : ac = false)]; rfl)), rfl, rfl⟩
        omega
  · try simp only [decide_eq_true_eq, decide_eq_false_iff_not, beq_iff_eq, bne_iff_ne, bne_eq_false_iff_eq, beq_eq_false_iff_ne, Bool.not_eq_true, Bool.not_eq_false, Bool.not_eq_true', Bool.not_eq_false', ne_eq] at h1
    refine awj_exit ?_
    refine awj_seq ?_
    refine awj_seq ?_
    refine awj_rj rfl ?_
    have hk2 : K = k := by omega
    subst hk2
    rw [hA] at hac
    subst hac
    subst hM
    refine RJ.op rfl rfl (eff_assign (v := .t _) rfl rfl rfl) ?_
    refine RJ.nil ?_
    refine awj_block ?_
    refine awj_loopW (fun m s g => ∃ (c : Nat) (N : List Store), (c ≤ C) ∧ (N = (cfN I b.id c (accN I b K ((L.set I (retry (at' L I))).set I s2)).1)) ∧ m = C - c ∧ s = ⟨134, [(0, .ptr 0 gg 0 0), (3, .ptr 3 0 0 0), (5, .t (encI (I : Nat))), (6, .ptr 6 0 0 0), (10, .t (.bool true)), (15, .t (encI (c : Nat)))], [(0, some ⟨4, 58, gg, encL N⟩), (3, some ⟨4, 64, 0, [.t (encF nd f1 f2 true)]⟩), (6, some ⟨8, 38, 0, [.t (encB b)]⟩)]⟩) (_) (⟨_, weak_keep (n := 134) (fr' := [(0, .ptr 0 gg 0 0), (3, .ptr 3 0 0 0), (5, .t (encI (I : Nat))), (6, .ptr 6 0 0 0), (10, .t (.bool true)), (15, .t (encI (0 : Nat)))]) (st' := [(0, some ⟨4, 58, gg, encL _⟩), (3, some ⟨4, 64, 0, [.t (encF nd f1 f2 true)]⟩), (6, some ⟨8, 38, 0, [.t (encB b)]⟩)]) ⟨rfl, rfl, rfl, rfl, rfl, rfl, rfl, rfl, rfl, rfl, rfl, rfl, trivial⟩ ⟨rfl, okE_t, rfl, okE_one rfl, rfl, okE_one rfl, trivial⟩, 0, _, (by omega), (by rfl), rfl, rfl⟩) ?_
    rintro m s g ⟨c, N, hc, hN, rfl, rfl⟩
    obtain ⟨hNI, hfst⟩ := hcf c N hN
    refine awj_seq ?_
    refine awj_seq ?_
    refine awj_rj rfl ?_
    refine RJ.op rfl rfl (eff_move (v := .t _) rfl rfl rfl) ?_
    refine RJ.op rfl rfl (eff_fieldAddr rfl rfl tf64_2 (by decide) rfl rfl rfl (Nat.le_of_ble_eq_true rfl)) ?_
    refine RJ.op rfl rfl (eff_load (y := .t _) rfl rfl ti5 rfl (.one rfl rfl rfl rfl)) ?_
    refine RJ.op rfl rfl (eff_remE (r := (C : Int)) rfl rfl rfl rfl (by decide) (by rw [← hC]; exact tmod_pos hf2.1)) ?_
    refine RJ.op rfl rfl (eff_convIntE (m := (C : Int)) rfl rfl (by rw [tu5]; rfl) tu3 rfl (wrap64 (by omega) (by omega))) ?_
    refine RJ.op rfl rfl (eff_iop rfl rfl rfl rfl rfl) ?_
    refine RJ.op rfl rfl (eff_move (v := .t _) rfl rfl rfl) ?_
    refine RJ.split 101 rfl (fun h5 => ?_) (fun h5 => ?_)
    · try simp only [decide_eq_true_eq, decide_eq_false_iff_not, beq_iff_eq, bne_iff_ne, bne_eq_false_iff_eq, beq_eq_false_iff_ne, Bool.not_eq_true, Bool.not_eq_false, Bool.not_eq_true', Bool.not_eq_false', ne_eq] at h5
      refine RJ.gop rfl rfl rfl rfl rfl rfl (eff_move (v := .t _) rfl rfl rfl) ?_
      refine RJ.op rfl rfl (eff_pick (v := .t _) rfl rfl rfl rfl) ?_
      refine RJ.nil ?_
      refine awj_cond rfl (fun _ => ?_) (fun h => nomatch h)
      refine awj_skip ?_
      refine awj_seq ?_
      refine awj_block ?_
      refine awj_seq ?_
      refine awj_rd [(some 107, []), (some 108, []), (some 109, []), (some 110, []), (some 111, []), (some 112, []), (some 113, []), (some 114, []), (some 106, []), (some 115, []), (some 116, []), (some 16, [16]), (none, [16]), (some 17, [])] [[], [], [0], [0, 1, 2], [0, 1, 2, 3], [], [5], [0, 1, 2, 3, 4, 5, 6], [0, 1, 2, 3, 4, 5, 6, 7], [0, 1, 2, 3, 4, 5, 6, 7, 8], [0, 1, 2, 3, 4, 5, 6, 7, 8], [], [0, 1, 2, 3, 4, 5, 6, 7, 8, 9, 11], [0, 1, 2, 3, 4, 5, 6, 7, 8, 9, 10, 11, 12]] tm rfl rfl rfl rfl ?_
      refine RD.op rfl rfl rfl (eff_move (v := .ptr _ _ _ _) rfl rfl rfl) ?_
      refine RD.op rfl rfl rfl (eff_move (v := .t _) rfl rfl rfl) ?_
      refine RD.op rfl rfl rfl (eff_nilCheck (v := .ptr _ _ _ _) rfl rfl rfl rfl (fun _ _ _ _ e => by cases e; exact ⟨_, rfl, rfl⟩)) ?_
      refine RD.op rfl rfl rfl (eff_indexAddrP (i := I) rfl rfl tu58 ti29 rfl rfl (by first | rfl | omega) (by omega) rfl rfl rfl (alen hNI.len (by omega))) ?_
      refine RD.op rfl rfl rfl (eff_load (y := .t (encS (at' N (I)))) rfl rfl ti29 rfl (.whole rfl rfl (ael hNI.len (by omega)) rfl rfl rfl)) ?_
      refine RD.op rfl rfl rfl (eff_fieldAddr rfl rfl tf38_0 (by decide) rfl rfl rfl (Nat.le_of_ble_eq_true rfl)) ?_
      refine RD.op rfl rfl rfl (eff_load (y := .t _) rfl rfl ti3 rfl (.one rfl rfl rfl rfl)) ?_
      refine RD.op rfl rfl rfl (eff_callT (confirm24_ret (at' N I) b.id ((hNI.vi (I) (by omega)).sok (by omega)) (hNI.vi I (by omega)).ps) co24 rfl rfl rfl rfl) ?_
      refine RD.op rfl rfl rfl (eff_move (v := .t _) rfl rfl rfl) ?_
      refine RD.op rfl rfl rfl (eff_extract rfl rfl rfl rfl) ?_
      refine RD.op rfl rfl rfl (eff_extract rfl rfl rfl rfl) ?_
      refine RD.new rfl rfl rfl (eff_allocK (k := 4) (id := 16) rfl rfl tz29 rfl rfl) ?_
      refine RD.store rfl rfl rfl (eff_storeW (v := .t _) (els := [_]) (els' := [_]) rfl rfl ti29 rfl rfl rfl rfl rfl rfl rfl rfl rfl) ?_
      refine RD.op rfl rfl rfl (eff_assign (v := .t _) rfl rfl rfl) ?_
      refine RD.nil ?_
      refine awj_seq ?_
      refine awj_seq ?_
      refine awj_rj rfl ?_
      refine RJ.op rfl rfl (eff_move (v := .t _) rfl rfl rfl) ?_
      refine RJ.op rfl rfl (eff_iop rfl rfl rfl rfl rfl) ?_
      refine RJ.op rfl rfl (eff_move (v := .t _) rfl rfl rfl) ?_
      refine RJ.split 119 rfl (fun h6 => ?_) (fun h6 => ?_)
      · try simp only [decide_eq_true_eq, decide_eq_false_iff_not, beq_iff_eq, bne_iff_ne, bne_eq_false_iff_eq, beq_eq_false_iff_ne, Bool.not_eq_true, Bool.not_eq_false, Bool.not_eq_true', Bool.not_eq_false', ne_eq] at h6
        refine RJ.gop rfl rfl rfl rfl rfl rfl (eff_move (v := .t _) rfl rfl rfl) ?_
        refine RJ.gop rfl rfl rfl rfl rfl rfl (eff_iop rfl rfl rfl rfl rfl) ?_
        refine RJ.gop rfl rfl rfl rfl rfl rfl (eff_move (v := .t _) rfl rfl rfl) ?_
        refine RJ.split 122 rfl (fun h7 => ?_) (fun h7 => ?_)
        · try simp only [decide_eq_true_eq, decide_eq_false_iff_not, beq_iff_eq, bne_iff_ne, bne_eq_false_iff_eq, beq_eq_false_iff_ne, Bool.not_eq_true, Bool.not_eq_false, Bool.not_eq_true', Bool.not_eq_false', ne_eq] at h7
          refine RJ.gskip rfl rfl rfl rfl rfl (by decide) ?_
          refine RJ.gskip rfl rfl rfl rfl rfl (by decide) ?_
          refine RJ.gop rfl rfl rfl rfl rfl rfl (eff_pick (v := .t _) rfl rfl rfl rfl) ?_
          refine RJ.op rfl rfl (eff_pick (v := .t _) rfl rfl rfl rfl) ?_
          refine RJ.nil ?_
          refine awj_cond rfl (fun _ => ?_) (fun h => nomatch h)
          refine awj_seq ?_
          refine awj_rj rfl ?_
          refine RJ.op rfl rfl (eff_assign (v := .t _) rfl rfl rfl) ?_
          refine RJ.nil ?_
          refine awj_ret ?_
          first
            | (exfalso; omega)
            | (have hc2 : C = c := by omega
               subst hc2
               subst hN
               exact ⟨Or.inr rfl, [_], [.t (.bool true)], ⟨.tmp rfl, trivial⟩, rfl, weak_keep ⟨rfl, rfl, rfl, rfl, trivial⟩ ⟨rfl, okE_t, trivial⟩, rfl⟩)
        · try simp only [decide_eq_true_eq, decide_eq_false_iff_not, beq_iff_eq, bne_iff_ne, bne_eq_false_iff_eq, beq_eq_false_iff_ne, Bool.not_eq_true, Bool.not_eq_false, Bool.not_eq_true', Bool.not_eq_false', ne_eq] at h7
          refine RJ.gop rfl rfl rfl rfl rfl rfl (eff_move (v := .t _) rfl rfl rfl) ?_
          refine RJ.gop rfl rfl rfl rfl rfl rfl (eff_iop rfl rfl rfl rfl rfl) ?_
          refine RJ.gop rfl rfl rfl rfl rfl rfl (eff_pick (v := .t _) rfl rfl rfl rfl) ?_
          refine RJ.op rfl rfl (eff_pick (v := .t _) rfl rfl rfl rfl) ?_
          refine RJ.nil ?_
          refine awj_cond rfl (fun h8 => ?_) (fun h8 => ?_)
          · try simp only [decide_eq_true_eq, decide_eq_false_iff_not, beq_iff_eq, bne_iff_ne, bne_eq_false_iff_eq, beq_eq_false_iff_ne, Bool.not_eq_true, Bool.not_eq_false, Bool.not_eq_true', Bool.not_eq_false', ne_eq] at h8
            refine awj_seq ?_
            refine awj_rj rfl ?_
            refine RJ.op rfl rfl (eff_assign (v := .t _) rfl rfl rfl) ?_
            refine RJ.nil ?_
            refine awj_ret ?_
            first
              | (exfalso; omega)
              | (have hc2 : C = c := by omega
                 subst hc2
                 subst hN
                 exact ⟨Or.inr rfl, [_], [.t (.bool true)], ⟨.tmp rfl, trivial⟩, rfl, weak_keep ⟨rfl, rfl, rfl, rfl, trivial⟩ ⟨rfl, okE_t, trivial⟩, rfl⟩)
          · try simp only [decide_eq_true_eq, decide_eq_false_iff_not, beq_iff_eq, bne_iff_ne, bne_eq_false_iff_eq, beq_eq_false_iff_ne, Bool.not_eq_true, Bool.not_eq_false, Bool.not_eq_true', Bool.not_eq_false', ne_eq] at h8
            refine awj_skip ?_
            refine awj_seq ?_
            refine awj_rj rfl ?_
            refine RJ.op rfl rfl (eff_move (v := .t _) rfl rfl rfl) ?_
            refine RJ.op rfl rfl (eff_iop rfl rfl rfl rfl rfl) ?_
            refine RJ.nil ?_
            refine awj_cond rfl (fun h9 => ?_) (fun h9 => ?_)
            · try simp only [decide_eq_true_eq, decide_eq_false_iff_not, beq_iff_eq, bne_iff_ne, bne_eq_false_iff_eq, beq_eq_false_iff_ne, Bool.not_eq_true, Bool.not_eq_false, Bool.not_eq_true', Bool.not_eq_false', ne_eq] at h9
              refine awj_rd [(some 129, []), (some 130, []), (some 131, []), (some 132, []), (some 133, []), (none, [0])] [[], [], [], [0], [0, 1, 2, 3], [0, 1, 2, 3, 4]] tm rfl rfl rfl rfl ?_
              refine RD.op rfl rfl rfl (eff_move (v := .ptr _ _ _ _) rfl rfl rfl) ?_
              refine RD.op rfl rfl rfl (eff_move (v := .t _) rfl rfl rfl) ?_
              refine RD.op rfl rfl rfl (eff_load rfl rfl ti29 rfl (.whole rfl rfl rfl rfl rfl rfl)) ?_
              refine RD.op rfl rfl rfl (eff_nilCheck (v := .ptr _ _ _ _) rfl rfl rfl rfl (fun _ _ _ _ e => by cases e; exact ⟨_, rfl, rfl⟩)) ?_
              refine RD.op rfl rfl rfl (eff_indexAddrP (i := I) rfl rfl tu58 ti29 rfl rfl (by first | rfl | omega) (by omega) rfl rfl rfl (alen hNI.len (by omega))) ?_
              refine RD.store rfl rfl rfl (eff_storeW (v := .t (encS (confirm (at' N I) b.id).1)) (els := encL N) (els' := encL (N.set I (confirm (at' N I) b.id).1)) (el := .t (encS (at' N (I)))) rfl rfl ti29 rfl rfl rfl rfl rfl rfl (ael hNI.len (by omega)) rfl aset) ?_
              refine RD.nil ?_
              refine awj_rj rfl ?_
              refine RJ.op rfl rfl (eff_move (v := .t _) rfl rfl rfl) ?_
              refine RJ.op rfl rfl (eff_iop rfl rfl rfl rfl (iadd (by omega))) ?_
              refine RJ.op rfl rfl (eff_assign (v := .t _) rfl rfl rfl) ?_
              refine RJ.nil ?_
              refine ⟨_, ?_, _, weak_keep (n := 134) (fr' := [(0, .ptr 0 gg 0 0), (3, .ptr 3 0 0 0), (5, .t (encI (I : Nat))), (6, .ptr 6 0 0 0), (10, .t (.bool true)), (15, .t (encI ((c + 1) : Nat)))]) (st' := [(0, some ⟨4, 58, gg, encL _⟩), (3, some ⟨4, 64, 0, [.t (encF nd f1 f2 true)]⟩), (6, some ⟨8, 38, 0, [.t (encB b)]⟩)]) ⟨rfl, rfl, rfl, rfl, rfl, rfl, rfl, rfl, rfl, rfl, rfl, rfl, trivial⟩ ⟨rfl, okE_t, rfl, okE_one rfl, rfl, okE_one rfl, trivial⟩, c + 1, _, (by omega), (by first | contradiction | (show _ = (if _ then _ else _); rw [← hN]; first | rw [if_pos (by assumption)] | rw [if_neg (by assumption)])), rfl, rfl⟩
              omega
            · try simp only [decide_eq_true_eq, decide_eq_false_iff_not, beq_iff_eq, bne_iff_ne, bne_eq_false_iff_eq, beq_eq_false_iff_ne, Bool.not_eq_true, Bool.not_eq_false, Bool.not_eq_true', Bool.not_eq_false', ne_eq] at h9
              refine awj_skip ?_
              refine awj_rj rfl ?_
              refine RJ.op rfl rfl (eff_move (v := .t _) rfl rfl rfl) ?_
              refine RJ.op rfl rfl (eff_iop rfl rfl rfl rfl (iadd (by omega))) ?_
              refine RJ.op rfl rfl (eff_assign (v := .t _) rfl rfl rfl) ?_
              refine RJ.nil ?_
              refine ⟨_, ?_, _, weak_keep (n := 134) (fr' := [(0, .ptr 0 gg 0 0), (3, .ptr 3 0 0 0), (5, .t (encI (I : Nat))), (6, .ptr 6 0 0 0), (10, .t (.bool true)), (15, .t (encI ((c + 1) : Nat)))]) (st' := [(0, some ⟨4, 58, gg, encL _⟩), (3, some ⟨4, 64, 0, [.t (encF nd f1 f2 true)]⟩), (6, some ⟨8, 38, 0, [.t (encB b)]⟩)]) ⟨rfl, rfl, rfl, rfl, rfl, rfl, rfl, rfl, rfl, rfl, rfl, rfl, trivial⟩ ⟨rfl, okE_t, rfl, okE_one rfl, rfl, okE_one rfl, trivial⟩, c + 1, _, (by omega), (by first | contradiction | (show _ = (if _ then _ else _); rw [← hN]; first | rw [if_pos (by assumption)] | rw [if_neg (by assumption)])), rfl, rfl⟩
              omega
      · try simp only [decide_eq_true_eq, decide_eq_false_iff_not, beq_iff_eq, bne_iff_ne, bne_eq_false_iff_eq, beq_eq_false_iff_ne, Bool.not_eq_true, Bool.not_eq_false, Bool.not_eq_true', Bool.not_eq_false', ne_eq] at h6
        refine RJ.gskip rfl rfl rfl rfl rfl (by decide) ?_
        refine RJ.gskip rfl rfl rfl rfl rfl (by decide) ?_
        refine RJ.gskip rfl rfl rfl rfl rfl (by decide) ?_
        refine RJ.gundef rfl rfl rfl rfl rfl ?_
        refine RJ.gundef rfl rfl rfl rfl rfl ?_
        refine RJ.gskip rfl rfl rfl rfl rfl (by decide) ?_
        refine RJ.op rfl rfl (eff_pick (v := .t _) rfl rfl rfl rfl) ?_
        refine RJ.nil ?_
        refine awj_cond rfl (fun h => nomatch h) (fun _ => ?_)
        refine awj_skip ?_
        refine awj_seq ?_
        refine awj_rj rfl ?_
        refine RJ.op rfl rfl (eff_move (v := .t _) rfl rfl rfl) ?_
        refine RJ.op rfl rfl (eff_iop rfl rfl rfl rfl rfl) ?_
        refine RJ.nil ?_
        refine awj_cond rfl (fun h10 => ?_) (fun h10 => ?_)
        · try simp only [decide_eq_true_eq, decide_eq_false_iff_not, beq_iff_eq, bne_iff_ne, bne_eq_false_iff_eq, beq_eq_false_iff_ne, Bool.not_eq_true, Bool.not_eq_false, Bool.not_eq_true', Bool.not_eq_false', ne_eq] at h10
          refine awj_rd [(some 129, []), (some 130, []), (some 131, []), (some 132, []), (some 133, []), (none, [0])] [[], [], [], [0], [0, 1, 2, 3], [0, 1, 2, 3, 4]] tm rfl rfl rfl rfl ?_
          refine RD.op rfl rfl rfl (eff_move (v := .ptr _ _ _ _) rfl rfl rfl) ?_
          refine RD.op rfl rfl rfl (eff_move (v := .t _) rfl rfl rfl) ?_
          refine RD.op rfl rfl rfl (eff_load rfl rfl ti29 rfl (.whole rfl rfl rfl rfl rfl rfl)) ?_
          refine RD.op rfl rfl rfl (eff_nilCheck (v := .ptr _ _ _ _) rfl rfl rfl rfl (fun _ _ _ _ e => by cases e; exact ⟨_, rfl, rfl⟩)) ?_
          refine RD.op rfl rfl rfl (eff_indexAddrP (i := I) rfl rfl tu58 ti29 rfl rfl (by first | rfl | omega) (by omega) rfl rfl rfl (alen hNI.len (by omega))) ?_
          refine RD.store rfl rfl rfl (eff_storeW (v := .t (encS (confirm (at' N I) b.id).1)) (els := encL N) (els' := encL (N.set I (confirm (at' N I) b.id).1)) (el := .t (encS (at' N (I)))) rfl rfl ti29 rfl rfl rfl rfl rfl rfl (ael hNI.len (by omega)) rfl aset) ?_
          refine RD.nil ?_
          refine awj_rj rfl ?_
          refine RJ.op rfl rfl (eff_move (v := .t _) rfl rfl rfl) ?_
          refine RJ.op rfl rfl (eff_iop rfl rfl rfl rfl (iadd (by omega))) ?_
          refine RJ.op rfl rfl (eff_assign (v := .t _) rfl rfl rfl) ?_
          refine RJ.nil ?_
          refine ⟨_, ?_, _, weak_keep (n := 134) (fr' := [(0, .ptr 0 gg 0 0), (3, .ptr 3 0 0 0), (5, .t (encI (I : Nat))), (6, .ptr 6 0 0 0), (10, .t (.bool true)), (15, .t (encI ((c + 1) : Nat)))]) (st' := [(0, some ⟨4, 58, gg, encL _⟩), (3, some ⟨4, 64, 0, [.t (encF nd f1 f2 true)]⟩), (6, some ⟨8, 38, 0, [.t (encB b)]⟩)]) ⟨rfl, rfl, rfl, rfl, rfl, rfl, rfl, rfl, rfl, rfl, rfl, rfl, trivial⟩ ⟨rfl, okE_t, rfl, okE_one rfl, rfl, okE_one rfl, trivial⟩, c + 1, _, (by omega), (by first | contradiction | (show _ = (if _ then _ else _); rw [← hN]; first | rw [if_pos (by assumption)] | rw [if_neg (by assumption)])), rfl, rfl⟩
          omega
        · try simp only [decide_eq_true_eq, decide_eq_false_iff_not, beq_iff_eq, bne_iff_ne, bne_eq_false_iff_eq, beq_eq_false_iff_ne, Bool.not_eq_true, Bool.not_eq_false, Bool.not_eq_true', Bool.not_eq_false', ne_eq] at h10
          refine awj_skip ?_
          refine awj_rj rfl ?_
          refine RJ.op rfl rfl (eff_move (v := .t _) rfl rfl rfl) ?_
          refine RJ.op rfl rfl (eff_iop rfl rfl rfl rfl (iadd (by omega))) ?_
          refine RJ.op rfl rfl (eff_assign (v := .t _) rfl rfl rfl) ?_
          refine RJ.nil ?_
          refine ⟨_, ?_, _, weak_keep (n := 134) (fr' := [(0, .ptr 0 gg 0 0), (3, .ptr 3 0 0 0), (5, .t (encI (I : Nat))), (6, .ptr 6 0 0 0), (10, .t (.bool true)), (15, .t (encI ((c + 1) : Nat)))]) (st' := [(0, some ⟨4, 58, gg, encL _⟩), (3, some ⟨4, 64, 0, [.t (encF nd f1 f2 true)]⟩), (6, some ⟨8, 38, 0, [.t (encB b)]⟩)]) ⟨rfl, rfl, rfl, rfl, rfl, rfl, rfl, rfl, rfl, rfl, rfl, rfl, trivial⟩ ⟨rfl, okE_t, rfl, okE_one rfl, rfl, okE_one rfl, trivial⟩, c + 1, _, (by omega), (by first | contradiction | (show _ = (if _ then _ else _); rw [← hN]; first | rw [if_pos (by assumption)] | rw [if_neg (by assumption)])), rfl, rfl⟩
          omega
    · try simp only [decide_eq_true_eq, decide_eq_false_iff_not, beq_iff_eq, bne_iff_ne, bne_eq_false_iff_eq, beq_eq_false_iff_ne, Bool.not_eq_true, Bool.not_eq_false, Bool.not_eq_true', Bool.not_eq_false', ne_eq] at h5
      refine RJ.gskip rfl rfl rfl rfl rfl (by decide) ?_
      refine RJ.op rfl rfl (eff_pick (v := .t _) rfl rfl rfl rfl) ?_
      refine RJ.nil ?_
      refine awj_cond rfl (fun h => nomatch h) (fun _ => ?_)
      refine awj_exit ?_
      refine awj_seq ?_
      refine awj_rj rfl ?_
      refine RJ.op rfl rfl (eff_assign (v := .t _) rfl rfl rfl) ?_
      refine RJ.nil ?_
      refine awj_ret ?_
      first
        | (exfalso; omega)
        | (have hc2 : C = c := by omega
           subst hc2
           subst hN
           exact ⟨Or.inr rfl, [_], [.t (.bool true)], ⟨.tmp rfl, trivial⟩, rfl, weak_keep ⟨rfl, rfl, rfl, rfl, trivial⟩ ⟨rfl, okE_t, trivial⟩, rfl⟩)

end Go.Tv.C27

end
section
open Go Go.Tv Go.Proofs
namespace Go.Tv.C27

theorem event_ret (gg n : Nat) (hn : n ≤ 1000) (L : List Store) (hL : LInv n L) (nd f1 f2 : Int) (hnd : 0 ≤ nd ∧ nd < 256) (hf1 : 0 ≤ f1 ∧ f1 < 256) (hf2 : 0 ≤ f2 ∧ f2 < 256) (r : Bool)
    (I K C : Nat) (hI : nd % 3 = (I : Int)) (hI3 : I < 3) (hK : f1 % 3 = (K : Int)) (hC : f2 % 3 = (C : Int)) :
    RetK Try.prog 30 [(0, some ⟨4, 58, gg, encL L⟩)] [.ptr 0 gg 0 0, .t (encF nd f1 f2 r)] [(0, some ⟨4, 58, gg, encL (evt L I r K C)⟩)] (.t (.bool true)) [(0, .ptr 0 gg 0 0)] := by
  have hLL := evR_inv hL hI3 r
  have main : ∀ LL, LL = evR L I r → LInv n LL →
      (∀ bx, offer (at' LL I) 1000 = (bx, false) → RetK Try.prog 30 [(0, some ⟨4, 58, gg, encL L⟩)] [.ptr 0 gg 0 0, .t (encF nd f1 f2 r)] [(0, some ⟨4, 58, gg, encL LL⟩)] (.t (.bool true)) [(0, .ptr 0 gg 0 0)]) →
      (∀ (b : Bundle) (hbb : Bytes b.data) (hbl : b.data.length ≤ 256) (ho : offer (at' LL I) 1000 = (b, true)) (s2 : Store) (hp : pass (at' LL I) b.id = (s2, 0)) (hL2 : LInv (n + 1) (LL.set I s2))
        (hA : (accN I b K (LL.set I s2)).2 = false),
        RetK Try.prog 30 [(0, some ⟨4, 58, gg, encL L⟩)] [.ptr 0 gg 0 0, .t (encF nd f1 f2 r)] [(0, some ⟨4, 58, gg, encL (accN I b K (LL.set I s2)).1⟩)] (.t (.bool true)) [(0, .ptr 0 gg 0 0)]) →
      (∀ (b : Bundle) (hbb : Bytes b.data) (hbl : b.data.length ≤ 256) (ho : offer (at' LL I) 1000 = (b, true)) (s2 : Store) (hp : pass (at' LL I) b.id = (s2, 0)) (hL2 : LInv (n + 1) (LL.set I s2))
        (hA : (accN I b K (LL.set I s2)).2 = true)
        (hcf : ∀ c N, N = cfN I b.id c (accN I b K (LL.set I s2)).1 → LInv (n + 1 + K) N ∧ ((confirm (at' N I) b.id).2 = 0 ∨ ((confirm (at' N I) b.id).2 = 3 ∧ c ≠ 0))),
        RetK Try.prog 30 [(0, some ⟨4, 58, gg, encL L⟩)] [.ptr 0 gg 0 0, .t (encF nd f1 f2 r)] [(0, some ⟨4, 58, gg, encL (cfN I b.id C (accN I b K (LL.set I s2)).1)⟩)] (.t (.bool true)) [(0, .ptr 0 gg 0 0)]) →
      RetK Try.prog 30 [(0, some ⟨4, 58, gg, encL L⟩)] [.ptr 0 gg 0 0, .t (encF nd f1 f2 r)] [(0, some ⟨4, 58, gg, encL (evt L I r K C)⟩)] (.t (.bool true)) [(0, .ptr 0 gg 0 0)] := by
    intro LL hLe hLL h0 h1 h2
    unfold evt
    rw [← hLe]
    cases ho : (offer (at' LL I) 1000).2 with
    | false =>
      rw [if_neg (by simp)]
      exact h0 _ (by rw [← ho])
    | true =>
      rw [if_pos rfl]
      have hV := hLL.vi I (by omega)
      obtain ⟨hb, hpn⟩ := offer_in ho
      obtain ⟨g1, g2, g3⟩ := hV.bs _ hb
      have hid : (offer (at' LL I) 1000).1.id ∈ ids (at' LL I) := List.mem_map.2 ⟨_, hb, rfl⟩
      obtain ⟨t, ht, hte, hVt⟩ := pass_ok hV hid hpn
      have ho2 : offer (at' LL I) 1000 = ((offer (at' LL I) 1000).1, true) := by rw [← ho]
      generalize (offer (at' LL I) 1000).1 = b at *
      have hL2 : LInv (n + 1) (LL.set I t) := hLL.same (by omega) hVt (by omega) (by rw [hte]) (by rw [hte])
      obtain ⟨a1, a2, a3⟩ := accN_inv hI3 g2 hL2 K
      unfold evB
      rw [ht]
      cases hA : (accN I b K (LL.set I t)).2 with
      | false =>
        rw [if_neg (by simp [hA])]
        exact h1 b g2 g1 ho2 t ht hL2 hA
      | true =>
        rw [if_pos rfl]
        refine h2 b g2 g1 ho2 t ht hL2 hA ?_
        obtain ⟨j, j1, j2, j3⟩ := a1.fl (I + 1) b.id (by omega) (a2 hA)
        rintro c N rfl
        have hN := (cfN_inv hI3 a1 ⟨j, by omega, j2, j3⟩ c).1
        refine ⟨hN, ?_⟩
        rcases confirm_ends (hN.vi I (by omega)) b.id with ⟨hni, hc⟩ | ⟨V, hc, _⟩
        · refine .inr ⟨by rw [hc], ?_⟩
          rintro rfl
          apply hni
          show b.id ∈ ids (at' (accN I b K (LL.set I t)).1 I)
          rw [a3, at_set hLL.len (by omega), if_pos rfl, hte]
          exact hid
        · exact .inl (by rw [hc])
  cases r with
  | false =>
    exact main L rfl hL (fun bx ho => eventN0 gg n hn L hL nd f1 f2 hnd hf1 hf2 I K C hI hI3 hK hC hL bx ho)
      (fun b hbb hbl ho s2 hp hL2 hA => eventN1 gg n hn L hL nd f1 f2 hnd hf1 hf2 I K C hI hI3 hK hC hL b hbb hbl ho s2 hp hL2 hA)
      (fun b hbb hbl ho s2 hp hL2 hA hcf => eventN2 gg n hn L hL nd f1 f2 hnd hf1 hf2 I K C hI hI3 hK hC hL b hbb hbl ho s2 hp hL2 hA hcf)
  | true =>
    exact main (L.set I (retry (at' L I))) rfl hLL (fun bx ho => eventR0 gg n hn L hL nd f1 f2 hnd hf1 hf2 I K C hI hI3 hK hC hLL bx ho)
      (fun b hbb hbl ho s2 hp hL2 hA => eventR1 gg n hn L hL nd f1 f2 hnd hf1 hf2 I K C hI hI3 hK hC hLL b hbb hbl ho s2 hp hL2 hA)
      (fun b hbb hbl ho s2 hp hL2 hA hcf => eventR2 gg n hn L hL nd f1 f2 hnd hf1 hf2 I K C hI hI3 hK hC hLL b hbb hbl ho s2 hp hL2 hA hcf)

end Go.Tv.C27

end
section
open Go Go.Tv Go.Proofs
namespace Go.Tv.C27

def Sees (L M : List Store) : Prop := ∀ j c, j < 4 → c ∈ (at' L j).seen → c ∈ (at' M j).seen

theorem Sees.refl (L : List Store) : Sees L L := fun _ _ _ h => h
theorem Sees.trans {L M N : List Store} (h : Sees L M) (k : Sees M N) : Sees L N := fun j c hj hc => k j c hj (h j c hj hc)

theorem sees_set {L : List Store} {i : Nat} {t : Store} (hL : L.length = 4) (hi : i < 4) (h : ∀ c, c ∈ (at' L i).seen → c ∈ t.seen) : Sees L (L.set i t) := by
  intro j c hj hc
  rw [at_set hL hi]
  split
  · rename_i e; subst e; exact h c hc
  · exact hc

theorem accept_seen {n : Nat} {s : Store} {b : Bundle} (h : VInv n s) (hb : Bytes b.data) (he : (accept s b).2.2 = 0) (c : Int) (hc : c ∈ s.seen) : c ∈ (accept s b).1.seen := by
  rw [accept_eq] at he ⊢
  split
  · exact hc
  · rename_i h1
    rw [if_neg h1] at he
    simp only
    rw [(inv_create h hb he).2.1]
    exact ins_mem.2 (.inr hc)

theorem accN_sees {I : Nat} {b : Bundle} (hI : I < 3) (hb : Bytes b.data) {n : Nat} {L : List Store} (h : LInv n L) : ∀ k, Sees L (accN I b k L).1
  | 0 => Sees.refl _
  | k + 1 => by
    obtain ⟨h1, _, _⟩ := accN_inv hI hb h k
    refine (accN_sees hI hb h k).trans ?_
    rw [show (accN I b (k + 1) L).1 = if (accept (at' (accN I b k L).1 (I + 1)) b).2.2 = 0 then (accN I b k L).1.set (I + 1) (accept (at' (accN I b k L).1 (I + 1)) b).1 else (accN I b k L).1 from rfl]
    split
    · rename_i he
      exact sees_set h1.len (by omega) (fun c hc => accept_seen (h1.vi (I + 1) (by omega)) hb he c hc)
    · exact Sees.refl _

theorem cfN_sees {I : Nat} {c : Int} (hI : I < 3) {n : Nat} {L : List Store} (h : LInv n L) (hfw : ∃ j, I < j ∧ j < 4 ∧ c ∈ ids (at' L j)) : ∀ k, Sees L (cfN I c k L)
  | 0 => Sees.refl _
  | k + 1 => by
    obtain ⟨h1, _⟩ := cfN_inv hI h hfw k
    refine (cfN_sees hI h hfw k).trans ?_
    rw [show cfN I c (k + 1) L = if (confirm (at' (cfN I c k L) I) c).2 = 0 then (cfN I c k L).set I (confirm (at' (cfN I c k L) I) c).1 else cfN I c k L from rfl]
    split
    · rename_i he
      refine sees_set h1.len (by omega) (fun d hd => ?_)
      rw [(inv_confirm (h1.vi I (by omega)) he).2.1]; exact hd
    · exact Sees.refl _

theorem evt_sees {n I : Nat} {L : List Store} (h : LInv n L) (hI : I < 3) (r : Bool) (k m : Nat) : Sees L (evt L I r k m) := by
  have h1 := evR_inv h hI r
  have hr : Sees L (evR L I r) := by
    unfold evR
    split
    · exact sees_set h.len (by omega) (fun c hc => hc)
    · exact Sees.refl _
  refine hr.trans ?_
  unfold evt
  split
  · rename_i ho
    obtain ⟨hb, hp⟩ := offer_in ho
    have hV := h1.vi I (by omega)
    obtain ⟨t, ht, hte, hVt⟩ := pass_ok hV (List.mem_map.2 ⟨_, hb, rfl⟩) hp
    have h2 : LInv (n + 1) ((evR L I r).set I (pass (at' (evR L I r) I) (offer (at' (evR L I r) I) 1000).1.id).1) := by
      rw [ht]; exact h1.same (by omega) hVt (by omega) (by rw [hte]) (by rw [hte])
    have s1 : Sees (evR L I r) ((evR L I r).set I (pass (at' (evR L I r) I) (offer (at' (evR L I r) I) 1000).1.id).1) :=
      sees_set h1.len (by omega) (fun c hc => by rw [ht, hte]; exact hc)
    have hby := (hV.bs _ hb).2.1
    obtain ⟨a1, a2, a3⟩ := accN_inv hI hby h2 k
    have s2 := s1.trans (accN_sees hI hby h2 k)
    unfold evB
    split
    · rename_i hacc
      obtain ⟨j, j1, j2, j3⟩ := a1.fl (I + 1) _ (by omega) (a2 hacc)
      exact s2.trans (cfN_sees hI a1 ⟨j, by omega, j2, j3⟩ m)
    · exact s2
  · exact Sees.refl _

abbrev encFt (f : Fate) : Tr := encF f.node f.offers f.confirms f.retr
def FateOK (f : Fate) : Prop := (0 ≤ f.node ∧ f.node < 256) ∧ (0 ≤ f.offers ∧ f.offers < 256) ∧ (0 ≤ f.confirms ∧ f.confirms < 256)
def evF (L : List Store) (f : Fate) : List Store := evt L (f.node % 3).toNat f.retr (f.offers % 3).toNat (f.confirms % 3).toNat

theorem evF_inv {n : Nat} {L : List Store} (h : LInv n L) (f : Fate) : LInv (n + 3) (evF L f) ∧ Sees L (evF L f) := by
  have hI : (f.node % 3).toNat < 3 := by omega
  exact ⟨(evt_inv h hI f.retr _ _).mono (by omega), evt_sees h hI _ _ _⟩

theorem event_fate (n : Nat) (hn : n ≤ 1000) (L : List Store) (hL : LInv n L) (f : Fate) (hf : FateOK f) :
    RetK Try.prog 30 [(0, some ⟨4, 58, 0, encL L⟩)] [.ptr 0 0 0 0, .t (encFt f)] [(0, some ⟨4, 58, 0, encL (evF L f)⟩)] (.t (.bool true)) [(0, .ptr 0 0 0 0)] :=
  event_ret 0 n hn L hL f.node f.offers f.confirms hf.1 hf.2.1 hf.2.2 f.retr _ _ _ (by omega) (by omega) (by omega) (by omega)

/-- The line at the start. -/
def Lz (q : Int) : List Store := [⟨q, [], [], []⟩, ⟨q, [], [], []⟩, ⟨q, [], [], []⟩, ⟨q, [], [], []⟩]
/-- .. while its quotas are being set. -/
def LQ (q : Int) (i : Nat) : List Store := List.replicate i ⟨q, [], [], []⟩ ++ List.replicate (4 - i) ⟨0, [], [], []⟩

theorem LQ_step {q : Int} {i : Nat} (hi : i < 4) : (LQ q i).set i ⟨q, [], [], []⟩ = LQ q (i + 1) := by
  rcases (by omega : i = 0 ∨ i = 1 ∨ i = 2 ∨ i = 3) with rfl | rfl | rfl | rfl <;> rfl
theorem LQ_at {q : Int} {i : Nat} (hi : i < 4) : at' (LQ q i) i = ⟨0, [], [], []⟩ := by
  rcases (by omega : i = 0 ∨ i = 1 ∨ i = 2 ∨ i = 3) with rfl | rfl | rfl | rfl <;> rfl
theorem LQ_len {q : Int} {i : Nat} (hi : i ≤ 4) : (LQ q i).length = 4 := by unfold LQ; simp; omega

theorem Lz_inv {q : Int} (h0 : 0 ≤ q) (h1 : q ≤ 2147483647) : LInv 0 (Lz q) := by
  have hat : ∀ j, j < 4 → at' (Lz q) j = ⟨q, [], [], []⟩ := by
    intro j hj
    rcases (by omega : j = 0 ∨ j = 1 ∨ j = 2 ∨ j = 3) with rfl | rfl | rfl | rfl <;> rfl
  refine ⟨rfl, fun j hj => ?_, fun j c hj hc => ?_⟩
  · rw [hat j hj]; exact VInv.empty q h0 h1
  · rw [hat j hj] at hc; simp at hc

/-- A bundle is created at the first node. -/
theorem LInv.crea {n : Nat} {L : List Store} {b : Bundle} (h : LInv n L) (hb : Bytes b.data) (he : (create (at' L 0) b).2 = 0) :
    LInv (n + 1) (L.set 0 (create (at' L 0) b).1) ∧ Sees L (L.set 0 (create (at' L 0) b).1) ∧ b.id ∈ (at' (L.set 0 (create (at' L 0) b).1) 0).seen := by
  obtain ⟨g1, g2, g3⟩ := inv_create (h.vi 0 (by omega)) hb he
  refine ⟨h.upd (by omega) g1 (by omega) (fun c hc => ?_) (fun c hc hn => ?_), ?_, ?_⟩
  · rw [g2] at hc ⊢
    rcases ins_mem.1 hc with rfl | hc
    · exact .inl (by unfold ids; simp)
    · refine (h.seen_at (by omega) hc).imp (fun hh => ?_) (fun hh => hh)
      unfold ids at hh ⊢
      rw [List.map_append]; exact List.mem_append_left _ hh
  · refine absurd ?_ hn
    rw [g2]
    unfold ids at hc ⊢
    rw [List.map_append]; exact List.mem_append_left _ hc
  · exact sees_set h.len (by omega) (fun c hc => by rw [g2]; exact ins_mem.2 (.inr hc))
  · rw [at_set h.len (by omega), if_pos rfl, g2]; exact ins_mem.2 (.inl rfl)

theorem count_le {n : Nat} {s : Store} {k : Int} (h : VInv n s) : countB s.bundles k = 0 ∨ countB s.bundles k = 1 := by
  by_cases hk : k ∈ ids s
  · exact .inr (count_one h hk)
  · exact .inl (count_zero hk)

end Go.Tv.C27

end
section
open Go Go.Tv Go.Proofs
namespace Go.Tv.C27
set_option maxRecDepth 20000
set_option maxHeartbeats 2000000
set_option linter.unusedSimpArgs false
set_option linter.unusedVariables false
theorem alen2 {L M : List Store} (hL : L.length = 4) (hM : M.length = 4) : (encL L).length = (encL M).length := by unfold encL; simp [hL, hM]
theorem cr_in {n : Nat} {M : List Store} {cr : List Int} (h : LInv n M) (hcr : ∀ c, c ∈ cr → c ∈ (at' M 0).seen) {k : Nat} (hk : k < cr.length) : ∃ j, j < 4 ∧ cr[k] ∈ ids (at' M j) := by
  obtain ⟨j, _, h1, h2⟩ := h.fl 0 _ (by omega) (hcr _ (List.getElem_mem hk))
  exact ⟨j, h1, h2⟩

theorem line_ret (sz : List Int) (hsz : Bytes sz) (hsl : sz.length ≤ 9223372036854775807) (ft : List Fate) (hft : ∀ f, f ∈ ft → FateOK f) (hfl : ft.length ≤ 9223372036854775807) : Ret Try.prog 7 [.sl (sz.map encBy) false, .sl (ft.map encFt) false] (.bool true) := by
  refine ret_of_awp Try.func7 rfl (Nat.le_of_ble_eq_true rfl) ?_
  refine awp_seq ?_
  refine awp_rw rfl ?_
  refine RW.op rfl rfl (eff_assign (v := .t _) rfl rfl rfl) ?_
  refine RW.nil ?_
  refine awp_seq ?_
  refine awp_seq ?_
  refine awp_rw rfl ?_
  refine RW.op rfl rfl (eff_move (v := .t _) rfl rfl rfl) ?_
  refine RW.op rfl rfl (eff_lenM rfl rfl te34 rfl) ?_
  refine RW.op rfl rfl (eff_iop rfl rfl rfl rfl rfl) ?_
  refine RW.op rfl rfl (eff_move (v := .t _) rfl rfl rfl) ?_
  refine RW.split 18 rfl (fun h1 => ?_) (fun h1 => ?_)
  · try simp only [decide_eq_true_eq, decide_eq_false_iff_not, beq_iff_eq, bne_iff_ne, bne_eq_false_iff_eq, beq_eq_false_iff_ne, Bool.not_eq_true, Bool.not_eq_false, Bool.not_eq_true', Bool.not_eq_false', ne_eq] at h1
    refine RW.gskip rfl rfl rfl rfl rfl (by decide) ?_
    refine RW.gskip rfl rfl rfl rfl rfl (by decide) ?_
    refine RW.gskip rfl rfl rfl rfl rfl (by decide) ?_
    refine RW.op rfl rfl (eff_pick (v := .t _) rfl rfl rfl rfl) ?_
    refine RW.nil ?_
    refine awp_cond rfl (fun _ => ?_) (fun h => nomatch h)
    refine awp_seq ?_
    refine awp_rw rfl ?_
    refine RW.op rfl rfl (eff_callT (lives_ret) co10 rfl rfl rfl rfl) ?_
    refine RW.op rfl rfl (eff_assign (v := .t _) rfl rfl rfl) ?_
    refine RW.nil ?_
    refine awp_ret ?_
    exact ⟨Or.inr rfl, [_], ⟨.tmp (.t _), trivial⟩, .refl _⟩
  · try simp only [decide_eq_true_eq, decide_eq_false_iff_not, beq_iff_eq, bne_iff_ne, bne_eq_false_iff_eq, beq_eq_false_iff_ne, Bool.not_eq_true, Bool.not_eq_false, Bool.not_eq_true', Bool.not_eq_false', ne_eq] at h1
    refine RW.gop rfl rfl rfl rfl rfl rfl (eff_move (v := .t _) rfl rfl rfl) ?_
    refine RW.gop rfl rfl rfl rfl rfl rfl (eff_lenM rfl rfl te57 rfl) ?_
    refine RW.gop rfl rfl rfl rfl rfl rfl (eff_iop rfl rfl rfl rfl rfl) ?_
    refine RW.op rfl rfl (eff_pick (v := .t _) rfl rfl rfl rfl) ?_
    refine RW.nil ?_
    refine awp_cond rfl (fun h2 => ?_) (fun h2 => ?_)
    · try simp only [decide_eq_true_eq, decide_eq_false_iff_not, beq_iff_eq, bne_iff_ne, bne_eq_false_iff_eq, beq_eq_false_iff_ne, Bool.not_eq_true, Bool.not_eq_false, Bool.not_eq_true', Bool.not_eq_false', ne_eq] at h2
      refine awp_seq ?_
      refine awp_rw rfl ?_
      refine RW.op rfl rfl (eff_callT (lives_ret) co10 rfl rfl rfl rfl) ?_
      refine RW.op rfl rfl (eff_assign (v := .t _) rfl rfl rfl) ?_
      refine RW.nil ?_
      refine awp_ret ?_
      exact ⟨Or.inr rfl, [_], ⟨.tmp (.t _), trivial⟩, .refl _⟩
    · try simp only [decide_eq_true_eq, decide_eq_false_iff_not, beq_iff_eq, bne_iff_ne, bne_eq_false_iff_eq, beq_eq_false_iff_ne, Bool.not_eq_true, Bool.not_eq_false, Bool.not_eq_true', Bool.not_eq_false', ne_eq] at h2
      refine awp_skip ?_
      refine awp_seq ?_
      refine awp_rw rfl ?_
      refine RW.new rfl rfl (eff_allocL (y := .agg [encI 0, .sl [] false, .sl [] false, .sl [] false, encI 0, .sl [] false, .sl [] false, .sl [] false, encI 0, .sl [] false, .sl [] false, .sl [] false, encI 0, .sl [] false, .sl [] false, .sl [] false]) (k := 4) (id := 5) (els := encL (LQ 300 0)) rfl rfl tz58 rfl (Wk.aggP ⟨.refl _, .sl _, .sl _, .sl _, .refl _, .sl _, .sl _, .sl _, .refl _, .sl _, .sl _, .sl _, .refl _, .sl _, .sl _, .sl _, trivial⟩) rfl rfl rfl rfl (List.cons_ne_nil _ _)) ?_
      refine RW.nil ?_
      refine awp_seq ?_
      refine awp_seq ?_
      refine awp_rw rfl ?_
      refine RW.op rfl rfl (eff_assign (v := .t _) rfl rfl rfl) ?_
      refine RW.nil ?_
      refine awp_block ?_
      refine awp_loopW (fun m s => ∃ (i : Nat), (i ≤ 4) ∧ m = 4 - i ∧ s = ⟨107, [(0, .t (.sl (sz.map encBy) false)), (1, .t (.sl (ft.map encFt) false)), (5, .ptr 5 0 0 0), (6, .t (encI (i : Nat)))], [(5, some ⟨4, 58, 0, encL (LQ 300 i)⟩)]⟩) (_) (⟨_, weak_keep (n := 107) (fr' := [(0, .t (.sl (sz.map encBy) false)), (1, .t (.sl (ft.map encFt) false)), (5, .ptr 5 0 0 0), (6, .t (encI (0 : Nat)))]) (st' := [(5, some ⟨4, 58, 0, encL (LQ 300 0)⟩)]) ⟨rfl, rfl, rfl, rfl, rfl, rfl, rfl, rfl, trivial⟩ ⟨rfl, okE_t, trivial⟩, 0, (by omega), rfl, rfl⟩) ?_
      rintro m s ⟨i, hi, rfl, rfl⟩
      refine awp_seq ?_
      refine awp_seq ?_
      refine awp_rw rfl ?_
      refine RW.op rfl rfl (eff_move (v := .t _) rfl rfl rfl) ?_
      refine RW.op rfl rfl (eff_iop rfl rfl rfl rfl rfl) ?_
      refine RW.nil ?_
      refine awp_cond rfl (fun h3 => ?_) (fun h3 => ?_)
      · try simp only [decide_eq_true_eq, decide_eq_false_iff_not, beq_iff_eq, bne_iff_ne, bne_eq_false_iff_eq, beq_eq_false_iff_ne, Bool.not_eq_true, Bool.not_eq_false, Bool.not_eq_true', Bool.not_eq_false', ne_eq] at h3
        refine awp_skip ?_
        refine awp_seq ?_
        refine awp_block ?_
        refine awp_rw rfl ?_
        refine RW.op rfl rfl (eff_move (v := .t _) rfl rfl rfl) ?_
        refine RW.op rfl rfl (eff_indexAddrP (i := i) rfl rfl tu58 ti29 rfl rfl rfl (by omega) rfl rfl rfl (alen (LQ_len (by omega)) (by omega))) ?_
        refine RW.op rfl rfl (eff_fieldAddr rfl rfl tf29_0 (by decide) rfl rfl rfl (Nat.le_of_ble_eq_true rfl)) ?_
        refine RW.store rfl rfl (eff_storeS (v := .t (encI 300)) (ys := [_, _, _, _]) (els := encL (LQ 300 i)) (els' := encL (LQ 300 (i + 1))) (el := .t (encS ⟨0, [], [], []⟩)) rfl rfl ti3 rfl rfl rfl rfl rfl rfl (by rw [ael (LQ_len (by omega)) (by omega), LQ_at (by omega)]) (Nat.le_of_ble_eq_true rfl) rfl (by rw [← LQ_step (by omega)]; exact aset (t := ⟨300, [], [], []⟩))) ?_
        refine RW.nil ?_
        refine awp_rw rfl ?_
        refine RW.op rfl rfl (eff_move (v := .t _) rfl rfl rfl) ?_
        refine RW.op rfl rfl (eff_iop rfl rfl rfl rfl (iadd (by omega))) ?_
        refine RW.op rfl rfl (eff_assign (v := .t _) rfl rfl rfl) ?_
        refine RW.nil ?_
        refine ⟨_, ?_, _, weak_keep (n := 107) (fr' := [(0, .t (.sl (sz.map encBy) false)), (1, .t (.sl (ft.map encFt) false)), (5, .ptr 5 0 0 0), (6, .t (encI ((i + 1) : Nat)))]) (st' := [(5, some ⟨4, 58, 0, encL (LQ 300 (i + 1))⟩)]) ⟨rfl, rfl, rfl, rfl, rfl, rfl, rfl, rfl, trivial⟩ ⟨rfl, okE_t, trivial⟩, i + 1, (by omega), rfl, rfl⟩
        omega
      · try simp only [decide_eq_true_eq, decide_eq_false_iff_not, beq_iff_eq, bne_iff_ne, bne_eq_false_iff_eq, beq_eq_false_iff_ne, Bool.not_eq_true, Bool.not_eq_false, Bool.not_eq_true', Bool.not_eq_false', ne_eq] at h3
        refine awp_exit ?_
        refine awp_seq ?_
        refine awp_rw rfl ?_
        have hi4 : i = 4 := by omega
        subst hi4
        refine RW.op rfl rfl (eff_assign (v := .t _) rfl rfl rfl) ?_
        refine RW.nil ?_
        show AWP _ _ _ _
        refine awp_weak (weak_adopt (d := 7) (id := 7) (k := 1) (ty := 3) rfl rfl) ?_
        refine awp_seq ?_
        refine awp_seq ?_
        refine awp_rw rfl ?_
        refine RW.op rfl rfl (eff_assign (v := .t _) rfl rfl rfl) ?_
        refine RW.nil ?_
        refine awp_block ?_
        refine awp_loopW (fun m s => ∃ (i : Nat) (M : List Store) (cr : List Int) (gq : Nat), (i ≤ ft.length + sz.length) ∧ (LInv (4 * i) M) ∧ (∀ c, c ∈ cr → c ∈ (at' M 0).seen) ∧ (cr.length ≤ i) ∧ m = ft.length + sz.length - i ∧ s = ⟨107, [(0, .t (.sl (sz.map encBy) false)), (1, .t (.sl (ft.map encFt) false)), (5, .ptr 5 0 0 0), (7, .own 7 gq 0 cr.length), (8, .t (encI (i : Nat)))], [(5, some ⟨4, 58, 0, encL M⟩), (7, some ⟨1, 3, gq, (cr.map encI).map .t⟩)]⟩) (_) (⟨_, weak_keep (n := 107) (fr' := [(0, .t (.sl (sz.map encBy) false)), (1, .t (.sl (ft.map encFt) false)), (5, .ptr 5 0 0 0), (7, .own 7 0 0 ([]).length), (8, .t (encI (0 : Nat)))]) (st' := [(5, some ⟨4, 58, 0, encL ((Lz 300))⟩), (7, some ⟨1, 3, 0, (([]).map encI).map .t⟩)]) ⟨rfl, rfl, rfl, rfl, rfl, rfl, rfl, rfl, rfl, rfl, trivial⟩ ⟨rfl, okE_t, rfl, (by first | exact okE_nil | exact okE_t), trivial⟩, 0, (Lz 300), [], 0, (by omega), (by exact Lz_inv (by decide) (by decide)), (by intro c hc; cases hc), (by exact Nat.le_refl _), rfl, rfl⟩) ?_
        rintro m s ⟨i, M, cr, gq, hi, hM, hcr, hcl, rfl, rfl⟩
        refine awp_seq ?_
        refine awp_seq ?_
        refine awp_rw rfl ?_
        refine RW.op rfl rfl (eff_move (v := .t _) rfl rfl rfl) ?_
        refine RW.op rfl rfl (eff_move (v := .t _) rfl rfl rfl) ?_
        refine RW.op rfl rfl (eff_lenM rfl rfl te57 rfl) ?_
        refine RW.op rfl rfl (eff_iop rfl rfl rfl rfl rfl) ?_
        refine RW.op rfl rfl (eff_move (v := .t _) rfl rfl rfl) ?_
        refine RW.split 35 rfl (fun h4 => ?_) (fun h4 => ?_)
        · try simp only [decide_eq_true_eq, decide_eq_false_iff_not, beq_iff_eq, bne_iff_ne, bne_eq_false_iff_eq, beq_eq_false_iff_ne, Bool.not_eq_true, Bool.not_eq_false, Bool.not_eq_true', Bool.not_eq_false', ne_eq] at h4
          refine RW.gskip rfl rfl rfl rfl rfl (by decide) ?_
          refine RW.gskip rfl rfl rfl rfl rfl (by decide) ?_
          refine RW.gskip rfl rfl rfl rfl rfl (by decide) ?_
          refine RW.gskip rfl rfl rfl rfl rfl (by decide) ?_
          refine RW.op rfl rfl (eff_pick (v := .t _) rfl rfl rfl rfl) ?_
          refine RW.nil ?_
          refine awp_cond rfl (fun _ => ?_) (fun h => nomatch h)
          refine awp_skip ?_
          refine awp_seq ?_
          refine awp_block ?_
          refine awp_seq_mid (fun s => ∃ (M1 : List Store) (cr1 : List Int) (g1 : Nat), LInv (4 * i + 1) M1 ∧ (∀ c, c ∈ cr1 → c ∈ (at' M1 0).seen) ∧ cr1.length ≤ i + 1 ∧ Weak s ⟨107, [(0, .t (.sl (sz.map encBy) false)), (1, .t (.sl (ft.map encFt) false)), (5, .ptr 5 0 0 0), (7, .own 7 g1 0 cr1.length), (8, .t (encI (i : Nat)))], [(5, some ⟨4, 58, 0, encL M1⟩), (7, some ⟨1, 3, g1, (cr1.map encI).map .t⟩)]⟩) ?_ ?_
          · refine awp_seq ?_
            refine awp_rw rfl ?_
            refine RW.op rfl rfl (eff_move (v := .t _) rfl rfl rfl) ?_
            refine RW.op rfl rfl (eff_move (v := .t _) rfl rfl rfl) ?_
            refine RW.op rfl rfl (eff_lenM rfl rfl te34 rfl) ?_
            refine RW.op rfl rfl (eff_iop rfl rfl rfl rfl rfl) ?_
            refine RW.nil ?_
            refine awp_cond rfl (fun h5 => ?_) (fun h5 => ?_)
            · try simp only [decide_eq_true_eq, decide_eq_false_iff_not, beq_iff_eq, bne_iff_ne, bne_eq_false_iff_eq, beq_eq_false_iff_ne, Bool.not_eq_true, Bool.not_eq_false, Bool.not_eq_true', Bool.not_eq_false', ne_eq] at h5
              refine awp_seq ?_
              have his : i < sz.length := by omega
              have hsi := hsz _ (List.getElem_mem his)
              refine awp_rd [(some 48, []), (some 49, []), (some 50, []), (some 51, []), (some 52, []), (some 53, []), (some 54, []), (some 55, []), (some 56, []), (some 57, []), (some 58, []), (some 47, []), (some 59, []), (some 60, []), (some 9, [9]), (none, [9]), (some 10, [])] [[], [0], [], [], [], [3, 4], [3, 4, 5], [3, 4, 5, 6], [3, 4, 5, 6, 7], [2, 3, 4, 5, 6, 7, 8], [0, 1, 2, 3, 4, 5, 6, 7, 8, 9], [0, 1, 2, 3, 4, 5, 6, 7, 8, 9, 10], [0, 1, 2, 3, 4, 5, 6, 7, 8, 9, 10, 11], [0, 1, 2, 3, 4, 5, 6, 7, 8, 9, 10, 11], [], [0, 1, 2, 3, 4, 5, 6, 7, 8, 9, 10, 11, 12, 14], [0, 1, 2, 3, 4, 5, 6, 7, 8, 9, 10, 11, 12, 13, 14, 15]] tm rfl rfl rfl rfl ?_
              refine RD.op rfl rfl rfl (eff_indexAddrP (i := 0) rfl rfl tu58 ti29 rfl rfl rfl (by omega) rfl rfl rfl (alen hM.len (by omega))) ?_
              refine RD.op rfl rfl rfl (eff_load (y := .t (encS (at' M (0)))) rfl rfl ti29 rfl (.whole rfl rfl (ael hM.len (by omega)) rfl rfl rfl)) ?_
              refine RD.op rfl rfl rfl (eff_move (v := .t _) rfl rfl rfl) ?_
              refine RD.op rfl rfl rfl (eff_move (v := .t _) rfl rfl rfl) ?_
              refine RD.op rfl rfl rfl (eff_move (v := .t _) rfl rfl rfl) ?_
              refine RD.op rfl rfl rfl (eff_indexM rfl rfl te34 rfl rfl rfl (by first | assumption | exact List.getElem?_eq_getElem (by omega)) rfl (by decide)) ?_
              refine RD.op rfl rfl rfl (eff_loadW1 rfl rfl ti5 rfl rfl) ?_
              refine RD.op rfl rfl rfl (eff_remE (r := (sz[i]'his) % 41) rfl rfl rfl rfl (by decide) (tmod_pos hsi.1)) ?_
              refine RD.op rfl rfl rfl (eff_convIntE (m := ((((sz[i]'his) % 41).toNat : Nat) : Int)) rfl rfl (by rw [tu5]; rfl) tu3 rfl (by rw [wrap64 (by omega) (by omega)]; omega)) ?_
              refine RD.op rfl rfl rfl (eff_callT (bundle_ret (i : Int) ((sz[i]'his) % 41).toNat (by omega)) co29 rfl rfl rfl rfl) ?_
              refine RD.op rfl rfl rfl (eff_callT (create28_ret insC (at' M 0) ⟨(i : Int), 0, 1, 0, 0, 0, 0, List.replicate ((sz[i]'his) % 41).toNat 0⟩ ((hM.vi (0) (by omega)).sok (by omega)) (by unfold BOK; simp; omega) (hM.vi 0 (by omega)).ss) co28 rfl rfl rfl rfl) ?_
              refine RD.op rfl rfl rfl (eff_move (v := .t _) rfl rfl rfl) ?_
              refine RD.op rfl rfl rfl (eff_extract rfl rfl rfl rfl) ?_
              refine RD.op rfl rfl rfl (eff_extract rfl rfl rfl rfl) ?_
              refine RD.new rfl rfl rfl (eff_allocK (k := 4) (id := 9) rfl rfl tz29 rfl rfl) ?_
              refine RD.store rfl rfl rfl (eff_storeW (v := .t _) (els := [_]) (els' := [_]) rfl rfl ti29 rfl rfl rfl rfl rfl rfl rfl rfl rfl) ?_
              refine RD.op rfl rfl rfl (eff_assign (v := .t _) rfl rfl rfl) ?_
              refine RD.nil ?_
              refine awp_seq ?_
              refine awp_rw rfl ?_
              refine RW.op rfl rfl (eff_move (v := .t _) rfl rfl rfl) ?_
              refine RW.op rfl rfl (eff_iop rfl rfl rfl rfl rfl) ?_
              refine RW.nil ?_
              refine awp_cond rfl (fun h6 => ?_) (fun h6 => ?_)
              · try simp only [decide_eq_true_eq, decide_eq_false_iff_not, beq_iff_eq, bne_iff_ne, bne_eq_false_iff_eq, beq_eq_false_iff_ne, Bool.not_eq_true, Bool.not_eq_false, Bool.not_eq_true', Bool.not_eq_false', ne_eq] at h6
                refine awp_seq ?_
                refine awp_rw rfl ?_
                refine RW.op rfl rfl (eff_load rfl rfl ti29 rfl (.whole rfl rfl rfl rfl rfl rfl)) ?_
                refine RW.op rfl rfl (eff_indexAddrP (i := 0) rfl rfl tu58 ti29 rfl rfl rfl (by omega) rfl rfl rfl (alen hM.len (by omega))) ?_
                refine RW.store rfl rfl (eff_storeW (v := .t (encS (create (at' M 0) ⟨(i : Int), 0, 1, 0, 0, 0, 0, List.replicate ((sz[i]'his) % 41).toNat 0⟩).1)) (els := encL M) (els' := encL (M.set 0 (create (at' M 0) ⟨(i : Int), 0, 1, 0, 0, 0, 0, List.replicate ((sz[i]'his) % 41).toNat 0⟩).1)) (el := .t (encS (at' M (0)))) rfl rfl ti29 rfl rfl rfl rfl rfl rfl (ael hM.len (by omega)) rfl aset) ?_
                refine RW.nil ?_
                refine awp_rw rfl ?_
                refine RW.op rfl rfl (eff_move (v := .own _ _ _ _) rfl rfl rfl) ?_
                refine RW.op rfl rfl (eff_move (v := .t _) rfl rfl rfl) ?_
                refine RW.new rfl rfl (eff_buildSlice1 (id := 67) (els := [_]) rfl rfl te27 tz3 rfl (by decide) rfl rfl rfl rfl) ?_
                refine RW.new rfl rfl (eff_append (id := 7) (ys := [_]) rfl rfl ta27 rfl rfl rfl (by simp) rfl rfl (srcOwn rfl rfl rfl rfl rfl rfl) (by simp) (by simp; omega) (by simp; omega)) ?_
                refine RW.op rfl rfl (eff_assign (v := .own _ _ _ _) rfl rfl rfl) ?_
                refine RW.nil ?_
                show ∃ (M1 : List Store) (cr1 : List Int) (g1 : Nat), _
                first
                  | (have he : (create (at' M 0) ⟨(i : Int), 0, 1, 0, 0, 0, 0, List.replicate ((sz[i]'his) % 41).toNat 0⟩).2 = 0 := by assumption
                     obtain ⟨q1, q2, q3⟩ := hM.crea (bytes_rep _) he
                     refine ⟨M.set 0 (create (at' M 0) ⟨(i : Int), 0, 1, 0, 0, 0, 0, List.replicate ((sz[i]'his) % 41).toNat 0⟩).1, cr ++ [(i : Int)], gq + 1, q1, ?_, by rw [List.length_append, List.length_singleton]; omega, ?_⟩
                     · intro c hc
                       rcases List.mem_append.1 hc with hc | hc
                       · exact q2 0 c (by omega) (hcr c hc)
                       · rw [List.mem_singleton.1 hc]; exact q3
                     · rw [List.length_append, List.map_append, List.map_append]
                       exact weak_keep (n := 107) ⟨rfl, rfl, rfl, rfl, rfl, rfl, rfl, rfl, rfl, rfl, trivial⟩ ⟨rfl, okE_t, rfl, (by first | exact okE_t | exact okE_app okE_t (okE_one rfl)), trivial⟩)
                  | (have hnc : True := trivial
                     exact ⟨M, cr, _, hM.mono (by omega), hcr, by omega, weak_keep (n := 107) ⟨rfl, rfl, rfl, rfl, rfl, rfl, rfl, rfl, rfl, rfl, trivial⟩ ⟨rfl, okE_t, rfl, (by first | exact okE_t | exact okE_app okE_t (okE_one rfl)), trivial⟩⟩)
              · try simp only [decide_eq_true_eq, decide_eq_false_iff_not, beq_iff_eq, bne_iff_ne, bne_eq_false_iff_eq, beq_eq_false_iff_ne, Bool.not_eq_true, Bool.not_eq_false, Bool.not_eq_true', Bool.not_eq_false', ne_eq] at h6
                refine awp_skip ?_
                show ∃ (M1 : List Store) (cr1 : List Int) (g1 : Nat), _
                first
                  | (have he : (create (at' M 0) ⟨(i : Int), 0, 1, 0, 0, 0, 0, List.replicate ((sz[i]'his) % 41).toNat 0⟩).2 = 0 := by assumption
                     obtain ⟨q1, q2, q3⟩ := hM.crea (bytes_rep _) he
                     refine ⟨M.set 0 (create (at' M 0) ⟨(i : Int), 0, 1, 0, 0, 0, 0, List.replicate ((sz[i]'his) % 41).toNat 0⟩).1, cr ++ [(i : Int)], gq + 1, q1, ?_, by rw [List.length_append, List.length_singleton]; omega, ?_⟩
                     · intro c hc
                       rcases List.mem_append.1 hc with hc | hc
                       · exact q2 0 c (by omega) (hcr c hc)
                       · rw [List.mem_singleton.1 hc]; exact q3
                     · rw [List.length_append, List.map_append, List.map_append]
                       exact weak_keep (n := 107) ⟨rfl, rfl, rfl, rfl, rfl, rfl, rfl, rfl, rfl, rfl, trivial⟩ ⟨rfl, okE_t, rfl, (by first | exact okE_t | exact okE_app okE_t (okE_one rfl)), trivial⟩)
                  | (have hnc : True := trivial
                     exact ⟨M, cr, _, hM.mono (by omega), hcr, by omega, weak_keep (n := 107) ⟨rfl, rfl, rfl, rfl, rfl, rfl, rfl, rfl, rfl, rfl, trivial⟩ ⟨rfl, okE_t, rfl, (by first | exact okE_t | exact okE_app okE_t (okE_one rfl)), trivial⟩⟩)
            · try simp only [decide_eq_true_eq, decide_eq_false_iff_not, beq_iff_eq, bne_iff_ne, bne_eq_false_iff_eq, beq_eq_false_iff_ne, Bool.not_eq_true, Bool.not_eq_false, Bool.not_eq_true', Bool.not_eq_false', ne_eq] at h5
              refine awp_skip ?_
              show ∃ (M1 : List Store) (cr1 : List Int) (g1 : Nat), _
              first
                | (have he : (create (at' M 0) ⟨(i : Int), 0, 1, 0, 0, 0, 0, List.replicate ((sz[i]'his) % 41).toNat 0⟩).2 = 0 := by assumption
                   obtain ⟨q1, q2, q3⟩ := hM.crea (bytes_rep _) he
                   refine ⟨M.set 0 (create (at' M 0) ⟨(i : Int), 0, 1, 0, 0, 0, 0, List.replicate ((sz[i]'his) % 41).toNat 0⟩).1, cr ++ [(i : Int)], gq + 1, q1, ?_, by rw [List.length_append, List.length_singleton]; omega, ?_⟩
                   · intro c hc
                     rcases List.mem_append.1 hc with hc | hc
                     · exact q2 0 c (by omega) (hcr c hc)
                     · rw [List.mem_singleton.1 hc]; exact q3
                   · rw [List.length_append, List.map_append, List.map_append]
                     exact weak_keep (n := 107) ⟨rfl, rfl, rfl, rfl, rfl, rfl, rfl, rfl, rfl, rfl, trivial⟩ ⟨rfl, okE_t, rfl, (by first | exact okE_t | exact okE_app okE_t (okE_one rfl)), trivial⟩)
                | (have hnc : True := trivial
                   exact ⟨M, cr, _, hM.mono (by omega), hcr, by omega, weak_keep (n := 107) ⟨rfl, rfl, rfl, rfl, rfl, rfl, rfl, rfl, rfl, rfl, trivial⟩ ⟨rfl, okE_t, rfl, (by first | exact okE_t | exact okE_app okE_t (okE_one rfl)), trivial⟩⟩)
          · rintro s1 ⟨M1, cr1, g1, hM1, hcr1, hcl1, hw⟩
            refine awp_weak hw ?_
            refine awp_seq_mid (fun s => ∃ (M2 : List Store), LInv (4 * (i + 1)) M2 ∧ (∀ c, c ∈ cr1 → c ∈ (at' M2 0).seen) ∧ Weak s ⟨107, [(0, .t (.sl (sz.map encBy) false)), (1, .t (.sl (ft.map encFt) false)), (5, .ptr 5 0 0 0), (7, .own 7 g1 0 cr1.length), (8, .t (encI (i : Nat)))], [(5, some ⟨4, 58, 0, encL M2⟩), (7, some ⟨1, 3, g1, (cr1.map encI).map .t⟩)]⟩) ?_ ?_
            · refine awp_seq ?_
              refine awp_rw rfl ?_
              refine RW.op rfl rfl (eff_move (v := .t _) rfl rfl rfl) ?_
              refine RW.op rfl rfl (eff_move (v := .t _) rfl rfl rfl) ?_
              refine RW.op rfl rfl (eff_lenM rfl rfl te57 rfl) ?_
              refine RW.op rfl rfl (eff_iop rfl rfl rfl rfl rfl) ?_
              refine RW.op rfl rfl (eff_move (v := .t _) rfl rfl rfl) ?_
              refine RW.split 73 rfl (fun h7 => ?_) (fun h7 => ?_)
              · try simp only [decide_eq_true_eq, decide_eq_false_iff_not, beq_iff_eq, bne_iff_ne, bne_eq_false_iff_eq, beq_eq_false_iff_ne, Bool.not_eq_true, Bool.not_eq_false, Bool.not_eq_true', Bool.not_eq_false', ne_eq] at h7
                refine RW.gop rfl rfl rfl rfl rfl rfl (eff_move (v := .t _) rfl rfl rfl) ?_
                refine RW.gop rfl rfl rfl rfl rfl rfl (eff_move (v := .t _) rfl rfl rfl) ?_
                refine RW.gop rfl rfl rfl rfl rfl rfl (eff_indexM rfl rfl te57 rfl rfl rfl (by first | assumption | exact List.getElem?_eq_getElem (by omega)) rfl (by decide)) ?_
                refine RW.gop rfl rfl rfl rfl rfl rfl (eff_loadW rfl rfl ti64 rfl rfl rfl) ?_
                refine RW.gnew rfl rfl rfl rfl rfl rfl (eff_callK (event_fate (4 * i + 1) (by omega) M1 hM1 (ft[i]'(by omega)) (hft _ (List.getElem_mem _))) co30 (fun _ => 5) rfl rfl rfl ⟨.ptr _ _ _ _ rfl rfl, .t _, trivial⟩ (.t _) rfl ⟨⟨rfl, treeEls_t, ⟨_, rfl, .inr ⟨rfl, rfl, rfl, alen2 (evF_inv hM1 _).1.len hM1.len, 0, rfl, List.mem_singleton.2 rfl⟩⟩⟩, trivial⟩ ⟨⟨treeEls_t, .inl rfl⟩, trivial⟩) ?_
                refine RW.gop rfl rfl rfl rfl rfl rfl (eff_unop rfl rfl rfl rfl) ?_
                refine RW.op rfl rfl (eff_pick (v := .t _) rfl rfl rfl rfl) ?_
                refine RW.nil ?_
                refine awp_cond rfl (fun h => nomatch h) (fun _ => ?_)
                refine awp_skip ?_
                show ∃ (M2 : List Store), _
                first
                  | exact ⟨evF M1 (ft[i]'(by omega)), (evF_inv hM1 _).1.mono (by omega), fun c hc => (evF_inv hM1 (ft[i]'(by omega))).2 0 c (by omega) (hcr1 c hc), weak_keep (n := 107) ⟨rfl, rfl, rfl, rfl, rfl, rfl, rfl, rfl, rfl, rfl, trivial⟩ ⟨rfl, okE_t, rfl, (by first | exact okE_t | exact okE_app okE_t (okE_one rfl)), trivial⟩⟩
                  | exact ⟨M1, hM1.mono (by omega), hcr1, weak_keep (n := 107) ⟨rfl, rfl, rfl, rfl, rfl, rfl, rfl, rfl, rfl, rfl, trivial⟩ ⟨rfl, okE_t, rfl, (by first | exact okE_t | exact okE_app okE_t (okE_one rfl)), trivial⟩⟩
              · try simp only [decide_eq_true_eq, decide_eq_false_iff_not, beq_iff_eq, bne_iff_ne, bne_eq_false_iff_eq, beq_eq_false_iff_ne, Bool.not_eq_true, Bool.not_eq_false, Bool.not_eq_true', Bool.not_eq_false', ne_eq] at h7
                refine RW.gskip rfl rfl rfl rfl rfl (by decide) ?_
                refine RW.gskip rfl rfl rfl rfl rfl (by decide) ?_
                refine RW.gskip rfl rfl rfl rfl rfl (by decide) ?_
                refine RW.gskip rfl rfl rfl rfl rfl (by decide) ?_
                refine RW.gskip rfl rfl rfl rfl rfl (by decide) ?_
                refine RW.gskip rfl rfl rfl rfl rfl (by decide) ?_
                refine RW.op rfl rfl (eff_pick (v := .t _) rfl rfl rfl rfl) ?_
                refine RW.nil ?_
                refine awp_cond rfl (fun h => nomatch h) (fun _ => ?_)
                refine awp_skip ?_
                show ∃ (M2 : List Store), _
                first
                  | exact ⟨evF M1 (ft[i]'(by omega)), (evF_inv hM1 _).1.mono (by omega), fun c hc => (evF_inv hM1 (ft[i]'(by omega))).2 0 c (by omega) (hcr1 c hc), weak_keep (n := 107) ⟨rfl, rfl, rfl, rfl, rfl, rfl, rfl, rfl, rfl, rfl, trivial⟩ ⟨rfl, okE_t, rfl, (by first | exact okE_t | exact okE_app okE_t (okE_one rfl)), trivial⟩⟩
                  | exact ⟨M1, hM1.mono (by omega), hcr1, weak_keep (n := 107) ⟨rfl, rfl, rfl, rfl, rfl, rfl, rfl, rfl, rfl, rfl, trivial⟩ ⟨rfl, okE_t, rfl, (by first | exact okE_t | exact okE_app okE_t (okE_one rfl)), trivial⟩⟩
            · rintro s2 ⟨M2, hM2, hcr2, hw2⟩
              refine awp_weak hw2 ?_
              refine awp_seq ?_
              refine awp_rw rfl ?_
              refine RW.op rfl rfl (eff_assign (v := .t _) rfl rfl rfl) ?_
              refine RW.nil ?_
              refine awp_block ?_
              refine awp_loopW (fun m s => ∃ (c : Nat), (c ≤ cr1.length) ∧ m = cr1.length - c ∧ s = ⟨107, [(0, .t (.sl (sz.map encBy) false)), (1, .t (.sl (ft.map encFt) false)), (5, .ptr 5 0 0 0), (7, .own 7 g1 0 cr1.length), (8, .t (encI (i : Nat))), (11, .t (encI (c : Nat)))], [(5, some ⟨4, 58, 0, encL M2⟩), (7, some ⟨1, 3, g1, (cr1.map encI).map .t⟩)]⟩) (_) (⟨_, weak_keep (n := 107) (fr' := [(0, .t (.sl (sz.map encBy) false)), (1, .t (.sl (ft.map encFt) false)), (5, .ptr 5 0 0 0), (7, .own 7 g1 0 cr1.length), (8, .t (encI (i : Nat))), (11, .t (encI (0 : Nat)))]) (st' := [(5, some ⟨4, 58, 0, encL M2⟩), (7, some ⟨1, 3, g1, (cr1.map encI).map .t⟩)]) ⟨rfl, rfl, rfl, rfl, rfl, rfl, rfl, rfl, rfl, rfl, rfl, rfl, trivial⟩ ⟨rfl, okE_t, rfl, okE_t, trivial⟩, 0, (by omega), rfl, rfl⟩) ?_
              rintro m s ⟨c, hc, rfl, rfl⟩
              refine awp_seq ?_
              refine awp_seq ?_
              refine awp_rw rfl ?_
              refine RW.op rfl rfl (eff_move (v := .t _) rfl rfl rfl) ?_
              refine RW.op rfl rfl (eff_move (v := .own _ _ _ _) rfl rfl rfl) ?_
              refine RW.op rfl rfl (eff_len rfl rfl te27 rfl rfl rfl) ?_
              refine RW.op rfl rfl (eff_iop rfl rfl rfl rfl rfl) ?_
              refine RW.nil ?_
              refine awp_cond rfl (fun h8 => ?_) (fun h8 => ?_)
              · try simp only [decide_eq_true_eq, decide_eq_false_iff_not, beq_iff_eq, bne_iff_ne, bne_eq_false_iff_eq, beq_eq_false_iff_ne, Bool.not_eq_true, Bool.not_eq_false, Bool.not_eq_true', Bool.not_eq_false', ne_eq] at h8
                refine awp_skip ?_
                refine awp_seq ?_
                refine awp_block ?_
                refine awp_seq ?_
                refine awp_rw rfl ?_
                refine RW.op rfl rfl (eff_assign (v := .t _) rfl rfl rfl) ?_
                refine RW.nil ?_
                have hcc : c < cr1.length := by omega
                refine awp_seq ?_
                refine awp_seq ?_
                refine awp_rw rfl ?_
                refine RW.op rfl rfl (eff_assign (v := .t _) rfl rfl rfl) ?_
                refine RW.nil ?_
                refine awp_block ?_
                refine awp_loopW (fun m s => ∃ (j : Nat) (hd : Int), (j ≤ 4) ∧ (0 ≤ hd ∧ hd ≤ j) ∧ (∀ j', j' < j → cr1[c]'hcc ∈ ids (at' M2 j') → 0 < hd) ∧ m = 4 - j ∧ s = ⟨107, [(0, .t (.sl (sz.map encBy) false)), (1, .t (.sl (ft.map encFt) false)), (5, .ptr 5 0 0 0), (7, .own 7 g1 0 cr1.length), (8, .t (encI (i : Nat))), (11, .t (encI (c : Nat))), (12, .t (encI hd)), (13, .t (encI (j : Nat)))], [(5, some ⟨4, 58, 0, encL M2⟩), (7, some ⟨1, 3, g1, (cr1.map encI).map .t⟩)]⟩) (_) (⟨_, weak_keep (n := 107) (fr' := [(0, .t (.sl (sz.map encBy) false)), (1, .t (.sl (ft.map encFt) false)), (5, .ptr 5 0 0 0), (7, .own 7 g1 0 cr1.length), (8, .t (encI (i : Nat))), (11, .t (encI (c : Nat))), (12, .t (encI 0)), (13, .t (encI (0 : Nat)))]) (st' := [(5, some ⟨4, 58, 0, encL M2⟩), (7, some ⟨1, 3, g1, (cr1.map encI).map .t⟩)]) ⟨rfl, rfl, rfl, rfl, rfl, rfl, rfl, rfl, rfl, rfl, rfl, rfl, rfl, rfl, rfl, rfl, trivial⟩ ⟨rfl, okE_t, rfl, okE_t, trivial⟩, 0, 0, (by omega), (by omega), (by intro j' hj' _; omega), rfl, rfl⟩) ?_
                rintro m s ⟨j, hd, hj, hd0, hge, rfl, rfl⟩
                refine awp_seq ?_
                refine awp_seq ?_
                refine awp_rw rfl ?_
                refine RW.op rfl rfl (eff_move (v := .t _) rfl rfl rfl) ?_
                refine RW.op rfl rfl (eff_iop rfl rfl rfl rfl rfl) ?_
                refine RW.nil ?_
                refine awp_cond rfl (fun h9 => ?_) (fun h9 => ?_)
                · try simp only [decide_eq_true_eq, decide_eq_false_iff_not, beq_iff_eq, bne_iff_ne, bne_eq_false_iff_eq, beq_eq_false_iff_ne, Bool.not_eq_true, Bool.not_eq_false, Bool.not_eq_true', Bool.not_eq_false', ne_eq] at h9
                  refine awp_skip ?_
                  refine awp_seq ?_
                  refine awp_block ?_
                  refine awp_seq ?_
                  refine awp_rd [(some 91, []), (some 92, []), (some 93, []), (some 94, []), (some 95, []), (some 96, []), (some 97, []), (some 98, []), (some 14, [])] [[], [0], [0, 1], [], [], [3, 4], [3, 4, 5], [0, 1, 2, 3, 4, 5, 6], [0, 1, 2, 3, 4, 5, 6, 7]] tm rfl rfl rfl rfl ?_
                  refine RD.op rfl rfl rfl (eff_move (v := .t _) rfl rfl rfl) ?_
                  refine RD.op rfl rfl rfl (eff_indexAddrP (i := j) rfl rfl tu58 ti29 rfl rfl (by first | rfl | omega) (by omega) rfl rfl rfl (alen hM2.len (by omega))) ?_
                  refine RD.op rfl rfl rfl (eff_load (y := .t (encS (at' M2 (j)))) rfl rfl ti29 rfl (.whole rfl rfl (ael hM2.len (by omega)) rfl rfl rfl)) ?_
                  refine RD.op rfl rfl rfl (eff_move (v := .own _ _ _ _) rfl rfl rfl) ?_
                  refine RD.op rfl rfl rfl (eff_move (v := .t _) rfl rfl rfl) ?_
                  refine RD.op rfl rfl rfl (eff_indexAddr rfl rfl te27 rfl rfl rfl rfl rfl rfl (by omega)) ?_
                  refine RD.op rfl rfl rfl (eff_load (y := .t (encI (cr1[c]'hcc))) rfl rfl ti3 rfl (.one rfl rfl (by simp only [Nat.zero_add, List.getElem?_map, List.getElem?_eq_getElem hcc]; rfl) rfl)) ?_
                  refine RD.op rfl rfl rfl (eff_callT (count_ret (at' M2 j) (cr1[c]'hcc) ((hM2.vi (j) (by omega)).sok (by omega))) co22 rfl rfl rfl rfl) ?_
                  refine RD.op rfl rfl rfl (eff_assign (v := .t _) rfl rfl rfl) ?_
                  refine RD.nil ?_
                  refine awp_seq ?_
                  refine awp_seq ?_
                  refine awp_rw rfl ?_
                  refine RW.op rfl rfl (eff_move (v := .t _) rfl rfl rfl) ?_
                  refine RW.op rfl rfl (eff_iop (r := .bool false) rfl rfl rfl rfl (by exact iop_gtr_f (by have := count_le (k := cr1[c]'hcc) (hM2.vi j (by omega)); omega))) ?_
                  refine RW.nil ?_
                  refine awp_cond rfl (fun h => nomatch h) (fun _ => ?_)
                  refine awp_skip ?_
                  refine awp_rw rfl ?_
                  have hcb := count_le (k := cr1[c]'hcc) (hM2.vi j (by omega))
                  refine RW.op rfl rfl (eff_move (v := .t _) rfl rfl rfl) ?_
                  refine RW.op rfl rfl (eff_move (v := .t _) rfl rfl rfl) ?_
                  refine RW.op rfl rfl (eff_iop rfl rfl rfl rfl (iadd (by omega))) ?_
                  refine RW.op rfl rfl (eff_assign (v := .t _) rfl rfl rfl) ?_
                  refine RW.nil ?_
                  refine awp_rw rfl ?_
                  refine RW.op rfl rfl (eff_move (v := .t _) rfl rfl rfl) ?_
                  refine RW.op rfl rfl (eff_iop rfl rfl rfl rfl (iadd (by omega))) ?_
                  refine RW.op rfl rfl (eff_assign (v := .t _) rfl rfl rfl) ?_
                  refine RW.nil ?_
                  refine ⟨_, ?_, _, weak_keep (n := 107) (fr' := [(0, .t (.sl (sz.map encBy) false)), (1, .t (.sl (ft.map encFt) false)), (5, .ptr 5 0 0 0), (7, .own 7 g1 0 cr1.length), (8, .t (encI (i : Nat))), (11, .t (encI (c : Nat))), (12, .t (encI (hd + countB (at' M2 j).bundles (cr1[c]'hcc)))), (13, .t (encI ((j + 1) : Nat)))]) (st' := [(5, some ⟨4, 58, 0, encL M2⟩), (7, some ⟨1, 3, g1, (cr1.map encI).map .t⟩)]) ⟨rfl, rfl, rfl, rfl, rfl, rfl, rfl, rfl, rfl, rfl, rfl, rfl, rfl, rfl, rfl, rfl, trivial⟩ ⟨rfl, okE_t, rfl, okE_t, trivial⟩, j + 1, hd + countB (at' M2 j).bundles (cr1[c]'hcc), (by omega), (by have := count_le (k := cr1[c]'hcc) (hM2.vi j (by omega)); omega), (by intro j' hj' hin; have h0 := count_le (k := cr1[c]'hcc) (hM2.vi j (by omega)); by_cases e : j' = j; (subst e; have := count_one (hM2.vi j' (by omega)) hin; omega); (have := hge j' (by omega) hin; omega)), rfl, rfl⟩
                  omega
                · try simp only [decide_eq_true_eq, decide_eq_false_iff_not, beq_iff_eq, bne_iff_ne, bne_eq_false_iff_eq, beq_eq_false_iff_ne, Bool.not_eq_true, Bool.not_eq_false, Bool.not_eq_true', Bool.not_eq_false', ne_eq] at h9
                  refine awp_exit ?_
                  refine awp_seq ?_
                  refine awp_rw rfl ?_
                  have hpos : 0 < hd := by
                    obtain ⟨j', h1, h2⟩ := cr_in hM2 hcr2 hcc
                    exact hge j' (by omega) h2
                  refine RW.op rfl rfl (eff_move (v := .t _) rfl rfl rfl) ?_
                  refine RW.op rfl rfl (eff_iop (r := .bool false) rfl rfl rfl rfl (by exact iop_eql_f (by omega))) ?_
                  refine RW.nil ?_
                  refine awp_cond rfl (fun h => nomatch h) (fun _ => ?_)
                  refine awp_skip ?_
                  refine awp_rw rfl ?_
                  refine RW.op rfl rfl (eff_move (v := .t _) rfl rfl rfl) ?_
                  refine RW.op rfl rfl (eff_iop rfl rfl rfl rfl (iadd (by omega))) ?_
                  refine RW.op rfl rfl (eff_assign (v := .t _) rfl rfl rfl) ?_
                  refine RW.nil ?_
                  refine ⟨_, ?_, _, weak_keep (n := 107) (fr' := [(0, .t (.sl (sz.map encBy) false)), (1, .t (.sl (ft.map encFt) false)), (5, .ptr 5 0 0 0), (7, .own 7 g1 0 cr1.length), (8, .t (encI (i : Nat))), (11, .t (encI ((c + 1) : Nat)))]) (st' := [(5, some ⟨4, 58, 0, encL M2⟩), (7, some ⟨1, 3, g1, (cr1.map encI).map .t⟩)]) ⟨rfl, rfl, rfl, rfl, rfl, rfl, rfl, rfl, rfl, rfl, rfl, rfl, trivial⟩ ⟨rfl, okE_t, rfl, okE_t, trivial⟩, c + 1, (by omega), rfl, rfl⟩
                  omega
              · try simp only [decide_eq_true_eq, decide_eq_false_iff_not, beq_iff_eq, bne_iff_ne, bne_eq_false_iff_eq, beq_eq_false_iff_ne, Bool.not_eq_true, Bool.not_eq_false, Bool.not_eq_true', Bool.not_eq_false', ne_eq] at h8
                refine awp_exit ?_
                refine awp_rw rfl ?_
                refine RW.op rfl rfl (eff_move (v := .t _) rfl rfl rfl) ?_
                refine RW.op rfl rfl (eff_iop rfl rfl rfl rfl (iadd (by omega))) ?_
                refine RW.op rfl rfl (eff_assign (v := .t _) rfl rfl rfl) ?_
                refine RW.nil ?_
                refine ⟨_, ?_, _, weak_keep (n := 107) (fr' := [(0, .t (.sl (sz.map encBy) false)), (1, .t (.sl (ft.map encFt) false)), (5, .ptr 5 0 0 0), (7, .own 7 g1 0 cr1.length), (8, .t (encI ((i + 1) : Nat)))]) (st' := [(5, some ⟨4, 58, 0, encL M2⟩), (7, some ⟨1, 3, g1, (cr1.map encI).map .t⟩)]) ⟨rfl, rfl, rfl, rfl, rfl, rfl, rfl, rfl, rfl, rfl, trivial⟩ ⟨rfl, okE_t, rfl, (by first | exact okE_nil | exact okE_t), trivial⟩, i + 1, M2, cr1, g1, (by omega), (by exact hM2), (by exact hcr2), (by exact hcl1), rfl, rfl⟩
                omega
        · try simp only [decide_eq_true_eq, decide_eq_false_iff_not, beq_iff_eq, bne_iff_ne, bne_eq_false_iff_eq, beq_eq_false_iff_ne, Bool.not_eq_true, Bool.not_eq_false, Bool.not_eq_true', Bool.not_eq_false', ne_eq] at h4
          refine RW.gop rfl rfl rfl rfl rfl rfl (eff_move (v := .t _) rfl rfl rfl) ?_
          refine RW.gop rfl rfl rfl rfl rfl rfl (eff_move (v := .t _) rfl rfl rfl) ?_
          refine RW.gop rfl rfl rfl rfl rfl rfl (eff_lenM rfl rfl te34 rfl) ?_
          refine RW.gop rfl rfl rfl rfl rfl rfl (eff_iop rfl rfl rfl rfl rfl) ?_
          refine RW.op rfl rfl (eff_pick (v := .t _) rfl rfl rfl rfl) ?_
          refine RW.nil ?_
          refine awp_cond rfl (fun h10 => ?_) (fun h10 => ?_)
          · try simp only [decide_eq_true_eq, decide_eq_false_iff_not, beq_iff_eq, bne_iff_ne, bne_eq_false_iff_eq, beq_eq_false_iff_ne, Bool.not_eq_true, Bool.not_eq_false, Bool.not_eq_true', Bool.not_eq_false', ne_eq] at h10
            refine awp_skip ?_
            refine awp_seq ?_
            refine awp_block ?_
            refine awp_seq_mid (fun s => ∃ (M1 : List Store) (cr1 : List Int) (g1 : Nat), LInv (4 * i + 1) M1 ∧ (∀ c, c ∈ cr1 → c ∈ (at' M1 0).seen) ∧ cr1.length ≤ i + 1 ∧ Weak s ⟨107, [(0, .t (.sl (sz.map encBy) false)), (1, .t (.sl (ft.map encFt) false)), (5, .ptr 5 0 0 0), (7, .own 7 g1 0 cr1.length), (8, .t (encI (i : Nat)))], [(5, some ⟨4, 58, 0, encL M1⟩), (7, some ⟨1, 3, g1, (cr1.map encI).map .t⟩)]⟩) ?_ ?_
            · refine awp_seq ?_
              refine awp_rw rfl ?_
              refine RW.op rfl rfl (eff_move (v := .t _) rfl rfl rfl) ?_
              refine RW.op rfl rfl (eff_move (v := .t _) rfl rfl rfl) ?_
              refine RW.op rfl rfl (eff_lenM rfl rfl te34 rfl) ?_
              refine RW.op rfl rfl (eff_iop rfl rfl rfl rfl rfl) ?_
              refine RW.nil ?_
              refine awp_cond rfl (fun h11 => ?_) (fun h11 => ?_)
              · try simp only [decide_eq_true_eq, decide_eq_false_iff_not, beq_iff_eq, bne_iff_ne, bne_eq_false_iff_eq, beq_eq_false_iff_ne, Bool.not_eq_true, Bool.not_eq_false, Bool.not_eq_true', Bool.not_eq_false', ne_eq] at h11
                refine awp_seq ?_
                have his : i < sz.length := by omega
                have hsi := hsz _ (List.getElem_mem his)
                refine awp_rd [(some 48, []), (some 49, []), (some 50, []), (some 51, []), (some 52, []), (some 53, []), (some 54, []), (some 55, []), (some 56, []), (some 57, []), (some 58, []), (some 47, []), (some 59, []), (some 60, []), (some 9, [9]), (none, [9]), (some 10, [])] [[], [0], [], [], [], [3, 4], [3, 4, 5], [3, 4, 5, 6], [3, 4, 5, 6, 7], [2, 3, 4, 5, 6, 7, 8], [0, 1, 2, 3, 4, 5, 6, 7, 8, 9], [0, 1, 2, 3, 4, 5, 6, 7, 8, 9, 10], [0, 1, 2, 3, 4, 5, 6, 7, 8, 9, 10, 11], [0, 1, 2, 3, 4, 5, 6, 7, 8, 9, 10, 11], [], [0, 1, 2, 3, 4, 5, 6, 7, 8, 9, 10, 11, 12, 14], [0, 1, 2, 3, 4, 5, 6, 7, 8, 9, 10, 11, 12, 13, 14, 15]] tm rfl rfl rfl rfl ?_
                refine RD.op rfl rfl rfl (eff_indexAddrP (i := 0) rfl rfl tu58 ti29 rfl rfl rfl (by omega) rfl rfl rfl (alen hM.len (by omega))) ?_
                refine RD.op rfl rfl rfl (eff_load (y := .t (encS (at' M (0)))) rfl rfl ti29 rfl (.whole rfl rfl (ael hM.len (by omega)) rfl rfl rfl)) ?_
                refine RD.op rfl rfl rfl (eff_move (v := .t _) rfl rfl rfl) ?_
                refine RD.op rfl rfl rfl (eff_move (v := .t _) rfl rfl rfl) ?_
                refine RD.op rfl rfl rfl (eff_move (v := .t _) rfl rfl rfl) ?_
                refine RD.op rfl rfl rfl (eff_indexM rfl rfl te34 rfl rfl rfl (by first | assumption | exact List.getElem?_eq_getElem (by omega)) rfl (by decide)) ?_
                refine RD.op rfl rfl rfl (eff_loadW1 rfl rfl ti5 rfl rfl) ?_
                refine RD.op rfl rfl rfl (eff_remE (r := (sz[i]'his) % 41) rfl rfl rfl rfl (by decide) (tmod_pos hsi.1)) ?_
                refine RD.op rfl rfl rfl (eff_convIntE (m := ((((sz[i]'his) % 41).toNat : Nat) : Int)) rfl rfl (by rw [tu5]; rfl) tu3 rfl (by rw [wrap64 (by omega) (by omega)]; omega)) ?_
                refine RD.op rfl rfl rfl (eff_callT (bundle_ret (i : Int) ((sz[i]'his) % 41).toNat (by omega)) co29 rfl rfl rfl rfl) ?_
                refine RD.op rfl rfl rfl (eff_callT (create28_ret insC (at' M 0) ⟨(i : Int), 0, 1, 0, 0, 0, 0, List.replicate ((sz[i]'his) % 41).toNat 0⟩ ((hM.vi (0) (by omega)).sok (by omega)) (by unfold BOK; simp; omega) (hM.vi 0 (by omega)).ss) co28 rfl rfl rfl rfl) ?_
                refine RD.op rfl rfl rfl (eff_move (v := .t _) rfl rfl rfl) ?_
                refine RD.op rfl rfl rfl (eff_extract rfl rfl rfl rfl) ?_
                refine RD.op rfl rfl rfl (eff_extract rfl rfl rfl rfl) ?_
                refine RD.new rfl rfl rfl (eff_allocK (k := 4) (id := 9) rfl rfl tz29 rfl rfl) ?_
                refine RD.store rfl rfl rfl (eff_storeW (v := .t _) (els := [_]) (els' := [_]) rfl rfl ti29 rfl rfl rfl rfl rfl rfl rfl rfl rfl) ?_
                refine RD.op rfl rfl rfl (eff_assign (v := .t _) rfl rfl rfl) ?_
                refine RD.nil ?_
                refine awp_seq ?_
                refine awp_rw rfl ?_
                refine RW.op rfl rfl (eff_move (v := .t _) rfl rfl rfl) ?_
                refine RW.op rfl rfl (eff_iop rfl rfl rfl rfl rfl) ?_
                refine RW.nil ?_
                refine awp_cond rfl (fun h12 => ?_) (fun h12 => ?_)
                · try simp only [decide_eq_true_eq, decide_eq_false_iff_not, beq_iff_eq, bne_iff_ne, bne_eq_false_iff_eq, beq_eq_false_iff_ne, Bool.not_eq_true, Bool.not_eq_false, Bool.not_eq_true', Bool.not_eq_false', ne_eq] at h12
                  refine awp_seq ?_
                  refine awp_rw rfl ?_
                  refine RW.op rfl rfl (eff_load rfl rfl ti29 rfl (.whole rfl rfl rfl rfl rfl rfl)) ?_
                  refine RW.op rfl rfl (eff_indexAddrP (i := 0) rfl rfl tu58 ti29 rfl rfl rfl (by omega) rfl rfl rfl (alen hM.len (by omega))) ?_
                  refine RW.store rfl rfl (eff_storeW (v := .t (encS (create (at' M 0) ⟨(i : Int), 0, 1, 0, 0, 0, 0, List.replicate ((sz[i]'his) % 41).toNat 0⟩).1)) (els := encL M) (els' := encL (M.set 0 (create (at' M 0) ⟨(i : Int), 0, 1, 0, 0, 0, 0, List.replicate ((sz[i]'his) % 41).toNat 0⟩).1)) (el := .t (encS (at' M (0)))) rfl rfl ti29 rfl rfl rfl rfl rfl rfl (ael hM.len (by omega)) rfl aset) ?_
                  refine RW.nil ?_
                  refine awp_rw rfl ?_
                  refine RW.op rfl rfl (eff_move (v := .own _ _ _ _) rfl rfl rfl) ?_
                  refine RW.op rfl rfl (eff_move (v := .t _) rfl rfl rfl) ?_
                  refine RW.new rfl rfl (eff_buildSlice1 (id := 67) (els := [_]) rfl rfl te27 tz3 rfl (by decide) rfl rfl rfl rfl) ?_
                  refine RW.new rfl rfl (eff_append (id := 7) (ys := [_]) rfl rfl ta27 rfl rfl rfl (by simp) rfl rfl (srcOwn rfl rfl rfl rfl rfl rfl) (by simp) (by simp; omega) (by simp; omega)) ?_
                  refine RW.op rfl rfl (eff_assign (v := .own _ _ _ _) rfl rfl rfl) ?_
                  refine RW.nil ?_
                  show ∃ (M1 : List Store) (cr1 : List Int) (g1 : Nat), _
                  first
                    | (have he : (create (at' M 0) ⟨(i : Int), 0, 1, 0, 0, 0, 0, List.replicate ((sz[i]'his) % 41).toNat 0⟩).2 = 0 := by assumption
                       obtain ⟨q1, q2, q3⟩ := hM.crea (bytes_rep _) he
                       refine ⟨M.set 0 (create (at' M 0) ⟨(i : Int), 0, 1, 0, 0, 0, 0, List.replicate ((sz[i]'his) % 41).toNat 0⟩).1, cr ++ [(i : Int)], gq + 1, q1, ?_, by rw [List.length_append, List.length_singleton]; omega, ?_⟩
                       · intro c hc
                         rcases List.mem_append.1 hc with hc | hc
                         · exact q2 0 c (by omega) (hcr c hc)
                         · rw [List.mem_singleton.1 hc]; exact q3
                       · rw [List.length_append, List.map_append, List.map_append]
                         exact weak_keep (n := 107) ⟨rfl, rfl, rfl, rfl, rfl, rfl, rfl, rfl, rfl, rfl, trivial⟩ ⟨rfl, okE_t, rfl, (by first | exact okE_t | exact okE_app okE_t (okE_one rfl)), trivial⟩)
                    | (have hnc : True := trivial
                       exact ⟨M, cr, _, hM.mono (by omega), hcr, by omega, weak_keep (n := 107) ⟨rfl, rfl, rfl, rfl, rfl, rfl, rfl, rfl, rfl, rfl, trivial⟩ ⟨rfl, okE_t, rfl, (by first | exact okE_t | exact okE_app okE_t (okE_one rfl)), trivial⟩⟩)
                · try simp only [decide_eq_true_eq, decide_eq_false_iff_not, beq_iff_eq, bne_iff_ne, bne_eq_false_iff_eq, beq_eq_false_iff_ne, Bool.not_eq_true, Bool.not_eq_false, Bool.not_eq_true', Bool.not_eq_false', ne_eq] at h12
                  refine awp_skip ?_
                  show ∃ (M1 : List Store) (cr1 : List Int) (g1 : Nat), _
                  first
                    | (have he : (create (at' M 0) ⟨(i : Int), 0, 1, 0, 0, 0, 0, List.replicate ((sz[i]'his) % 41).toNat 0⟩).2 = 0 := by assumption
                       obtain ⟨q1, q2, q3⟩ := hM.crea (bytes_rep _) he
                       refine ⟨M.set 0 (create (at' M 0) ⟨(i : Int), 0, 1, 0, 0, 0, 0, List.replicate ((sz[i]'his) % 41).toNat 0⟩).1, cr ++ [(i : Int)], gq + 1, q1, ?_, by rw [List.length_append, List.length_singleton]; omega, ?_⟩
                       · intro c hc
                         rcases List.mem_append.1 hc with hc | hc
                         · exact q2 0 c (by omega) (hcr c hc)
                         · rw [List.mem_singleton.1 hc]; exact q3
                       · rw [List.length_append, List.map_append, List.map_append]
                         exact weak_keep (n := 107) ⟨rfl, rfl, rfl, rfl, rfl, rfl, rfl, rfl, rfl, rfl, trivial⟩ ⟨rfl, okE_t, rfl, (by first | exact okE_t | exact okE_app okE_t (okE_one rfl)), trivial⟩)
                    | (have hnc : True := trivial
                       exact ⟨M, cr, _, hM.mono (by omega), hcr, by omega, weak_keep (n := 107) ⟨rfl, rfl, rfl, rfl, rfl, rfl, rfl, rfl, rfl, rfl, trivial⟩ ⟨rfl, okE_t, rfl, (by first | exact okE_t | exact okE_app okE_t (okE_one rfl)), trivial⟩⟩)
              · try simp only [decide_eq_true_eq, decide_eq_false_iff_not, beq_iff_eq, bne_iff_ne, bne_eq_false_iff_eq, beq_eq_false_iff_ne, Bool.not_eq_true, Bool.not_eq_false, Bool.not_eq_true', Bool.not_eq_false', ne_eq] at h11
                refine awp_skip ?_
                show ∃ (M1 : List Store) (cr1 : List Int) (g1 : Nat), _
                first
                  | (have he : (create (at' M 0) ⟨(i : Int), 0, 1, 0, 0, 0, 0, List.replicate ((sz[i]'his) % 41).toNat 0⟩).2 = 0 := by assumption
                     obtain ⟨q1, q2, q3⟩ := hM.crea (bytes_rep _) he
                     refine ⟨M.set 0 (create (at' M 0) ⟨(i : Int), 0, 1, 0, 0, 0, 0, List.replicate ((sz[i]'his) % 41).toNat 0⟩).1, cr ++ [(i : Int)], gq + 1, q1, ?_, by rw [List.length_append, List.length_singleton]; omega, ?_⟩
                     · intro c hc
                       rcases List.mem_append.1 hc with hc | hc
                       · exact q2 0 c (by omega) (hcr c hc)
                       · rw [List.mem_singleton.1 hc]; exact q3
                     · rw [List.length_append, List.map_append, List.map_append]
                       exact weak_keep (n := 107) ⟨rfl, rfl, rfl, rfl, rfl, rfl, rfl, rfl, rfl, rfl, trivial⟩ ⟨rfl, okE_t, rfl, (by first | exact okE_t | exact okE_app okE_t (okE_one rfl)), trivial⟩)
                  | (have hnc : True := trivial
                     exact ⟨M, cr, _, hM.mono (by omega), hcr, by omega, weak_keep (n := 107) ⟨rfl, rfl, rfl, rfl, rfl, rfl, rfl, rfl, rfl, rfl, trivial⟩ ⟨rfl, okE_t, rfl, (by first | exact okE_t | exact okE_app okE_t (okE_one rfl)), trivial⟩⟩)
            · rintro s1 ⟨M1, cr1, g1, hM1, hcr1, hcl1, hw⟩
              refine awp_weak hw ?_
              refine awp_seq_mid (fun s => ∃ (M2 : List Store), LInv (4 * (i + 1)) M2 ∧ (∀ c, c ∈ cr1 → c ∈ (at' M2 0).seen) ∧ Weak s ⟨107, [(0, .t (.sl (sz.map encBy) false)), (1, .t (.sl (ft.map encFt) false)), (5, .ptr 5 0 0 0), (7, .own 7 g1 0 cr1.length), (8, .t (encI (i : Nat)))], [(5, some ⟨4, 58, 0, encL M2⟩), (7, some ⟨1, 3, g1, (cr1.map encI).map .t⟩)]⟩) ?_ ?_
              · refine awp_seq ?_
                refine awp_rw rfl ?_
                refine RW.op rfl rfl (eff_move (v := .t _) rfl rfl rfl) ?_
                refine RW.op rfl rfl (eff_move (v := .t _) rfl rfl rfl) ?_
                refine RW.op rfl rfl (eff_lenM rfl rfl te57 rfl) ?_
                refine RW.op rfl rfl (eff_iop rfl rfl rfl rfl rfl) ?_
                refine RW.op rfl rfl (eff_move (v := .t _) rfl rfl rfl) ?_
                refine RW.split 73 rfl (fun h13 => ?_) (fun h13 => ?_)
                · try simp only [decide_eq_true_eq, decide_eq_false_iff_not, beq_iff_eq, bne_iff_ne, bne_eq_false_iff_eq, beq_eq_false_iff_ne, Bool.not_eq_true, Bool.not_eq_false, Bool.not_eq_true', Bool.not_eq_false', ne_eq] at h13
                  refine RW.gop rfl rfl rfl rfl rfl rfl (eff_move (v := .t _) rfl rfl rfl) ?_
                  refine RW.gop rfl rfl rfl rfl rfl rfl (eff_move (v := .t _) rfl rfl rfl) ?_
                  refine RW.gop rfl rfl rfl rfl rfl rfl (eff_indexM rfl rfl te57 rfl rfl rfl (by first | assumption | exact List.getElem?_eq_getElem (by omega)) rfl (by decide)) ?_
                  refine RW.gop rfl rfl rfl rfl rfl rfl (eff_loadW rfl rfl ti64 rfl rfl rfl) ?_
                  refine RW.gnew rfl rfl rfl rfl rfl rfl (eff_callK (event_fate (4 * i + 1) (by omega) M1 hM1 (ft[i]'(by omega)) (hft _ (List.getElem_mem _))) co30 (fun _ => 5) rfl rfl rfl ⟨.ptr _ _ _ _ rfl rfl, .t _, trivial⟩ (.t _) rfl ⟨⟨rfl, treeEls_t, ⟨_, rfl, .inr ⟨rfl, rfl, rfl, alen2 (evF_inv hM1 _).1.len hM1.len, 0, rfl, List.mem_singleton.2 rfl⟩⟩⟩, trivial⟩ ⟨⟨treeEls_t, .inl rfl⟩, trivial⟩) ?_
                  refine RW.gop rfl rfl rfl rfl rfl rfl (eff_unop rfl rfl rfl rfl) ?_
                  refine RW.op rfl rfl (eff_pick (v := .t _) rfl rfl rfl rfl) ?_
                  refine RW.nil ?_
                  refine awp_cond rfl (fun h => nomatch h) (fun _ => ?_)
                  refine awp_skip ?_
                  show ∃ (M2 : List Store), _
                  first
                    | exact ⟨evF M1 (ft[i]'(by omega)), (evF_inv hM1 _).1.mono (by omega), fun c hc => (evF_inv hM1 (ft[i]'(by omega))).2 0 c (by omega) (hcr1 c hc), weak_keep (n := 107) ⟨rfl, rfl, rfl, rfl, rfl, rfl, rfl, rfl, rfl, rfl, trivial⟩ ⟨rfl, okE_t, rfl, (by first | exact okE_t | exact okE_app okE_t (okE_one rfl)), trivial⟩⟩
                    | exact ⟨M1, hM1.mono (by omega), hcr1, weak_keep (n := 107) ⟨rfl, rfl, rfl, rfl, rfl, rfl, rfl, rfl, rfl, rfl, trivial⟩ ⟨rfl, okE_t, rfl, (by first | exact okE_t | exact okE_app okE_t (okE_one rfl)), trivial⟩⟩
                · try simp only [decide_eq_true_eq, decide_eq_false_iff_not, beq_iff_eq, bne_iff_ne, bne_eq_false_iff_eq, beq_eq_false_iff_ne, Bool.not_eq_true, Bool.not_eq_false, Bool.not_eq_true', Bool.not_eq_false', ne_eq] at h13
                  refine RW.gskip rfl rfl rfl rfl rfl (by decide) ?_
                  refine RW.gskip rfl rfl rfl rfl rfl (by decide) ?_
                  refine RW.gskip rfl rfl rfl rfl rfl (by decide) ?_
                  refine RW.gskip rfl rfl rfl rfl rfl (by decide) ?_
                  refine RW.gskip rfl rfl rfl rfl rfl (by decide) ?_
                  refine RW.gskip rfl rfl rfl rfl rfl (by decide) ?_
                  refine RW.op rfl rfl (eff_pick (v := .t _) rfl rfl rfl rfl) ?_
                  refine RW.nil ?_
                  refine awp_cond rfl (fun h => nomatch h) (fun _ => ?_)
                  refine awp_skip ?_
                  show ∃ (M2 : List Store), _
                  first
                    | exact ⟨evF M1 (ft[i]'(by omega)), (evF_inv hM1 _).1.mono (by omega), fun c hc => (evF_inv hM1 (ft[i]'(by omega))).2 0 c (by omega) (hcr1 c hc), weak_keep (n := 107) ⟨rfl, rfl, rfl, rfl, rfl, rfl, rfl, rfl, rfl, rfl, trivial⟩ ⟨rfl, okE_t, rfl, (by first | exact okE_t | exact okE_app okE_t (okE_one rfl)), trivial⟩⟩
                    | exact ⟨M1, hM1.mono (by omega), hcr1, weak_keep (n := 107) ⟨rfl, rfl, rfl, rfl, rfl, rfl, rfl, rfl, rfl, rfl, trivial⟩ ⟨rfl, okE_t, rfl, (by first | exact okE_t | exact okE_app okE_t (okE_one rfl)), trivial⟩⟩
              · rintro s2 ⟨M2, hM2, hcr2, hw2⟩
                refine awp_weak hw2 ?_
                refine awp_seq ?_
                refine awp_rw rfl ?_
                refine RW.op rfl rfl (eff_assign (v := .t _) rfl rfl rfl) ?_
                refine RW.nil ?_
                refine awp_block ?_
                refine awp_loopW (fun m s => ∃ (c : Nat), (c ≤ cr1.length) ∧ m = cr1.length - c ∧ s = ⟨107, [(0, .t (.sl (sz.map encBy) false)), (1, .t (.sl (ft.map encFt) false)), (5, .ptr 5 0 0 0), (7, .own 7 g1 0 cr1.length), (8, .t (encI (i : Nat))), (11, .t (encI (c : Nat)))], [(5, some ⟨4, 58, 0, encL M2⟩), (7, some ⟨1, 3, g1, (cr1.map encI).map .t⟩)]⟩) (_) (⟨_, weak_keep (n := 107) (fr' := [(0, .t (.sl (sz.map encBy) false)), (1, .t (.sl (ft.map encFt) false)), (5, .ptr 5 0 0 0), (7, .own 7 g1 0 cr1.length), (8, .t (encI (i : Nat))), (11, .t (encI (0 : Nat)))]) (st' := [(5, some ⟨4, 58, 0, encL M2⟩), (7, some ⟨1, 3, g1, (cr1.map encI).map .t⟩)]) ⟨rfl, rfl, rfl, rfl, rfl, rfl, rfl, rfl, rfl, rfl, rfl, rfl, trivial⟩ ⟨rfl, okE_t, rfl, okE_t, trivial⟩, 0, (by omega), rfl, rfl⟩) ?_
                rintro m s ⟨c, hc, rfl, rfl⟩
                refine awp_seq ?_
                refine awp_seq ?_
                refine awp_rw rfl ?_
                refine RW.op rfl rfl (eff_move (v := .t _) rfl rfl rfl) ?_
                refine RW.op rfl rfl (eff_move (v := .own _ _ _ _) rfl rfl rfl) ?_
                refine RW.op rfl rfl (eff_len rfl rfl te27 rfl rfl rfl) ?_
                refine RW.op rfl rfl (eff_iop rfl rfl rfl rfl rfl) ?_
                refine RW.nil ?_
                refine awp_cond rfl (fun h14 => ?_) (fun h14 => ?_)
                · try simp only [decide_eq_true_eq, decide_eq_false_iff_not, beq_iff_eq, bne_iff_ne, bne_eq_false_iff_eq, beq_eq_false_iff_ne, Bool.not_eq_true, Bool.not_eq_false, Bool.not_eq_true', Bool.not_eq_false', ne_eq] at h14
                  refine awp_skip ?_
                  refine awp_seq ?_
                  refine awp_block ?_
                  refine awp_seq ?_
                  refine awp_rw rfl ?_
                  refine RW.op rfl rfl (eff_assign (v := .t _) rfl rfl rfl) ?_
                  refine RW.nil ?_
                  have hcc : c < cr1.length := by omega
                  refine awp_seq ?_
                  refine awp_seq ?_
                  refine awp_rw rfl ?_
                  refine RW.op rfl rfl (eff_assign (v := .t _) rfl rfl rfl) ?_
                  refine RW.nil ?_
                  refine awp_block ?_
                  refine awp_loopW (fun m s => ∃ (j : Nat) (hd : Int), (j ≤ 4) ∧ (0 ≤ hd ∧ hd ≤ j) ∧ (∀ j', j' < j → cr1[c]'hcc ∈ ids (at' M2 j') → 0 < hd) ∧ m = 4 - j ∧ s = ⟨107, [(0, .t (.sl (sz.map encBy) false)), (1, .t (.sl (ft.map encFt) false)), (5, .ptr 5 0 0 0), (7, .own 7 g1 0 cr1.length), (8, .t (encI (i : Nat))), (11, .t (encI (c : Nat))), (12, .t (encI hd)), (13, .t (encI (j : Nat)))], [(5, some ⟨4, 58, 0, encL M2⟩), (7, some ⟨1, 3, g1, (cr1.map encI).map .t⟩)]⟩) (_) (⟨_, weak_keep (n := 107) (fr' := [(0, .t (.sl (sz.map encBy) false)), (1, .t (.sl (ft.map encFt) false)), (5, .ptr 5 0 0 0), (7, .own 7 g1 0 cr1.length), (8, .t (encI (i : Nat))), (11, .t (encI (c : Nat))), (12, .t (encI 0)), (13, .t (encI (0 : Nat)))]) (st' := [(5, some ⟨4, 58, 0, encL M2⟩), (7, some ⟨1, 3, g1, (cr1.map encI).map .t⟩)]) ⟨rfl, rfl, rfl, rfl, rfl, rfl, rfl, rfl, rfl, rfl, rfl, rfl, rfl, rfl, rfl, rfl, trivial⟩ ⟨rfl, okE_t, rfl, okE_t, trivial⟩, 0, 0, (by omega), (by omega), (by intro j' hj' _; omega), rfl, rfl⟩) ?_
                  rintro m s ⟨j, hd, hj, hd0, hge, rfl, rfl⟩
                  refine awp_seq ?_
                  refine awp_seq ?_
                  refine awp_rw rfl ?_
                  refine RW.op rfl rfl (eff_move (v := .t _) rfl rfl rfl) ?_
                  refine RW.op rfl rfl (eff_iop rfl rfl rfl rfl rfl) ?_
                  refine RW.nil ?_
                  refine awp_cond rfl (fun h15 => ?_) (fun h15 => ?_)
                  · try simp only [decide_eq_true_eq, decide_eq_false_iff_not, beq_iff_eq, bne_iff_ne, bne_eq_false_iff_eq, beq_eq_false_iff_ne, Bool.not_eq_true, Bool.not_eq_false, Bool.not_eq_true', Bool.not_eq_false', ne_eq] at h15
                    refine awp_skip ?_
                    refine awp_seq ?_
                    refine awp_block ?_
                    refine awp_seq ?_
                    refine awp_rd [(some 91, []), (some 92, []), (some 93, []), (some 94, []), (some 95, []), (some 96, []), (some 97, []), (some 98, []), (some 14, [])] [[], [0], [0, 1], [], [], [3, 4], [3, 4, 5], [0, 1, 2, 3, 4, 5, 6], [0, 1, 2, 3, 4, 5, 6, 7]] tm rfl rfl rfl rfl ?_
                    refine RD.op rfl rfl rfl (eff_move (v := .t _) rfl rfl rfl) ?_
                    refine RD.op rfl rfl rfl (eff_indexAddrP (i := j) rfl rfl tu58 ti29 rfl rfl (by first | rfl | omega) (by omega) rfl rfl rfl (alen hM2.len (by omega))) ?_
                    refine RD.op rfl rfl rfl (eff_load (y := .t (encS (at' M2 (j)))) rfl rfl ti29 rfl (.whole rfl rfl (ael hM2.len (by omega)) rfl rfl rfl)) ?_
                    refine RD.op rfl rfl rfl (eff_move (v := .own _ _ _ _) rfl rfl rfl) ?_
                    refine RD.op rfl rfl rfl (eff_move (v := .t _) rfl rfl rfl) ?_
                    refine RD.op rfl rfl rfl (eff_indexAddr rfl rfl te27 rfl rfl rfl rfl rfl rfl (by omega)) ?_
                    refine RD.op rfl rfl rfl (eff_load (y := .t (encI (cr1[c]'hcc))) rfl rfl ti3 rfl (.one rfl rfl (by simp only [Nat.zero_add, List.getElem?_map, List.getElem?_eq_getElem hcc]; rfl) rfl)) ?_
                    refine RD.op rfl rfl rfl (eff_callT (count_ret (at' M2 j) (cr1[c]'hcc) ((hM2.vi (j) (by omega)).sok (by omega))) co22 rfl rfl rfl rfl) ?_
                    refine RD.op rfl rfl rfl (eff_assign (v := .t _) rfl rfl rfl) ?_
                    refine RD.nil ?_
                    refine awp_seq ?_
                    refine awp_seq ?_
                    refine awp_rw rfl ?_
                    refine RW.op rfl rfl (eff_move (v := .t _) rfl rfl rfl) ?_
                    refine RW.op rfl rfl (eff_iop (r := .bool false) rfl rfl rfl rfl (by exact iop_gtr_f (by have := count_le (k := cr1[c]'hcc) (hM2.vi j (by omega)); omega))) ?_
                    refine RW.nil ?_
                    refine awp_cond rfl (fun h => nomatch h) (fun _ => ?_)
                    refine awp_skip ?_
                    refine awp_rw rfl ?_
                    have hcb := count_le (k := cr1[c]'hcc) (hM2.vi j (by omega))
                    refine RW.op rfl rfl (eff_move (v := .t _) rfl rfl rfl) ?_
                    refine RW.op rfl rfl (eff_move (v := .t _) rfl rfl rfl) ?_
                    refine RW.op rfl rfl (eff_iop rfl rfl rfl rfl (iadd (by omega))) ?_
                    refine RW.op rfl rfl (eff_assign (v := .t _) rfl rfl rfl) ?_
                    refine RW.nil ?_
                    refine awp_rw rfl ?_
                    refine RW.op rfl rfl (eff_move (v := .t _) rfl rfl rfl) ?_
                    refine RW.op rfl rfl (eff_iop rfl rfl rfl rfl (iadd (by omega))) ?_
                    refine RW.op rfl rfl (eff_assign (v := .t _) rfl rfl rfl) ?_
                    refine RW.nil ?_
                    refine ⟨_, ?_, _, weak_keep (n := 107) (fr' := [(0, .t (.sl (sz.map encBy) false)), (1, .t (.sl (ft.map encFt) false)), (5, .ptr 5 0 0 0), (7, .own 7 g1 0 cr1.length), (8, .t (encI (i : Nat))), (11, .t (encI (c : Nat))), (12, .t (encI (hd + countB (at' M2 j).bundles (cr1[c]'hcc)))), (13, .t (encI ((j + 1) : Nat)))]) (st' := [(5, some ⟨4, 58, 0, encL M2⟩), (7, some ⟨1, 3, g1, (cr1.map encI).map .t⟩)]) ⟨rfl, rfl, rfl, rfl, rfl, rfl, rfl, rfl, rfl, rfl, rfl, rfl, rfl, rfl, rfl, rfl, trivial⟩ ⟨rfl, okE_t, rfl, okE_t, trivial⟩, j + 1, hd + countB (at' M2 j).bundles (cr1[c]'hcc), (by omega), (by have := count_le (k := cr1[c]'hcc) (hM2.vi j (by omega)); omega), (by intro j' hj' hin; have h0 := count_le (k := cr1[c]'hcc) (hM2.vi j (by omega)); by_cases e : j' = j; (subst e; have := count_one (hM2.vi j' (by omega)) hin; omega); (have := hge j' (by omega) hin; omega)), rfl, rfl⟩
                    omega
                  · try simp only [decide_eq_true_eq, decide_eq_false_iff_not, beq_iff_eq, bne_iff_ne, bne_eq_false_iff_eq, beq_eq_false_iff_ne, Bool.not_eq_true, Bool.not_eq_false, Bool.not_eq_true', Bool.not_eq_false', ne_eq] at h15
                    refine awp_exit ?_
                    refine awp_seq ?_
                    refine awp_rw rfl ?_
                    have hpos : 0 < hd := by
                      obtain ⟨j', h1, h2⟩ := cr_in hM2 hcr2 hcc
                      exact hge j' (by omega) h2
                    refine RW.op rfl rfl (eff_move (v := .t _) rfl rfl rfl) ?_
                    refine RW.op rfl rfl (eff_iop (r := .bool false) rfl rfl rfl rfl (by exact iop_eql_f (by omega))) ?_
                    refine RW.nil ?_
                    refine awp_cond rfl (fun h => nomatch h) (fun _ => ?_)
                    refine awp_skip ?_
                    refine awp_rw rfl ?_
                    refine RW.op rfl rfl (eff_move (v := .t _) rfl rfl rfl) ?_
                    refine RW.op rfl rfl (eff_iop rfl rfl rfl rfl (iadd (by omega))) ?_
                    refine RW.op rfl rfl (eff_assign (v := .t _) rfl rfl rfl) ?_
                    refine RW.nil ?_
                    refine ⟨_, ?_, _, weak_keep (n := 107) (fr' := [(0, .t (.sl (sz.map encBy) false)), (1, .t (.sl (ft.map encFt) false)), (5, .ptr 5 0 0 0), (7, .own 7 g1 0 cr1.length), (8, .t (encI (i : Nat))), (11, .t (encI ((c + 1) : Nat)))]) (st' := [(5, some ⟨4, 58, 0, encL M2⟩), (7, some ⟨1, 3, g1, (cr1.map encI).map .t⟩)]) ⟨rfl, rfl, rfl, rfl, rfl, rfl, rfl, rfl, rfl, rfl, rfl, rfl, trivial⟩ ⟨rfl, okE_t, rfl, okE_t, trivial⟩, c + 1, (by omega), rfl, rfl⟩
                    omega
                · try simp only [decide_eq_true_eq, decide_eq_false_iff_not, beq_iff_eq, bne_iff_ne, bne_eq_false_iff_eq, beq_eq_false_iff_ne, Bool.not_eq_true, Bool.not_eq_false, Bool.not_eq_true', Bool.not_eq_false', ne_eq] at h14
                  refine awp_exit ?_
                  refine awp_rw rfl ?_
                  refine RW.op rfl rfl (eff_move (v := .t _) rfl rfl rfl) ?_
                  refine RW.op rfl rfl (eff_iop rfl rfl rfl rfl (iadd (by omega))) ?_
                  refine RW.op rfl rfl (eff_assign (v := .t _) rfl rfl rfl) ?_
                  refine RW.nil ?_
                  refine ⟨_, ?_, _, weak_keep (n := 107) (fr' := [(0, .t (.sl (sz.map encBy) false)), (1, .t (.sl (ft.map encFt) false)), (5, .ptr 5 0 0 0), (7, .own 7 g1 0 cr1.length), (8, .t (encI ((i + 1) : Nat)))]) (st' := [(5, some ⟨4, 58, 0, encL M2⟩), (7, some ⟨1, 3, g1, (cr1.map encI).map .t⟩)]) ⟨rfl, rfl, rfl, rfl, rfl, rfl, rfl, rfl, rfl, rfl, trivial⟩ ⟨rfl, okE_t, rfl, (by first | exact okE_nil | exact okE_t), trivial⟩, i + 1, M2, cr1, g1, (by omega), (by exact hM2), (by exact hcr2), (by exact hcl1), rfl, rfl⟩
                  omega
          · try simp only [decide_eq_true_eq, decide_eq_false_iff_not, beq_iff_eq, bne_iff_ne, bne_eq_false_iff_eq, beq_eq_false_iff_ne, Bool.not_eq_true, Bool.not_eq_false, Bool.not_eq_true', Bool.not_eq_false', ne_eq] at h10
            refine awp_exit ?_
            refine awp_seq ?_
            refine awp_rw rfl ?_
            refine RW.op rfl rfl (eff_callT (lives_ret) co10 rfl rfl rfl rfl) ?_
            refine RW.op rfl rfl (eff_assign (v := .t _) rfl rfl rfl) ?_
            refine RW.nil ?_
            refine awp_ret ?_
            exact ⟨Or.inr rfl, [_], ⟨.tmp (.t _), trivial⟩, .refl _⟩

end Go.Tv.C27

end
section
open Go Go.Tv Go.Proofs
namespace Go.Tv.C27
set_option maxRecDepth 20000

theorem rd4 : Reads Try.prog 4 1 (fun ts => ∃ b, ts = [.bool b]) := reads_bool Try.underlying4 (by kernel_rfl)
theorem rd34m : Reads Try.prog 34 1 (fun ts => ∃ l : List Int, ts = [.sl (l.map encBy) false] ∧ l.length ≤ maxLen ∧ Bytes l) :=
  (reads_slice Try.underlying34 (by kernel_rfl) (by decide) (.inr rfl) rd5 (g := false)).mono (by
    rintro ts ⟨els, rfl, hm, h⟩
    obtain ⟨l, rfl, hl⟩ := map_of (f := encBy) (p := fun n => 0 ≤ n ∧ n < 256) (fun x hx => by obtain ⟨_, ⟨n, rfl, hn⟩, rfl⟩ := h x hx; exact ⟨n, hn, rfl⟩)
    exact ⟨l, rfl, by simpa using hm, hl⟩)
theorem rd64 : Reads Try.prog 64 4 (fun ts => ∃ f : Fate, encFt f = .agg ts ∧ FateOK f) :=
  (reads_struct Try.underlying64 (by kernel_rfl) (rdfs_cons rfl rd5 (rdfs_cons rfl rd5 (rdfs_cons rfl rd5 (rdfs_cons rfl rd4 rdfs_nil))))).mono (by
    rintro ts ⟨_, _, rfl, ⟨a, rfl, ha⟩, _, _, rfl, ⟨b, rfl, hb⟩, _, _, rfl, ⟨c, rfl, hc⟩, _, _, rfl, ⟨r, rfl⟩, rfl⟩
    exact ⟨⟨a, b, c, r⟩, rfl, ha, hb, hc⟩)
theorem rd57 : Reads Try.prog 57 1 (fun ts => ∃ l : List Fate, ts = [.sl (l.map encFt) false] ∧ l.length ≤ maxLen ∧ ∀ f, f ∈ l → FateOK f) :=
  (reads_slice Try.underlying57 (by kernel_rfl) (by decide) (.inl rfl) rd64 (g := true)).mono (by
    rintro ts ⟨els, rfl, hm, h⟩
    obtain ⟨l, rfl, hl⟩ := map_of (f := encFt) (p := FateOK) (fun x hx => by obtain ⟨_, ⟨o, ho, hd⟩, rfl⟩ := h x hx; exact ⟨o, hd, ho.symm⟩)
    exact ⟨l, rfl, by simpa using hm, hl⟩)
end Go.Tv.C27

end
section
open Go Go.Tv Go.Proofs
namespace Go.Tv.C27

theorem used_le : ∀ {l U : List Bundle}, (l.map (·.id)).Nodup → (∀ x, x ∈ l → x ∈ U) → used l ≤ used U ∧ l.length ≤ U.length
  | [], U, _, _ => by
    have : ∀ U : List Bundle, 0 ≤ used U := by
      intro U
      induction U with
      | nil => simp [used]
      | cons b U ih => simp only [used, size]; omega
    exact ⟨by simpa [used] using this U, by simp⟩
  | x :: l, U, hn, hs => by
    obtain ⟨s, t, rfl⟩ := List.append_of_mem (hs x List.mem_cons_self)
    obtain ⟨h1, h2⟩ := List.nodup_cons.1 (show (x.id :: l.map (·.id)).Nodup from hn)
    obtain ⟨g1, g2⟩ := used_le (l := l) (U := s ++ t) h2 (fun y hy => by
      have := hs y (List.mem_cons_of_mem _ hy)
      rw [List.mem_append, List.mem_cons] at this
      rcases this with h | h | h
      · exact List.mem_append_left _ h
      · subst h; exact absurd (List.mem_map.2 ⟨_, hy, rfl⟩) h1
      · exact List.mem_append_right _ h)
    rw [used_append] at g1 ⊢
    simp only [used, List.length_append, List.length_cons] at g1 g2 ⊢
    omega

/-- The bundles that there are. -/
structure Univ (U : List Bundle) : Prop where
  nd : (U.map (·.id)).Nodup
  len : U.length ≤ 64
  usd : used U ≤ 10000
  ok : ∀ b, b ∈ U → b.data.length ≤ 256 ∧ Bytes b.data

structure QInv (U : List Bundle) (n : Nat) (L : List Store) : Prop where
  l : LInv n L
  qu : ∀ j, j < 4 → (at' L j).quota = 10000
  bu : ∀ j b, j < 4 → b ∈ (at' L j).bundles → b ∈ U

theorem create_ok {U : List Bundle} (hU : Univ U) {n : Nat} {s : Store} {b : Bundle} (hV : VInv n s) (hq : s.quota = 10000) (hs : ∀ x, x ∈ s.bundles → x ∈ U) (hb : b ∈ U) (hn : b.id ∉ s.seen) : (create s b).2 = 0 := by
  have hni : b.id ∉ s.bundles.map (·.id) := by
    intro h
    obtain ⟨x, hx, he⟩ := List.mem_map.1 h
    exact hn (he ▸ (hV.bs x hx).2.2)
  have h := used_le (l := b :: s.bundles) (U := U) (by
    rw [List.map_cons]
    exact List.nodup_cons.2 ⟨hni, hV.nd⟩) (fun x hx => (List.mem_cons.1 hx).elim (fun e => e ▸ hb) (hs x))
  simp only [used, List.length_cons] at h
  have h1 := (hU.ok b hb).1
  have h2 := hU.len
  have h3 := hU.usd
  unfold create
  rw [if_neg (by omega), if_neg hn, if_neg (by omega), if_neg (by omega)]

theorem acc_ok {U : List Bundle} (hU : Univ U) {n : Nat} {s : Store} {b : Bundle} (hV : VInv n s) (hq : s.quota = 10000) (hs : ∀ x, x ∈ s.bundles → x ∈ U) (hb : b ∈ U) :
    (accept s b).2.1 = true ∧ (accept s b).2.2 = 0 := by
  rw [accept_eq]
  split
  · exact ⟨rfl, rfl⟩
  · rename_i h
    have h1 := (hU.ok b hb).1
    have hc := create_ok hU hV hq hs hb (fun hh => h ⟨h1, hh⟩)
    exact ⟨by simp [hc], hc⟩

theorem accept_bundles {n : Nat} {s : Store} {b : Bundle} (hV : VInv n s) (hb : Bytes b.data) (he : (accept s b).2.2 = 0) :
    (accept s b).1.quota = s.quota ∧ (∀ x, x ∈ (accept s b).1.bundles → x ∈ s.bundles ∨ x = b) := by
  rw [accept_eq] at he ⊢
  split
  · exact ⟨rfl, fun x hx => .inl hx⟩
  · rename_i h1
    rw [if_neg h1] at he
    simp only
    rw [(inv_create hV hb he).2.1]
    exact ⟨rfl, fun x hx => (List.mem_append.1 hx).imp (fun h => h) (fun h => List.mem_singleton.1 h)⟩

theorem QInv.set {U : List Bundle} {n m i : Nat} {L : List Store} {t : Store} (h : QInv U n L) (hi : i < 4) (hl : LInv m (L.set i t)) (hq : t.quota = (at' L i).quota) (hb : ∀ x, x ∈ t.bundles → x ∈ U) :
    QInv U m (L.set i t) := by
  refine ⟨hl, fun j hj => ?_, fun j b hj hbm => ?_⟩
  · rw [at_set h.l.len hi]; split
    · rw [hq]; exact h.qu i hi
    · exact h.qu j hj
  · rw [at_set h.l.len hi] at hbm
    split at hbm
    · exact hb b hbm
    · exact h.bu j b hj hbm

/-- One event without losses, at a node that passed nothing on yet. -/
theorem stp_spec {U : List Bundle} (hU : Univ U) {n i : Nat} {L : List Store} (h : QInv U n L) (hi : i < 3) {b : Bundle} {bs : List Bundle} (hb : (at' L i).bundles = b :: bs) (hp : (at' L i).passed = []) :
    ∃ L', evt L i false 1 1 = L' ∧ QInv U (n + 2) L' ∧ (at' L' i).bundles = bs ∧ (at' L' i).passed = [] ∧ ∀ j, j ≠ i → j ≠ i + 1 → at' L' j = at' L j := by
  have hV := h.l.vi i (by omega)
  have hbm : b ∈ (at' L i).bundles := by rw [hb]; exact List.mem_cons_self
  have hbU := h.bu i b (by omega) hbm
  obtain ⟨d1, d2⟩ := hU.ok b hbU
  have ho : offer (at' L i) 1000 = (b, true) := by
    unfold offer fits
    rw [hb, hp, List.find?_cons_of_pos (by simp [size]; omega)]
  have hid : b.id ∈ ids (at' L i) := List.mem_map.2 ⟨b, hbm, rfl⟩
  obtain ⟨t, ht, hte, hVt⟩ := pass_ok hV hid (by rw [hp]; simp)
  have hat2 : ∀ j, at' (L.set i t) j = if j = i then t else at' L j := fun j => at_set h.l.len (by omega)
  have h2 : QInv U (n + 1) (L.set i t) := h.set (by omega) (h.l.same (by omega) hVt (by omega) (by rw [hte]) (by rw [hte])) (by rw [hte]) (fun x hx => by rw [hte] at hx; exact h.bu i x (by omega) hx)
  obtain ⟨e1, e2⟩ := acc_ok hU (h2.l.vi (i + 1) (by omega)) (h2.qu (i + 1) (by omega)) (fun x hx => h2.bu (i + 1) x (by omega) hx) hbU
  have hA : accN i b 1 (L.set i t) = ((L.set i t).set (i + 1) (accept (at' (L.set i t) (i + 1)) b).1, true) := by
    show ((if (accept (at' (L.set i t) (i + 1)) b).2.2 = 0 then _ else _), (false || (accept (at' (L.set i t) (i + 1)) b).2.1)) = _
    rw [if_pos e2, e1]; rfl
  obtain ⟨f1, f2⟩ := h2.l.acc (i := i + 1) (by omega) d2 e2
  obtain ⟨q1, q2⟩ := accept_bundles (h2.l.vi (i + 1) (by omega)) d2 e2
  have h3 : QInv U (n + 1 + 1) ((L.set i t).set (i + 1) (accept (at' (L.set i t) (i + 1)) b).1) := h2.set (by omega) f1 q1 (fun x hx => (q2 x hx).elim (fun hx => h2.bu (i + 1) x (by omega) hx) (fun e => e ▸ hbU))
  generalize hG : (L.set i t).set (i + 1) (accept (at' (L.set i t) (i + 1)) b).1 = A at *
  have hatA : ∀ j, j ≠ i + 1 → at' A j = at' (L.set i t) j := fun j hj => by rw [← hG, at_set h2.l.len (by omega), if_neg hj]
  have hAi : at' A i = t := by rw [hatA i (by omega), hat2, if_pos rfl]
  have hbs : ∀ x, x ∈ bs → x.id ≠ b.id := by
    have hnd := hV.nd
    unfold ids at hnd
    rw [hb, List.map_cons] at hnd
    intro x hx e
    exact (List.nodup_cons.1 hnd).1 (e ▸ List.mem_map.2 ⟨x, hx, rfl⟩)
  have hfw : ∃ j, i < j ∧ j < 4 ∧ b.id ∈ ids (at' A j) := by
    obtain ⟨j, j1, j2, j3⟩ := h3.l.fl (i + 1) b.id (by omega) (by rw [← hG, at_set h2.l.len (by omega), if_pos rfl]; exact f2)
    exact ⟨j, by omega, j2, j3⟩
  rcases confirm_ends (h3.l.vi i (by omega)) b.id with ⟨hni, _⟩ | ⟨V, hc, hVV, hVe⟩
  · refine absurd ?_ hni
    rw [hAi]; unfold ids; rw [hte]; exact hid
  · have he : (confirm (at' A i) b.id).2 = 0 := by rw [hc]
    have h4l := h3.l.conf (by omega) hfw he
    rw [hc] at h4l
    rw [hAi, hte] at hVe
    simp only at hVe
    rw [hb, hp] at hVe
    have hVb : V.bundles = bs := by
      rw [hVe]
      dsimp only
      rw [List.filter_cons, if_neg (by simp)]
      exact List.filter_eq_self.2 (fun x hx => by simpa using hbs x hx)
    have hVp : V.passed = [] := by
      rw [hVe]
      dsimp only
      simp [ins]
    refine ⟨A.set i V, ?_, ?_, ?_, ?_, ?_⟩
    · unfold evt
      rw [show evR L i false = L from rfl, ho, if_pos rfl]
      unfold evB
      simp only
      rw [ht]
      simp only
      rw [hA, if_pos rfl]
      show (if (confirm (at' A i) b.id).2 = 0 then A.set i (confirm (at' A i) b.id).1 else A) = _
      rw [if_pos he, hc]
    · refine h3.set (by omega) h4l (by rw [hAi, hte, hVe]) (fun x hx => ?_)
      rw [hVb] at hx
      exact h.bu i x (by omega) (by rw [hb]; exact List.mem_cons_of_mem _ hx)
    · rw [at_set h3.l.len (by omega), if_pos rfl]; exact hVb
    · rw [at_set h3.l.len (by omega), if_pos rfl]; exact hVp
    · intro j j1 j2
      rw [at_set h3.l.len (by omega), if_neg j1, hatA j j2, hat2, if_neg j1]

/-- k events without losses at node i. -/
def stp (i : Nat) : Nat → List Store → List Store
  | 0, L => L
  | k + 1, L => evt (stp i k L) i false 1 1

theorem stp_run {U : List Bundle} (hU : Univ U) {n i : Nat} {L : List Store} (h : QInv U n L) (hi : i < 3) (hp : (at' L i).passed = []) : ∀ k, k ≤ (at' L i).bundles.length →
    QInv U (n + 2 * k) (stp i k L) ∧ (at' (stp i k L) i).bundles = (at' L i).bundles.drop k ∧ (at' (stp i k L) i).passed = [] ∧ ∀ j, j < i → at' (stp i k L) j = at' L j
  | 0, _ => ⟨h, rfl, hp, fun _ _ => rfl⟩
  | k + 1, hk => by
    obtain ⟨h1, h2, h3, h4⟩ := stp_run hU h hi hp k (by omega)
    have hd : (at' (stp i k L) i).bundles = (at' L i).bundles[k]'(by omega) :: (at' L i).bundles.drop (k + 1) := by
      rw [h2, List.drop_eq_getElem_cons (by omega)]
    obtain ⟨L', e, g1, g2, g3, g4⟩ := stp_spec hU h1 hi hd h3
    show QInv U _ (evt (stp i k L) i false 1 1) ∧ _
    rw [show stp i (k + 1) L = evt (stp i k L) i false 1 1 from rfl, e]
    exact ⟨⟨g1.l.mono (by omega), g1.qu, g1.bu⟩, g2, g3, fun j hj => (g4 j (by omega) (by omega)).trans (h4 j hj)⟩

theorem evR_q {U : List Bundle} {n i : Nat} {L : List Store} (h : QInv U n L) (hi : i < 3) : QInv U n (evR L i true) ∧ (at' (evR L i true) i).passed = [] ∧ (at' (evR L i true) i).bundles = (at' L i).bundles ∧ ∀ j, j ≠ i → at' (evR L i true) j = at' L j := by
  have hl := evR_inv h.l hi true
  have e : evR L i true = L.set i (retry (at' L i)) := rfl
  rw [e] at hl ⊢
  refine ⟨h.set (by omega) hl rfl (fun x hx => h.bu i x (by omega) hx), ?_, ?_, fun j hj => ?_⟩
  · rw [at_set h.l.len (by omega), if_pos rfl]; rfl
  · rw [at_set h.l.len (by omega), if_pos rfl]; rfl
  · rw [at_set h.l.len (by omega), if_neg hj]

/-- Node i is emptied. -/
def emp (i : Nat) (L : List Store) : List Store := stp i (at' L i).bundles.length (evR L i true)
/-- The nodes before i are emptied. -/
def setl : Nat → List Store → List Store
  | 0, L => L
  | i + 1, L => emp i (setl i L)

theorem emp_spec {U : List Bundle} (hU : Univ U) {n i : Nat} {L : List Store} (h : QInv U n L) (hi : i < 3) :
    QInv U (n + 128) (emp i L) ∧ (at' (emp i L) i).bundles = [] ∧ (at' (emp i L) i).passed = [] ∧ ∀ j, j < i → at' (emp i L) j = at' L j := by
  obtain ⟨h1, h2, h3, h4⟩ := evR_q h hi
  obtain ⟨g1, g2, g3, g4⟩ := stp_run hU h1 hi h2 (at' L i).bundles.length (by rw [h3]; exact Nat.le_refl _)
  have hlen := (h.l.vi i (by omega)).len
  refine ⟨⟨g1.l.mono (by omega), g1.qu, g1.bu⟩, ?_, g3, fun j hj => (g4 j hj).trans (h4 j (by omega))⟩
  unfold emp
  rw [g2, h3, List.drop_length]

theorem setl_spec {U : List Bundle} (hU : Univ U) {n : Nat} {L : List Store} (h : QInv U n L) : ∀ i, i ≤ 3 →
    QInv U (n + 128 * i) (setl i L) ∧ ∀ j, j < i → (at' (setl i L) j).bundles = [] ∧ (at' (setl i L) j).passed = []
  | 0, _ => ⟨h, fun j hj => by omega⟩
  | i + 1, hi => by
    obtain ⟨h1, h2⟩ := setl_spec hU h i (by omega)
    obtain ⟨g1, g2, g3, g4⟩ := emp_spec hU h1 (i := i) (by omega)
    refine ⟨⟨g1.l.mono (by omega), g1.qu, g1.bu⟩, fun j hj => ?_⟩
    show (at' (emp i (setl i L)) j).bundles = [] ∧ (at' (emp i (setl i L)) j).passed = []
    by_cases e : j = i
    · subst e; exact ⟨g2, g3⟩
    · rw [g4 j (by omega)]; exact h2 j (by omega)

end Go.Tv.C27

end
section
open Go Go.Tv Go.Proofs
namespace Go.Tv.C27
set_option maxRecDepth 20000
set_option maxHeartbeats 2000000
set_option linter.unusedSimpArgs false
set_option linter.unusedVariables false
theorem evF_i {N : List Store} {i : Nat} (hi : i < 3) : evF N ⟨(i : Int), 1, 1, false⟩ = evt N i false 1 1 := by
  unfold evF
  rw [show (((⟨(i : Int), 1, 1, false⟩ : Fate).node) % 3).toNat = i by show ((i : Int) % 3).toNat = i; omega]
  rfl

theorem settle_ret (U : List Bundle) (hU : Univ U) (n : Nat) (hn : n ≤ 600) (L : List Store) (hQ0 : QInv U n L) : RetK Try.prog 31 [(0, some ⟨4, 58, 0, encL L⟩)] [.ptr 0 0 0 0] [(0, some ⟨4, 58, 0, encL (setl 3 L)⟩)] (.t (.bool true)) [(0, .ptr 0 0 0 0)] := by
  refine retK_of_awj (kp := fun i => Nat.beq i 0) Try.func31 rfl (Nat.le_of_ble_eq_true rfl) (by simp) ?_
  intro F0 w0
  refine awj_seq ?_
  refine awj_rj rfl ?_
  refine RJ.op rfl rfl (eff_assign (v := .t _) rfl rfl rfl) ?_
  refine RJ.nil ?_
  refine awj_seq ?_
  refine awj_seq ?_
  refine awj_rj rfl ?_
  refine RJ.op rfl rfl (eff_assign (v := .t _) rfl rfl rfl) ?_
  refine RJ.nil ?_
  refine awj_block ?_
  refine awj_loopW (fun m s g => ∃ (i : Nat) (N : List Store), (i ≤ 3) ∧ (N = setl i L) ∧ m = 3 - i ∧ s = ⟨39, [(0, .ptr 0 0 0 0), (3, .t (encI (i : Nat)))], [(0, some ⟨4, 58, 0, encL N⟩)]⟩) (_) (⟨_, weak_keep (n := 39) (fr' := [(0, .ptr 0 0 0 0), (3, .t (encI (0 : Nat)))]) (st' := [(0, some ⟨4, 58, 0, encL _⟩)]) ⟨rfl, rfl, rfl, rfl, trivial⟩ ⟨rfl, okE_t, trivial⟩, 0, _, (by omega), (by rfl), rfl, rfl⟩) ?_
  rintro m s g ⟨i, N, hi, hN, rfl, rfl⟩
  have hQ : QInv U (n + 128 * i) N := by rw [hN]; exact (setl_spec hU hQ0 i hi).1
  refine awj_seq ?_
  refine awj_seq ?_
  refine awj_rj rfl ?_
  refine RJ.op rfl rfl (eff_move (v := .t _) rfl rfl rfl) ?_
  refine RJ.op rfl rfl (eff_iop rfl rfl rfl rfl rfl) ?_
  refine RJ.nil ?_
  refine awj_cond rfl (fun h1 => ?_) (fun h1 => ?_)
  · try simp only [decide_eq_true_eq, decide_eq_false_iff_not, beq_iff_eq, bne_iff_ne, bne_eq_false_iff_eq, beq_eq_false_iff_ne, Bool.not_eq_true, Bool.not_eq_false, Bool.not_eq_true', Bool.not_eq_false', ne_eq] at h1
    refine awj_skip ?_
    refine awj_seq ?_
    refine awj_block ?_
    refine awj_seq ?_
    refine awj_rd [(some 9, []), (some 10, []), (some 11, []), (some 12, []), (some 13, []), (some 14, []), (some 15, []), (some 16, []), (some 17, []), (some 18, []), (none, [0])] [[], [], [], [], [2], [2, 3, 4], [2, 3, 4, 5], [2, 3, 4, 5, 6], [0], [0, 1, 2, 3, 4, 5, 6, 7, 8], [0, 1, 2, 3, 4, 5, 6, 7, 8, 9]] tm rfl rfl rfl rfl ?_
    refine RD.op rfl rfl rfl (eff_move (v := .ptr _ _ _ _) rfl rfl rfl) ?_
    refine RD.op rfl rfl rfl (eff_move (v := .t _) rfl rfl rfl) ?_
    refine RD.op rfl rfl rfl (eff_move (v := .ptr _ _ _ _) rfl rfl rfl) ?_
    refine RD.op rfl rfl rfl (eff_move (v := .t _) rfl rfl rfl) ?_
    refine RD.op rfl rfl rfl (eff_nilCheck (v := .ptr _ _ _ _) rfl rfl rfl rfl (fun _ _ _ _ e => by cases e; exact ⟨_, rfl, rfl⟩)) ?_
    refine RD.op rfl rfl rfl (eff_indexAddrP (i := i) rfl rfl tu58 ti29 rfl rfl (by first | rfl | omega) (by omega) rfl rfl rfl (alen hQ.l.len (by omega))) ?_
    refine RD.op rfl rfl rfl (eff_load (y := .t (encS (at' N (i)))) rfl rfl ti29 rfl (.whole rfl rfl (ael hQ.l.len (by omega)) rfl rfl rfl)) ?_
    refine RD.op rfl rfl rfl (eff_callT (retry27_ret (at' N i) ((hQ.l.vi (i) (by omega)).sok (by omega))) co27 rfl rfl rfl rfl) ?_
    refine RD.op rfl rfl rfl (eff_nilCheck (v := .ptr _ _ _ _) rfl rfl rfl rfl (fun _ _ _ _ e => by cases e; exact ⟨_, rfl, rfl⟩)) ?_
    refine RD.op rfl rfl rfl (eff_indexAddrP (i := i) rfl rfl tu58 ti29 rfl rfl (by first | rfl | omega) (by omega) rfl rfl rfl (alen hQ.l.len (by omega))) ?_
    refine RD.store rfl rfl rfl (eff_storeW (v := .t (encS (retry (at' N i)))) (els := encL N) (els' := encL (N.set i (retry (at' N i)))) (el := .t (encS (at' N (i)))) rfl rfl ti29 rfl rfl rfl rfl rfl rfl (ael hQ.l.len (by omega)) rfl aset) ?_
    refine RD.nil ?_
    refine awj_seq ?_
    refine awj_rj rfl ?_
    refine RJ.op rfl rfl (eff_assign (v := .t _) rfl rfl rfl) ?_
    refine RJ.nil ?_
    refine awj_block ?_
    refine awj_loopW (fun m s g => ∃ (k : Nat) (N2 : List Store), (k ≤ (at' N i).bundles.length) ∧ (N2 = stp i k (evR N i true)) ∧ m = (at' N i).bundles.length - k ∧ s = ⟨39, [(0, .ptr 0 0 0 0), (3, .t (encI (i : Nat))), (4, .t (encI (k : Nat)))], [(0, some ⟨4, 58, 0, encL N2⟩)]⟩) (_) (⟨_, weak_keep (n := 39) (fr' := [(0, .ptr 0 0 0 0), (3, .t (encI (i : Nat))), (4, .t (encI (0 : Nat)))]) (st' := [(0, some ⟨4, 58, 0, encL _⟩)]) ⟨rfl, rfl, rfl, rfl, rfl, rfl, trivial⟩ ⟨rfl, okE_t, trivial⟩, 0, _, (by omega), (by rfl), rfl, rfl⟩) ?_
    rintro m s g ⟨k, N2, hk, hN2, rfl, rfl⟩
    have h64 := (hQ.l.vi i (by omega)).len
    obtain ⟨e1, e2, e3, e4⟩ := evR_q hQ (i := i) (by omega)
    obtain ⟨q1, q2, q3, q4⟩ := stp_run hU e1 (i := i) (by omega) e2 k (by rw [e3]; exact hk)
    rw [← hN2] at q1 q2
    have hbl : (at' N2 i).bundles.length = (at' N i).bundles.length - k := by rw [q2, e3, List.length_drop]
    refine awj_seq ?_
    refine awj_seq ?_
    refine awj_rj rfl ?_
    refine RJ.op rfl rfl (eff_move (v := .t _) rfl rfl rfl) ?_
    refine RJ.op rfl rfl (eff_iop rfl rfl rfl rfl rfl) ?_
    refine RJ.op rfl rfl (eff_move (v := .t _) rfl rfl rfl) ?_
    refine RJ.split 21 rfl (fun h2 => ?_) (fun h2 => ?_)
    · try simp only [decide_eq_true_eq, decide_eq_false_iff_not, beq_iff_eq, bne_iff_ne, bne_eq_false_iff_eq, beq_eq_false_iff_ne, Bool.not_eq_true, Bool.not_eq_false, Bool.not_eq_true', Bool.not_eq_false', ne_eq] at h2
      refine RJ.gop rfl rfl rfl rfl rfl rfl (eff_move (v := .ptr _ _ _ _) rfl rfl rfl) ?_
      refine RJ.gop rfl rfl rfl rfl rfl rfl (eff_move (v := .t _) rfl rfl rfl) ?_
      refine RJ.gop rfl rfl rfl rfl rfl rfl (eff_nilCheck (v := .ptr _ _ _ _) rfl rfl rfl rfl (fun _ _ _ _ e => by cases e; exact ⟨_, rfl, rfl⟩)) ?_
      refine RJ.gop rfl rfl rfl rfl rfl rfl (eff_indexAddrP (i := i) rfl rfl tu58 ti29 rfl rfl (by first | rfl | omega) (by omega) rfl rfl rfl (alen q1.l.len (by omega))) ?_
      refine RJ.gop rfl rfl rfl rfl rfl rfl (eff_fieldAddr rfl rfl tf29_1 (by decide) rfl rfl rfl (Nat.le_of_ble_eq_true rfl)) ?_
      refine RJ.gop rfl rfl rfl rfl rfl rfl (eff_load (y := .t (.sl ((at' N2 i).bundles.map encB) false)) rfl rfl ti26 rfl (.one rfl rfl (ael q1.l.len (by omega)) rfl)) ?_
      refine RJ.gop rfl rfl rfl rfl rfl rfl (eff_lenM rfl rfl te26 rfl) ?_
      refine RJ.gop rfl rfl rfl rfl rfl rfl (eff_iop rfl rfl rfl rfl rfl) ?_
      refine RJ.op rfl rfl (eff_pick (v := .t _) rfl rfl rfl rfl) ?_
      refine RJ.nil ?_
      refine awj_cond rfl (fun h3 => ?_) (fun h3 => ?_)
      · try simp only [decide_eq_true_eq, decide_eq_false_iff_not, beq_iff_eq, bne_iff_ne, bne_eq_false_iff_eq, beq_eq_false_iff_ne, Bool.not_eq_true, Bool.not_eq_false, Bool.not_eq_true', Bool.not_eq_false', ne_eq] at h3
        refine awj_skip ?_
        refine awj_seq ?_
        refine awj_block ?_
        refine awj_seq ?_
        refine awj_rj rfl ?_
        refine RJ.op rfl rfl (eff_move (v := .ptr _ _ _ _) rfl rfl rfl) ?_
        refine RJ.op rfl rfl (eff_move (v := .t _) rfl rfl rfl) ?_
        refine RJ.op rfl rfl (eff_convIntE (m := (i : Int)) rfl rfl (by rw [tu3]; rfl) tu5 rfl (by rcases (by omega : i = 0 ∨ i = 1 ∨ i = 2) with h | h | h <;> subst h <;> rfl)) ?_
        refine RJ.op rfl rfl (eff_buildT (ys := [_, _, _, _]) rfl rfl tz64 tg64 rfl) ?_
        refine RJ.new rfl rfl (eff_callK (event_fate (n + 128 * i + 2 * k) (by omega) N2 q1.l ⟨(i : Int), 1, 1, false⟩ ⟨⟨by show (0 : Int) ≤ (i : Int); omega, by show (i : Int) < 256; omega⟩, ⟨by show (0 : Int) ≤ 1; omega, by show (1 : Int) < 256; omega⟩, ⟨by show (0 : Int) ≤ 1; omega, by show (1 : Int) < 256; omega⟩⟩) co30 (fun id => id) rfl rfl rfl ⟨.ptr _ _ _ _ rfl rfl, .t _, trivial⟩ (.t _) rfl ⟨⟨rfl, treeEls_t, ⟨_, rfl, .inr ⟨rfl, rfl, rfl, alen2 (evF_inv q1.l _).1.len q1.l.len, 0, rfl, List.mem_singleton.2 rfl⟩⟩⟩, trivial⟩ ⟨⟨treeEls_t, .inl rfl⟩, trivial⟩) ?_
        refine RJ.op rfl rfl (eff_unop rfl rfl rfl rfl) ?_
        refine RJ.nil ?_
        refine awj_cond rfl (fun h => nomatch h) (fun _ => ?_)
        refine awj_skip ?_
        refine awj_rj rfl ?_
        refine RJ.op rfl rfl (eff_move (v := .t _) rfl rfl rfl) ?_
        refine RJ.op rfl rfl (eff_iop rfl rfl rfl rfl (iadd (by omega))) ?_
        refine RJ.op rfl rfl (eff_assign (v := .t _) rfl rfl rfl) ?_
        refine RJ.nil ?_
        refine ⟨_, ?_, _, weak_keep (n := 39) (fr' := [(0, .ptr 0 0 0 0), (3, .t (encI (i : Nat))), (4, .t (encI ((k + 1) : Nat)))]) (st' := [(0, some ⟨4, 58, 0, encL _⟩)]) ⟨rfl, rfl, rfl, rfl, rfl, rfl, trivial⟩ ⟨rfl, okE_t, trivial⟩, k + 1, _, (by omega), (by rw [evF_i (by omega), hN2]; rfl), rfl, rfl⟩
        omega
      · try simp only [decide_eq_true_eq, decide_eq_false_iff_not, beq_iff_eq, bne_iff_ne, bne_eq_false_iff_eq, beq_eq_false_iff_ne, Bool.not_eq_true, Bool.not_eq_false, Bool.not_eq_true', Bool.not_eq_false', ne_eq] at h3
        refine awj_exit ?_
        refine awj_rj rfl ?_
        have hk2 : k = (at' N i).bundles.length := by omega
        refine RJ.op rfl rfl (eff_move (v := .t _) rfl rfl rfl) ?_
        refine RJ.op rfl rfl (eff_iop rfl rfl rfl rfl (iadd (by omega))) ?_
        refine RJ.op rfl rfl (eff_assign (v := .t _) rfl rfl rfl) ?_
        refine RJ.nil ?_
        refine ⟨_, ?_, _, weak_keep (n := 39) (fr' := [(0, .ptr 0 0 0 0), (3, .t (encI ((i + 1) : Nat)))]) (st' := [(0, some ⟨4, 58, 0, encL _⟩)]) ⟨rfl, rfl, rfl, rfl, trivial⟩ ⟨rfl, okE_t, trivial⟩, i + 1, _, (by omega), (by show _ = emp i (setl i L); rw [← hN, hN2, hk2]; rfl), rfl, rfl⟩
        omega
    · try simp only [decide_eq_true_eq, decide_eq_false_iff_not, beq_iff_eq, bne_iff_ne, bne_eq_false_iff_eq, beq_eq_false_iff_ne, Bool.not_eq_true, Bool.not_eq_false, Bool.not_eq_true', Bool.not_eq_false', ne_eq] at h2
      refine RJ.gskip rfl rfl rfl rfl rfl (by decide) ?_
      refine RJ.gskip rfl rfl rfl rfl rfl (by decide) ?_
      refine RJ.gskip rfl rfl rfl rfl rfl (by decide) ?_
      refine RJ.gskip rfl rfl rfl rfl rfl (by decide) ?_
      refine RJ.gskip rfl rfl rfl rfl rfl (by decide) ?_
      refine RJ.gskip rfl rfl rfl rfl rfl (by decide) ?_
      refine RJ.gskip rfl rfl rfl rfl rfl (by decide) ?_
      refine RJ.gskip rfl rfl rfl rfl rfl (by decide) ?_
      refine RJ.op rfl rfl (eff_pick (v := .t _) rfl rfl rfl rfl) ?_
      refine RJ.nil ?_
      refine awj_cond rfl (fun h => nomatch h) (fun _ => ?_)
      refine awj_exit ?_
      refine awj_rj rfl ?_
      have hk2 : k = (at' N i).bundles.length := by omega
      refine RJ.op rfl rfl (eff_move (v := .t _) rfl rfl rfl) ?_
      refine RJ.op rfl rfl (eff_iop rfl rfl rfl rfl (iadd (by omega))) ?_
      refine RJ.op rfl rfl (eff_assign (v := .t _) rfl rfl rfl) ?_
      refine RJ.nil ?_
      refine ⟨_, ?_, _, weak_keep (n := 39) (fr' := [(0, .ptr 0 0 0 0), (3, .t (encI ((i + 1) : Nat)))]) (st' := [(0, some ⟨4, 58, 0, encL _⟩)]) ⟨rfl, rfl, rfl, rfl, trivial⟩ ⟨rfl, okE_t, trivial⟩, i + 1, _, (by omega), (by show _ = emp i (setl i L); rw [← hN, hN2, hk2]; rfl), rfl, rfl⟩
      omega
  · try simp only [decide_eq_true_eq, decide_eq_false_iff_not, beq_iff_eq, bne_iff_ne, bne_eq_false_iff_eq, beq_eq_false_iff_ne, Bool.not_eq_true, Bool.not_eq_false, Bool.not_eq_true', Bool.not_eq_false', ne_eq] at h1
    refine awj_exit ?_
    refine awj_seq ?_
    refine awj_rj rfl ?_
    refine RJ.op rfl rfl (eff_assign (v := .t _) rfl rfl rfl) ?_
    refine RJ.nil ?_
    refine awj_ret ?_
    have hi3 : i = 3 := by omega
    subst hi3
    subst hN
    exact ⟨Or.inr rfl, [_], [.t (.bool true)], ⟨.tmp rfl, trivial⟩, rfl, weak_keep ⟨rfl, rfl, rfl, rfl, trivial⟩ ⟨rfl, okE_t, trivial⟩, rfl⟩

end Go.Tv.C27

end
section
open Go Go.Tv Go.Proofs
namespace Go.Tv.C27

theorem accN_q {U : List Bundle} {I : Nat} {b : Bundle} (hI : I < 3) (hbU : b ∈ U) (hb : Bytes b.data) {n : Nat} {L : List Store} (h : QInv U n L) : ∀ k, QInv U (n + k) (accN I b k L).1
  | 0 => h
  | k + 1 => by
    have h1 := accN_q hI hbU hb h k
    rw [show (accN I b (k + 1) L).1 = if (accept (at' (accN I b k L).1 (I + 1)) b).2.2 = 0 then (accN I b k L).1.set (I + 1) (accept (at' (accN I b k L).1 (I + 1)) b).1 else (accN I b k L).1 from rfl]
    split
    · rename_i he
      obtain ⟨f1, _⟩ := h1.l.acc (i := I + 1) (by omega) hb he
      obtain ⟨q1, q2⟩ := accept_bundles (h1.l.vi (I + 1) (by omega)) hb he
      exact h1.set (by omega) f1 q1 (fun x hx => (q2 x hx).elim (fun hx => h1.bu (I + 1) x (by omega) hx) (fun e => e ▸ hbU))
    · exact ⟨h1.l.mono (by omega), h1.qu, h1.bu⟩

theorem cfN_q {U : List Bundle} {I : Nat} {c : Int} (hI : I < 3) {n : Nat} {L : List Store} (h : QInv U n L) (hfw : ∃ j, I < j ∧ j < 4 ∧ c ∈ ids (at' L j)) : ∀ k, QInv U n (cfN I c k L)
  | 0 => h
  | k + 1 => by
    have h1 := cfN_q hI h hfw k
    obtain ⟨_, hf⟩ := cfN_inv hI h.l hfw k
    rw [show cfN I c (k + 1) L = if (confirm (at' (cfN I c k L) I) c).2 = 0 then (cfN I c k L).set I (confirm (at' (cfN I c k L) I) c).1 else cfN I c k L from rfl]
    split
    · rename_i he
      have hV := (inv_confirm (h1.l.vi I (by omega)) he).2.1
      exact h1.set (by omega) (h1.l.conf (by omega) hf he) (by rw [hV]) (fun x hx => by
        rw [hV] at hx
        exact h1.bu I x (by omega) (List.mem_filter.1 hx).1)
    · exact h1

theorem evt_q {U : List Bundle} {n I : Nat} {L : List Store} (h : QInv U n L) (hI : I < 3) (r : Bool) (k m : Nat) : QInv U (n + 1 + k) (evt L I r k m) := by
  have h1 : QInv U n (evR L I r) := by
    cases r with
    | false => exact h
    | true => exact (evR_q h hI).1
  unfold evt
  split
  · rename_i ho
    obtain ⟨hb, hp⟩ := offer_in ho
    have hV := h1.l.vi I (by omega)
    obtain ⟨t, ht, hte, hVt⟩ := pass_ok hV (List.mem_map.2 ⟨_, hb, rfl⟩) hp
    have hbU := h1.bu I _ (by omega) hb
    have hby := (hV.bs _ hb).2.1
    have h2 : QInv U (n + 1) ((evR L I r).set I (pass (at' (evR L I r) I) (offer (at' (evR L I r) I) 1000).1.id).1) := by
      rw [ht]
      exact h1.set (by omega) (h1.l.same (by omega) hVt (by omega) (by rw [hte]) (by rw [hte])) (by rw [hte]) (fun x hx => by rw [hte] at hx; exact h1.bu I x (by omega) hx)
    have h3 := accN_q hI hbU hby h2 k
    obtain ⟨a1, a2, a3⟩ := accN_inv hI hby h2.l k
    unfold evB
    split
    · rename_i hacc
      obtain ⟨j, j1, j2, j3⟩ := a1.fl (I + 1) _ (by omega) (a2 hacc)
      exact cfN_q hI h3 ⟨j, by omega, j2, j3⟩ m
    · exact h3
  · exact ⟨h1.l.mono (by omega), h1.qu, h1.bu⟩

theorem evF_q {U : List Bundle} {n : Nat} {L : List Store} (h : QInv U n L) (f : Fate) : QInv U (n + 3) (evF L f) := by
  have h1 := evt_q h (I := (f.node % 3).toNat) (by omega) f.retr (f.offers % 3).toNat (f.confirms % 3).toNat
  exact ⟨h1.l.mono (by omega), h1.qu, h1.bu⟩

theorem Lz_q {U : List Bundle} : QInv U 0 (Lz 10000) := by
  have hat : ∀ j, j < 4 → at' (Lz 10000) j = ⟨10000, [], [], []⟩ := by
    intro j hj
    rcases (by omega : j = 0 ∨ j = 1 ∨ j = 2 ∨ j = 3) with rfl | rfl | rfl | rfl <;> rfl
  exact ⟨Lz_inv (by decide) (by decide), fun j hj => by rw [hat j hj], fun j b hj hb => by rw [hat j hj] at hb; simp at hb⟩

end Go.Tv.C27

end
section
open Go Go.Tv Go.Proofs
namespace Go.Tv.C27

abbrev bd (i m : Nat) : Bundle := ⟨(i : Int), 0, 1, 0, 0, 0, 0, List.replicate m 0⟩
def mkU (sz : List Int) : List Bundle := (List.range sz.length).map (fun i => bd i (sz.getD i 0).toNat)

theorem used_bound : ∀ {l : List Bundle}, (∀ b, b ∈ l → b.data.length ≤ 256) → used l ≤ 272 * (l.length : Int)
  | [], _ => by simp [used]
  | b :: l, h => by
    have h1 := used_bound (l := l) (fun x hx => h x (List.mem_cons_of_mem _ hx))
    have h2 := h b List.mem_cons_self
    simp only [used, size, List.length_cons] at h1 ⊢
    omega

theorem getD_byte {sz : List Int} (hs : Bytes sz) (i : Nat) : 0 ≤ sz.getD i 0 ∧ sz.getD i 0 < 256 := by
  rw [List.getD_eq_getElem?_getD]
  by_cases h : i < sz.length
  · rw [List.getElem?_eq_getElem h]; exact hs _ (List.getElem_mem h)
  · rw [List.getElem?_eq_none (by omega)]; exact ⟨by decide, by decide⟩

theorem mkU_univ {sz : List Int} (hs : Bytes sz) (hl : sz.length ≤ 20) : Univ (mkU sz) := by
  have hlen : (mkU sz).length = sz.length := by unfold mkU; simp
  have hok : ∀ b, b ∈ mkU sz → b.data.length ≤ 256 ∧ Bytes b.data := by
    intro b hb
    obtain ⟨i, _, rfl⟩ := List.mem_map.1 hb
    have := getD_byte hs i
    exact ⟨by simp only [List.length_replicate]; omega, bytes_rep _⟩
  refine ⟨?_, by omega, ?_, hok⟩
  · unfold mkU
    rw [List.map_map]
    refine (List.pairwise_map.2 ?_ : List.Pairwise (· ≠ ·) _)
    refine List.Pairwise.imp ?_ (List.pairwise_lt_range (n := sz.length))
    intro a b hab
    show (a : Int) ≠ (b : Int)
    omega
  · have := used_bound (l := mkU sz) (fun b hb => (hok b hb).1)
    omega

theorem mkU_mem {sz : List Int} {i : Nat} (hi : i < sz.length) : bd i (sz[i]).toNat ∈ mkU sz := by
  refine List.mem_map.2 ⟨i, List.mem_range.2 hi, ?_⟩
  rw [List.getD_eq_getElem?_getD, List.getElem?_eq_getElem hi]; rfl

theorem crea_q {U : List Bundle} (hU : Univ U) {n : Nat} {L : List Store} {b : Bundle} (h : QInv U n L) (hb : b ∈ U) (hn : b.id ∉ (at' L 0).seen) :
    (create (at' L 0) b).2 = 0 ∧ QInv U (n + 1) (L.set 0 (create (at' L 0) b).1) ∧ ∀ c, c ∈ (at' (L.set 0 (create (at' L 0) b).1) 0).seen ↔ c = b.id ∨ c ∈ (at' L 0).seen := by
  have hV := h.l.vi 0 (by omega)
  have he := create_ok hU hV (h.qu 0 (by omega)) (fun x hx => h.bu 0 x (by omega) hx) hb hn
  have hby := (hU.ok b hb).2
  obtain ⟨g1, g2, g3⟩ := inv_create hV hby he
  refine ⟨he, h.set (by omega) (h.l.crea hby he).1 (by rw [g2]) (fun x hx => ?_), fun c => ?_⟩
  · rw [g2] at hx
    rcases List.mem_append.1 hx with hx | hx
    · exact h.bu 0 x (by omega) hx
    · rw [List.mem_singleton.1 hx]; exact hb
  · rw [at_set h.l.len (by omega), if_pos rfl, g2]
    exact ins_mem

/-- All is at the last node. -/
theorem last_all {U : List Bundle} {n N : Nat} {L : List Store} (h : QInv U n L) (he : ∀ j, j < 3 → (at' L j).bundles = []) (hs : ∀ c : Int, 0 ≤ c → c < N → c ∈ (at' L 0).seen) {c : Int} (h0 : 0 ≤ c) (h1 : c < N) :
    c ∈ ids (at' L 3) := by
  obtain ⟨k, _, k1, k2⟩ := h.l.fl 0 c (by omega) (hs c h0 h1)
  by_cases e : k = 3
  · subst e; exact k2
  · have := he k (by omega)
    unfold ids at k2
    rw [this] at k2
    simp at k2

theorem last_len {sz : List Int} {n : Nat} {L : List Store} (h : QInv (mkU sz) n L) (he : ∀ j, j < 3 → (at' L j).bundles = []) (hs : ∀ c : Int, 0 ≤ c → c < sz.length → c ∈ (at' L 0).seen) :
    (at' L 3).bundles.length = sz.length := by
  have h1 := (used_le (h.l.vi 3 (by omega)).nd (fun x hx => h.bu 3 x (by omega) hx)).2
  have hlen : (mkU sz).length = sz.length := by unfold mkU; simp
  have hnd : ((mkU sz).map (·.id)).Nodup := by
    unfold mkU
    rw [List.map_map]
    refine (List.pairwise_map.2 ?_ : List.Pairwise (· ≠ ·) _)
    refine List.Pairwise.imp ?_ (List.pairwise_lt_range (n := sz.length))
    intro a b hab
    show (a : Int) ≠ (b : Int)
    omega
  have h2 := (used_le (U := (at' L 3).bundles) hnd (fun x hx => by
    obtain ⟨i, hi, rfl⟩ := List.mem_map.1 hx
    have hi2 := List.mem_range.1 hi
    have hin := last_all h he (N := sz.length) hs (c := (i : Int)) (by omega) (by omega)
    obtain ⟨y, hy, hyi⟩ := List.mem_map.1 hin
    have hyU := h.bu 3 y (by omega) hy
    obtain ⟨i2, _, rfl⟩ := List.mem_map.1 hyU
    have e : i2 = i := by
      have : (i2 : Int) = (i : Int) := hyi
      omega
    rw [e] at hy
    exact hy)).2
  omega

end Go.Tv.C27

end
