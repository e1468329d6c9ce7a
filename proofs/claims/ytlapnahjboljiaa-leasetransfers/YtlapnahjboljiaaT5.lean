/- LeaseTransfers: for every input that reads as data, the call returns true and leaves its arguments as they were. No condition. -/
import Derived.Test.YtlapnahjboljiaaT4
import Derived.Test.YtlapnahjboljiaaT2
import Derived.Test.YtlapnahjboljiaaRows
section
open Go Go.Tv Go.Proofs
namespace Go.Tv.C24

theorem grant_err {b : Bank} {l : Lea} (h : ¬ (grant b l).2 = 0) : (grant b l).1 = zb := by
  unfold grant at h ⊢
  split
  · rfl
  · rename_i h1
    rw [if_neg h1] at h
    split
    · rfl
    · rename_i h2
      rw [h2] at h
      split
      · rfl
      · rename_i a h3
        rw [h3] at h
        simp only at h
        split
        · rfl
        · rename_i h4
          rw [if_neg h4] at h
          split
          · rfl
          · rename_i h5
            rw [if_neg h5] at h
            split
            · rfl
            · rename_i h6
              rw [if_neg h6] at h
              exact absurd rfl h
theorem grant_shape {b : Bank} {l : Lea} (h : (grant b l).2 = 0) : formed l ∧ leaF b.ls l.id = none ∧ ∃ a, ∃ ha : a < b.accs.length, (b.accs[a]).c = l.cu ∧ cov (b.accs[a]).p l.h ∧
    grant b l = (⟨setP b.accs a (sub (b.accs[a]).p l.h), insL l b.ls, b.sp⟩, 0) := by
  by_cases h1 : formed l
  · by_cases h2 : leaIx b.ls l.id < 0
    · by_cases h3 : accIx b.accs l.cu < 0
      · rw [grant_3 h1 h2 h3] at h; simp at h
      · obtain ⟨a, ha, _, hF⟩ := acc_nat h3
        by_cases h4 : ∃ x, x ∈ b.ls ∧ confl x l
        · rw [grant_32 h1 h2 hF h4] at h; simp at h
        · by_cases h5 : 32 ≤ b.ls.length
          · rw [grant_9 h1 h2 hF h4 h5] at h; simp at h
          · by_cases h6 : cov (b.accs[a]).p l.h
            · exact ⟨h1, lea_neg h2, a, ha, (accF_some hF).2, h6, grant_0 h1 h2 ha hF h4 h5 h6⟩
            · rw [grant_40 h1 h2 ha hF h4 h5 h6] at h; simp at h
    · rw [grant_4 h1 h2] at h; simp at h
  · rw [grant_5 h1] at h; simp at h
theorem crM_setP {l : List Acc} (hp : incrA l) {a : Nat} (ha : a < l.length) {c : Int} (hc : (l[a]).c = c) (p : Purse) : crM c p (setP l a (sub (l[a]).p p)) = l := by
  unfold crM
  apply List.ext_getElem
  · simp [setP]
  · intro j h1 h2
    rw [List.getElem_map, setP_get _ ha]
    by_cases e : a = j
    · subst e
      rw [if_pos rfl]
      simp only [hc, if_true, plus_sub]
      rw [← hc]
    · rw [if_neg e, if_neg (fun e2 => e (incr_inj (f := fun x : Acc => x.c) hp ha h2 (by rw [hc, e2])))]
theorem grant_close {b : Bank} (h : VB b) {x : Lea} (hg : (grant b x).2 = 0) : close (grant b x).1 x.id = (b, 0) := by
  obtain ⟨_, _, a, ha, hc, hcv, e⟩ := grant_shape hg
  have hv := (grant_keeps h x).1
  rw [e] at hv ⊢
  have hi := insL_pos x b.ls
  rw [List.append_assoc] at hi
  have hm := close_mid hv (u := b.ls.take (posK (fun z : Lea => z.id) x.id b.ls)) (v := b.ls.drop (posK (fun z : Lea => z.id) x.id b.ls)) (x := x) hi
  show close ⟨setP b.accs a (sub (b.accs[a]).p x.h), insL x b.ls, b.sp⟩ x.id = _
  rw [hm]
  show ((⟨crM x.cu x.h (setP b.accs a (sub (b.accs[a]).p x.h)), _, b.sp⟩ : Bank), (0 : Int)) = (b, 0)
  rw [crM_setP h.ia ha hc, List.take_append_drop]
theorem grant_len {b : Bank} {x : Lea} (hg : (grant b x).2 = 0) : (grant b x).1.ls.length = b.ls.length + 1 := by
  obtain ⟨_, _, a, ha, hc, hcv, e⟩ := grant_shape hg
  rw [e]; exact insL_length _ _

/-! ### Charging in parts -/
theorem charge_cases (b : Bank) (n t : Int) (c : Purse) : (charge b n t c = (zb, 3) ∧ leaF b.ls n = none) ∨ ∃ i, ∃ hi : i < b.ls.length, leaF b.ls n = some i ∧
    ((charge b n t c = (zb, 32) ∧ (t < (b.ls[i]).fr ∨ (b.ls[i]).un ≤ t)) ∨ (¬ (t < (b.ls[i]).fr ∨ (b.ls[i]).un ≤ t) ∧ ((charge b n t c = (zb, 40) ∧ ¬ cov (b.ls[i]).h c) ∨
      (cov (b.ls[i]).h c ∧ charge b n t c = (⟨b.accs, setH b.ls i (sub (b.ls[i]).h c), plus b.sp c⟩, 0))))) := by
  by_cases h : leaIx b.ls n < 0
  · exact .inl ⟨charge_3 h, lea_neg h⟩
  · obtain ⟨i, hi, _, hF⟩ := lea_nat h
    refine .inr ⟨i, hi, hF, ?_⟩
    by_cases h2 : t < (b.ls[i]).fr ∨ (b.ls[i]).un ≤ t
    · exact .inl ⟨charge_32 hi hF h2, h2⟩
    · refine .inr ⟨h2, ?_⟩
      by_cases h3 : cov (b.ls[i]).h c
      · exact .inr ⟨h3, charge_0 hi hF h2 h3⟩
      · exact .inl ⟨charge_40 hi hF h2 h3, h3⟩
theorem leaF_map {l l' : List Lea} (h : l.map (·.id) = l'.map (·.id)) (c : Int) : leaF l c = leaF l' c := by
  have key : ∀ l : List Lea, leaF l c = (l.map (·.id)).findIdx? (· == c) := fun l => by
    unfold leaF
    rw [List.findIdx?_map]; rfl
  rw [key, key, h]
theorem cov_two {h x y : Purse} (hy : near 1000000000 y) : ¬ cov h x → ¬ cov h (plus x y) := by
  intro hn hc
  apply hn
  unfold near at hy
  unfold cov plus at *
  simp only at hc
  omega
theorem cov_sub {h x y : Purse} : cov (sub h x) y ↔ cov h (plus x y) := by unfold cov sub plus; simp only; omega
theorem parts1 {b : Bank} {n t : Int} {x y : Purse} (hy : near 1000000000 y) (h : ¬ (charge b n t x).2 = 0) : (charge b n t (plus x y)).2 = (charge b n t x).2 := by
  rcases charge_cases b n t x with ⟨e, hn⟩ | ⟨i, hi, hF, ⟨e, hw⟩ | ⟨hw, ⟨e, hc⟩ | ⟨hc, e⟩⟩⟩
  · have h3 : leaIx b.ls n < 0 := Classical.byContradiction fun h => by obtain ⟨i, _, _, hF⟩ := lea_nat h; rw [hn] at hF; cases hF
    rw [e, charge_3 h3]
  · rw [e, charge_32 hi hF hw]
  · rw [e, charge_40 hi hF hw (cov_two hy hc)]
  · rw [e] at h; exact absurd rfl h
theorem setH_get {l : List Lea} {i : Nat} (h : i < l.length) (p : Purse) : (setH l i p)[i]'(by rw [setH_length]; exact h) = { l[i] with h := p } := by
  simp [setH, h]
theorem setH_setH {l : List Lea} {i : Nat} (h : i < l.length) (p q : Purse) : setH (setH l i p) i q = setH l i q := by
  have e := getDL (l := setH l i p) (i := i) (by rw [setH_length]; exact h)
  rw [setH_get h] at e
  show (setH l i p).set i { (setH l i p).getD i zl with h := q } = _
  rw [e]
  unfold setH
  rw [getDL h, List.set_set]
theorem parts2 {b : Bank} {n t : Int} {x y : Purse} (h : (charge b n t x).2 = 0) : charge (charge b n t x).1 n t y = charge b n t (plus x y) := by
  rcases charge_cases b n t x with ⟨e, hn⟩ | ⟨i, hi, hF, ⟨e, hw⟩ | ⟨hw, ⟨e, hc⟩ | ⟨hc, e⟩⟩⟩
  · rw [e] at h; simp at h
  · rw [e] at h; simp at h
  · rw [e] at h; simp at h
  · rw [e]
    have hi2 : i < (setH b.ls i (sub (b.ls[i]).h x)).length := by rw [setH_length]; exact hi
    have hF2 : leaF (setH b.ls i (sub (b.ls[i]).h x)) n = some i := by rw [leaF_map (setH_map (·.id) (fun _ _ => rfl) _ hi _)]; exact hF
    have hg := setH_get hi (sub (b.ls[i]).h x)
    have hw2 : ¬ (t < ((setH b.ls i (sub (b.ls[i]).h x))[i]).fr ∨ ((setH b.ls i (sub (b.ls[i]).h x))[i]).un ≤ t) := by rw [hg]; exact hw
    by_cases h3 : cov (b.ls[i]).h (plus x y)
    · have h4 : cov ((setH b.ls i (sub (b.ls[i]).h x))[i]).h y := by rw [hg]; exact cov_sub.2 h3
      have := charge_0 (b := ⟨b.accs, setH b.ls i (sub (b.ls[i]).h x), plus b.sp x⟩) hi2 hF2 hw2 h4
      rw [this, charge_0 hi hF hw h3]
      simp only
      rw [hg, setH_setH hi]
      simp only
      congr 2
      · congr 1; apply purse_ext <;> simp only [plus, sub] <;> omega
      · apply purse_ext <;> simp only [plus] <;> omega
    · have h4 : ¬ cov ((setH b.ls i (sub (b.ls[i]).h x))[i]).h y := by rw [hg]; exact fun g => h3 (cov_sub.1 g)
      rw [charge_40 (b := ⟨b.accs, setH b.ls i (sub (b.ls[i]).h x), plus b.sp x⟩) hi2 hF2 hw2 h4, charge_40 hi hF hw h3]

/-! ### Transfers there and back -/
theorem transfer_at {b : Bank} (h : VB b) {i k : Nat} (hi : i < b.accs.length) (hk : k < b.accs.length) (p : Purse) : transfer b (b.accs[i]).c (b.accs[k]).c p =
    if cov (b.accs[i]).p p then (⟨setP (setP b.accs i (sub (b.accs[i]).p p)) k (plus ((setP b.accs i (sub (b.accs[i]).p p))[k]'(by rw [setP_length]; exact hk)).p p), b.ls, b.sp⟩, 0) else (zb, 40) := by
  by_cases hc : cov (b.accs[i]).p p
  · rw [if_pos hc, transfer_0 hi (accF_at h.ia hi) (accF_at h.ia hk) hc (by rw [setP_length]; exact hk)]
  · rw [if_neg hc, transfer_40 hi (accF_at h.ia hi) (accF_at h.ia hk) hc]
theorem setP_same {l : List Acc} {i : Nat} (h : i < l.length) (p : Purse) : ((setP l i p)[i]'(by rw [setP_length]; exact h)) = ⟨(l[i]).c, p⟩ := by rw [setP_get p h, if_pos rfl]
theorem setP_setP {l : List Acc} {i : Nat} (h : i < l.length) (p q : Purse) : setP (setP l i p) i q = setP l i q := by
  have e := getDA (l := setP l i p) (i := i) (by rw [setP_length]; exact h)
  rw [setP_same h] at e
  show (setP l i p).set i ⟨((setP l i p).getD i za).c, q⟩ = _
  rw [e]
  unfold setP
  rw [getDA h, List.set_set]
theorem setP_id {l : List Acc} {i : Nat} (h : i < l.length) : setP l i (l[i]).p = l := by
  unfold setP
  rw [getDA h]
  exact List.set_getElem_self h
theorem back_accs {l : List Acc} {i k : Nat} (hi : i < l.length) (p : Purse) {X1 X2 X3 : List Acc} (h1 : X1 = setP l i (sub (l[i]).p p)) (hk1 : k < X1.length) (h2 : X2 = setP X1 k (plus (X1[k]).p p)) (hk2 : k < X2.length)
    (h3 : X3 = setP X2 k (sub (X2[k]).p p)) (hi3 : i < X3.length) : setP X3 i (plus (X3[i]).p p) = l := by
  have fin : ∀ (X : List Acc) (hX : i < X.length), X = setP l i (sub (l[i]).p p) → setP X i (plus (X[i]).p p) = l := by
    rintro X hX rfl
    rw [setP_setP hi]
    simp only [setP_same hi, plus_sub]
    exact setP_id hi
  have e3 : X3 = X1 := by
    have e : X2[k] = ⟨(X1[k]).c, plus (X1[k]).p p⟩ := by subst h2; exact setP_same hk1 _
    rw [h3, e]
    simp only [sub_plus]
    rw [h2, setP_setP hk1, setP_id hk1]
  subst e3
  exact fin X3 hi3 h1
theorem transfer_eq {b : Bank} (h : VB b) {i k : Nat} (hi : i < b.accs.length) (hk : k < b.accs.length) {p : Purse} (hc : cov (b.accs[i]).p p) :
    ∃ X1 X2 : List Acc, ∃ hk1 : k < X1.length, X1 = setP b.accs i (sub (b.accs[i]).p p) ∧ X2 = setP X1 k (plus (X1[k]).p p) ∧ transfer b (b.accs[i]).c (b.accs[k]).c p = (⟨X2, b.ls, b.sp⟩, 0) :=
  ⟨_, _, by rw [setP_length]; exact hk, rfl, rfl, by rw [transfer_at h hi hk, if_pos hc]⟩
theorem transfer_back {b : Bank} (h : VB b) {i k : Nat} (hi : i < b.accs.length) (hk : k < b.accs.length) {p : Purse} (hp : right p) (hc : cov (b.accs[i]).p p) :
    transfer (transfer b (b.accs[i]).c (b.accs[k]).c p).1 (b.accs[k]).c (b.accs[i]).c p = (b, 0) := by
  have hv := (transfer_keeps h (b.accs[i]).c (b.accs[k]).c hp).1
  obtain ⟨X1, X2, hk1, hX1, hX2, e⟩ := transfer_eq h hi hk hc
  rw [e] at hv ⊢
  simp only at hv ⊢
  have hl1 : X1.length = b.accs.length := by rw [hX1, setP_length]
  have hl2 : X2.length = b.accs.length := by rw [hX2, setP_length, hl1]
  have hk2 : k < X2.length := by omega
  have hi2 : i < X2.length := by omega
  have hm : X2.map (·.c) = b.accs.map (·.c) := by rw [hX2, setP_map _ hk1, hX1, setP_map _ hi]
  have cs : ∀ j (h1 : j < X2.length) (h2 : j < b.accs.length), (X2[j]).c = (b.accs[j]).c := fun j h1 h2 => by
    have := congrArg (fun l => l[j]?) hm
    simp only [List.getElem?_map, List.getElem?_eq_getElem h1, List.getElem?_eq_getElem h2, Option.map_some, Option.some.injEq] at this
    exact this
  have hcv : cov (X2[k]).p p := by
    have hr1 : right (X1[k]).p := by
      subst hX1
      rcases setP_mem hi (List.getElem_mem hk1) with hm | hm
      · exact h.rg.2.1 _ hm
      · rw [hm]; exact right_sub (h.rg.2.1 _ (List.getElem_mem hi)) hp hc
    have : X2[k] = ⟨(X1[k]).c, plus (X1[k]).p p⟩ := by subst hX2; exact setP_same hk1 _
    rw [this]
    unfold cov right num plus at *; simp only; omega
  obtain ⟨Y1, Y2, hi3, hY1, hY2, e2⟩ := transfer_eq hv (i := k) (k := i) hk2 hi2 hcv
  simp only at hY1 e2
  rw [cs k hk2 hk, cs i hi2 hi] at e2
  rw [e2, hY2, back_accs hi p hX1 hk1 hX2 hk2 hY1 hi3]
theorem transfer_self {b : Bank} (h : VB b) {i : Nat} (hi : i < b.accs.length) {p : Purse} (hc : cov (b.accs[i]).p p) : transfer b (b.accs[i]).c (b.accs[i]).c p = (b, 0) := by
  rw [transfer_at h hi hi, if_pos hc]
  have : setP (setP b.accs i (sub (b.accs[i]).p p)) i (plus ((setP b.accs i (sub (b.accs[i]).p p))[i]'(by rw [setP_length]; exact hi)).p p) = b.accs := by
    apply List.ext_getElem
    · simp [setP]
    · intro j g1 g2
      rw [setP_get _ (by rw [setP_length]; exact hi)]
      simp only [setP_get _ hi]
      by_cases e : i = j
      · subst e; simp [plus_sub]
      · simp [e]
  rw [this]
theorem transfer_other {b : Bank} (h : VB b) {i k : Nat} (hi : i < b.accs.length) (hk : k < b.accs.length) {p : Purse} (hc : cov (b.accs[i]).p p) :
    (transfer b (b.accs[i]).c (b.accs[k]).c p).1.accs.length = b.accs.length ∧ ∀ j, j ≠ i → j ≠ k → (transfer b (b.accs[i]).c (b.accs[k]).c p).1.accs[j]? = b.accs[j]? := by
  obtain ⟨X1, X2, hk1, hX1, hX2, e⟩ := transfer_eq h hi hk hc
  rw [e]
  simp only
  refine ⟨by rw [hX2, setP_length, hX1, setP_length], fun j h1 h2 => ?_⟩
  rw [hX2, setP, List.getElem?_set_ne (fun e => h2 e.symm), hX1, setP, List.getElem?_set_ne (fun e => h1 e.symm)]

/-! ### Expiry by hand -/
def HB (b : Bank) (t : Int) (k : Nat) : Bank := ⟨crAll ((b.ls.drop k).filter fun l => decide (l.un ≤ t)).reverse b.accs, b.ls.take k ++ (b.ls.drop k).filter (fun l => decide (t < l.un)), b.sp⟩
def left (b : Bank) (t : Int) (k : Nat) : List Lea := (b.ls.drop k).filter fun l => decide (t < l.un)
theorem HB_start (b : Bank) (t : Int) : HB b t b.ls.length = b := by
  show (⟨crAll ((b.ls.drop b.ls.length).filter _).reverse b.accs, b.ls.take b.ls.length ++ (b.ls.drop b.ls.length).filter _, b.sp⟩ : Bank) = b
  rw [List.drop_length, List.take_length]
  simp only [List.filter_nil, List.reverse_nil, List.append_nil]
  rfl
theorem HB_close {b : Bank} {t : Int} {k : Nat} (h0 : 0 < k) (hk : k ≤ b.ls.length) (hv : VB (HB b t k)) (hc : (b.ls[k - 1]'(by omega)).un ≤ t) : close (HB b t k) (b.ls[k - 1]'(by omega)).id = (HB b t (k - 1), 0) := by
  have hk1 : k - 1 < b.ls.length := by omega
  have ht : b.ls.take k = b.ls.take (k - 1) ++ [b.ls[k - 1]] := by rw [← take_succ_get hk1, show k - 1 + 1 = k by omega]
  have hd : b.ls.drop (k - 1) = b.ls[k - 1] :: b.ls.drop k := by rw [List.drop_eq_getElem_cons hk1, show k - 1 + 1 = k by omega]
  have := close_mid hv (u := b.ls.take (k - 1)) (v := (b.ls.drop k).filter fun l => decide (t < l.un)) (x := b.ls[k - 1]) (by unfold HB; simp only; rw [ht, List.append_assoc]; rfl)
  rw [this]
  unfold HB
  simp only
  rw [hd]
  have h1 : ¬ t < (b.ls[k - 1]).un := by omega
  rw [List.filter_cons_of_pos (by simpa using hc), List.filter_cons_of_neg (by simpa using h1), List.reverse_cons, crAll_append]
  rfl
theorem HB_keep {b : Bank} {t : Int} {k : Nat} (h0 : 0 < k) (hk : k ≤ b.ls.length) (hc : ¬ (b.ls[k - 1]'(by omega)).un ≤ t) : HB b t (k - 1) = HB b t k ∧ left b t (k - 1) = b.ls[k - 1]'(by omega) :: left b t k := by
  have hk1 : k - 1 < b.ls.length := by omega
  have ht : b.ls.take k = b.ls.take (k - 1) ++ [b.ls[k - 1]] := by rw [← take_succ_get hk1, show k - 1 + 1 = k by omega]
  have hd : b.ls.drop (k - 1) = b.ls[k - 1] :: b.ls.drop k := by rw [List.drop_eq_getElem_cons hk1, show k - 1 + 1 = k by omega]
  have h1 : t < (b.ls[k - 1]).un := by omega
  unfold HB left
  rw [hd, List.filter_cons_of_neg (by simpa using hc), List.filter_cons_of_pos (by simpa using h1), ht]
  exact ⟨by rw [List.append_assoc]; rfl, rfl⟩
theorem left_keep {b : Bank} {t : Int} {k : Nat} (h0 : 0 < k) (hk : k ≤ b.ls.length) (hc : (b.ls[k - 1]'(by omega)).un ≤ t) : left b t (k - 1) = left b t k := by
  have hk1 : k - 1 < b.ls.length := by omega
  have hd : b.ls.drop (k - 1) = b.ls[k - 1] :: b.ls.drop k := by rw [List.drop_eq_getElem_cons hk1, show k - 1 + 1 = k by omega]
  have h1 : ¬ t < (b.ls[k - 1]).un := by omega
  unfold left
  rw [hd, List.filter_cons_of_neg (by simpa using h1)]
theorem HB_vb {b : Bank} (h : VB b) (t : Int) : ∀ j, j ≤ b.ls.length → VB (HB b t (b.ls.length - j))
  | 0, _ => by rw [Nat.sub_zero, HB_start]; exact h
  | j + 1, hj => by
    have ih := HB_vb h t j (by omega)
    have e : b.ls.length - (j + 1) = b.ls.length - j - 1 := by omega
    rw [e]
    by_cases hc : (b.ls[b.ls.length - j - 1]'(by omega)).un ≤ t
    · have := HB_close (by omega) (by omega) ih hc
      have h2 := (close_keeps ih (b.ls[b.ls.length - j - 1]'(by omega)).id).1
      rw [this] at h2; exact h2
    · rw [(HB_keep (by omega) (by omega) hc).1]; exact ih
theorem HB_end {b : Bank} (h : VB b) (t : Int) : HB b t 0 = expire b t := by
  rw [expire_spec h]
  unfold HB
  simp only [List.drop_zero, List.take_zero, List.nil_append]
  rw [crAll_perm (List.reverse_perm _)]
theorem expire_two {b : Bank} (h : VB b) (s t : Int) : expire (expire b s) t = expire b (imax s t) := by
  rw [expire_spec (expire_keeps h s).1, expire_spec h, expire_spec h]
  simp only
  rw [List.filter_filter, List.filter_filter, ← crAll_append]
  have e1 : (b.ls.filter fun a => decide (t < a.un) && decide (s < a.un)) = b.ls.filter fun l => decide (imax s t < l.un) := by
    apply List.filter_congr
    intro x _
    rw [← Bool.decide_and]
    refine decide_eq_decide.2 ?_
    unfold imax; split <;> omega
  rw [e1]
  congr 1
  refine crAll_perm ?_ _
  have : ∀ l : List Lea, (l.filter (fun x => decide (x.un ≤ s)) ++ l.filter (fun a => decide (a.un ≤ t) && decide (s < a.un))).Perm (l.filter fun x => decide (x.un ≤ imax s t)) := by
    intro l
    induction l with
    | nil => exact List.Perm.refl _
    | cons x l ih =>
      by_cases h1 : x.un ≤ s
      · have h3 : x.un ≤ imax s t := by unfold imax; split <;> omega
        have h2 : ¬ s < x.un := by omega
        rw [List.filter_cons_of_pos (by simpa using h1), List.filter_cons_of_neg (by simp [h2]), List.filter_cons_of_pos (by simpa using h3)]
        exact ih.cons x
      · by_cases h2 : x.un ≤ t
        · have h3 : x.un ≤ imax s t := by unfold imax; split <;> omega
          have h4 : s < x.un := by omega
          rw [List.filter_cons_of_neg (by simpa using h1), List.filter_cons_of_pos (by simp [h2, h4]), List.filter_cons_of_pos (by simpa using h3)]
          exact List.perm_middle.trans (ih.cons x)
        · have h3 : ¬ x.un ≤ imax s t := by unfold imax; split <;> omega
          rw [List.filter_cons_of_neg (by simpa using h1), List.filter_cons_of_neg (by simp [h2]), List.filter_cons_of_neg (by simpa using h3)]
          exact ih
  exact this _

end Go.Tv.C24

end
section
open Go Go.Tv Go.Proofs
namespace Go.Tv.C24
set_option maxRecDepth 20000
set_option maxHeartbeats 2000000
set_option linter.unusedSimpArgs false
set_option linter.unusedVariables false
theorem round_ret (l : List Purse) (hl : l.length ≤ 9223372036854775807) (hP : ∀ p, p ∈ l → P64 p) (q : List Opn) (hq : q.length ≤ 9223372036854775807) (hQ : ∀ o, o ∈ q → P64 o.p) (x : Lea) : Ret Try.prog 7 [.sl (l.map encP) false, .sl (q.map encO) false, encL x] (.bool true) := by
  refine ret_of_awp Try.func7 rfl (Nat.le_of_ble_eq_true rfl) ?_
  refine awp_seq ?_
  refine awp_rw rfl ?_
  refine RW.new rfl rfl (eff_boxK (v := .t _) (k := 8) (id := 5) rfl rfl rfl rfl rfl rfl) ?_
  refine RW.op rfl rfl (eff_assign (v := .t _) rfl rfl rfl) ?_
  refine RW.nil ?_
  refine awp_seq ?_
  refine awp_seq ?_
  refine awp_rw rfl ?_
  refine RW.op rfl rfl (eff_move (v := .t _) rfl rfl rfl) ?_
  refine RW.op rfl rfl (eff_lenM rfl rfl te39 rfl) ?_
  refine RW.op rfl rfl (eff_iop rfl rfl rfl rfl rfl) ?_
  refine RW.nil ?_
  refine awp_cond rfl (fun h1 => ?_) (fun h1 => ?_)
  · try simp only [decide_eq_true_eq, decide_eq_false_iff_not, beq_iff_eq, bne_iff_ne, bne_eq_false_iff_eq, beq_eq_false_iff_ne, Bool.not_eq_true, Bool.not_eq_false, Bool.not_eq_true', Bool.not_eq_false', ne_eq] at h1
    refine awp_seq ?_
    refine awp_rw rfl ?_
    refine RW.op rfl rfl (eff_callT (lives_ret) co11 rfl rfl rfl rfl) ?_
    refine RW.op rfl rfl (eff_assign (v := .t _) rfl rfl rfl) ?_
    refine RW.nil ?_
    refine awp_ret ?_
    exact ⟨Or.inr rfl, [_], ⟨.tmp (.t _), trivial⟩, .refl _⟩
  · try simp only [decide_eq_true_eq, decide_eq_false_iff_not, beq_iff_eq, bne_iff_ne, bne_eq_false_iff_eq, beq_eq_false_iff_ne, Bool.not_eq_true, Bool.not_eq_false, Bool.not_eq_true', Bool.not_eq_false', ne_eq] at h1
    refine awp_skip ?_
    refine awp_seq ?_
    refine awp_rw rfl ?_
    refine RW.op rfl rfl (eff_move (v := .t _) rfl rfl rfl) ?_
    refine RW.op rfl rfl (eff_callT (made_ret l hl hP) co21 rfl rfl rfl rfl) ?_
    refine RW.new rfl rfl (eff_allocK (k := 5) (id := 7) rfl rfl tz27 rfl rfl) ?_
    refine RW.store rfl rfl (eff_storeW (v := .t _) (els := [_]) (els' := [_]) rfl rfl ti27 rfl rfl rfl rfl rfl rfl rfl rfl rfl) ?_
    refine RW.nil ?_
    refine awp_seq ?_
    refine awp_seq ?_
    refine awp_rw rfl ?_
    refine RW.op rfl rfl (eff_assign (v := .t _) rfl rfl rfl) ?_
    refine RW.nil ?_
    refine awp_block ?_
    refine awp_loopW (fun m s => ∃ (i : Nat), (i ≤ q.length) ∧ m = q.length - i ∧ s = ⟨82, [(1, .t (.sl (q.map encO) false)), (5, .ptr 5 0 0 0), (7, .ptr 7 0 0 0), (8, .t (encI (i : Nat)))], [(5, some ⟨8, 44, 0, [.t (encL x)]⟩), (7, some ⟨5, 27, 0, [.t (encB (runB (made l) (q.take i)))]⟩)]⟩) (_) (⟨_, weak_keep (n := 82) (fr' := [(1, .t (.sl (q.map encO) false)), (5, .ptr 5 0 0 0), (7, .ptr 7 0 0 0), (8, .t (encI (0 : Nat)))]) (st' := [(5, some ⟨8, 44, 0, [.t (encL x)]⟩), (7, some ⟨5, 27, 0, [.t (encB (runB (made l) (q.take 0)))]⟩)]) ⟨rfl, rfl, rfl, rfl, rfl, rfl, rfl, rfl, trivial⟩ ⟨rfl, okE_one rfl, (by first | rfl | (rw [runB_step (by omega)]; rfl)), okE_one rfl, trivial⟩, 0, (by omega), rfl, rfl⟩) ?_
    rintro m s ⟨i, hi, rfl, rfl⟩
    have hV := run_vb l q i
    refine awp_seq ?_
    refine awp_seq ?_
    refine awp_rw rfl ?_
    refine RW.op rfl rfl (eff_move (v := .t _) rfl rfl rfl) ?_
    refine RW.op rfl rfl (eff_move (v := .t _) rfl rfl rfl) ?_
    refine RW.op rfl rfl (eff_lenM rfl rfl te39 rfl) ?_
    refine RW.op rfl rfl (eff_iop rfl rfl rfl rfl rfl) ?_
    refine RW.nil ?_
    refine awp_cond rfl (fun h2 => ?_) (fun h2 => ?_)
    · try simp only [decide_eq_true_eq, decide_eq_false_iff_not, beq_iff_eq, bne_iff_ne, bne_eq_false_iff_eq, beq_eq_false_iff_ne, Bool.not_eq_true, Bool.not_eq_false, Bool.not_eq_true', Bool.not_eq_false', ne_eq] at h2
      refine awp_skip ?_
      refine awp_seq ?_
      refine awp_block ?_
      refine awp_rd [(some 26, []), (some 27, []), (some 28, []), (some 29, []), (some 30, []), (some 31, []), (some 25, []), (some 32, []), (some 33, []), (none, [7])] [[], [], [], [1, 2], [1, 2, 3], [0, 1, 2, 3, 4], [0, 1, 2, 3, 4, 5], [0, 1, 2, 3, 4, 5, 6], [0, 1, 2, 3, 4, 5, 6], [0, 1, 2, 3, 4, 5, 6, 7]] tm rfl rfl rfl rfl ?_
      refine RD.op rfl rfl rfl (eff_load rfl rfl ti27 rfl (.whole rfl rfl rfl rfl rfl rfl)) ?_
      refine RD.op rfl rfl rfl (eff_move (v := .t _) rfl rfl rfl) ?_
      refine RD.op rfl rfl rfl (eff_move (v := .t _) rfl rfl rfl) ?_
      refine RD.op rfl rfl rfl (eff_indexM rfl rfl te39 rfl rfl rfl (by first | assumption | exact List.getElem?_eq_getElem (by omega)) rfl (by decide)) ?_
      refine RD.op rfl rfl rfl (eff_loadW rfl rfl ti46 rfl rfl rfl) ?_
      refine RD.op rfl rfl rfl (eff_callT (do_ret (runB (made l) (q.take i)) (q[i]'(by omega)) hV (hQ _ (List.getElem_mem _))) co22 rfl rfl rfl rfl) ?_
      refine RD.op rfl rfl rfl (eff_move (v := .t _) rfl rfl rfl) ?_
      refine RD.op rfl rfl rfl (eff_extract rfl rfl rfl rfl) ?_
      refine RD.op rfl rfl rfl (eff_extract rfl rfl rfl rfl) ?_
      refine RD.store rfl rfl rfl (eff_storeW (v := .t _) (els := [_]) (els' := [_]) rfl rfl ti27 rfl rfl rfl rfl rfl rfl rfl rfl rfl) ?_
      refine RD.nil ?_
      refine awp_rw rfl ?_
      refine RW.op rfl rfl (eff_move (v := .t _) rfl rfl rfl) ?_
      refine RW.op rfl rfl (eff_iop rfl rfl rfl rfl (iadd (by omega))) ?_
      refine RW.op rfl rfl (eff_assign (v := .t _) rfl rfl rfl) ?_
      refine RW.nil ?_
      refine ⟨_, ?_, _, weak_keep (n := 82) (fr' := [(1, .t (.sl (q.map encO) false)), (5, .ptr 5 0 0 0), (7, .ptr 7 0 0 0), (8, .t (encI ((i + 1) : Nat)))]) (st' := [(5, some ⟨8, 44, 0, [.t (encL x)]⟩), (7, some ⟨5, 27, 0, [.t (encB (runB (made l) (q.take (i + 1))))]⟩)]) ⟨rfl, rfl, rfl, rfl, rfl, rfl, rfl, rfl, trivial⟩ ⟨rfl, okE_one rfl, (by first | rfl | (rw [runB_step (by omega)]; rfl)), okE_one rfl, trivial⟩, i + 1, (by omega), rfl, rfl⟩
      omega
    · try simp only [decide_eq_true_eq, decide_eq_false_iff_not, beq_iff_eq, bne_iff_ne, bne_eq_false_iff_eq, beq_eq_false_iff_ne, Bool.not_eq_true, Bool.not_eq_false, Bool.not_eq_true', Bool.not_eq_false', ne_eq] at h2
      refine awp_exit ?_
      refine awp_seq ?_
      refine awp_rw rfl ?_
      obtain rfl : i = q.length := by omega
      rw [List.take_length]
      have hVB := runAll_vb l q
      have hL := hVB.ll
      refine RW.op rfl rfl (eff_load rfl rfl ti27 rfl (.whole rfl rfl rfl rfl rfl rfl)) ?_
      refine RW.op rfl rfl (eff_load rfl rfl ti44 rfl (.whole rfl rfl rfl rfl rfl rfl)) ?_
      refine RW.op rfl rfl (eff_callT (grant_ret (runB (made l) q) x hVB.bok hVB.nb hVB.il) co26 rfl rfl rfl rfl) ?_
      refine RW.op rfl rfl (eff_move (v := .t _) rfl rfl rfl) ?_
      refine RW.op rfl rfl (eff_extract rfl rfl rfl rfl) ?_
      refine RW.op rfl rfl (eff_extract rfl rfl rfl rfl) ?_
      refine RW.new rfl rfl (eff_allocK (k := 5) (id := 9) rfl rfl tz27 rfl rfl) ?_
      refine RW.store rfl rfl (eff_storeW (v := .t _) (els := [_]) (els' := [_]) rfl rfl ti27 rfl rfl rfl rfl rfl rfl rfl rfl rfl) ?_
      refine RW.op rfl rfl (eff_assign (v := .t _) rfl rfl rfl) ?_
      refine RW.nil ?_
      refine awp_seq ?_
      refine awp_seq ?_
      refine awp_rw rfl ?_
      refine RW.op rfl rfl (eff_move (v := .t _) rfl rfl rfl) ?_
      refine RW.op rfl rfl (eff_iop rfl rfl rfl rfl rfl) ?_
      refine RW.nil ?_
      refine awp_cond rfl (fun h3 => ?_) (fun h3 => ?_)
      · try simp only [decide_eq_true_eq, decide_eq_false_iff_not, beq_iff_eq, bne_iff_ne, bne_eq_false_iff_eq, beq_eq_false_iff_ne, Bool.not_eq_true, Bool.not_eq_false, Bool.not_eq_true', Bool.not_eq_false', ne_eq] at h3
        refine awp_seq ?_
        refine awp_rw rfl ?_
        rw [grant_err h3]
        refine RW.op rfl rfl (eff_fieldAddr rfl rfl tf27_0 (by decide) rfl rfl rfl (Nat.le_of_ble_eq_true rfl)) ?_
        refine RW.op rfl rfl (eff_load (y := .t _) rfl rfl ti22 rfl (.one rfl rfl rfl rfl)) ?_
        refine RW.op rfl rfl (eff_lenM rfl rfl te22 rfl) ?_
        refine RW.op rfl rfl (eff_iop (r := .bool true) rfl rfl rfl rfl (by exact iop_eql_t (by rfl))) ?_
        refine RW.op rfl rfl (eff_move (v := .t _) rfl rfl rfl) ?_
        refine RW.gop rfl rfl rfl rfl rfl rfl (eff_fieldAddr rfl rfl tf27_1 (by decide) rfl rfl rfl (Nat.le_of_ble_eq_true rfl)) ?_
        refine RW.gop rfl rfl rfl rfl rfl rfl (eff_load (y := .t _) rfl rfl ti23 rfl (.one rfl rfl rfl rfl)) ?_
        refine RW.gop rfl rfl rfl rfl rfl rfl (eff_lenM rfl rfl te23 rfl) ?_
        refine RW.gop rfl rfl rfl rfl rfl rfl (eff_iop (r := .bool true) rfl rfl rfl rfl (by exact iop_eql_t (by rfl))) ?_
        refine RW.op rfl rfl (eff_pick (v := .t _) rfl rfl rfl rfl) ?_
        refine RW.op rfl rfl (eff_move (v := .t _) rfl rfl rfl) ?_
        refine RW.gop rfl rfl rfl rfl rfl rfl (eff_callT (lives_ret) co11 rfl rfl rfl rfl) ?_
        refine RW.op rfl rfl (eff_pick (v := .t _) rfl rfl rfl rfl) ?_
        refine RW.op rfl rfl (eff_assign (v := .t _) rfl rfl rfl) ?_
        refine RW.nil ?_
        refine awp_ret ?_
        exact ⟨Or.inr rfl, [_], ⟨.tmp (.t _), trivial⟩, .refl _⟩
      · try simp only [decide_eq_true_eq, decide_eq_false_iff_not, beq_iff_eq, bne_iff_ne, bne_eq_false_iff_eq, beq_eq_false_iff_ne, Bool.not_eq_true, Bool.not_eq_false, Bool.not_eq_true', Bool.not_eq_false', ne_eq] at h3
        refine awp_skip ?_
        refine awp_seq ?_
        refine awp_rw rfl ?_
        have hgv := (grant_keeps hVB x).1
        have hgl := grant_len h3
        refine RW.op rfl rfl (eff_load rfl rfl ti27 rfl (.whole rfl rfl rfl rfl rfl rfl)) ?_
        refine RW.op rfl rfl (eff_fieldAddr rfl rfl tf44_0 (by decide) rfl rfl rfl (Nat.le_of_ble_eq_true rfl)) ?_
        refine RW.op rfl rfl (eff_load (y := .t _) rfl rfl ti3 rfl (.one rfl rfl rfl rfl)) ?_
        refine RW.op rfl rfl (eff_callT ((by have h := close_ret (grant (runB (made l) q) x).1 x.id hgv.bok hgv.nb hgv.ow; rw [grant_close hVB h3] at h; exact h)) co27 rfl rfl rfl rfl) ?_
        refine RW.op rfl rfl (eff_move (v := .t _) rfl rfl rfl) ?_
        refine RW.op rfl rfl (eff_extract rfl rfl rfl rfl) ?_
        refine RW.op rfl rfl (eff_extract rfl rfl rfl rfl) ?_
        refine RW.new rfl rfl (eff_allocK (k := 5) (id := 11) rfl rfl tz27 rfl rfl) ?_
        refine RW.store rfl rfl (eff_storeW (v := .t _) (els := [_]) (els' := [_]) rfl rfl ti27 rfl rfl rfl rfl rfl rfl rfl rfl rfl) ?_
        refine RW.op rfl rfl (eff_assign (v := .t _) rfl rfl rfl) ?_
        refine RW.nil ?_
        refine awp_seq ?_
        refine awp_rw rfl ?_
        refine RW.op rfl rfl (eff_move (v := .t _) rfl rfl rfl) ?_
        refine RW.op rfl rfl (eff_iop (r := .bool true) rfl rfl rfl rfl (by exact iop_eql_t (by rfl))) ?_
        refine RW.op rfl rfl (eff_move (v := .t _) rfl rfl rfl) ?_
        refine RW.gop rfl rfl rfl rfl rfl rfl (eff_load rfl rfl ti27 rfl (.whole rfl rfl rfl rfl rfl rfl)) ?_
        refine RW.gop rfl rfl rfl rfl rfl rfl (eff_load rfl rfl ti27 rfl (.whole rfl rfl rfl rfl rfl rfl)) ?_
        refine RW.gop rfl rfl rfl rfl rfl rfl (eff_callT ((by have h := same_ret (runB (made l) q) (runB (made l) q) hVB.bok; rw [decide_eq_true rfl] at h; exact h)) co24 rfl rfl rfl rfl) ?_
        refine RW.op rfl rfl (eff_pick (v := .t _) rfl rfl rfl rfl) ?_
        refine RW.op rfl rfl (eff_move (v := .t _) rfl rfl rfl) ?_
        refine RW.gop rfl rfl rfl rfl rfl rfl (eff_fieldAddr rfl rfl tf27_1 (by decide) rfl rfl rfl (Nat.le_of_ble_eq_true rfl)) ?_
        refine RW.gop rfl rfl rfl rfl rfl rfl (eff_load (y := .t _) rfl rfl ti23 rfl (.one rfl rfl rfl rfl)) ?_
        refine RW.gop rfl rfl rfl rfl rfl rfl (eff_lenM rfl rfl te23 rfl) ?_
        refine RW.gop rfl rfl rfl rfl rfl rfl (eff_fieldAddr rfl rfl tf27_1 (by decide) rfl rfl rfl (Nat.le_of_ble_eq_true rfl)) ?_
        refine RW.gop rfl rfl rfl rfl rfl rfl (eff_load (y := .t _) rfl rfl ti23 rfl (.one rfl rfl rfl rfl)) ?_
        refine RW.gop rfl rfl rfl rfl rfl rfl (eff_lenM rfl rfl te23 rfl) ?_
        refine RW.gop rfl rfl rfl rfl rfl rfl (eff_iop rfl rfl rfl rfl (iadd (by omega))) ?_
        refine RW.gop rfl rfl rfl rfl rfl rfl (eff_iop (r := .bool true) rfl rfl rfl rfl (by exact iop_eql_t (by omega))) ?_
        refine RW.op rfl rfl (eff_pick (v := .t _) rfl rfl rfl rfl) ?_
        refine RW.op rfl rfl (eff_move (v := .t _) rfl rfl rfl) ?_
        refine RW.gop rfl rfl rfl rfl rfl rfl (eff_callT (lives_ret) co11 rfl rfl rfl rfl) ?_
        refine RW.op rfl rfl (eff_pick (v := .t _) rfl rfl rfl rfl) ?_
        refine RW.op rfl rfl (eff_assign (v := .t _) rfl rfl rfl) ?_
        refine RW.nil ?_
        refine awp_ret ?_
        exact ⟨Or.inr rfl, [_], ⟨.tmp (.t _), trivial⟩, .refl _⟩

theorem parts_ret (l : List Purse) (hl : l.length ≤ 9223372036854775807) (hP : ∀ p, p ∈ l → P64 p) (q : List Opn) (hq : q.length ≤ 9223372036854775807) (hQ : ∀ o, o ∈ q → P64 o.p) (n t : Int) (p p2 : Purse) (hp : P64 p) (hp2 : P64 p2) : Ret Try.prog 8 [.sl (l.map encP) false, .sl (q.map encO) false, encI n, encI t, encP p, encP p2] (.bool true) := by
  refine ret_of_awp Try.func8 rfl (Nat.le_of_ble_eq_true rfl) ?_
  refine awp_seq ?_
  refine awp_rw rfl ?_
  refine RW.new rfl rfl (eff_boxK (v := .t _) (k := 3) (id := 10) rfl rfl rfl rfl rfl rfl) ?_
  refine RW.new rfl rfl (eff_boxK (v := .t _) (k := 3) (id := 11) rfl rfl rfl rfl rfl rfl) ?_
  refine RW.op rfl rfl (eff_assign (v := .t _) rfl rfl rfl) ?_
  refine RW.nil ?_
  refine awp_seq ?_
  refine awp_seq ?_
  refine awp_rw rfl ?_
  refine RW.op rfl rfl (eff_move (v := .t _) rfl rfl rfl) ?_
  refine RW.op rfl rfl (eff_lenM rfl rfl te39 rfl) ?_
  refine RW.op rfl rfl (eff_iop rfl rfl rfl rfl rfl) ?_
  refine RW.nil ?_
  refine awp_cond rfl (fun h1 => ?_) (fun h1 => ?_)
  · try simp only [decide_eq_true_eq, decide_eq_false_iff_not, beq_iff_eq, bne_iff_ne, bne_eq_false_iff_eq, beq_eq_false_iff_ne, Bool.not_eq_true, Bool.not_eq_false, Bool.not_eq_true', Bool.not_eq_false', ne_eq] at h1
    refine awp_seq ?_
    refine awp_rw rfl ?_
    refine RW.op rfl rfl (eff_callT (lives_ret) co11 rfl rfl rfl rfl) ?_
    refine RW.op rfl rfl (eff_assign (v := .t _) rfl rfl rfl) ?_
    refine RW.nil ?_
    refine awp_ret ?_
    exact ⟨Or.inr rfl, [_], ⟨.tmp (.t _), trivial⟩, .refl _⟩
  · try simp only [decide_eq_true_eq, decide_eq_false_iff_not, beq_iff_eq, bne_iff_ne, bne_eq_false_iff_eq, beq_eq_false_iff_ne, Bool.not_eq_true, Bool.not_eq_false, Bool.not_eq_true', Bool.not_eq_false', ne_eq] at h1
    refine awp_skip ?_
    refine awp_seq ?_
    refine awp_rw rfl ?_
    refine RW.op rfl rfl (eff_move (v := .t _) rfl rfl rfl) ?_
    refine RW.op rfl rfl (eff_callT (made_ret l hl hP) co21 rfl rfl rfl rfl) ?_
    refine RW.new rfl rfl (eff_allocK (k := 5) (id := 13) rfl rfl tz27 rfl rfl) ?_
    refine RW.store rfl rfl (eff_storeW (v := .t _) (els := [_]) (els' := [_]) rfl rfl ti27 rfl rfl rfl rfl rfl rfl rfl rfl rfl) ?_
    refine RW.nil ?_
    refine awp_seq ?_
    refine awp_seq ?_
    refine awp_rw rfl ?_
    refine RW.op rfl rfl (eff_assign (v := .t _) rfl rfl rfl) ?_
    refine RW.nil ?_
    refine awp_block ?_
    refine awp_loopW (fun m s => ∃ (i : Nat), (i ≤ q.length) ∧ m = q.length - i ∧ s = ⟨93, [(1, .t (.sl (q.map encO) false)), (2, .t (encI n)), (3, .t (encI t)), (10, .ptr 10 0 0 0), (11, .ptr 11 0 0 0), (13, .ptr 13 0 0 0), (14, .t (encI (i : Nat)))], [(10, some ⟨3, 25, 0, [.t (encP p)]⟩), (11, some ⟨3, 25, 0, [.t (encP p2)]⟩), (13, some ⟨5, 27, 0, [.t (encB (runB (made l) (q.take i)))]⟩)]⟩) (_) (⟨_, weak_keep (n := 93) (fr' := [(1, .t (.sl (q.map encO) false)), (2, .t (encI n)), (3, .t (encI t)), (10, .ptr 10 0 0 0), (11, .ptr 11 0 0 0), (13, .ptr 13 0 0 0), (14, .t (encI (0 : Nat)))]) (st' := [(10, some ⟨3, 25, 0, [.t (encP p)]⟩), (11, some ⟨3, 25, 0, [.t (encP p2)]⟩), (13, some ⟨5, 27, 0, [.t (encB (runB (made l) (q.take 0)))]⟩)]) ⟨rfl, rfl, rfl, rfl, rfl, rfl, rfl, rfl, rfl, rfl, rfl, rfl, rfl, rfl, trivial⟩ ⟨rfl, okE_one rfl, rfl, okE_one rfl, (by first | rfl | (rw [runB_step (by omega)]; rfl)), okE_one rfl, trivial⟩, 0, (by omega), rfl, rfl⟩) ?_
    rintro m s ⟨i, hi, rfl, rfl⟩
    have hV := run_vb l q i
    refine awp_seq ?_
    refine awp_seq ?_
    refine awp_rw rfl ?_
    refine RW.op rfl rfl (eff_move (v := .t _) rfl rfl rfl) ?_
    refine RW.op rfl rfl (eff_move (v := .t _) rfl rfl rfl) ?_
    refine RW.op rfl rfl (eff_lenM rfl rfl te39 rfl) ?_
    refine RW.op rfl rfl (eff_iop rfl rfl rfl rfl rfl) ?_
    refine RW.nil ?_
    refine awp_cond rfl (fun h2 => ?_) (fun h2 => ?_)
    · try simp only [decide_eq_true_eq, decide_eq_false_iff_not, beq_iff_eq, bne_iff_ne, bne_eq_false_iff_eq, beq_eq_false_iff_ne, Bool.not_eq_true, Bool.not_eq_false, Bool.not_eq_true', Bool.not_eq_false', ne_eq] at h2
      refine awp_skip ?_
      refine awp_seq ?_
      refine awp_block ?_
      refine awp_rd [(some 36, []), (some 37, []), (some 38, []), (some 39, []), (some 40, []), (some 41, []), (some 35, []), (some 42, []), (some 43, []), (none, [13])] [[], [], [], [1, 2], [1, 2, 3], [0, 1, 2, 3, 4], [0, 1, 2, 3, 4, 5], [0, 1, 2, 3, 4, 5, 6], [0, 1, 2, 3, 4, 5, 6], [0, 1, 2, 3, 4, 5, 6, 7]] tm rfl rfl rfl rfl ?_
      refine RD.op rfl rfl rfl (eff_load rfl rfl ti27 rfl (.whole rfl rfl rfl rfl rfl rfl)) ?_
      refine RD.op rfl rfl rfl (eff_move (v := .t _) rfl rfl rfl) ?_
      refine RD.op rfl rfl rfl (eff_move (v := .t _) rfl rfl rfl) ?_
      refine RD.op rfl rfl rfl (eff_indexM rfl rfl te39 rfl rfl rfl (by first | assumption | exact List.getElem?_eq_getElem (by omega)) rfl (by decide)) ?_
      refine RD.op rfl rfl rfl (eff_loadW rfl rfl ti46 rfl rfl rfl) ?_
      refine RD.op rfl rfl rfl (eff_callT (do_ret (runB (made l) (q.take i)) (q[i]'(by omega)) hV (hQ _ (List.getElem_mem _))) co22 rfl rfl rfl rfl) ?_
      refine RD.op rfl rfl rfl (eff_move (v := .t _) rfl rfl rfl) ?_
      refine RD.op rfl rfl rfl (eff_extract rfl rfl rfl rfl) ?_
      refine RD.op rfl rfl rfl (eff_extract rfl rfl rfl rfl) ?_
      refine RD.store rfl rfl rfl (eff_storeW (v := .t _) (els := [_]) (els' := [_]) rfl rfl ti27 rfl rfl rfl rfl rfl rfl rfl rfl rfl) ?_
      refine RD.nil ?_
      refine awp_rw rfl ?_
      refine RW.op rfl rfl (eff_move (v := .t _) rfl rfl rfl) ?_
      refine RW.op rfl rfl (eff_iop rfl rfl rfl rfl (iadd (by omega))) ?_
      refine RW.op rfl rfl (eff_assign (v := .t _) rfl rfl rfl) ?_
      refine RW.nil ?_
      refine ⟨_, ?_, _, weak_keep (n := 93) (fr' := [(1, .t (.sl (q.map encO) false)), (2, .t (encI n)), (3, .t (encI t)), (10, .ptr 10 0 0 0), (11, .ptr 11 0 0 0), (13, .ptr 13 0 0 0), (14, .t (encI ((i + 1) : Nat)))]) (st' := [(10, some ⟨3, 25, 0, [.t (encP p)]⟩), (11, some ⟨3, 25, 0, [.t (encP p2)]⟩), (13, some ⟨5, 27, 0, [.t (encB (runB (made l) (q.take (i + 1))))]⟩)]) ⟨rfl, rfl, rfl, rfl, rfl, rfl, rfl, rfl, rfl, rfl, rfl, rfl, rfl, rfl, trivial⟩ ⟨rfl, okE_one rfl, rfl, okE_one rfl, (by first | rfl | (rw [runB_step (by omega)]; rfl)), okE_one rfl, trivial⟩, i + 1, (by omega), rfl, rfl⟩
      omega
    · try simp only [decide_eq_true_eq, decide_eq_false_iff_not, beq_iff_eq, bne_iff_ne, bne_eq_false_iff_eq, beq_eq_false_iff_ne, Bool.not_eq_true, Bool.not_eq_false, Bool.not_eq_true', Bool.not_eq_false', ne_eq] at h2
      refine awp_exit ?_
      refine awp_seq ?_
      refine awp_rd [(some 44, []), (some 45, []), (some 46, []), (some 47, []), (some 15, [15]), (some 16, [16]), (none, [15]), (none, [16])] [[], [0], [], [0, 1, 2], [], [], [0, 1, 2, 3, 4, 5], [0, 1, 2, 3, 4, 5, 6]] tm rfl rfl rfl rfl ?_
      obtain rfl : i = q.length := by omega
      rw [List.take_length]
      have hVB := runAll_vb l q
      have hL := hVB.ll
      refine RD.op rfl rfl rfl (eff_load rfl rfl ti25 rfl (.whole rfl rfl rfl rfl rfl rfl)) ?_
      refine RD.op rfl rfl rfl (eff_callT (amount_ret p 1000000000 hp (by omega)) co16 rfl rfl rfl rfl) ?_
      refine RD.op rfl rfl rfl (eff_load rfl rfl ti25 rfl (.whole rfl rfl rfl rfl rfl rfl)) ?_
      refine RD.op rfl rfl rfl (eff_callT (amount_ret p2 1000000000 hp2 (by omega)) co16 rfl rfl rfl rfl) ?_
      refine RD.new rfl rfl rfl (eff_allocK (k := 3) (id := 15) rfl rfl tz25 rfl rfl) ?_
      refine RD.new rfl rfl rfl (eff_allocK (k := 3) (id := 16) rfl rfl tz25 rfl rfl) ?_
      refine RD.store rfl rfl rfl (eff_storeW (v := .t _) (els := [_]) (els' := [_]) rfl rfl ti25 rfl rfl rfl rfl rfl rfl rfl rfl rfl) ?_
      refine RD.store rfl rfl rfl (eff_storeW (v := .t _) (els := [_]) (els' := [_]) rfl rfl ti25 rfl rfl rfl rfl rfl rfl rfl rfl rfl) ?_
      refine RD.nil ?_
      refine awp_seq ?_
      refine awp_rd [(some 49, []), (some 50, []), (some 51, []), (some 52, []), (some 53, []), (some 54, []), (some 55, []), (some 48, []), (some 56, []), (some 57, []), (some 17, [17]), (none, [17]), (some 18, [])] [[], [], [], [], [], [3, 4], [0, 1, 2, 3, 4, 5], [0, 1, 2, 3, 4, 5, 6], [0, 1, 2, 3, 4, 5, 6, 7], [0, 1, 2, 3, 4, 5, 6, 7], [], [0, 1, 2, 3, 4, 5, 6, 7, 8, 10], [0, 1, 2, 3, 4, 5, 6, 7, 8, 9, 10, 11]] tm rfl rfl rfl rfl ?_
      refine RD.op rfl rfl rfl (eff_load rfl rfl ti27 rfl (.whole rfl rfl rfl rfl rfl rfl)) ?_
      refine RD.op rfl rfl rfl (eff_move (v := .t _) rfl rfl rfl) ?_
      refine RD.op rfl rfl rfl (eff_move (v := .t _) rfl rfl rfl) ?_
      refine RD.op rfl rfl rfl (eff_load rfl rfl ti25 rfl (.whole rfl rfl rfl rfl rfl rfl)) ?_
      refine RD.op rfl rfl rfl (eff_load rfl rfl ti25 rfl (.whole rfl rfl rfl rfl rfl rfl)) ?_
      refine RD.op rfl rfl rfl (eff_callT (plus_ret (amount p 1000000000) (amount p2 1000000000) (by have h1 := amount_near (p := p) (m := 1000000000) (by omega); have h2 := amount_near (p := p2) (m := 1000000000) (by omega); exact near_mono (h1) (by omega)) (by have h1 := amount_near (p := p) (m := 1000000000) (by omega); have h2 := amount_near (p := p2) (m := 1000000000) (by omega); exact near_mono (h2) (by omega))) co19 rfl rfl rfl rfl) ?_
      refine RD.op rfl rfl rfl (eff_callT (charge_ret (runB (made l) q) n t (plus (amount p 1000000000) (amount p2 1000000000)) hVB.bok hVB.nb (by have h1 := amount_near (p := p) (m := 1000000000) (by omega); have h2 := amount_near (p := p2) (m := 1000000000) (by omega); exact near_mono (near_plus h1 h2) (by omega))) co28 rfl rfl rfl rfl) ?_
      refine RD.op rfl rfl rfl (eff_move (v := .t _) rfl rfl rfl) ?_
      refine RD.op rfl rfl rfl (eff_extract rfl rfl rfl rfl) ?_
      refine RD.op rfl rfl rfl (eff_extract rfl rfl rfl rfl) ?_
      refine RD.new rfl rfl rfl (eff_allocK (k := 5) (id := 17) rfl rfl tz27 rfl rfl) ?_
      refine RD.store rfl rfl rfl (eff_storeW (v := .t _) (els := [_]) (els' := [_]) rfl rfl ti27 rfl rfl rfl rfl rfl rfl rfl rfl rfl) ?_
      refine RD.op rfl rfl rfl (eff_assign (v := .t _) rfl rfl rfl) ?_
      refine RD.nil ?_
      refine awp_seq ?_
      refine awp_rw rfl ?_
      refine RW.op rfl rfl (eff_load rfl rfl ti27 rfl (.whole rfl rfl rfl rfl rfl rfl)) ?_
      refine RW.op rfl rfl (eff_move (v := .t _) rfl rfl rfl) ?_
      refine RW.op rfl rfl (eff_move (v := .t _) rfl rfl rfl) ?_
      refine RW.op rfl rfl (eff_load rfl rfl ti25 rfl (.whole rfl rfl rfl rfl rfl rfl)) ?_
      refine RW.op rfl rfl (eff_callT (charge_ret (runB (made l) q) n t (amount p 1000000000) hVB.bok hVB.nb (by have h1 := amount_near (p := p) (m := 1000000000) (by omega); have h2 := amount_near (p := p2) (m := 1000000000) (by omega); exact near_mono (h1) (by omega))) co28 rfl rfl rfl rfl) ?_
      refine RW.op rfl rfl (eff_move (v := .t _) rfl rfl rfl) ?_
      refine RW.op rfl rfl (eff_extract rfl rfl rfl rfl) ?_
      refine RW.op rfl rfl (eff_extract rfl rfl rfl rfl) ?_
      refine RW.new rfl rfl (eff_allocK (k := 5) (id := 19) rfl rfl tz27 rfl rfl) ?_
      refine RW.store rfl rfl (eff_storeW (v := .t _) (els := [_]) (els' := [_]) rfl rfl ti27 rfl rfl rfl rfl rfl rfl rfl rfl rfl) ?_
      refine RW.op rfl rfl (eff_assign (v := .t _) rfl rfl rfl) ?_
      refine RW.nil ?_
      refine awp_seq ?_
      refine awp_seq ?_
      refine awp_rw rfl ?_
      refine RW.op rfl rfl (eff_move (v := .t _) rfl rfl rfl) ?_
      refine RW.op rfl rfl (eff_iop rfl rfl rfl rfl rfl) ?_
      refine RW.nil ?_
      refine awp_cond rfl (fun h3 => ?_) (fun h3 => ?_)
      · try simp only [decide_eq_true_eq, decide_eq_false_iff_not, beq_iff_eq, bne_iff_ne, bne_eq_false_iff_eq, beq_eq_false_iff_ne, Bool.not_eq_true, Bool.not_eq_false, Bool.not_eq_true', Bool.not_eq_false', ne_eq] at h3
        refine awp_seq ?_
        refine awp_rw rfl ?_
        refine RW.op rfl rfl (eff_move (v := .t _) rfl rfl rfl) ?_
        refine RW.op rfl rfl (eff_move (v := .t _) rfl rfl rfl) ?_
        refine RW.op rfl rfl (eff_iop (r := .bool true) rfl rfl rfl rfl (by exact iop_eql_t (by exact parts1 (amount_near (by omega)) h3))) ?_
        refine RW.op rfl rfl (eff_move (v := .t _) rfl rfl rfl) ?_
        refine RW.gop rfl rfl rfl rfl rfl rfl (eff_callT (lives_ret) co11 rfl rfl rfl rfl) ?_
        refine RW.op rfl rfl (eff_pick (v := .t _) rfl rfl rfl rfl) ?_
        refine RW.op rfl rfl (eff_assign (v := .t _) rfl rfl rfl) ?_
        refine RW.nil ?_
        refine awp_ret ?_
        exact ⟨Or.inr rfl, [_], ⟨.tmp (.t _), trivial⟩, .refl _⟩
      · try simp only [decide_eq_true_eq, decide_eq_false_iff_not, beq_iff_eq, bne_iff_ne, bne_eq_false_iff_eq, beq_eq_false_iff_ne, Bool.not_eq_true, Bool.not_eq_false, Bool.not_eq_true', Bool.not_eq_false', ne_eq] at h3
        refine awp_skip ?_
        refine awp_seq ?_
        refine awp_rw rfl ?_
        have hD := (charge_keeps hVB n t (cost := (amount p 1000000000)) (by have h1 := amount_near (p := p) (m := 1000000000) (by omega); have h2 := amount_near (p := p2) (m := 1000000000) (by omega); exact near_mono (h1) (by omega))).1
        have hE := (charge_keeps hVB n t (cost := plus (amount p 1000000000) (amount p2 1000000000)) (by have h1 := amount_near (p := p) (m := 1000000000) (by omega); have h2 := amount_near (p := p2) (m := 1000000000) (by omega); exact near_mono (near_plus h1 h2) (by omega))).1
        refine RW.op rfl rfl (eff_load rfl rfl ti27 rfl (.whole rfl rfl rfl rfl rfl rfl)) ?_
        refine RW.op rfl rfl (eff_move (v := .t _) rfl rfl rfl) ?_
        refine RW.op rfl rfl (eff_move (v := .t _) rfl rfl rfl) ?_
        refine RW.op rfl rfl (eff_load rfl rfl ti25 rfl (.whole rfl rfl rfl rfl rfl rfl)) ?_
        refine RW.op rfl rfl (eff_callT ((by have h := charge_ret (charge (runB (made l) q) n t (amount p 1000000000)).1 n t (amount p2 1000000000) hD.bok hD.nb (by have h1 := amount_near (p := p) (m := 1000000000) (by omega); have h2 := amount_near (p := p2) (m := 1000000000) (by omega); exact near_mono (h2) (by omega)); rw [parts2 h3] at h; exact h)) co28 rfl rfl rfl rfl) ?_
        refine RW.op rfl rfl (eff_move (v := .t _) rfl rfl rfl) ?_
        refine RW.op rfl rfl (eff_extract rfl rfl rfl rfl) ?_
        refine RW.op rfl rfl (eff_extract rfl rfl rfl rfl) ?_
        refine RW.new rfl rfl (eff_allocK (k := 5) (id := 21) rfl rfl tz27 rfl rfl) ?_
        refine RW.store rfl rfl (eff_storeW (v := .t _) (els := [_]) (els' := [_]) rfl rfl ti27 rfl rfl rfl rfl rfl rfl rfl rfl rfl) ?_
        refine RW.op rfl rfl (eff_assign (v := .t _) rfl rfl rfl) ?_
        refine RW.nil ?_
        refine awp_seq ?_
        refine awp_rw rfl ?_
        refine RW.op rfl rfl (eff_move (v := .t _) rfl rfl rfl) ?_
        refine RW.op rfl rfl (eff_move (v := .t _) rfl rfl rfl) ?_
        refine RW.op rfl rfl (eff_iop (r := .bool true) rfl rfl rfl rfl (by exact iop_eql_t (by rfl))) ?_
        refine RW.op rfl rfl (eff_move (v := .t _) rfl rfl rfl) ?_
        refine RW.gop rfl rfl rfl rfl rfl rfl (eff_load rfl rfl ti27 rfl (.whole rfl rfl rfl rfl rfl rfl)) ?_
        refine RW.gop rfl rfl rfl rfl rfl rfl (eff_load rfl rfl ti27 rfl (.whole rfl rfl rfl rfl rfl rfl)) ?_
        refine RW.gop rfl rfl rfl rfl rfl rfl (eff_callT ((by have h := same_ret (charge (runB (made l) q) n t (plus (amount p 1000000000) (amount p2 1000000000))).1 (charge (runB (made l) q) n t (plus (amount p 1000000000) (amount p2 1000000000))).1 hE.bok; rw [decide_eq_true rfl] at h; exact h)) co24 rfl rfl rfl rfl) ?_
        refine RW.op rfl rfl (eff_pick (v := .t _) rfl rfl rfl rfl) ?_
        refine RW.op rfl rfl (eff_move (v := .t _) rfl rfl rfl) ?_
        refine RW.gop rfl rfl rfl rfl rfl rfl (eff_callT (lives_ret) co11 rfl rfl rfl rfl) ?_
        refine RW.op rfl rfl (eff_pick (v := .t _) rfl rfl rfl rfl) ?_
        refine RW.op rfl rfl (eff_assign (v := .t _) rfl rfl rfl) ?_
        refine RW.nil ?_
        refine awp_ret ?_
        exact ⟨Or.inr rfl, [_], ⟨.tmp (.t _), trivial⟩, .refl _⟩

end Go.Tv.C24

end
section
open Go Go.Tv Go.Proofs
namespace Go.Tv.C24
set_option maxRecDepth 20000
set_option maxHeartbeats 2000000
set_option linter.unusedSimpArgs false
set_option linter.unusedVariables false
theorem left_le {b : Bank} (t : Int) (k : Nat) (h : b.ls.length ≤ 32) : (left b t k).length ≤ 32 := by
  unfold left
  have h1 := List.length_filter_le (fun l : Lea => decide (t < l.un)) (b.ls.drop k)
  rw [List.length_drop] at h1
  omega
theorem left_zero {b : Bank} (h : VB b) (t : Int) : left b t 0 = (expire b t).ls := by rw [expire_spec h]; rfl
theorem left_all (b : Bank) (t : Int) : left b t b.ls.length = [] := by unfold left; rw [List.drop_length]; rfl

theorem expires_ret (l : List Purse) (hl : l.length ≤ 9223372036854775807) (hP : ∀ p, p ∈ l → P64 p) (q : List Opn) (hq : q.length ≤ 9223372036854775807) (hQ : ∀ o, o ∈ q → P64 o.p) (u v : Int) : Ret Try.prog 9 [.sl (l.map encP) false, .sl (q.map encO) false, encI u, encI v] (.bool true) := by
  refine ret_of_awp Try.func9 rfl (Nat.le_of_ble_eq_true rfl) ?_
  refine awp_seq ?_
  refine awp_rw rfl ?_
  refine RW.op rfl rfl (eff_assign (v := .t _) rfl rfl rfl) ?_
  refine RW.nil ?_
  refine awp_seq ?_
  refine awp_seq ?_
  refine awp_rw rfl ?_
  refine RW.op rfl rfl (eff_move (v := .t _) rfl rfl rfl) ?_
  refine RW.op rfl rfl (eff_lenM rfl rfl te39 rfl) ?_
  refine RW.op rfl rfl (eff_iop rfl rfl rfl rfl rfl) ?_
  refine RW.nil ?_
  refine awp_cond rfl (fun h1 => ?_) (fun h1 => ?_)
  · try simp only [decide_eq_true_eq, decide_eq_false_iff_not, beq_iff_eq, bne_iff_ne, bne_eq_false_iff_eq, beq_eq_false_iff_ne, Bool.not_eq_true, Bool.not_eq_false, Bool.not_eq_true', Bool.not_eq_false', ne_eq] at h1
    refine awp_seq ?_
    refine awp_rw rfl ?_
    refine RW.op rfl rfl (eff_callT (lives_ret) co11 rfl rfl rfl rfl) ?_
    refine RW.op rfl rfl (eff_assign (v := .t _) rfl rfl rfl) ?_
    refine RW.nil ?_
    refine awp_ret ?_
    exact ⟨Or.inr rfl, [_], ⟨.tmp (.t _), trivial⟩, .refl _⟩
  · try simp only [decide_eq_true_eq, decide_eq_false_iff_not, beq_iff_eq, bne_iff_ne, bne_eq_false_iff_eq, beq_eq_false_iff_ne, Bool.not_eq_true, Bool.not_eq_false, Bool.not_eq_true', Bool.not_eq_false', ne_eq] at h1
    refine awp_skip ?_
    refine awp_seq ?_
    refine awp_rw rfl ?_
    refine RW.op rfl rfl (eff_move (v := .t _) rfl rfl rfl) ?_
    refine RW.op rfl rfl (eff_callT (made_ret l hl hP) co21 rfl rfl rfl rfl) ?_
    refine RW.new rfl rfl (eff_allocK (k := 5) (id := 9) rfl rfl tz27 rfl rfl) ?_
    refine RW.store rfl rfl (eff_storeW (v := .t _) (els := [_]) (els' := [_]) rfl rfl ti27 rfl rfl rfl rfl rfl rfl rfl rfl rfl) ?_
    refine RW.nil ?_
    refine awp_seq ?_
    refine awp_seq ?_
    refine awp_rw rfl ?_
    refine RW.op rfl rfl (eff_assign (v := .t _) rfl rfl rfl) ?_
    refine RW.nil ?_
    refine awp_block ?_
    refine awp_loopW (fun m s => ∃ (i : Nat), (i ≤ q.length) ∧ m = q.length - i ∧ s = ⟨124, [(1, .t (.sl (q.map encO) false)), (2, .t (encI u)), (3, .t (encI v)), (9, .ptr 9 0 0 0), (10, .t (encI (i : Nat)))], [(9, some ⟨5, 27, 0, [.t (encB (runB (made l) (q.take i)))]⟩)]⟩) (_) (⟨_, weak_keep (n := 124) (fr' := [(1, .t (.sl (q.map encO) false)), (2, .t (encI u)), (3, .t (encI v)), (9, .ptr 9 0 0 0), (10, .t (encI (0 : Nat)))]) (st' := [(9, some ⟨5, 27, 0, [.t (encB (runB (made l) (q.take 0)))]⟩)]) ⟨rfl, rfl, rfl, rfl, rfl, rfl, rfl, rfl, rfl, rfl, trivial⟩ ⟨(by first | rfl | (rw [runB_step (by omega)]; rfl)), okE_one rfl, trivial⟩, 0, (by omega), rfl, rfl⟩) ?_
    rintro m s ⟨i, hi, rfl, rfl⟩
    have hV := run_vb l q i
    refine awp_seq ?_
    refine awp_seq ?_
    refine awp_rw rfl ?_
    refine RW.op rfl rfl (eff_move (v := .t _) rfl rfl rfl) ?_
    refine RW.op rfl rfl (eff_move (v := .t _) rfl rfl rfl) ?_
    refine RW.op rfl rfl (eff_lenM rfl rfl te39 rfl) ?_
    refine RW.op rfl rfl (eff_iop rfl rfl rfl rfl rfl) ?_
    refine RW.nil ?_
    refine awp_cond rfl (fun h2 => ?_) (fun h2 => ?_)
    · try simp only [decide_eq_true_eq, decide_eq_false_iff_not, beq_iff_eq, bne_iff_ne, bne_eq_false_iff_eq, beq_eq_false_iff_ne, Bool.not_eq_true, Bool.not_eq_false, Bool.not_eq_true', Bool.not_eq_false', ne_eq] at h2
      refine awp_skip ?_
      refine awp_seq ?_
      refine awp_block ?_
      refine awp_rd [(some 32, []), (some 33, []), (some 34, []), (some 35, []), (some 36, []), (some 37, []), (some 31, []), (some 38, []), (some 39, []), (none, [9])] [[], [], [], [1, 2], [1, 2, 3], [0, 1, 2, 3, 4], [0, 1, 2, 3, 4, 5], [0, 1, 2, 3, 4, 5, 6], [0, 1, 2, 3, 4, 5, 6], [0, 1, 2, 3, 4, 5, 6, 7]] tm rfl rfl rfl rfl ?_
      refine RD.op rfl rfl rfl (eff_load rfl rfl ti27 rfl (.whole rfl rfl rfl rfl rfl rfl)) ?_
      refine RD.op rfl rfl rfl (eff_move (v := .t _) rfl rfl rfl) ?_
      refine RD.op rfl rfl rfl (eff_move (v := .t _) rfl rfl rfl) ?_
      refine RD.op rfl rfl rfl (eff_indexM rfl rfl te39 rfl rfl rfl (by first | assumption | exact List.getElem?_eq_getElem (by omega)) rfl (by decide)) ?_
      refine RD.op rfl rfl rfl (eff_loadW rfl rfl ti46 rfl rfl rfl) ?_
      refine RD.op rfl rfl rfl (eff_callT (do_ret (runB (made l) (q.take i)) (q[i]'(by omega)) hV (hQ _ (List.getElem_mem _))) co22 rfl rfl rfl rfl) ?_
      refine RD.op rfl rfl rfl (eff_move (v := .t _) rfl rfl rfl) ?_
      refine RD.op rfl rfl rfl (eff_extract rfl rfl rfl rfl) ?_
      refine RD.op rfl rfl rfl (eff_extract rfl rfl rfl rfl) ?_
      refine RD.store rfl rfl rfl (eff_storeW (v := .t _) (els := [_]) (els' := [_]) rfl rfl ti27 rfl rfl rfl rfl rfl rfl rfl rfl rfl) ?_
      refine RD.nil ?_
      refine awp_rw rfl ?_
      refine RW.op rfl rfl (eff_move (v := .t _) rfl rfl rfl) ?_
      refine RW.op rfl rfl (eff_iop rfl rfl rfl rfl (iadd (by omega))) ?_
      refine RW.op rfl rfl (eff_assign (v := .t _) rfl rfl rfl) ?_
      refine RW.nil ?_
      refine ⟨_, ?_, _, weak_keep (n := 124) (fr' := [(1, .t (.sl (q.map encO) false)), (2, .t (encI u)), (3, .t (encI v)), (9, .ptr 9 0 0 0), (10, .t (encI ((i + 1) : Nat)))]) (st' := [(9, some ⟨5, 27, 0, [.t (encB (runB (made l) (q.take (i + 1))))]⟩)]) ⟨rfl, rfl, rfl, rfl, rfl, rfl, rfl, rfl, rfl, rfl, trivial⟩ ⟨(by first | rfl | (rw [runB_step (by omega)]; rfl)), okE_one rfl, trivial⟩, i + 1, (by omega), rfl, rfl⟩
      omega
    · try simp only [decide_eq_true_eq, decide_eq_false_iff_not, beq_iff_eq, bne_iff_ne, bne_eq_false_iff_eq, beq_eq_false_iff_ne, Bool.not_eq_true, Bool.not_eq_false, Bool.not_eq_true', Bool.not_eq_false', ne_eq] at h2
      refine awp_exit ?_
      refine awp_seq ?_
      refine awp_rw rfl ?_
      obtain rfl : i = q.length := by omega
      rw [List.take_length]
      have hVB := runAll_vb l q
      have hL := hVB.ll
      refine RW.op rfl rfl (eff_load rfl rfl ti27 rfl (.whole rfl rfl rfl rfl rfl rfl)) ?_
      refine RW.op rfl rfl (eff_move (v := .t _) rfl rfl rfl) ?_
      refine RW.op rfl rfl (eff_move (v := .t _) rfl rfl rfl) ?_
      refine RW.op rfl rfl (eff_max rfl rfl rfl rfl) ?_
      refine RW.op rfl rfl (eff_callT (expire_ret (runB (made l) q) (imax u v) hVB) co29 rfl rfl rfl rfl) ?_
      refine RW.new rfl rfl (eff_allocK (k := 5) (id := 11) rfl rfl tz27 rfl rfl) ?_
      refine RW.store rfl rfl (eff_storeW (v := .t _) (els := [_]) (els' := [_]) rfl rfl ti27 rfl rfl rfl rfl rfl rfl rfl rfl rfl) ?_
      refine RW.nil ?_
      refine awp_seq ?_
      refine awp_rw rfl ?_
      refine RW.op rfl rfl (eff_load rfl rfl ti27 rfl (.whole rfl rfl rfl rfl rfl rfl)) ?_
      refine RW.op rfl rfl (eff_move (v := .t _) rfl rfl rfl) ?_
      refine RW.op rfl rfl (eff_callT (expire_ret (runB (made l) q) u hVB) co29 rfl rfl rfl rfl) ?_
      refine RW.op rfl rfl (eff_move (v := .t _) rfl rfl rfl) ?_
      refine RW.op rfl rfl (eff_callT ((by have h := expire_ret (expire (runB (made l) q) u) v (expire_keeps hVB u).1; rw [expire_two hVB] at h; exact h)) co29 rfl rfl rfl rfl) ?_
      refine RW.new rfl rfl (eff_allocK (k := 5) (id := 12) rfl rfl tz27 rfl rfl) ?_
      refine RW.store rfl rfl (eff_storeW (v := .t _) (els := [_]) (els' := [_]) rfl rfl ti27 rfl rfl rfl rfl rfl rfl rfl rfl rfl) ?_
      refine RW.nil ?_
      refine awp_seq ?_
      refine awp_rw rfl ?_
      refine RW.op rfl rfl (eff_assign (v := .t _) rfl rfl rfl) ?_
      refine RW.nil ?_
      refine awp_seq ?_
      refine awp_rw rfl ?_
      refine RW.op rfl rfl (eff_load rfl rfl ti27 rfl (.whole rfl rfl rfl rfl rfl rfl)) ?_
      refine RW.new rfl rfl (eff_allocK (k := 5) (id := 14) rfl rfl tz27 rfl rfl) ?_
      refine RW.store rfl rfl (eff_storeW (v := .t _) (els := [_]) (els' := [_]) rfl rfl ti27 rfl rfl rfl rfl rfl rfl rfl rfl rfl) ?_
      refine RW.nil ?_
      refine awp_seq ?_
      refine awp_seq ?_
      refine awp_rw rfl ?_
      refine RW.op rfl rfl (eff_fieldAddr rfl rfl tf27_1 (by decide) rfl rfl rfl (Nat.le_of_ble_eq_true rfl)) ?_
      refine RW.op rfl rfl (eff_load (y := .t _) rfl rfl ti23 rfl (.one rfl rfl rfl rfl)) ?_
      refine RW.op rfl rfl (eff_lenM rfl rfl te23 rfl) ?_
      refine RW.op rfl rfl (eff_iop rfl rfl rfl rfl (isub (by omega))) ?_
      refine RW.op rfl rfl (eff_assign (v := .t _) rfl rfl rfl) ?_
      refine RW.nil ?_
      refine awp_block ?_
      refine awp_loopW (fun m s => ∃ (k : Nat) (fl : Bool), (k ≤ (runB (made l) q).ls.length) ∧ (VB (HB (runB (made l) q) (imax u v) k)) ∧ m = k + 1 ∧ s = ⟨124, [(2, .t (encI u)), (3, .t (encI v)), (9, .ptr 9 0 0 0), (11, .ptr 11 0 0 0), (12, .ptr 12 0 0 0), (13, .t (.sl ((left (runB (made l) q) (imax u v) k).map encL) fl)), (14, .ptr 14 0 0 0), (15, .t (encI (((k : Nat) : Int) - 1)))], [(9, some ⟨5, 27, 0, [.t (encB (runB (made l) q))]⟩), (11, some ⟨5, 27, 0, [.t (encB (expire (runB (made l) q) (imax u v)))]⟩), (12, some ⟨5, 27, 0, [.t (encB (expire (runB (made l) q) (imax u v)))]⟩), (14, some ⟨5, 27, 0, [.t (encB (HB (runB (made l) q) (imax u v) k))]⟩)]⟩) (_) (⟨_, weak_frz (n := 124) (fr' := [(2, .t (encI u)), (3, .t (encI v)), (9, .ptr 9 0 0 0), (11, .ptr 11 0 0 0), (12, .ptr 12 0 0 0), (13, .t (.sl ((left (runB (made l) q) (imax u v) ((runB (made l) q).ls.length)).map encL) true)), (14, .ptr 14 0 0 0), (15, .t (encI (((((runB (made l) q).ls.length) : Nat) : Int) - 1)))]) (st' := [(9, some ⟨5, 27, 0, [.t (encB (runB (made l) q))]⟩), (11, some ⟨5, 27, 0, [.t (encB (expire (runB (made l) q) (imax u v)))]⟩), (12, some ⟨5, 27, 0, [.t (encB (expire (runB (made l) q) (imax u v)))]⟩), (14, some ⟨5, 27, 0, [.t (encB (HB (runB (made l) q) (imax u v) ((runB (made l) q).ls.length)))]⟩)]) [] trivial ⟨rfl, rfl, rfl, rfl, trivial⟩ ⟨wa_eq rfl rfl, wa_eq rfl rfl, wa_eq rfl rfl, wa_eq rfl rfl, wa_eq rfl rfl, wa_eq (by rw [left_all]; rfl) rfl, wa_eq rfl rfl, wa_eq rfl rfl, trivial⟩ ⟨rfl, okE_one rfl, rfl, okE_one rfl, rfl, okE_one rfl, (by first | rfl | (rw [HB_start]; rfl)), okE_one rfl, trivial⟩, (runB (made l) q).ls.length, true, (by omega), (by have h0 := HB_vb hVB (imax u v) 0 (Nat.zero_le _); rw [Nat.sub_zero] at h0; exact h0), rfl, rfl⟩) ?_
      rintro m s ⟨k, fl, hk, hT, rfl, rfl⟩
      refine awp_seq ?_
      refine awp_seq ?_
      refine awp_rw rfl ?_
      refine RW.op rfl rfl (eff_move (v := .t _) rfl rfl rfl) ?_
      refine RW.op rfl rfl (eff_iop rfl rfl rfl rfl rfl) ?_
      refine RW.nil ?_
      refine awp_cond rfl (fun h3 => ?_) (fun h3 => ?_)
      · try simp only [decide_eq_true_eq, decide_eq_false_iff_not, beq_iff_eq, bne_iff_ne, bne_eq_false_iff_eq, beq_eq_false_iff_ne, Bool.not_eq_true, Bool.not_eq_false, Bool.not_eq_true', Bool.not_eq_false', ne_eq] at h3
        refine awp_skip ?_
        refine awp_seq ?_
        refine awp_block ?_
        refine awp_seq ?_
        refine awp_rw rfl ?_
        refine RW.op rfl rfl (eff_fieldAddr rfl rfl tf27_1 (by decide) rfl rfl rfl (Nat.le_of_ble_eq_true rfl)) ?_
        refine RW.op rfl rfl (eff_load (y := .t _) rfl rfl ti23 rfl (.one rfl rfl rfl rfl)) ?_
        refine RW.op rfl rfl (eff_move (v := .t _) rfl rfl rfl) ?_
        refine RW.op rfl rfl (eff_indexM (i := k - 1) rfl rfl te23 rfl rfl (by first | rfl | omega) (by exact List.getElem?_eq_getElem (by omega)) rfl (by decide)) ?_
        refine RW.op rfl rfl (eff_fieldAddrT rfl rfl tf44_4 (by decide) rfl) ?_
        refine RW.op rfl rfl (eff_loadT1 rfl rfl ti3 rfl rfl) ?_
        refine RW.op rfl rfl (eff_move (v := .t _) rfl rfl rfl) ?_
        refine RW.op rfl rfl (eff_move (v := .t _) rfl rfl rfl) ?_
        refine RW.op rfl rfl (eff_max rfl rfl rfl rfl) ?_
        refine RW.op rfl rfl (eff_iop rfl rfl rfl rfl rfl) ?_
        refine RW.nil ?_
        refine awp_cond rfl (fun h4 => ?_) (fun h4 => ?_)
        · try simp only [decide_eq_true_eq, decide_eq_false_iff_not, beq_iff_eq, bne_iff_ne, bne_eq_false_iff_eq, beq_eq_false_iff_ne, Bool.not_eq_true, Bool.not_eq_false, Bool.not_eq_true', Bool.not_eq_false', ne_eq] at h4
          refine awp_seq ?_
          refine awp_rd [(some 70, []), (some 71, []), (some 72, []), (some 73, []), (some 74, []), (some 75, []), (some 76, []), (some 77, []), (some 69, []), (some 78, []), (some 79, []), (some 16, [16]), (none, [16]), (some 17, [])] [[], [], [1], [], [1, 2, 3], [1, 2, 3, 4], [1, 2, 3, 4, 5], [0, 1, 2, 3, 4, 5, 6], [0, 1, 2, 3, 4, 5, 6, 7], [0, 1, 2, 3, 4, 5, 6, 7, 8], [0, 1, 2, 3, 4, 5, 6, 7, 8], [], [0, 1, 2, 3, 4, 5, 6, 7, 8, 9, 11], [0, 1, 2, 3, 4, 5, 6, 7, 8, 9, 10, 11, 12]] tm rfl rfl rfl rfl ?_
          refine RD.op rfl rfl rfl (eff_load rfl rfl ti27 rfl (.whole rfl rfl rfl rfl rfl rfl)) ?_
          refine RD.op rfl rfl rfl (eff_fieldAddr rfl rfl tf27_1 (by decide) rfl rfl rfl (Nat.le_of_ble_eq_true rfl)) ?_
          refine RD.op rfl rfl rfl (eff_load (y := .t _) rfl rfl ti23 rfl (.one rfl rfl rfl rfl)) ?_
          refine RD.op rfl rfl rfl (eff_move (v := .t _) rfl rfl rfl) ?_
          refine RD.op rfl rfl rfl (eff_indexM (i := k - 1) rfl rfl te23 rfl rfl (by first | rfl | omega) (by exact List.getElem?_eq_getElem (by omega)) rfl (by decide)) ?_
          refine RD.op rfl rfl rfl (eff_fieldAddrT rfl rfl tf44_0 (by decide) rfl) ?_
          refine RD.op rfl rfl rfl (eff_loadT1 rfl rfl ti3 rfl rfl) ?_
          refine RD.op rfl rfl rfl (eff_callT ((by have h := close_ret (HB (runB (made l) q) (imax u v) k) ((runB (made l) q).ls[k - 1]'(by omega)).id hT.bok hT.nb hT.ow; rw [HB_close (by omega) (by omega) hT h4] at h; exact h)) co27 rfl rfl rfl rfl) ?_
          refine RD.op rfl rfl rfl (eff_move (v := .t _) rfl rfl rfl) ?_
          refine RD.op rfl rfl rfl (eff_extract rfl rfl rfl rfl) ?_
          refine RD.op rfl rfl rfl (eff_extract rfl rfl rfl rfl) ?_
          refine RD.new rfl rfl rfl (eff_allocK (k := 5) (id := 16) rfl rfl tz27 rfl rfl) ?_
          refine RD.store rfl rfl rfl (eff_storeW (v := .t _) (els := [_]) (els' := [_]) rfl rfl ti27 rfl rfl rfl rfl rfl rfl rfl rfl rfl) ?_
          refine RD.op rfl rfl rfl (eff_assign (v := .t _) rfl rfl rfl) ?_
          refine RD.nil ?_
          refine awp_seq ?_
          refine awp_seq ?_
          refine awp_rw rfl ?_
          refine RW.op rfl rfl (eff_move (v := .t _) rfl rfl rfl) ?_
          refine RW.op rfl rfl (eff_iop (r := .bool false) rfl rfl rfl rfl (by exact iop_neq_f (by rfl))) ?_
          refine RW.nil ?_
          refine awp_cond rfl (fun h => nomatch h) (fun _ => ?_)
          refine awp_skip ?_
          refine awp_rw rfl ?_
          refine RW.op rfl rfl (eff_load rfl rfl ti27 rfl (.whole rfl rfl rfl rfl rfl rfl)) ?_
          refine RW.store rfl rfl (eff_storeW (v := .t _) (els := [_]) (els' := [_]) rfl rfl ti27 rfl rfl rfl rfl rfl rfl rfl rfl rfl) ?_
          refine RW.nil ?_
          refine awp_rw rfl ?_
          refine RW.op rfl rfl (eff_move (v := .t _) rfl rfl rfl) ?_
          refine RW.op rfl rfl (eff_iop (r := encI (((k - 1 : Nat) : Int) - 1)) rfl rfl rfl rfl (isubE (by omega) (by omega))) ?_
          refine RW.op rfl rfl (eff_assign (v := .t _) rfl rfl rfl) ?_
          refine RW.nil ?_
          first
            | (have hTn : VB (HB (runB (made l) q) (imax u v) (k - 1)) := by have h2 := (close_keeps hT ((runB (made l) q).ls[k - 1]'(by omega)).id).1; rw [HB_close (by omega) (by omega) hT h4] at h2; exact h2
               exact ⟨_, (by omega : k - 1 + 1 < k + 1), _, weak_frz (n := 124) (fr' := [(2, .t (encI u)), (3, .t (encI v)), (9, .ptr 9 0 0 0), (11, .ptr 11 0 0 0), (12, .ptr 12 0 0 0), (13, .t (.sl ((left (runB (made l) q) (imax u v) (k - 1)).map encL) fl)), (14, .ptr 14 0 0 0), (15, .t (encI ((((k - 1) : Nat) : Int) - 1)))]) (st' := [(9, some ⟨5, 27, 0, [.t (encB (runB (made l) q))]⟩), (11, some ⟨5, 27, 0, [.t (encB (expire (runB (made l) q) (imax u v)))]⟩), (12, some ⟨5, 27, 0, [.t (encB (expire (runB (made l) q) (imax u v)))]⟩), (14, some ⟨5, 27, 0, [.t (encB (HB (runB (made l) q) (imax u v) (k - 1)))]⟩)]) [] trivial ⟨rfl, rfl, rfl, rfl, trivial⟩ ⟨wa_eq rfl rfl, wa_eq rfl rfl, wa_eq rfl rfl, wa_eq rfl rfl, wa_eq rfl rfl, wa_eq (by rw [left_keep (by omega) (by omega) h4]; rfl) rfl, wa_eq rfl rfl, wa_eq rfl rfl, trivial⟩ ⟨rfl, okE_one rfl, rfl, okE_one rfl, rfl, okE_one rfl, rfl, okE_one rfl, trivial⟩, k - 1, fl, by omega, hTn, rfl, rfl⟩)
            | (have hTn : VB (HB (runB (made l) q) (imax u v) (k - 1)) := by rw [(HB_keep (by omega) (by omega) h4).1]; exact hT
               exact ⟨_, (by omega : k - 1 + 1 < k + 1), _, weak_frz (n := 124) (fr' := [(2, .t (encI u)), (3, .t (encI v)), (9, .ptr 9 0 0 0), (11, .ptr 11 0 0 0), (12, .ptr 12 0 0 0), (13, .t (.sl ((left (runB (made l) q) (imax u v) (k - 1)).map encL) false)), (14, .ptr 14 0 0 0), (15, .t (encI ((((k - 1) : Nat) : Int) - 1)))]) (st' := [(9, some ⟨5, 27, 0, [.t (encB (runB (made l) q))]⟩), (11, some ⟨5, 27, 0, [.t (encB (expire (runB (made l) q) (imax u v)))]⟩), (12, some ⟨5, 27, 0, [.t (encB (expire (runB (made l) q) (imax u v)))]⟩), (14, some ⟨5, 27, 0, [.t (encB (HB (runB (made l) q) (imax u v) (k - 1)))]⟩)]) [] trivial ⟨rfl, rfl, rfl, rfl, trivial⟩ ⟨wa_eq rfl rfl, wa_eq rfl rfl, wa_eq rfl rfl, wa_eq rfl rfl, wa_eq rfl rfl, wa_eq rfl rfl, wa_eq rfl rfl, wa_eq rfl rfl, trivial⟩ ⟨rfl, okE_one rfl, rfl, okE_one rfl, rfl, okE_one rfl, (by rw [(HB_keep (by omega) (by omega) h4).1]; rfl), okE_one rfl, trivial⟩, k - 1, false, by omega, hTn, rfl, rfl⟩)
        · try simp only [decide_eq_true_eq, decide_eq_false_iff_not, beq_iff_eq, bne_iff_ne, bne_eq_false_iff_eq, beq_eq_false_iff_ne, Bool.not_eq_true, Bool.not_eq_false, Bool.not_eq_true', Bool.not_eq_false', ne_eq] at h4
          refine awp_rw rfl ?_
          have hll := left_le (b := (runB (made l) q)) (imax u v) k hL
          refine RW.op rfl rfl (eff_fieldAddr rfl rfl tf27_1 (by decide) rfl rfl rfl (Nat.le_of_ble_eq_true rfl)) ?_
          refine RW.op rfl rfl (eff_load (y := .t _) rfl rfl ti23 rfl (.one rfl rfl rfl rfl)) ?_
          refine RW.op rfl rfl (eff_move (v := .t _) rfl rfl rfl) ?_
          refine RW.op rfl rfl (eff_indexM (i := k - 1) rfl rfl te23 rfl rfl (by first | rfl | omega) (by exact List.getElem?_eq_getElem (by omega)) rfl (by decide)) ?_
          refine RW.op rfl rfl (eff_loadW rfl rfl ti44 rfl rfl rfl) ?_
          refine RW.new rfl rfl (eff_buildSliceL (id := 88) (els := [.t (.agg [_, _, _, _, _, _, _, _])]) rfl rfl te23 tz44 rfl (by decide) (by decide) rfl rfl rfl rfl) ?_
          refine RW.op rfl rfl (eff_move (v := .t _) rfl rfl rfl) ?_
          refine RW.new rfl rfl (eff_appendAny (id := 88) rfl rfl ta23 rfl rfl rfl rfl rfl rfl (srcM rfl (fun _ => rfl)) (by simp; omega) (by simp; omega)) ?_
          refine RW.op rfl rfl (eff_assign (v := .own _ _ _ _) rfl rfl rfl) ?_
          refine RW.nil ?_
          show AWP _ _ _ _
          refine awp_weak (weak_frz (n := 124) (fr' := [(2, .t (encI u)), (3, .t (encI v)), (9, .ptr 9 0 0 0), (11, .ptr 11 0 0 0), (12, .ptr 12 0 0 0), (13, .t (.sl ((left (runB (made l) q) (imax u v) (k - 1)).map encL) false)), (14, .ptr 14 0 0 0), (15, .t (encI ((k : Int) - 1)))]) (st' := [(9, some ⟨5, 27, 0, [.t (encB (runB (made l) q))]⟩), (11, some ⟨5, 27, 0, [.t (encB (expire (runB (made l) q) (imax u v)))]⟩), (12, some ⟨5, 27, 0, [.t (encB (expire (runB (made l) q) (imax u v)))]⟩), (14, some ⟨5, 27, 0, [.t (encB (HB (runB (made l) q) (imax u v) k))]⟩)]) [(88, some _)] ⟨rfl, trivial⟩ ⟨rfl, rfl, rfl, rfl, trivial⟩ ⟨wa_eq rfl rfl, wa_eq rfl rfl, wa_eq rfl rfl, wa_eq rfl rfl, wa_eq rfl rfl, .res (Res.ownT (xs := (left (runB (made l) q) (imax u v) (k - 1)).map encL) rfl rfl (by rw [(HB_keep (by omega) (by omega) h4).2]; rfl) (by rw [(HB_keep (by omega) (by omega) h4).2]; simp; omega)) (.refl _), wa_eq rfl rfl, wa_eq rfl rfl, trivial⟩ ⟨rfl, okE_one rfl, rfl, okE_one rfl, rfl, okE_one rfl, rfl, okE_one rfl, trivial⟩) ?_
          refine awp_rw rfl ?_
          refine RW.op rfl rfl (eff_move (v := .t _) rfl rfl rfl) ?_
          refine RW.op rfl rfl (eff_iop (r := encI (((k - 1 : Nat) : Int) - 1)) rfl rfl rfl rfl (isubE (by omega) (by omega))) ?_
          refine RW.op rfl rfl (eff_assign (v := .t _) rfl rfl rfl) ?_
          refine RW.nil ?_
          first
            | (have hTn : VB (HB (runB (made l) q) (imax u v) (k - 1)) := by have h2 := (close_keeps hT ((runB (made l) q).ls[k - 1]'(by omega)).id).1; rw [HB_close (by omega) (by omega) hT h4] at h2; exact h2
               exact ⟨_, (by omega : k - 1 + 1 < k + 1), _, weak_frz (n := 124) (fr' := [(2, .t (encI u)), (3, .t (encI v)), (9, .ptr 9 0 0 0), (11, .ptr 11 0 0 0), (12, .ptr 12 0 0 0), (13, .t (.sl ((left (runB (made l) q) (imax u v) (k - 1)).map encL) fl)), (14, .ptr 14 0 0 0), (15, .t (encI ((((k - 1) : Nat) : Int) - 1)))]) (st' := [(9, some ⟨5, 27, 0, [.t (encB (runB (made l) q))]⟩), (11, some ⟨5, 27, 0, [.t (encB (expire (runB (made l) q) (imax u v)))]⟩), (12, some ⟨5, 27, 0, [.t (encB (expire (runB (made l) q) (imax u v)))]⟩), (14, some ⟨5, 27, 0, [.t (encB (HB (runB (made l) q) (imax u v) (k - 1)))]⟩)]) [] trivial ⟨rfl, rfl, rfl, rfl, trivial⟩ ⟨wa_eq rfl rfl, wa_eq rfl rfl, wa_eq rfl rfl, wa_eq rfl rfl, wa_eq rfl rfl, wa_eq (by rw [left_keep (by omega) (by omega) h4]; rfl) rfl, wa_eq rfl rfl, wa_eq rfl rfl, trivial⟩ ⟨rfl, okE_one rfl, rfl, okE_one rfl, rfl, okE_one rfl, rfl, okE_one rfl, trivial⟩, k - 1, fl, by omega, hTn, rfl, rfl⟩)
            | (have hTn : VB (HB (runB (made l) q) (imax u v) (k - 1)) := by rw [(HB_keep (by omega) (by omega) h4).1]; exact hT
               exact ⟨_, (by omega : k - 1 + 1 < k + 1), _, weak_frz (n := 124) (fr' := [(2, .t (encI u)), (3, .t (encI v)), (9, .ptr 9 0 0 0), (11, .ptr 11 0 0 0), (12, .ptr 12 0 0 0), (13, .t (.sl ((left (runB (made l) q) (imax u v) (k - 1)).map encL) false)), (14, .ptr 14 0 0 0), (15, .t (encI ((((k - 1) : Nat) : Int) - 1)))]) (st' := [(9, some ⟨5, 27, 0, [.t (encB (runB (made l) q))]⟩), (11, some ⟨5, 27, 0, [.t (encB (expire (runB (made l) q) (imax u v)))]⟩), (12, some ⟨5, 27, 0, [.t (encB (expire (runB (made l) q) (imax u v)))]⟩), (14, some ⟨5, 27, 0, [.t (encB (HB (runB (made l) q) (imax u v) (k - 1)))]⟩)]) [] trivial ⟨rfl, rfl, rfl, rfl, trivial⟩ ⟨wa_eq rfl rfl, wa_eq rfl rfl, wa_eq rfl rfl, wa_eq rfl rfl, wa_eq rfl rfl, wa_eq rfl rfl, wa_eq rfl rfl, wa_eq rfl rfl, trivial⟩ ⟨rfl, okE_one rfl, rfl, okE_one rfl, rfl, okE_one rfl, (by rw [(HB_keep (by omega) (by omega) h4).1]; rfl), okE_one rfl, trivial⟩, k - 1, false, by omega, hTn, rfl, rfl⟩)
      · try simp only [decide_eq_true_eq, decide_eq_false_iff_not, beq_iff_eq, bne_iff_ne, bne_eq_false_iff_eq, beq_eq_false_iff_ne, Bool.not_eq_true, Bool.not_eq_false, Bool.not_eq_true', Bool.not_eq_false', ne_eq] at h3
        refine awp_exit ?_
        refine awp_seq ?_
        refine awp_seq ?_
        refine awp_rw rfl ?_
        obtain rfl : k = 0 := by omega
        rw [HB_end hVB, left_zero hVB]
        have hEV := (expire_keeps hVB (imax u v)).1
        have hEL := hEV.ll
        refine RW.op rfl rfl (eff_fieldAddr rfl rfl tf27_1 (by decide) rfl rfl rfl (Nat.le_of_ble_eq_true rfl)) ?_
        refine RW.op rfl rfl (eff_load (y := .t _) rfl rfl ti23 rfl (.one rfl rfl rfl rfl)) ?_
        refine RW.op rfl rfl (eff_lenM rfl rfl te23 rfl) ?_
        refine RW.op rfl rfl (eff_move (v := .t _) rfl rfl rfl) ?_
        refine RW.op rfl rfl (eff_lenM rfl rfl te23 rfl) ?_
        refine RW.op rfl rfl (eff_iop (r := .bool false) rfl rfl rfl rfl (by exact iop_neq_f (by rfl))) ?_
        refine RW.nil ?_
        refine awp_cond rfl (fun h => nomatch h) (fun _ => ?_)
        refine awp_skip ?_
        refine awp_seq ?_
        refine awp_seq ?_
        refine awp_rw rfl ?_
        refine RW.op rfl rfl (eff_assign (v := .t _) rfl rfl rfl) ?_
        refine RW.nil ?_
        refine awp_block ?_
        refine awp_loopW (fun m s => ∃ (j : Nat), (j ≤ (expire (runB (made l) q) (imax u v)).ls.length) ∧ m = (expire (runB (made l) q) (imax u v)).ls.length - j ∧ s = ⟨124, [(11, .ptr 11 0 0 0), (12, .ptr 12 0 0 0), (13, .t (.sl ((expire (runB (made l) q) (imax u v)).ls.map encL) fl)), (14, .ptr 14 0 0 0), (18, .t (encI (j : Nat)))], [(11, some ⟨5, 27, 0, [.t (encB (expire (runB (made l) q) (imax u v)))]⟩), (12, some ⟨5, 27, 0, [.t (encB (expire (runB (made l) q) (imax u v)))]⟩), (14, some ⟨5, 27, 0, [.t (encB (expire (runB (made l) q) (imax u v)))]⟩)]⟩) (_) (⟨_, weak_keep (n := 124) (fr' := [(11, .ptr 11 0 0 0), (12, .ptr 12 0 0 0), (13, .t (.sl ((expire (runB (made l) q) (imax u v)).ls.map encL) fl)), (14, .ptr 14 0 0 0), (18, .t (encI (0 : Nat)))]) (st' := [(11, some ⟨5, 27, 0, [.t (encB (expire (runB (made l) q) (imax u v)))]⟩), (12, some ⟨5, 27, 0, [.t (encB (expire (runB (made l) q) (imax u v)))]⟩), (14, some ⟨5, 27, 0, [.t (encB (expire (runB (made l) q) (imax u v)))]⟩)]) ⟨rfl, rfl, rfl, rfl, rfl, rfl, rfl, rfl, rfl, rfl, trivial⟩ ⟨rfl, okE_one rfl, rfl, okE_one rfl, rfl, okE_one rfl, trivial⟩, 0, (by omega), rfl, rfl⟩) ?_
        rintro m s ⟨j, hj, rfl, rfl⟩
        refine awp_seq ?_
        refine awp_seq ?_
        refine awp_rw rfl ?_
        refine RW.op rfl rfl (eff_move (v := .t _) rfl rfl rfl) ?_
        refine RW.op rfl rfl (eff_move (v := .t _) rfl rfl rfl) ?_
        refine RW.op rfl rfl (eff_lenM rfl rfl te23 rfl) ?_
        refine RW.op rfl rfl (eff_iop rfl rfl rfl rfl rfl) ?_
        refine RW.nil ?_
        refine awp_cond rfl (fun h5 => ?_) (fun h5 => ?_)
        · try simp only [decide_eq_true_eq, decide_eq_false_iff_not, beq_iff_eq, bne_iff_ne, bne_eq_false_iff_eq, beq_eq_false_iff_ne, Bool.not_eq_true, Bool.not_eq_false, Bool.not_eq_true', Bool.not_eq_false', ne_eq] at h5
          refine awp_skip ?_
          refine awp_seq ?_
          refine awp_block ?_
          refine awp_seq ?_
          refine awp_rd [(some 103, []), (some 104, []), (some 105, []), (some 106, []), (some 107, []), (some 108, []), (some 109, []), (some 110, []), (some 111, []), (some 112, [])] [[], [0], [], [0, 1, 2], [0, 1, 2, 3], [], [], [5, 6], [5, 6, 7], [0, 1, 2, 3, 4, 5, 6, 7, 8]] tm rfl rfl rfl rfl ?_
          refine RD.op rfl rfl rfl (eff_fieldAddr rfl rfl tf27_1 (by decide) rfl rfl rfl (Nat.le_of_ble_eq_true rfl)) ?_
          refine RD.op rfl rfl rfl (eff_load (y := .t _) rfl rfl ti23 rfl (.one rfl rfl rfl rfl)) ?_
          refine RD.op rfl rfl rfl (eff_move (v := .t _) rfl rfl rfl) ?_
          refine RD.op rfl rfl rfl (eff_indexM rfl rfl te23 rfl rfl rfl (by first | assumption | exact List.getElem?_eq_getElem (by omega)) rfl (by decide)) ?_
          refine RD.op rfl rfl rfl (eff_loadW rfl rfl ti44 rfl rfl rfl) ?_
          refine RD.op rfl rfl rfl (eff_move (v := .t _) rfl rfl rfl) ?_
          refine RD.op rfl rfl rfl (eff_move (v := .t _) rfl rfl rfl) ?_
          refine RD.op rfl rfl rfl (eff_indexM rfl rfl te23 rfl rfl rfl (by first | assumption | exact List.getElem?_eq_getElem (by omega)) rfl (by decide)) ?_
          refine RD.op rfl rfl rfl (eff_loadW rfl rfl ti44 rfl rfl rfl) ?_
          refine RD.op rfl rfl rfl (eff_structNeqB (r := false) (ns := [_, _, _, _, _, _, _, _]) (ms := [_, _, _, _, _, _, _, _]) rfl rfl tq44 ti44 th44 rfl rfl rfl rfl (by simp)) ?_
          refine RD.nil ?_
          refine awp_cond rfl (fun h => nomatch h) (fun _ => ?_)
          refine awp_skip ?_
          refine awp_rw rfl ?_
          refine RW.op rfl rfl (eff_move (v := .t _) rfl rfl rfl) ?_
          refine RW.op rfl rfl (eff_iop rfl rfl rfl rfl (iadd (by omega))) ?_
          refine RW.op rfl rfl (eff_assign (v := .t _) rfl rfl rfl) ?_
          refine RW.nil ?_
          refine ⟨_, ?_, _, weak_keep (n := 124) (fr' := [(11, .ptr 11 0 0 0), (12, .ptr 12 0 0 0), (13, .t (.sl ((expire (runB (made l) q) (imax u v)).ls.map encL) fl)), (14, .ptr 14 0 0 0), (18, .t (encI ((j + 1) : Nat)))]) (st' := [(11, some ⟨5, 27, 0, [.t (encB (expire (runB (made l) q) (imax u v)))]⟩), (12, some ⟨5, 27, 0, [.t (encB (expire (runB (made l) q) (imax u v)))]⟩), (14, some ⟨5, 27, 0, [.t (encB (expire (runB (made l) q) (imax u v)))]⟩)]) ⟨rfl, rfl, rfl, rfl, rfl, rfl, rfl, rfl, rfl, rfl, trivial⟩ ⟨rfl, okE_one rfl, rfl, okE_one rfl, rfl, okE_one rfl, trivial⟩, j + 1, (by omega), rfl, rfl⟩
          omega
        · try simp only [decide_eq_true_eq, decide_eq_false_iff_not, beq_iff_eq, bne_iff_ne, bne_eq_false_iff_eq, beq_eq_false_iff_ne, Bool.not_eq_true, Bool.not_eq_false, Bool.not_eq_true', Bool.not_eq_false', ne_eq] at h5
          refine awp_exit ?_
          refine awp_seq ?_
          refine awp_rw rfl ?_
          refine RW.op rfl rfl (eff_load rfl rfl ti27 rfl (.whole rfl rfl rfl rfl rfl rfl)) ?_
          refine RW.op rfl rfl (eff_load rfl rfl ti27 rfl (.whole rfl rfl rfl rfl rfl rfl)) ?_
          refine RW.op rfl rfl (eff_callT ((by have h := same_ret (expire (runB (made l) q) (imax u v)) (expire (runB (made l) q) (imax u v)) hEV.bok; rw [decide_eq_true rfl] at h; exact h)) co24 rfl rfl rfl rfl) ?_
          refine RW.op rfl rfl (eff_move (v := .t _) rfl rfl rfl) ?_
          refine RW.gop rfl rfl rfl rfl rfl rfl (eff_load rfl rfl ti27 rfl (.whole rfl rfl rfl rfl rfl rfl)) ?_
          refine RW.gop rfl rfl rfl rfl rfl rfl (eff_load rfl rfl ti27 rfl (.whole rfl rfl rfl rfl rfl rfl)) ?_
          refine RW.gop rfl rfl rfl rfl rfl rfl (eff_callT ((by have h := same_ret (expire (runB (made l) q) (imax u v)) (expire (runB (made l) q) (imax u v)) hEV.bok; rw [decide_eq_true rfl] at h; exact h)) co24 rfl rfl rfl rfl) ?_
          refine RW.op rfl rfl (eff_pick (v := .t _) rfl rfl rfl rfl) ?_
          refine RW.op rfl rfl (eff_move (v := .t _) rfl rfl rfl) ?_
          refine RW.gop rfl rfl rfl rfl rfl rfl (eff_callT (lives_ret) co11 rfl rfl rfl rfl) ?_
          refine RW.op rfl rfl (eff_pick (v := .t _) rfl rfl rfl rfl) ?_
          refine RW.op rfl rfl (eff_assign (v := .t _) rfl rfl rfl) ?_
          refine RW.nil ?_
          refine awp_ret ?_
          exact ⟨Or.inr rfl, [_], ⟨.tmp (.t _), trivial⟩, .refl _⟩

end Go.Tv.C24

end
section
open Go Go.Tv Go.Proofs
namespace Go.Tv.C24
set_option maxRecDepth 20000
set_option maxHeartbeats 2000000
set_option linter.unusedSimpArgs false
set_option linter.unusedVariables false
theorem made_c (l : List Purse) {i : Nat} (h : i < (made l).accs.length) : ((made l).accs[i]).c = 2 * (i : Int) := by
  have h1 : i < (madeA l).length := h
  rw [madeA_length] at h1
  exact congrArg Acc.c (madeA_get (l := l) (i := i) (by omega) (by omega))
theorem acc_none {l : List Acc} (h : l.length = 0) (c : Int) : accIx l c < 0 := by
  rw [List.length_eq_zero_iff] at h; subst h
  exact fIx_neg.2 (fun b hb => by simp at hb)
theorem mod_nat {f : Int} {n : Nat} (h : 0 ≤ f) (hn : ¬ (n : Int) = 0) : ∃ i : Nat, i < n ∧ f % (n : Int) = (i : Int) := by
  have h1 := Int.emod_nonneg f hn
  have h2 := Int.emod_lt_of_pos f (show (0 : Int) < n by omega)
  exact ⟨(f % (n : Int)).toNat, by omega, by omega⟩
theorem tr_err {l : List Purse} {i k : Nat} (hi : i < (made l).accs.length) (hk : k < (made l).accs.length) {p : Purse} (h : ¬ (transfer (made l) (2 * (i : Int)) (2 * (k : Int)) p).2 = 0) :
    (transfer (made l) (2 * (i : Int)) (2 * (k : Int)) p).2 = 40 ∧ ¬ cov ((made l).accs[i]).p p := by
  rw [← made_c l hi, ← made_c l hk, transfer_at (made_vb l) hi hk] at h ⊢
  by_cases hc : cov ((made l).accs[i]).p p
  · rw [if_pos hc] at h; exact absurd rfl h
  · rw [if_neg hc]; exact ⟨rfl, hc⟩
theorem tr_cov {l : List Purse} {i k : Nat} (hi : i < (made l).accs.length) (hk : k < (made l).accs.length) {p : Purse} (h : (transfer (made l) (2 * (i : Int)) (2 * (k : Int)) p).2 = 0) : cov ((made l).accs[i]).p p := by
  rw [← made_c l hi, ← made_c l hk, transfer_at (made_vb l) hi hk] at h
  by_cases hc : cov ((made l).accs[i]).p p
  · exact hc
  · rw [if_neg hc] at h; simp at h
theorem tr_back {l : List Purse} {i k : Nat} (hi : i < (made l).accs.length) (hk : k < (made l).accs.length) {p : Purse} (hp : right p) (hc : cov ((made l).accs[i]).p p) :
    transfer (transfer (made l) (2 * (i : Int)) (2 * (k : Int)) p).1 (2 * (k : Int)) (2 * (i : Int)) p = (made l, 0) := by
  have := transfer_back (made_vb l) hi hk hp hc
  rwa [made_c l hi, made_c l hk] at this
theorem tr_self {l : List Purse} {i : Nat} (hi : i < (made l).accs.length) {p : Purse} (hc : cov ((made l).accs[i]).p p) : transfer (made l) (2 * (i : Int)) (2 * (i : Int)) p = (made l, 0) := by
  have := transfer_self (made_vb l) hi hc
  rwa [made_c l hi] at this
theorem tr_other {l : List Purse} {i k : Nat} (hi : i < (made l).accs.length) (hk : k < (made l).accs.length) {p : Purse} (hc : cov ((made l).accs[i]).p p) :
    (transfer (made l) (2 * (i : Int)) (2 * (k : Int)) p).1.accs.length = (made l).accs.length ∧ ∀ j, j ≠ i → j ≠ k → (transfer (made l) (2 * (i : Int)) (2 * (k : Int)) p).1.accs[j]? = (made l).accs[j]? := by
  have := transfer_other (made_vb l) hi hk hc
  rwa [made_c l hi, made_c l hk] at this
theorem get_of {α : Type} {l l' : List α} {j : Nat} (h : l[j]? = l'[j]?) (h1 : j < l.length) (h2 : j < l'.length) : l[j] = l'[j] := by
  rw [List.getElem?_eq_getElem h1, List.getElem?_eq_getElem h2] at h
  exact Option.some.inj h

theorem transfers_ret (l : List Purse) (hl : l.length ≤ 9223372036854775807) (hP : ∀ p, p ∈ l → P64 p) (f g : Int) (hf : 0 ≤ f ∧ f < 256) (hg : 0 ≤ g ∧ g < 256) (p : Purse) (hp : P64 p) : Ret Try.prog 10 [.sl (l.map encP) false, .int .u8 f, .int .u8 g, encP p] (.bool true) := by
  refine ret_of_awp Try.func10 rfl (Nat.le_of_ble_eq_true rfl) ?_
  refine awp_seq ?_
  refine awp_rw rfl ?_
  refine RW.new rfl rfl (eff_boxK (v := .t _) (k := 3) (id := 7) rfl rfl rfl rfl rfl rfl) ?_
  refine RW.op rfl rfl (eff_assign (v := .t _) rfl rfl rfl) ?_
  refine RW.nil ?_
  refine awp_seq ?_
  refine awp_rw rfl ?_
  refine RW.op rfl rfl (eff_move (v := .t _) rfl rfl rfl) ?_
  refine RW.op rfl rfl (eff_callT (made_ret l hl hP) co21 rfl rfl rfl rfl) ?_
  refine RW.new rfl rfl (eff_allocK (k := 5) (id := 9) rfl rfl tz27 rfl rfl) ?_
  refine RW.store rfl rfl (eff_storeW (v := .t _) (els := [_]) (els' := [_]) rfl rfl ti27 rfl rfl rfl rfl rfl rfl rfl rfl rfl) ?_
  refine RW.nil ?_
  refine awp_seq ?_
  refine awp_rw rfl ?_
  have hVM := made_vb l
  have hML := hVM.la
  refine RW.op rfl rfl (eff_fieldAddr rfl rfl tf27_0 (by decide) rfl rfl rfl (Nat.le_of_ble_eq_true rfl)) ?_
  refine RW.op rfl rfl (eff_load (y := .t _) rfl rfl ti22 rfl (.one rfl rfl rfl rfl)) ?_
  refine RW.op rfl rfl (eff_lenM rfl rfl te22 rfl) ?_
  refine RW.op rfl rfl (eff_assign (v := .t _) rfl rfl rfl) ?_
  refine RW.nil ?_
  refine awp_seq ?_
  refine awp_seq ?_
  refine awp_rw rfl ?_
  refine RW.op rfl rfl (eff_move (v := .t _) rfl rfl rfl) ?_
  refine RW.op rfl rfl (eff_iop rfl rfl rfl rfl rfl) ?_
  refine RW.nil ?_
  refine awp_cond rfl (fun h1 => ?_) (fun h1 => ?_)
  · try simp only [decide_eq_true_eq, decide_eq_false_iff_not, beq_iff_eq, bne_iff_ne, bne_eq_false_iff_eq, beq_eq_false_iff_ne, Bool.not_eq_true, Bool.not_eq_false, Bool.not_eq_true', Bool.not_eq_false', ne_eq] at h1
    refine awp_seq ?_
    refine awp_rw rfl ?_
    refine RW.op rfl rfl (eff_load rfl rfl ti27 rfl (.whole rfl rfl rfl rfl rfl rfl)) ?_
    refine RW.op rfl rfl (eff_buildT (ys := [_, _, _]) rfl rfl tz25 tg25 rfl) ?_
    refine RW.op rfl rfl (eff_callT ((by have h := transfer_ret (made l) 0 0 zp hVM.bok hVM.nb (by unfold near; decide); rw [transfer_3 (.inl (acc_none (by omega) 0))] at h; exact h)) co30 rfl rfl rfl rfl) ?_
    refine RW.op rfl rfl (eff_move (v := .t _) rfl rfl rfl) ?_
    refine RW.op rfl rfl (eff_extract rfl rfl rfl rfl) ?_
    refine RW.op rfl rfl (eff_extract rfl rfl rfl rfl) ?_
    refine RW.new rfl rfl (eff_allocK (k := 5) (id := 11) rfl rfl tz27 rfl rfl) ?_
    refine RW.store rfl rfl (eff_storeW (v := .t _) (els := [_]) (els' := [_]) rfl rfl ti27 rfl rfl rfl rfl rfl rfl rfl rfl rfl) ?_
    refine RW.op rfl rfl (eff_assign (v := .t _) rfl rfl rfl) ?_
    refine RW.nil ?_
    refine awp_seq ?_
    refine awp_rw rfl ?_
    refine RW.op rfl rfl (eff_move (v := .t _) rfl rfl rfl) ?_
    refine RW.op rfl rfl (eff_iop (r := .bool true) rfl rfl rfl rfl (by exact iop_eql_t (by rfl))) ?_
    refine RW.op rfl rfl (eff_move (v := .t _) rfl rfl rfl) ?_
    refine RW.gop rfl rfl rfl rfl rfl rfl (eff_callT (lives_ret) co11 rfl rfl rfl rfl) ?_
    refine RW.op rfl rfl (eff_pick (v := .t _) rfl rfl rfl rfl) ?_
    refine RW.op rfl rfl (eff_assign (v := .t _) rfl rfl rfl) ?_
    refine RW.nil ?_
    refine awp_ret ?_
    exact ⟨Or.inr rfl, [_], ⟨.tmp (.t _), trivial⟩, .refl _⟩
  · try simp only [decide_eq_true_eq, decide_eq_false_iff_not, beq_iff_eq, bne_iff_ne, bne_eq_false_iff_eq, beq_eq_false_iff_ne, Bool.not_eq_true, Bool.not_eq_false, Bool.not_eq_true', Bool.not_eq_false', ne_eq] at h1
    refine awp_skip ?_
    refine awp_seq ?_
    refine awp_rd [(some 41, []), (some 42, []), (some 43, []), (some 44, []), (some 45, []), (some 46, []), (some 47, []), (some 48, []), (some 49, []), (some 50, []), (some 15, [15]), (some 13, []), (some 14, []), (none, [15])] [[], [0], [], [0, 1, 2], [], [4], [], [4, 5, 6], [], [8], [], [0, 1, 2, 3, 8, 9, 10], [0, 1, 2, 3, 4, 5, 6, 7, 8, 9, 10, 11], [0, 1, 2, 3, 4, 5, 6, 7, 8, 9, 10, 11, 12]] tm rfl rfl rfl rfl ?_
    refine RD.op rfl rfl rfl (eff_move (v := .t _) rfl rfl rfl) ?_
    refine RD.op rfl rfl rfl (eff_convIntE (m := f) rfl rfl (by rw [tu5]; rfl) tu3 rfl (wrap64 (by omega) (by omega))) ?_
    refine RD.op rfl rfl rfl (eff_move (v := .t _) rfl rfl rfl) ?_
    refine RD.op rfl rfl rfl (eff_remE (r := f % ((made l).accs.length : Int)) rfl rfl rfl rfl (by omega) (tmod_pos hf.1)) ?_
    refine RD.op rfl rfl rfl (eff_move (v := .t _) rfl rfl rfl) ?_
    refine RD.op rfl rfl rfl (eff_convIntE (m := g) rfl rfl (by rw [tu5]; rfl) tu3 rfl (wrap64 (by omega) (by omega))) ?_
    refine RD.op rfl rfl rfl (eff_move (v := .t _) rfl rfl rfl) ?_
    refine RD.op rfl rfl rfl (eff_remE (r := g % ((made l).accs.length : Int)) rfl rfl rfl rfl (by omega) (tmod_pos hg.1)) ?_
    refine RD.op rfl rfl rfl (eff_load rfl rfl ti25 rfl (.whole rfl rfl rfl rfl rfl rfl)) ?_
    refine RD.op rfl rfl rfl (eff_callT (amount_ret p 12000 hp (by omega)) co16 rfl rfl rfl rfl) ?_
    refine RD.new rfl rfl rfl (eff_allocK (k := 3) (id := 15) rfl rfl tz25 rfl rfl) ?_
    refine RD.op rfl rfl rfl (eff_assign (v := .t _) rfl rfl rfl) ?_
    refine RD.op rfl rfl rfl (eff_assign (v := .t _) rfl rfl rfl) ?_
    refine RD.store rfl rfl rfl (eff_storeW (v := .t _) (els := [_]) (els' := [_]) rfl rfl ti25 rfl rfl rfl rfl rfl rfl rfl rfl rfl) ?_
    refine RD.nil ?_
    refine awp_seq ?_
    refine awp_rw rfl ?_
    obtain ⟨i, hi, hfi⟩ := mod_nat (n := (made l).accs.length) hf.1 (by omega)
    obtain ⟨k, hk, hgk⟩ := mod_nat (n := (made l).accs.length) hg.1 (by omega)
    rw [hfi, hgk]
    refine RW.op rfl rfl (eff_load rfl rfl ti27 rfl (.whole rfl rfl rfl rfl rfl rfl)) ?_
    refine RW.op rfl rfl (eff_move (v := .t _) rfl rfl rfl) ?_
    refine RW.op rfl rfl (eff_iop rfl rfl rfl rfl (imul (by omega))) ?_
    refine RW.op rfl rfl (eff_move (v := .t _) rfl rfl rfl) ?_
    refine RW.op rfl rfl (eff_iop rfl rfl rfl rfl (imul (by omega))) ?_
    refine RW.op rfl rfl (eff_load rfl rfl ti25 rfl (.whole rfl rfl rfl rfl rfl rfl)) ?_
    refine RW.op rfl rfl (eff_callT (transfer_ret (made l) (2 * (i : Int)) (2 * (k : Int)) (amount p 12000) hVM.bok hVM.nb (by have h := amount_near (p := p) (m := 12000) (by omega); exact near_mono h (by omega))) co30 rfl rfl rfl rfl) ?_
    refine RW.op rfl rfl (eff_move (v := .t _) rfl rfl rfl) ?_
    refine RW.op rfl rfl (eff_extract rfl rfl rfl rfl) ?_
    refine RW.op rfl rfl (eff_extract rfl rfl rfl rfl) ?_
    refine RW.new rfl rfl (eff_allocK (k := 5) (id := 16) rfl rfl tz27 rfl rfl) ?_
    refine RW.store rfl rfl (eff_storeW (v := .t _) (els := [_]) (els' := [_]) rfl rfl ti27 rfl rfl rfl rfl rfl rfl rfl rfl rfl) ?_
    refine RW.op rfl rfl (eff_assign (v := .t _) rfl rfl rfl) ?_
    refine RW.nil ?_
    refine awp_seq ?_
    refine awp_seq ?_
    refine awp_rw rfl ?_
    refine RW.op rfl rfl (eff_move (v := .t _) rfl rfl rfl) ?_
    refine RW.op rfl rfl (eff_iop rfl rfl rfl rfl rfl) ?_
    refine RW.nil ?_
    refine awp_cond rfl (fun h2 => ?_) (fun h2 => ?_)
    · try simp only [decide_eq_true_eq, decide_eq_false_iff_not, beq_iff_eq, bne_iff_ne, bne_eq_false_iff_eq, beq_eq_false_iff_ne, Bool.not_eq_true, Bool.not_eq_false, Bool.not_eq_true', Bool.not_eq_false', ne_eq] at h2
      refine awp_seq ?_
      obtain ⟨h40, hnc⟩ := tr_err hi hk h2
      refine awp_rd [(some 63, []), (some 64, []), (some 65, []), (some 66, []), (some 67, []), (some 68, []), (some 69, []), (some 70, []), (some 71, []), (some 72, []), (some 73, []), (some 74, []), (some 75, []), (some 76, []), (some 77, []), (some 78, []), (some 8, [])] [[], [0], [0, 1], [0, 1, 2], [0, 1, 2], [0, 1, 2, 4], [0, 1, 2], [0, 1, 2, 4, 5, 6], [0, 1, 2, 4, 5, 6, 7], [0, 1, 2, 4, 5, 6, 7, 8], [0, 1, 2, 3, 4, 5, 6, 7, 8, 9], [0, 1, 2, 3, 4, 5, 6, 7, 8, 9, 10], [0, 1, 2, 3, 4, 5, 6, 7, 8, 9, 10, 11], [0, 1, 2, 3, 4, 5, 6, 7, 8, 9, 10, 11, 12], [0, 1, 2, 3, 4, 5, 6, 7, 8, 9, 10, 11, 12, 13], [0, 1, 2, 3, 4, 5, 6, 7, 8, 9, 10, 11, 12, 13, 14], [0, 1, 2, 3, 4, 5, 6, 7, 8, 9, 10, 11, 12, 13, 14, 15]] tm rfl rfl rfl rfl ?_
      refine RD.op rfl rfl rfl (eff_move (v := .t _) rfl rfl rfl) ?_
      refine RD.op rfl rfl rfl (eff_iop (r := .bool true) rfl rfl rfl rfl (by exact iop_eql_t (by exact h40))) ?_
      refine RD.op rfl rfl rfl (eff_move (v := .t _) rfl rfl rfl) ?_
      refine RD.gop rfl rfl rfl rfl rfl rfl rfl (eff_load rfl rfl ti25 rfl (.whole rfl rfl rfl rfl rfl rfl)) ?_
      refine RD.gop rfl rfl rfl rfl rfl rfl rfl (eff_fieldAddr rfl rfl tf27_0 (by decide) rfl rfl rfl (Nat.le_of_ble_eq_true rfl)) ?_
      refine RD.gop rfl rfl rfl rfl rfl rfl rfl (eff_load (y := .t _) rfl rfl ti22 rfl (.one rfl rfl rfl rfl)) ?_
      refine RD.gop rfl rfl rfl rfl rfl rfl rfl (eff_move (v := .t _) rfl rfl rfl) ?_
      refine RD.gop rfl rfl rfl rfl rfl rfl rfl (eff_indexM rfl rfl te22 rfl rfl rfl (by first | assumption | exact List.getElem?_eq_getElem (by omega)) rfl (by decide)) ?_
      refine RD.gop rfl rfl rfl rfl rfl rfl rfl (eff_fieldAddrT rfl rfl tf57_1 (by decide) rfl) ?_
      refine RD.gop rfl rfl rfl rfl rfl rfl rfl (eff_loadT (ys := [_, _, _]) rfl rfl ti25 rfl rfl rfl) ?_
      refine RD.gop rfl rfl rfl rfl rfl rfl rfl (eff_callT ((by have h := less_ret (amount p 12000) ((made l).accs[i]'hi).p; rw [decide_eq_false hnc] at h; exact h)) co25 rfl rfl rfl rfl) ?_
      refine RD.gop rfl rfl rfl rfl rfl rfl rfl (eff_unop rfl rfl rfl rfl) ?_
      refine RD.op rfl rfl rfl (eff_pick (v := .t _) rfl rfl rfl rfl) ?_
      refine RD.op rfl rfl rfl (eff_move (v := .t _) rfl rfl rfl) ?_
      refine RD.gop rfl rfl rfl rfl rfl rfl rfl (eff_callT (lives_ret) co11 rfl rfl rfl rfl) ?_
      refine RD.op rfl rfl rfl (eff_pick (v := .t _) rfl rfl rfl rfl) ?_
      refine RD.op rfl rfl rfl (eff_assign (v := .t _) rfl rfl rfl) ?_
      refine RD.nil ?_
      refine awp_ret ?_
      exact ⟨Or.inr rfl, [_], ⟨.tmp (.t _), trivial⟩, .refl _⟩
    · try simp only [decide_eq_true_eq, decide_eq_false_iff_not, beq_iff_eq, bne_iff_ne, bne_eq_false_iff_eq, beq_eq_false_iff_ne, Bool.not_eq_true, Bool.not_eq_false, Bool.not_eq_true', Bool.not_eq_false', ne_eq] at h2
      refine awp_skip ?_
      refine awp_seq ?_
      refine awp_rw rfl ?_
      have hcv := tr_cov hi hk h2
      have hVC := (transfer_keeps hVM (2 * (i : Int)) (2 * (k : Int)) (p := (amount p 12000)) (by have h := amount_near (p := p) (m := 12000) (by omega); exact near_mono h (by omega))).1
      have hto := ((transfer_keeps hVM (2 * (i : Int)) (2 * (k : Int)) (p := (amount p 12000)) (by have h := amount_near (p := p) (m := 12000) (by omega); exact near_mono h (by omega))).2 h2).1
      obtain ⟨hln, hot⟩ := tr_other hi hk hcv
      refine RW.op rfl rfl (eff_load rfl rfl ti27 rfl (.whole rfl rfl rfl rfl rfl rfl)) ?_
      refine RW.op rfl rfl (eff_move (v := .t _) rfl rfl rfl) ?_
      refine RW.op rfl rfl (eff_iop rfl rfl rfl rfl (imul (by omega))) ?_
      refine RW.op rfl rfl (eff_move (v := .t _) rfl rfl rfl) ?_
      refine RW.op rfl rfl (eff_iop rfl rfl rfl rfl (imul (by omega))) ?_
      refine RW.op rfl rfl (eff_load rfl rfl ti25 rfl (.whole rfl rfl rfl rfl rfl rfl)) ?_
      refine RW.op rfl rfl (eff_callT ((by have h := transfer_ret (transfer (made l) (2 * (i : Int)) (2 * (k : Int)) (amount p 12000)).1 (2 * (k : Int)) (2 * (i : Int)) (amount p 12000) hVC.bok hVC.nb (by have h := amount_near (p := p) (m := 12000) (by omega); exact near_mono h (by omega)); rw [tr_back hi hk (by have h := amount_near (p := p) (m := 12000) (by omega); exact near_mono h (by omega)) hcv] at h; exact h)) co30 rfl rfl rfl rfl) ?_
      refine RW.op rfl rfl (eff_move (v := .t _) rfl rfl rfl) ?_
      refine RW.op rfl rfl (eff_extract rfl rfl rfl rfl) ?_
      refine RW.op rfl rfl (eff_extract rfl rfl rfl rfl) ?_
      refine RW.new rfl rfl (eff_allocK (k := 5) (id := 18) rfl rfl tz27 rfl rfl) ?_
      refine RW.store rfl rfl (eff_storeW (v := .t _) (els := [_]) (els' := [_]) rfl rfl ti27 rfl rfl rfl rfl rfl rfl rfl rfl rfl) ?_
      refine RW.op rfl rfl (eff_assign (v := .t _) rfl rfl rfl) ?_
      refine RW.nil ?_
      refine awp_seq ?_
      refine awp_rw rfl ?_
      refine RW.op rfl rfl (eff_load rfl rfl ti27 rfl (.whole rfl rfl rfl rfl rfl rfl)) ?_
      refine RW.op rfl rfl (eff_move (v := .t _) rfl rfl rfl) ?_
      refine RW.op rfl rfl (eff_iop rfl rfl rfl rfl (imul (by omega))) ?_
      refine RW.op rfl rfl (eff_move (v := .t _) rfl rfl rfl) ?_
      refine RW.op rfl rfl (eff_iop rfl rfl rfl rfl (imul (by omega))) ?_
      refine RW.op rfl rfl (eff_load rfl rfl ti25 rfl (.whole rfl rfl rfl rfl rfl rfl)) ?_
      refine RW.op rfl rfl (eff_callT ((by have h := transfer_ret (made l) (2 * (i : Int)) (2 * (i : Int)) (amount p 12000) hVM.bok hVM.nb (by have h := amount_near (p := p) (m := 12000) (by omega); exact near_mono h (by omega)); rw [tr_self hi hcv] at h; exact h)) co30 rfl rfl rfl rfl) ?_
      refine RW.op rfl rfl (eff_move (v := .t _) rfl rfl rfl) ?_
      refine RW.op rfl rfl (eff_extract rfl rfl rfl rfl) ?_
      refine RW.op rfl rfl (eff_extract rfl rfl rfl rfl) ?_
      refine RW.new rfl rfl (eff_allocK (k := 5) (id := 20) rfl rfl tz27 rfl rfl) ?_
      refine RW.store rfl rfl (eff_storeW (v := .t _) (els := [_]) (els' := [_]) rfl rfl ti27 rfl rfl rfl rfl rfl rfl rfl rfl rfl) ?_
      refine RW.op rfl rfl (eff_assign (v := .t _) rfl rfl rfl) ?_
      refine RW.nil ?_
      refine awp_seq ?_
      refine awp_seq ?_
      refine awp_rw rfl ?_
      refine RW.op rfl rfl (eff_move (v := .t _) rfl rfl rfl) ?_
      refine RW.op rfl rfl (eff_iop (r := .bool false) rfl rfl rfl rfl (by exact iop_neq_f (by rfl))) ?_
      refine RW.op rfl rfl (eff_move (v := .t _) rfl rfl rfl) ?_
      refine RW.gop rfl rfl rfl rfl rfl rfl (eff_move (v := .t _) rfl rfl rfl) ?_
      refine RW.gop rfl rfl rfl rfl rfl rfl (eff_iop (r := .bool false) rfl rfl rfl rfl (by exact iop_neq_f (by rfl))) ?_
      refine RW.op rfl rfl (eff_pick (v := .t _) rfl rfl rfl rfl) ?_
      refine RW.op rfl rfl (eff_move (v := .t _) rfl rfl rfl) ?_
      refine RW.gop rfl rfl rfl rfl rfl rfl (eff_fieldAddr rfl rfl tf27_0 (by decide) rfl rfl rfl (Nat.le_of_ble_eq_true rfl)) ?_
      refine RW.gop rfl rfl rfl rfl rfl rfl (eff_load (y := .t _) rfl rfl ti22 rfl (.one rfl rfl rfl rfl)) ?_
      refine RW.gop rfl rfl rfl rfl rfl rfl (eff_lenM rfl rfl te22 rfl) ?_
      refine RW.gop rfl rfl rfl rfl rfl rfl (eff_move (v := .t _) rfl rfl rfl) ?_
      refine RW.gop rfl rfl rfl rfl rfl rfl (eff_iop (r := .bool false) rfl rfl rfl rfl (by exact iop_neq_f (by omega))) ?_
      refine RW.op rfl rfl (eff_pick (v := .t _) rfl rfl rfl rfl) ?_
      refine RW.op rfl rfl (eff_move (v := .t _) rfl rfl rfl) ?_
      refine RW.gop rfl rfl rfl rfl rfl rfl (eff_load rfl rfl ti27 rfl (.whole rfl rfl rfl rfl rfl rfl)) ?_
      refine RW.gop rfl rfl rfl rfl rfl rfl (eff_load rfl rfl ti27 rfl (.whole rfl rfl rfl rfl rfl rfl)) ?_
      refine RW.gop rfl rfl rfl rfl rfl rfl (eff_callT ((by have h := same_ret (made l) (made l) hVM.bok; rw [decide_eq_true rfl] at h; exact h)) co24 rfl rfl rfl rfl) ?_
      refine RW.gop rfl rfl rfl rfl rfl rfl (eff_unop rfl rfl rfl rfl) ?_
      refine RW.op rfl rfl (eff_pick (v := .t _) rfl rfl rfl rfl) ?_
      refine RW.op rfl rfl (eff_move (v := .t _) rfl rfl rfl) ?_
      refine RW.gop rfl rfl rfl rfl rfl rfl (eff_load rfl rfl ti27 rfl (.whole rfl rfl rfl rfl rfl rfl)) ?_
      refine RW.gop rfl rfl rfl rfl rfl rfl (eff_load rfl rfl ti27 rfl (.whole rfl rfl rfl rfl rfl rfl)) ?_
      refine RW.gop rfl rfl rfl rfl rfl rfl (eff_callT ((by have h := same_ret (made l) (made l) hVM.bok; rw [decide_eq_true rfl] at h; exact h)) co24 rfl rfl rfl rfl) ?_
      refine RW.gop rfl rfl rfl rfl rfl rfl (eff_unop rfl rfl rfl rfl) ?_
      refine RW.op rfl rfl (eff_pick (v := .t _) rfl rfl rfl rfl) ?_
      refine RW.nil ?_
      refine awp_cond rfl (fun h => nomatch h) (fun _ => ?_)
      refine awp_skip ?_
      refine awp_seq ?_
      refine awp_seq ?_
      refine awp_rw rfl ?_
      refine RW.op rfl rfl (eff_assign (v := .t _) rfl rfl rfl) ?_
      refine RW.nil ?_
      refine awp_block ?_
      refine awp_loopW (fun m s => ∃ (z : Nat), (z ≤ (made l).accs.length) ∧ m = (made l).accs.length - z ∧ s = ⟨158, [(9, .ptr 9 0 0 0), (10, .t (encI (made l).accs.length)), (13, .t (encI (i : Nat))), (14, .t (encI (k : Nat))), (16, .ptr 16 0 0 0), (22, .t (encI (z : Nat)))], [(9, some ⟨5, 27, 0, [.t (encB (made l))]⟩), (16, some ⟨5, 27, 0, [.t (encB (transfer (made l) (2 * (i : Int)) (2 * (k : Int)) (amount p 12000)).1)]⟩)]⟩) (_) (⟨_, weak_keep (n := 158) (fr' := [(9, .ptr 9 0 0 0), (10, .t (encI (made l).accs.length)), (13, .t (encI (i : Nat))), (14, .t (encI (k : Nat))), (16, .ptr 16 0 0 0), (22, .t (encI (0 : Nat)))]) (st' := [(9, some ⟨5, 27, 0, [.t (encB (made l))]⟩), (16, some ⟨5, 27, 0, [.t (encB (transfer (made l) (2 * (i : Int)) (2 * (k : Int)) (amount p 12000)).1)]⟩)]) ⟨rfl, rfl, rfl, rfl, rfl, rfl, rfl, rfl, rfl, rfl, rfl, rfl, trivial⟩ ⟨rfl, okE_one rfl, rfl, okE_one rfl, trivial⟩, 0, (by omega), rfl, rfl⟩) ?_
      rintro m s ⟨z, hz, rfl, rfl⟩
      refine awp_seq ?_
      refine awp_seq ?_
      refine awp_rw rfl ?_
      refine RW.op rfl rfl (eff_move (v := .t _) rfl rfl rfl) ?_
      refine RW.op rfl rfl (eff_move (v := .t _) rfl rfl rfl) ?_
      refine RW.op rfl rfl (eff_iop rfl rfl rfl rfl rfl) ?_
      refine RW.nil ?_
      refine awp_cond rfl (fun h3 => ?_) (fun h3 => ?_)
      · try simp only [decide_eq_true_eq, decide_eq_false_iff_not, beq_iff_eq, bne_iff_ne, bne_eq_false_iff_eq, beq_eq_false_iff_ne, Bool.not_eq_true, Bool.not_eq_false, Bool.not_eq_true', Bool.not_eq_false', ne_eq] at h3
        refine awp_skip ?_
        refine awp_seq ?_
        refine awp_block ?_
        refine awp_seq ?_
        by_cases hc4 : z = i
        · refine awp_rd [(some 129, []), (some 130, []), (some 131, []), (some 132, []), (some 133, []), (some 134, []), (some 135, []), (some 136, []), (some 137, []), (some 138, []), (some 139, []), (some 140, []), (some 141, []), (some 142, []), (some 143, []), (some 144, []), (some 145, []), (some 146, []), (some 147, []), (some 148, []), (some 149, [])] [[], [], [0, 1], [0, 1, 2], [0, 1, 2, 3], [0, 1, 2, 3], [0, 1, 2, 3, 4, 5], [0, 1, 2, 3, 4, 5, 6], [0, 1, 2, 3, 4, 5, 6, 7], [0, 1, 2, 3, 4, 5, 6, 7, 8], [0, 1, 2, 3, 4, 5, 6, 7, 8, 9], [0, 1, 2, 3, 4, 5, 6, 7, 8], [0, 1, 2, 3, 4, 5, 6, 7, 8, 9, 10, 11], [0, 1, 2, 3, 4, 5, 6, 7, 8, 9, 10, 11, 12], [0, 1, 2, 3, 4, 5, 6, 7, 8], [0, 1, 2, 3, 4, 5, 6, 7, 8, 14], [0, 1, 2, 3, 4, 5, 6, 7, 8], [0, 1, 2, 3, 4, 5, 6, 7, 8, 14, 15, 16], [0, 1, 2, 3, 4, 5, 6, 7, 8, 14, 15, 16, 17], [0, 1, 2, 3, 4, 5, 6, 7, 8, 9, 10, 11, 12, 13, 14, 15, 16, 17, 18], [0, 1, 2, 3, 4, 5, 6, 7, 8, 9, 10, 11, 12, 13, 14, 15, 16, 17, 18, 19]] tm rfl rfl rfl rfl ?_
          refine RD.op rfl rfl rfl (eff_move (v := .t _) rfl rfl rfl) ?_
          refine RD.op rfl rfl rfl (eff_move (v := .t _) rfl rfl rfl) ?_
          refine RD.op rfl rfl rfl (eff_iop (r := .bool false) rfl rfl rfl rfl (by exact iop_neq_f (by omega))) ?_
          refine RD.op rfl rfl rfl (eff_move (v := .t _) rfl rfl rfl) ?_
          refine RD.gskip rfl rfl rfl rfl rfl rfl (by decide) ?_
          refine RD.gskip rfl rfl rfl rfl rfl rfl (by decide) ?_
          refine RD.gskip rfl rfl rfl rfl rfl rfl (by decide) ?_
          refine RD.op rfl rfl rfl (eff_pick (v := .t _) rfl rfl rfl rfl) ?_
          refine RD.op rfl rfl rfl (eff_move (v := .t _) rfl rfl rfl) ?_
          refine RD.gskip rfl rfl rfl rfl rfl rfl (by decide) ?_
          refine RD.gskip rfl rfl rfl rfl rfl rfl (by decide) ?_
          refine RD.gskip rfl rfl rfl rfl rfl rfl (by decide) ?_
          refine RD.gskip rfl rfl rfl rfl rfl rfl (by decide) ?_
          refine RD.gskip rfl rfl rfl rfl rfl rfl (by decide) ?_
          refine RD.gskip rfl rfl rfl rfl rfl rfl (by decide) ?_
          refine RD.gskip rfl rfl rfl rfl rfl rfl (by decide) ?_
          refine RD.gskip rfl rfl rfl rfl rfl rfl (by decide) ?_
          refine RD.gskip rfl rfl rfl rfl rfl rfl (by decide) ?_
          refine RD.gskip rfl rfl rfl rfl rfl rfl (by decide) ?_
          refine RD.gskip rfl rfl rfl rfl rfl rfl (by decide) ?_
          refine RD.op rfl rfl rfl (eff_pick (v := .t _) rfl rfl rfl rfl) ?_
          refine RD.nil ?_
          refine awp_cond rfl (fun h => nomatch h) (fun _ => ?_)
          refine awp_skip ?_
          refine awp_rw rfl ?_
          refine RW.op rfl rfl (eff_move (v := .t _) rfl rfl rfl) ?_
          refine RW.op rfl rfl (eff_iop rfl rfl rfl rfl (iadd (by omega))) ?_
          refine RW.op rfl rfl (eff_assign (v := .t _) rfl rfl rfl) ?_
          refine RW.nil ?_
          refine ⟨_, ?_, _, weak_keep (n := 158) (fr' := [(9, .ptr 9 0 0 0), (10, .t (encI (made l).accs.length)), (13, .t (encI (i : Nat))), (14, .t (encI (k : Nat))), (16, .ptr 16 0 0 0), (22, .t (encI ((z + 1) : Nat)))]) (st' := [(9, some ⟨5, 27, 0, [.t (encB (made l))]⟩), (16, some ⟨5, 27, 0, [.t (encB (transfer (made l) (2 * (i : Int)) (2 * (k : Int)) (amount p 12000)).1)]⟩)]) ⟨rfl, rfl, rfl, rfl, rfl, rfl, rfl, rfl, rfl, rfl, rfl, rfl, trivial⟩ ⟨rfl, okE_one rfl, rfl, okE_one rfl, trivial⟩, z + 1, (by omega), rfl, rfl⟩
          omega
        · by_cases hc5 : z = k
          · refine awp_rd [(some 129, []), (some 130, []), (some 131, []), (some 132, []), (some 133, []), (some 134, []), (some 135, []), (some 136, []), (some 137, []), (some 138, []), (some 139, []), (some 140, []), (some 141, []), (some 142, []), (some 143, []), (some 144, []), (some 145, []), (some 146, []), (some 147, []), (some 148, []), (some 149, [])] [[], [], [0, 1], [0, 1, 2], [0, 1, 2, 3], [0, 1, 2, 3], [0, 1, 2, 3, 4, 5], [0, 1, 2, 3, 4, 5, 6], [0, 1, 2, 3, 4, 5, 6, 7], [0, 1, 2, 3, 4, 5, 6, 7, 8], [0, 1, 2, 3, 4, 5, 6, 7, 8, 9], [0, 1, 2, 3, 4, 5, 6, 7, 8], [0, 1, 2, 3, 4, 5, 6, 7, 8, 9, 10, 11], [0, 1, 2, 3, 4, 5, 6, 7, 8, 9, 10, 11, 12], [0, 1, 2, 3, 4, 5, 6, 7, 8], [0, 1, 2, 3, 4, 5, 6, 7, 8, 14], [0, 1, 2, 3, 4, 5, 6, 7, 8], [0, 1, 2, 3, 4, 5, 6, 7, 8, 14, 15, 16], [0, 1, 2, 3, 4, 5, 6, 7, 8, 14, 15, 16, 17], [0, 1, 2, 3, 4, 5, 6, 7, 8, 9, 10, 11, 12, 13, 14, 15, 16, 17, 18], [0, 1, 2, 3, 4, 5, 6, 7, 8, 9, 10, 11, 12, 13, 14, 15, 16, 17, 18, 19]] tm rfl rfl rfl rfl ?_
            refine RD.op rfl rfl rfl (eff_move (v := .t _) rfl rfl rfl) ?_
            refine RD.op rfl rfl rfl (eff_move (v := .t _) rfl rfl rfl) ?_
            refine RD.op rfl rfl rfl (eff_iop (r := .bool true) rfl rfl rfl rfl (by exact iop_neq_t (by omega))) ?_
            refine RD.op rfl rfl rfl (eff_move (v := .t _) rfl rfl rfl) ?_
            refine RD.gop rfl rfl rfl rfl rfl rfl rfl (eff_move (v := .t _) rfl rfl rfl) ?_
            refine RD.gop rfl rfl rfl rfl rfl rfl rfl (eff_move (v := .t _) rfl rfl rfl) ?_
            refine RD.gop rfl rfl rfl rfl rfl rfl rfl (eff_iop (r := .bool false) rfl rfl rfl rfl (by exact iop_neq_f (by omega))) ?_
            refine RD.op rfl rfl rfl (eff_pick (v := .t _) rfl rfl rfl rfl) ?_
            refine RD.op rfl rfl rfl (eff_move (v := .t _) rfl rfl rfl) ?_
            refine RD.gskip rfl rfl rfl rfl rfl rfl (by decide) ?_
            refine RD.gskip rfl rfl rfl rfl rfl rfl (by decide) ?_
            refine RD.gskip rfl rfl rfl rfl rfl rfl (by decide) ?_
            refine RD.gskip rfl rfl rfl rfl rfl rfl (by decide) ?_
            refine RD.gskip rfl rfl rfl rfl rfl rfl (by decide) ?_
            refine RD.gskip rfl rfl rfl rfl rfl rfl (by decide) ?_
            refine RD.gskip rfl rfl rfl rfl rfl rfl (by decide) ?_
            refine RD.gskip rfl rfl rfl rfl rfl rfl (by decide) ?_
            refine RD.gskip rfl rfl rfl rfl rfl rfl (by decide) ?_
            refine RD.gskip rfl rfl rfl rfl rfl rfl (by decide) ?_
            refine RD.gskip rfl rfl rfl rfl rfl rfl (by decide) ?_
            refine RD.op rfl rfl rfl (eff_pick (v := .t _) rfl rfl rfl rfl) ?_
            refine RD.nil ?_
            refine awp_cond rfl (fun h => nomatch h) (fun _ => ?_)
            refine awp_skip ?_
            refine awp_rw rfl ?_
            refine RW.op rfl rfl (eff_move (v := .t _) rfl rfl rfl) ?_
            refine RW.op rfl rfl (eff_iop rfl rfl rfl rfl (iadd (by omega))) ?_
            refine RW.op rfl rfl (eff_assign (v := .t _) rfl rfl rfl) ?_
            refine RW.nil ?_
            refine ⟨_, ?_, _, weak_keep (n := 158) (fr' := [(9, .ptr 9 0 0 0), (10, .t (encI (made l).accs.length)), (13, .t (encI (i : Nat))), (14, .t (encI (k : Nat))), (16, .ptr 16 0 0 0), (22, .t (encI ((z + 1) : Nat)))]) (st' := [(9, some ⟨5, 27, 0, [.t (encB (made l))]⟩), (16, some ⟨5, 27, 0, [.t (encB (transfer (made l) (2 * (i : Int)) (2 * (k : Int)) (amount p 12000)).1)]⟩)]) ⟨rfl, rfl, rfl, rfl, rfl, rfl, rfl, rfl, rfl, rfl, rfl, rfl, trivial⟩ ⟨rfl, okE_one rfl, rfl, okE_one rfl, trivial⟩, z + 1, (by omega), rfl, rfl⟩
            omega
          · refine awp_rd [(some 129, []), (some 130, []), (some 131, []), (some 132, []), (some 133, []), (some 134, []), (some 135, []), (some 136, []), (some 137, []), (some 138, []), (some 139, []), (some 140, []), (some 141, []), (some 142, []), (some 143, []), (some 144, []), (some 145, []), (some 146, []), (some 147, []), (some 148, []), (some 149, [])] [[], [], [0, 1], [0, 1, 2], [0, 1, 2, 3], [0, 1, 2, 3], [0, 1, 2, 3, 4, 5], [0, 1, 2, 3, 4, 5, 6], [0, 1, 2, 3, 4, 5, 6, 7], [0, 1, 2, 3, 4, 5, 6, 7, 8], [0, 1, 2, 3, 4, 5, 6, 7, 8, 9], [0, 1, 2, 3, 4, 5, 6, 7, 8], [0, 1, 2, 3, 4, 5, 6, 7, 8, 9, 10, 11], [0, 1, 2, 3, 4, 5, 6, 7, 8, 9, 10, 11, 12], [0, 1, 2, 3, 4, 5, 6, 7, 8], [0, 1, 2, 3, 4, 5, 6, 7, 8, 14], [0, 1, 2, 3, 4, 5, 6, 7, 8], [0, 1, 2, 3, 4, 5, 6, 7, 8, 14, 15, 16], [0, 1, 2, 3, 4, 5, 6, 7, 8, 14, 15, 16, 17], [0, 1, 2, 3, 4, 5, 6, 7, 8, 9, 10, 11, 12, 13, 14, 15, 16, 17, 18], [0, 1, 2, 3, 4, 5, 6, 7, 8, 9, 10, 11, 12, 13, 14, 15, 16, 17, 18, 19]] tm rfl rfl rfl rfl ?_
            refine RD.op rfl rfl rfl (eff_move (v := .t _) rfl rfl rfl) ?_
            refine RD.op rfl rfl rfl (eff_move (v := .t _) rfl rfl rfl) ?_
            refine RD.op rfl rfl rfl (eff_iop (r := .bool true) rfl rfl rfl rfl (by exact iop_neq_t (by omega))) ?_
            refine RD.op rfl rfl rfl (eff_move (v := .t _) rfl rfl rfl) ?_
            refine RD.gop rfl rfl rfl rfl rfl rfl rfl (eff_move (v := .t _) rfl rfl rfl) ?_
            refine RD.gop rfl rfl rfl rfl rfl rfl rfl (eff_move (v := .t _) rfl rfl rfl) ?_
            refine RD.gop rfl rfl rfl rfl rfl rfl rfl (eff_iop (r := .bool true) rfl rfl rfl rfl (by exact iop_neq_t (by omega))) ?_
            refine RD.op rfl rfl rfl (eff_pick (v := .t _) rfl rfl rfl rfl) ?_
            refine RD.op rfl rfl rfl (eff_move (v := .t _) rfl rfl rfl) ?_
            refine RD.gop rfl rfl rfl rfl rfl rfl rfl (eff_fieldAddr rfl rfl tf27_0 (by decide) rfl rfl rfl (Nat.le_of_ble_eq_true rfl)) ?_
            refine RD.gop rfl rfl rfl rfl rfl rfl rfl (eff_load (y := .t _) rfl rfl ti22 rfl (.one rfl rfl rfl rfl)) ?_
            refine RD.gop rfl rfl rfl rfl rfl rfl rfl (eff_move (v := .t _) rfl rfl rfl) ?_
            refine RD.gop rfl rfl rfl rfl rfl rfl rfl (eff_indexM rfl rfl te22 rfl rfl rfl (by first | assumption | exact List.getElem?_eq_getElem (by omega)) rfl (by decide)) ?_
            refine RD.gop rfl rfl rfl rfl rfl rfl rfl (eff_loadW rfl rfl ti57 rfl rfl rfl) ?_
            refine RD.gop rfl rfl rfl rfl rfl rfl rfl (eff_fieldAddr rfl rfl tf27_0 (by decide) rfl rfl rfl (Nat.le_of_ble_eq_true rfl)) ?_
            refine RD.gop rfl rfl rfl rfl rfl rfl rfl (eff_load (y := .t _) rfl rfl ti22 rfl (.one rfl rfl rfl rfl)) ?_
            refine RD.gop rfl rfl rfl rfl rfl rfl rfl (eff_move (v := .t _) rfl rfl rfl) ?_
            refine RD.gop rfl rfl rfl rfl rfl rfl rfl (eff_indexM rfl rfl te22 rfl rfl rfl (by first | assumption | exact List.getElem?_eq_getElem (by omega)) rfl (by decide)) ?_
            refine RD.gop rfl rfl rfl rfl rfl rfl rfl (eff_loadW rfl rfl ti57 rfl rfl rfl) ?_
            refine RD.gop rfl rfl rfl rfl rfl rfl rfl (eff_structNeqB (r := false) (ns := [_, _, _, _]) (ms := [_, _, _, _]) rfl rfl tq57 ti57 th57 rfl rfl rfl rfl (by have e := get_of (hot z (by omega) (by omega)) (by omega) (show z < (made l).accs.length by omega); simp [e])) ?_
            refine RD.op rfl rfl rfl (eff_pick (v := .t _) rfl rfl rfl rfl) ?_
            refine RD.nil ?_
            refine awp_cond rfl (fun h => nomatch h) (fun _ => ?_)
            refine awp_skip ?_
            refine awp_rw rfl ?_
            refine RW.op rfl rfl (eff_move (v := .t _) rfl rfl rfl) ?_
            refine RW.op rfl rfl (eff_iop rfl rfl rfl rfl (iadd (by omega))) ?_
            refine RW.op rfl rfl (eff_assign (v := .t _) rfl rfl rfl) ?_
            refine RW.nil ?_
            refine ⟨_, ?_, _, weak_keep (n := 158) (fr' := [(9, .ptr 9 0 0 0), (10, .t (encI (made l).accs.length)), (13, .t (encI (i : Nat))), (14, .t (encI (k : Nat))), (16, .ptr 16 0 0 0), (22, .t (encI ((z + 1) : Nat)))]) (st' := [(9, some ⟨5, 27, 0, [.t (encB (made l))]⟩), (16, some ⟨5, 27, 0, [.t (encB (transfer (made l) (2 * (i : Int)) (2 * (k : Int)) (amount p 12000)).1)]⟩)]) ⟨rfl, rfl, rfl, rfl, rfl, rfl, rfl, rfl, rfl, rfl, rfl, rfl, trivial⟩ ⟨rfl, okE_one rfl, rfl, okE_one rfl, trivial⟩, z + 1, (by omega), rfl, rfl⟩
            omega
      · try simp only [decide_eq_true_eq, decide_eq_false_iff_not, beq_iff_eq, bne_iff_ne, bne_eq_false_iff_eq, beq_eq_false_iff_ne, Bool.not_eq_true, Bool.not_eq_false, Bool.not_eq_true', Bool.not_eq_false', ne_eq] at h3
        refine awp_exit ?_
        refine awp_seq ?_
        refine awp_rd [(some 150, []), (some 151, []), (some 152, []), (some 153, []), (some 154, []), (some 155, []), (some 156, []), (some 157, []), (some 8, [])] [[], [0], [], [0, 1, 2], [0, 1, 2, 3], [0, 1, 2, 3, 4], [0, 1, 2, 3, 4, 5], [0, 1, 2, 3, 4, 5, 6], [0, 1, 2, 3, 4, 5, 6, 7]] tm rfl rfl rfl rfl ?_
        refine RD.op rfl rfl rfl (eff_load rfl rfl ti27 rfl (.whole rfl rfl rfl rfl rfl rfl)) ?_
        refine RD.op rfl rfl rfl (eff_callT ((by have h := total_ret (transfer (made l) (2 * (i : Int)) (2 * (k : Int)) (amount p 12000)).1 hVC.bok hVC.nb; rw [hto] at h; exact h)) co14 rfl rfl rfl rfl) ?_
        refine RD.op rfl rfl rfl (eff_load rfl rfl ti27 rfl (.whole rfl rfl rfl rfl rfl rfl)) ?_
        refine RD.op rfl rfl rfl (eff_callT (total_ret (made l) hVM.bok hVM.nb) co14 rfl rfl rfl rfl) ?_
        refine RD.op rfl rfl rfl (eff_structEqlB (r := true) (ns := [_, _, _]) (ms := [_, _, _]) rfl rfl tq25 ti25 th25 rfl rfl rfl rfl (by simp)) ?_
        refine RD.op rfl rfl rfl (eff_move (v := .t _) rfl rfl rfl) ?_
        refine RD.gop rfl rfl rfl rfl rfl rfl rfl (eff_callT (lives_ret) co11 rfl rfl rfl rfl) ?_
        refine RD.op rfl rfl rfl (eff_pick (v := .t _) rfl rfl rfl rfl) ?_
        refine RD.op rfl rfl rfl (eff_assign (v := .t _) rfl rfl rfl) ?_
        refine RD.nil ?_
        refine awp_ret ?_
        exact ⟨Or.inr rfl, [_], ⟨.tmp (.t _), trivial⟩, .refl _⟩

end Go.Tv.C24

end
section
namespace Go.Proofs.Ytlapnahjboljiaa
open Go Go.Tv Go.Tv.C24 Go.ChangeShapes Go.WideShapes Go.ChangeAt Go.RowKit
set_option linter.unusedVariables false
set_option maxRecDepth 100000
theorem leaseTransfers_contract (H : Type) (enc : TypeId × Value → H) (W : World) (base : Nat) (args : Array Value) (ds gs : List (DataW H)) (before : List MemPlace)
    (hval : ∀ (j : Nat) t v, Try.f10.params[j]? = some t → args[j]? = some v → Value.okWide Try.prog W .any base t v)
    (hW : DataW.Whole enc Try.prog Try.f10.params.toList Rows.leaseTransfersSpec.vars false W args.toList ds gs before) :
    Calls Try.prog 10 args W fun e W' => ∃ v, e = .returned v ∧ Rows.leaseTransfersSpec.post enc Try.prog Try.f10 false true false false W args v W' := by
  have hW' := hW
  obtain ⟨p, q, hA0, hV, rfl, hfz, hnd⟩ := hW
  have hA : DataW.TrodAll enc Try.prog W 0 (fun _ => true) true Try.f10.params.toList args.toList ds p := hA0
  rw [Try.params10] at hA hval
  obtain ⟨v0, vs0, d0, ds0, p0, q0, hargs, rfl, rfl, h0, r0⟩ := trodAll_cons hA
  obtain ⟨v1, vs1, d1, ds1, p1, q1, rfl, rfl, rfl, h1, r1⟩ := trodAll_cons r0
  obtain ⟨v2, vs2, d2, ds2, p2, q2, rfl, rfl, rfl, h2, r2⟩ := trodAll_cons r1
  obtain ⟨v3, vs3, d3, ds3, p3, q3, rfl, rfl, rfl, h3, r3⟩ := trodAll_cons r2
  obtain ⟨rfl, rfl, rfl⟩ := trodAll_nil r3
  obtain rfl : args = #[v0, v1, v2, v3] := by cases args; simp_all
  obtain ⟨rfl, rfl⟩ := trodVars_none hV
  have k0 := hval 0 38 v0 rfl rfl
  obtain ⟨xl, hxl, l, hll, hml, hpl⟩ := arg_slice Try.underlying38 rd38 k0 h0
  obtain rfl : xl = .sl (l.map encP) false := by simpa using hll
  unfold maxLen at hml
  have hnl : l.length ≤ 9223372036854775807 := by simpa using hml
  have k1 := hval 1 5 v1 rfl rfl
  obtain ⟨f, rfl, wf⟩ := arg_int Try.underlying5 k1 h1
  have hpf := wf_u8 wf
  have k2 := hval 2 5 v2 rfl rfl
  obtain ⟨g, rfl, wg⟩ := arg_int Try.underlying5 k2 h2
  have hpg := wf_u8 wg
  have k3 := hval 3 25 v3 rfl rfl
  obtain ⟨tsp, htsp, p, hep, hpp⟩ := arg_struct Try.underlying25 rd25 k3 h3
  rw [← hep] at htsp
  refine (law_calls (transfers_ret l hnl hpl f g hpf hpg p hpp) (vl_cons hxl (vl_cons (.int .u8 f) (vl_cons (.int .u8 g) (vl_cons htsp vl_nil))))).mono ?_
  rintro e W' ⟨rfl, hb⟩
  refine ⟨_, rfl, law_post (P := Try.prog) (by kernel_rfl) rfl (fun t ht => ?_) rfl Try.underlying4 hW' ⟨rfl, rfl, rfl⟩ hb⟩
  rw [Try.params10] at ht
  simp only [List.mem_cons, List.not_mem_nil, or_false] at ht
  rcases ht with rfl | rfl | rfl | rfl <;> exact ⟨by kernel_rfl, Nat.le_of_ble_eq_true (by kernel_rfl)⟩

theorem leaseTransfers_lifted (os : Os) (started : os.Started) (H : Type) (enc : TypeId × Value → H) :
    ReturnsInHanded {} Try.checked os 10 .any (Rows.leaseTransfersSpec.pre6 enc Try.prog Try.f10 Rows.leaseTransfersRow.domain false) (Rows.leaseTransfersSpec.post enc Try.prog Try.f10 false true false false) := by
  refine returnsInHanded_of_change (C := Try.checked) (by kernel_rfl) started (by kernel_rfl) Try.func10
    (ChangeSpec.witness6 (enc := enc) (C := Try.checked) false ⟨#[], #[.slice none 0 0, .int .u8 0, .int .u8 0, .agg #[.int .i64 0, .int .i64 0, .int .i64 0]], []⟩ 8 (by kernel_rfl) (by kernel_rfl) (by kernel_rfl) (by kernel_rfl)) ?_
  intro W base args ds gs before hval hW _ _
  exact leaseTransfers_contract H enc W base args ds gs before hval hW

theorem leaseTransfers_holds : Rows.LeaseTransfersSaid :=
  OpenClaim.holds_of_wide 10 Try.f10 rfl rfl rfl rfl rfl rfl rfl ⟨rfl, rfl, rfl, rfl, rfl⟩ rfl rfl rfl rfl rfl (by kernel_rfl) Try.func10 (by kernel_rfl)
    (of_decide_eq_true (by kernel_rfl)) (by unfold Func.isWrapper; first | (rw [if_pos (by decide +kernel)]; kernel_rfl) | (rw [if_neg (by decide +kernel)]; exact ⟨rfl, rfl⟩))
    (fun os started H enc _ => leaseTransfers_lifted os started H enc)

end Go.Proofs.Ytlapnahjboljiaa

end
