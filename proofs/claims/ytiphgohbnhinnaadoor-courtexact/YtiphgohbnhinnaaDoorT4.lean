/- CourtExact: for every input that reads as data, the call returns true and leaves its arguments as they were. No condition. -/
import Derived.Test.YtiphgohbnhinnaaDoorT3
import Derived.Test.YtiphgohbnhinnaaDoorT2
import Derived.Test.YtiphgohbnhinnaaDoorT1
import Derived.Test.YtiphgohbnhinnaaDoorRows
import Derived.ProofKit
import Derived.Test.YtiphgohbnhinnaaDoorTie
import Derived.Test.YtiphgohbnhinnaaDoorCards
import Derived.SevenTiedAt
set_option linter.unnecessarySimpa false
set_option linter.unusedVariables false
set_option linter.unusedSimpArgs false
section
open Go Go.Tv Go.Proofs
namespace Go.Tv.C36

structure Gst where
  recs : List Rcd
  sts : List Rep
  s : Rep
  reps : List Rep
  sn : Nat
  tick : Int

def gst0 : Gst := ⟨[], [], zr, [zr], 0, 0⟩
def gput (G : Gst) (r : Rcd) (sn : Nat) (tick : Int) : Gst := ⟨G.recs ++ [r], G.sts ++ [G.s], G.s, G.reps, sn, tick⟩
def garr (G : Gst) (f : Frm) (tick : Int) : Gst := ⟨G.recs, G.sts, apply G.s f, G.reps ++ [apply G.s f], G.sn, tick⟩
def repAt (G : Gst) (n : Int) : Rep := G.reps.getD (imax 0 ((G.reps.length : Int) - 1 - n / 15 % 3)).toNat zr
def gstep (F : List Frm) (n : Int) (G : Gst) : Gst :=
  if n / 3 % 5 < 2 ∧ G.sn < F.length then gput G ⟨G.tick + n % 3, 1, F.getD G.sn zf, zr, zd⟩ (G.sn + 1) (G.tick + n % 3)
  else if n / 3 % 5 = 2 ∧ 0 < G.sn then garr G (F.getD (n / 15 % (G.sn : Int)).toNat zf) (G.tick + n % 3)
  else if n / 3 % 5 = 3 then gput G ⟨G.tick + n % 3, 2, zf, repAt G n, zd⟩ G.sn (G.tick + n % 3)
  else gput G ⟨G.tick + n % 3, 3, zf, zr, ⟨G.tick + n % 3, n / 15 % 3, n / 45 % 4, n / 180 % 8⟩⟩ G.sn (G.tick + n % 3)
def gnext (F : List Frm) (x : Int) (G : Gst) : Gst := if G.recs.length < 16 then gstep F (around x 1000000) G else G
def gall (F : List Frm) (what : List Int) (i : Nat) : Gst := (what.take i).foldl (fun G x => gnext F x G) gst0
def ledger (l what : List Int) : List Rcd × List Rep := ((gall (frames l 7) what 30).recs, (gall (frames l 7) what 30).sts)

theorem gall_succ {F : List Frm} {what : List Int} {i : Nat} (h : i < what.length) : gall F what (i + 1) = gnext F what[i] (gall F what i) := by
  unfold gall; rw [take_succ_get h, List.foldl_append]; rfl
theorem gall_end {F : List Frm} {what : List Int} {i : Nat} (h : what.length ≤ i) : gall F what i = gall F what what.length := by
  unfold gall; rw [List.take_of_length_le h, List.take_length]
theorem gall_full {F : List Frm} {what : List Int} {i : Nat} (h : ¬ (gall F what i).recs.length < 16) : ∀ j, i ≤ j → gall F what j = gall F what i
  | 0, hj => by obtain rfl : i = 0 := by omega
                rfl
  | j + 1, hj => by
    rcases Nat.lt_or_ge j i with h1 | h1
    · obtain rfl : i = j + 1 := by omega
      rfl
    · have ih := gall_full h j h1
      rcases Nat.lt_or_ge j what.length with h2 | h2
      · rw [gall_succ h2, ih]; unfold gnext; rw [if_neg h]
      · rw [gall_end (i := j + 1) (by omega), ← gall_end (i := j) h2, ih]
/-- Where the generator's loop ends. -/
theorem gall_stop {F : List Frm} {what : List Int} {i : Nat} (hi : i ≤ what.length) (h30 : i ≤ 30) (h : ¬ (i < what.length ∧ (gall F what i).recs.length < 16 ∧ i < 30)) : gall F what 30 = gall F what i := by
  by_cases h1 : (gall F what i).recs.length < 16
  · rcases Nat.lt_or_ge i what.length with h2 | h2
    · have : i = 30 := by omega
      rw [this]
    · obtain rfl : i = what.length := by omega
      exact gall_end h30
  · exact gall_full h1 30 h30

/-- Frames that a generator sends. -/
structure FOK (F : List Frm) : Prop where
  inc : Inc F
  kb : KB F
  len : F.length ≤ 7
  bod : ∀ f, f ∈ F → f.body.length ≤ 1000000
  seq : ∀ f, f ∈ F → 0 ≤ f.seq ∧ f.seq ≤ 1000000

structure GI (F : List Frm) (k : Nat) (G : Gst) : Prop where
  sn : G.sn ≤ F.length
  sent : sentF G.recs = F.take G.sn
  len : G.sts.length = G.recs.length
  short : G.recs.length ≤ 16
  form : ∀ i, i < G.recs.length → form G.recs i = 0
  tick : 0 ≤ G.tick ∧ G.tick ≤ 2 * (k : Int)
  last : prevT G.recs G.recs.length ≤ G.tick
  s0 : 0 < G.recs.length → G.sts.getD 0 zr = zr
  e0 : G.recs.length = 0 → G.s = zr
  nxt : ∀ i, i + 1 < G.recs.length → G.sts.getD (i + 1) zr ∈ reachF (G.sts.getD i zr) (sentF (G.recs.take (i + 1)))
  cur : 0 < G.recs.length → G.s ∈ reachF (G.sts.getD (G.recs.length - 1) zr) (sentF G.recs)
  rne : 0 < G.reps.length
  rlen : G.reps.length ≤ k + 1
  reps : ∀ p, p ∈ G.reps → G.s ∈ reachF p (sentF G.recs)
  rhp : ∀ p, p ∈ G.reps → HP p
  heard : ∀ i, i < G.recs.length → (G.recs.getD i zc).kind = 2 → G.sts.getD i zr ∈ reachF (G.recs.getD i zc).rep (sentF (G.recs.take i))
  hp : ∀ r, r ∈ G.recs → HP r.rep
  bod : ∀ r, r ∈ G.recs → r.frame.body.length ≤ 1000000
  seq : ∀ r, r ∈ G.recs → 0 ≤ r.frame.seq ∧ r.frame.seq ≤ 1000000
  opr : ∀ r, r ∈ G.recs → r.dec.op ≤ 2
  shp : ∀ s, s ∈ G.sts → HP s
  chp : HP G.s
  cnx : NX (128 * (k : Int)) G.s
  snx : ∀ s, s ∈ G.sts → NX (128 * (k : Int)) s

theorem hpzr : HP zr := hp0 zr (List.mem_singleton.2 rfl)
theorem gi0 (F : List Frm) : GI F 0 gst0 where
  sn := Nat.zero_le _
  sent := rfl
  len := rfl
  short := by decide
  form := by intro i h; cases h
  tick := by decide
  last := by decide
  s0 := by intro h; cases h
  e0 := fun _ => rfl
  nxt := by intro i h; cases h
  cur := by intro h; cases h
  rne := by decide
  rlen := by decide
  reps := by intro p hp; rw [List.mem_singleton.1 hp]; exact List.mem_singleton.2 rfl
  rhp := by intro p hp; rw [List.mem_singleton.1 hp]; exact hpzr
  heard := by intro i h; cases h
  hp := by intro r h; cases h
  bod := by intro r h; cases h
  seq := by intro r h; cases h
  opr := by intro r h; cases h
  shp := by intro r h; cases h
  chp := hpzr
  cnx := ⟨Int.le_refl _, Int.le_refl _⟩
  snx := by intro r h; cases h

theorem getD_snoc_lt {α : Type} {l : List α} {x d : α} {i : Nat} (h : i < l.length) : (l ++ [x]).getD i d = l.getD i d := by simp [List.getD_eq_getElem?_getD, List.getElem?_append_left h]
theorem getD_snoc_eq {α : Type} {l : List α} {x d : α} : (l ++ [x]).getD l.length d = x := by simp [List.getD_eq_getElem?_getD]
theorem take_snoc {α : Type} {l : List α} {x : α} {i : Nat} (h : i ≤ l.length) : (l ++ [x]).take i = l.take i := List.take_append_of_le_length h
theorem sentF_snoc (l : List Rcd) (r : Rcd) : sentF (l ++ [r]) = sentF l ++ if r.kind = 1 then [r.frame] else [] := by
  unfold sentF
  rw [List.filter_append, List.map_append]
  congr 1
  by_cases hk : r.kind = 1
  · rw [if_pos hk, List.filter_cons, if_pos (decide_eq_true hk)]; rfl
  · rw [if_neg hk, List.filter_cons, if_neg (by rw [decide_eq_false hk]; decide)]; rfl
theorem reach_more_sent {p s : Rep} {l : List Rcd} {r : Rcd} (h : s ∈ reachF p (sentF l)) : s ∈ reachF p (sentF (l ++ [r])) := by
  rw [sentF_snoc]
  split
  · exact reach_cases.2 (.inl h)
  · rw [List.append_nil]; exact h

theorem gi_put {F : List Frm} {k : Nat} {G : Gst} (h : GI F k G) {r : Rcd} {sn : Nat} {t : Int} (hs : G.recs.length < 16) (ht : 0 ≤ t ∧ t ≤ 2 * ((k + 1 : Nat) : Int)) (hrt : r.tick = t)
    (hf : formR (prevT G.recs G.recs.length) r = 0) (hsn : sn ≤ F.length) (hse : (F.take G.sn ++ if r.kind = 1 then [r.frame] else []) = F.take sn)
    (hh : r.kind = 2 → G.s ∈ reachF r.rep (sentF G.recs)) (hr : HP r.rep) (hb : r.frame.body.length ≤ 1000000) (hq : 0 ≤ r.frame.seq ∧ r.frame.seq ≤ 1000000) (ho : r.dec.op ≤ 2) : GI F (k + 1) (gput G r sn t) where
  sn := hsn
  sent := by show sentF (G.recs ++ [r]) = _; rw [sentF_snoc, h.sent]; exact hse
  len := by show (G.sts ++ [G.s]).length = (G.recs ++ [r]).length; simp [h.len]
  short := by show (G.recs ++ [r]).length ≤ 16; simp; omega
  form := by
    intro i hi
    change i < (G.recs ++ [r]).length at hi
    show form (G.recs ++ [r]) i = 0
    rw [List.length_append, List.length_singleton] at hi
    rcases Nat.lt_or_ge i G.recs.length with h1 | h1
    · rw [form_app h1]; exact h.form i h1
    · obtain rfl : i = G.recs.length := by omega
      unfold Go.Tv.C36.form
      rw [getD_snoc_eq]
      have : prevT (G.recs ++ [r]) G.recs.length = prevT G.recs G.recs.length := by
        unfold prevT
        split
        · rfl
        · rw [getD_snoc_lt (by omega)]
      rw [this]; exact hf
  tick := ht
  last := by
    show prevT (G.recs ++ [r]) (G.recs ++ [r]).length ≤ t
    unfold prevT
    rw [List.length_append, List.length_singleton, if_neg (by omega), Nat.add_sub_cancel, getD_snoc_eq]
    omega
  s0 := by
    intro _
    show (G.sts ++ [G.s]).getD 0 zr = zr
    rcases Nat.eq_zero_or_pos G.recs.length with h1 | h1
    · have : G.sts = [] := List.length_eq_zero_iff.1 (by rw [h.len, h1])
      rw [this]; exact h.e0 h1
    · rw [getD_snoc_lt (by rw [h.len]; exact h1)]; exact h.s0 h1
  e0 := by intro h1; change (G.recs ++ [r]).length = 0 at h1; simp at h1
  nxt := by
    intro i hi
    change i + 1 < (G.recs ++ [r]).length at hi
    rw [List.length_append, List.length_singleton] at hi
    show (G.sts ++ [G.s]).getD (i + 1) zr ∈ reachF ((G.sts ++ [G.s]).getD i zr) (sentF ((G.recs ++ [r]).take (i + 1)))
    rw [take_snoc (by omega), getD_snoc_lt (i := i) (by rw [h.len]; omega)]
    rcases Nat.lt_or_ge (i + 1) G.recs.length with h1 | h1
    · rw [getD_snoc_lt (by rw [h.len]; exact h1)]; exact h.nxt i h1
    · obtain h2 : i + 1 = G.recs.length := by omega
      have := h.cur (by omega)
      rw [show i + 1 = G.sts.length from by rw [h.len]; exact h2, getD_snoc_eq, h.len, List.take_length]
      rwa [show G.recs.length - 1 = i from by omega] at this
  cur := by
    intro _
    show G.s ∈ reachF ((G.sts ++ [G.s]).getD ((G.recs ++ [r]).length - 1) zr) _
    rw [List.length_append, List.length_singleton, Nat.add_sub_cancel, ← h.len, getD_snoc_eq]
    exact reach_self _ _
  rne := h.rne
  rlen := by have := h.rlen; show G.reps.length ≤ k + 1 + 1; omega
  reps := fun p hp => reach_more_sent (h.reps p hp)
  rhp := h.rhp
  heard := by
    intro i hi
    change i < (G.recs ++ [r]).length at hi
    rw [List.length_append, List.length_singleton] at hi
    show ((G.recs ++ [r]).getD i zc).kind = 2 → (G.sts ++ [G.s]).getD i zr ∈ reachF ((G.recs ++ [r]).getD i zc).rep (sentF ((G.recs ++ [r]).take i))
    rw [take_snoc (by omega)]
    rcases Nat.lt_or_ge i G.recs.length with h1 | h1
    · rw [getD_snoc_lt h1, getD_snoc_lt (by rw [h.len]; exact h1)]; exact h.heard i h1
    · obtain rfl : i = G.recs.length := by omega
      rw [getD_snoc_eq, ← h.len, getD_snoc_eq, h.len, List.take_length]
      exact hh
  hp := by intro q hq'; rcases List.mem_append.1 hq' with h1 | h1
           · exact h.hp q h1
           · rw [List.mem_singleton.1 h1]; exact hr
  bod := by intro q hq'; rcases List.mem_append.1 hq' with h1 | h1
            · exact h.bod q h1
            · rw [List.mem_singleton.1 h1]; exact hb
  seq := by intro q hq'; rcases List.mem_append.1 hq' with h1 | h1
            · exact h.seq q h1
            · rw [List.mem_singleton.1 h1]; exact hq
  opr := by intro q hq'; rcases List.mem_append.1 hq' with h1 | h1
            · exact h.opr q h1
            · rw [List.mem_singleton.1 h1]; exact ho
  shp := by intro q hq'; rcases List.mem_append.1 hq' with h1 | h1
            · exact h.shp q h1
            · rw [List.mem_singleton.1 h1]; exact h.chp
  chp := h.chp
  cnx := h.cnx.mono (by omega)
  snx := by intro q hq'; rcases List.mem_append.1 hq' with h1 | h1
            · exact (h.snx q h1).mono (by omega)
            · rw [List.mem_singleton.1 h1]; exact h.cnx.mono (by omega)

theorem gi_arr {F : List Frm} {k : Nat} {G : Gst} (hF : FOK F) (h : GI F k G) (hk : k ≤ 1000) {f : Frm} {t : Int} (ht : 0 ≤ t ∧ t ≤ 2 * ((k + 1 : Nat) : Int)) (ht2 : G.tick ≤ t) (hf : f ∈ F.take G.sn) : GI F (k + 1) (garr G f t) := by
  have hin : Inc (sentF G.recs) := by rw [h.sent]; exact hF.inc.sublist (List.take_sublist _ _)
  have hkb : KB (sentF G.recs) := by rw [h.sent]; exact fun g hg => hF.kb g (List.mem_of_mem_take hg)
  have harr : apply G.s f ∈ reachF G.s (sentF G.recs) := reach_arrive (by rw [h.sent]; exact hf) _
  exact {
    sn := h.sn, sent := h.sent, len := h.len, short := h.short, form := h.form, tick := ht, last := Int.le_trans h.last ht2, s0 := h.s0
    e0 := by
      intro h1
      have h2 : G.recs = [] := List.length_eq_zero_iff.1 h1
      have h3 := h.sent
      rw [h2] at h3
      rw [← h3] at hf
      cases hf
    nxt := h.nxt
    cur := fun h1 => reach_trans hin hkb _ _ _ (h.cur h1) harr
    rne := by show 0 < (G.reps ++ [apply G.s f]).length; simp
    rlen := by have := h.rlen; show (G.reps ++ [apply G.s f]).length ≤ k + 1 + 1; simp; omega
    reps := by
      intro p hp
      rcases List.mem_append.1 hp with h1 | h1
      · exact reach_trans hin hkb _ _ _ (h.reps p h1) harr
      · rw [List.mem_singleton.1 h1]; exact reach_self _ _
    rhp := by
      intro p hp
      rcases List.mem_append.1 hp with h1 | h1
      · exact h.rhp p h1
      · rw [List.mem_singleton.1 h1]; exact apply_hp h.chp
    heard := h.heard, hp := h.hp, bod := h.bod, seq := h.seq, opr := h.opr, shp := h.shp, chp := apply_hp h.chp
    cnx := (apply_nx h.cnx (by omega)).mono (by omega)
    snx := fun q hq => (h.snx q hq).mono (by omega) }

theorem GI.up {F : List Frm} {k : Nat} {G : Gst} (h : GI F k G) : GI F (k + 1) G :=
  { h with tick := by have := h.tick; omega, cnx := h.cnx.mono (by omega), snx := fun q hq => (h.snx q hq).mono (by omega), rlen := by have := h.rlen; omega }
theorem formR_ok {p : Int} {r : Rcd} (hk : r.kind = 1 ∨ r.kind = 2) (ht : 0 ≤ r.tick ∧ r.tick ≤ 1000000) (hp : p ≤ r.tick) : formR p r = 0 := by
  unfold formR
  rw [if_neg (by omega), if_neg (by omega), if_neg (by omega), if_pos (by omega)]
theorem formR_dec {p : Int} {r : Rcd} (hk : r.kind = 3) (ht : 0 ≤ r.tick ∧ r.tick ≤ 1000000) (hp : p ≤ r.tick) (h1 : r.dec.tick = r.tick) (h2 : 0 ≤ r.dec.kind ∧ r.dec.kind ≤ 3) (h3 : 0 ≤ r.dec.seq ∧ r.dec.seq ≤ 1000000) : formR p r = 0 := by
  unfold formR
  rw [if_neg (by omega), if_neg (by omega), if_neg (by omega), if_neg (by omega), if_neg (by omega)]
theorem gi_step {F : List Frm} {k : Nat} {G : Gst} (hF : FOK F) (h : GI F k G) (hk : k ≤ 1000) (hs : G.recs.length < 16) {n : Int} (hn : 0 ≤ n) : GI F (k + 1) (gstep F n G) := by
  have ht := h.tick
  have h3 : 0 ≤ n % 3 ∧ n % 3 < 3 := by omega
  have hl := h.last
  unfold gstep
  split
  · rename_i hc
    refine gi_put h hs (by omega) rfl (formR_ok (.inl rfl) (by show 0 ≤ G.tick + n % 3 ∧ G.tick + n % 3 ≤ 1000000; omega) (by show prevT G.recs G.recs.length ≤ G.tick + n % 3; omega)) (by omega) ?_ (fun e => by cases e) hpzr ?_ ?_ (by show (0 : Int) ≤ 2; decide)
    · show _ ++ [F.getD G.sn zf] = _
      rw [take_succ_get hc.2]; simp [List.getD_eq_getElem?_getD, hc.2]
    · show (F.getD G.sn zf).body.length ≤ _
      rw [show F.getD G.sn zf = F[G.sn]'hc.2 from by simp [List.getD_eq_getElem?_getD, hc.2]]
      exact hF.bod _ (List.getElem_mem _)
    · show 0 ≤ (F.getD G.sn zf).seq ∧ _
      rw [show F.getD G.sn zf = F[G.sn]'hc.2 from by simp [List.getD_eq_getElem?_getD, hc.2]]
      exact hF.seq _ (List.getElem_mem _)
  · split
    · rename_i _ hc
      have h1 := Int.emod_nonneg (n / 15) (show (G.sn : Int) ≠ 0 by omega)
      have h2 := Int.emod_lt_of_pos (n / 15) (show (0 : Int) < G.sn by omega)
      have hsn := h.sn
      have hj : (n / 15 % (G.sn : Int)).toNat < (F.take G.sn).length := by rw [List.length_take]; omega
      refine gi_arr hF h (by omega) (by omega) (by omega) ?_
      have : F.getD (n / 15 % (G.sn : Int)).toNat zf = (F.take G.sn)[(n / 15 % (G.sn : Int)).toNat]'hj := by
        rw [List.getElem_take, List.getD_eq_getElem?_getD, List.getElem?_eq_getElem (by omega)]; rfl
      rw [this]
      exact List.getElem_mem _
    · split
      · have hm : repAt G n ∈ G.reps := by
          unfold repAt
          have h4 : (imax 0 ((G.reps.length : Int) - 1 - n / 15 % 3)).toNat < G.reps.length := by
            have := h.rne
            unfold imax
            split <;> omega
          rw [List.getD_eq_getElem?_getD, List.getElem?_eq_getElem h4]
          exact List.getElem_mem _
        refine gi_put h hs (by omega) rfl (formR_ok (.inr rfl) (by show 0 ≤ G.tick + n % 3 ∧ G.tick + n % 3 ≤ 1000000; omega) (by show prevT G.recs G.recs.length ≤ G.tick + n % 3; omega)) h.sn ?_ (fun _ => h.reps _ hm) (h.rhp _ hm) (by show (0 : Nat) ≤ _; omega) (by show (0 : Int) ≤ 0 ∧ (0 : Int) ≤ 1000000; decide) (by show (0 : Int) ≤ 2; decide)
        show _ ++ (if (2 : Int) = 1 then _ else []) = _
        rw [if_neg (by decide), List.append_nil]
      · refine gi_put h hs (by omega) rfl (formR_dec rfl (by show 0 ≤ G.tick + n % 3 ∧ G.tick + n % 3 ≤ 1000000; omega) (by show prevT G.recs G.recs.length ≤ G.tick + n % 3; omega) rfl (by show 0 ≤ n / 45 % 4 ∧ n / 45 % 4 ≤ 3; omega) (by show 0 ≤ n / 180 % 8 ∧ n / 180 % 8 ≤ 1000000; omega)) h.sn ?_ (fun e => by cases e) hpzr (by show (0 : Nat) ≤ _; omega) (by show (0 : Int) ≤ 0 ∧ (0 : Int) ≤ 1000000; decide) (by show n / 15 % 3 ≤ 2; omega)
        show _ ++ (if (3 : Int) = 1 then _ else []) = _
        rw [if_neg (by decide), List.append_nil]
theorem gi_all {F : List Frm} (hF : FOK F) (what : List Int) : ∀ i, i ≤ what.length → i ≤ 1000 → GI F i (gall F what i)
  | 0, _, _ => gi0 F
  | i + 1, hi, hk => by
    have ih := gi_all hF what i (by omega) (by omega)
    rw [gall_succ (by omega)]
    unfold gnext
    split
    · rename_i hs; exact gi_step hF ih (by omega) hs (around_range (by decide)).1
    · exact ih.up
theorem nSent_sentF (l : List Rcd) : (l.filter fun r => decide (r.kind = 1)).length = (sentF l).length := by unfold sentF; rw [List.length_map]
theorem GI.led {F : List Frm} {k : Nat} {G : Gst} (hF : FOK F) (h : GI F k G) (hk : k ≤ 1000) : Led G.recs G.sts where
  len := h.len
  short := h.short
  form := h.form
  inc := by rw [h.sent]; exact hF.inc.sublist (List.take_sublist _ _)
  kb := by rw [h.sent]; exact fun g hg => hF.kb g (List.mem_of_mem_take hg)
  s0 := h.s0
  nxt := h.nxt
  heard := h.heard
  okl := ⟨by have := h.short; omega, by rw [nSent_sentF, h.sent, List.length_take]; have := hF.len; omega, h.hp, h.bod, h.seq⟩
  opr := h.opr
  shp := h.shp
  snx := fun s hs => (h.snx s hs).mono (by omega)
theorem frames_ok (l : List Int) : FOK (frames l 7) where
  inc := by
    unfold Inc
    rw [List.pairwise_iff_getElem]
    intro i j hi hj hij
    rw [frames_get, frames_get, frame_key, frame_key]
    exact keyAt_mono l hij
  kb := by
    intro f hf
    obtain ⟨j, hj, rfl⟩ := frames_mem hf
    rw [frame_key]
    have := keyAt_range l j
    omega
  len := by rw [frames_len]; omega
  bod := by intro f hf; obtain ⟨j, _, rfl⟩ := frames_mem hf; rw [frame_body]; decide
  seq := by
    intro f hf
    obtain ⟨j, hj, rfl⟩ := frames_mem hf
    have := around_range (n := l.getD j 0) (m := 1000000) (by decide)
    have hm : 0 ≤ imax 0 ((j : Int) - 3) ∧ imax 0 ((j : Int) - 3) ≤ 20 := by unfold imax; split <;> omega
    unfold frameAt frm
    split
    · show 0 ≤ imax 0 ((j : Int) - 3) + around (l.getD j 0) 1000000 % 7 ∧ imax 0 ((j : Int) - 3) + around (l.getD j 0) 1000000 % 7 ≤ 1000000; omega
    · split
      · show 0 ≤ around (l.getD j 0) 1000000 / 84 % 300 ∧ around (l.getD j 0) 1000000 / 84 % 300 ≤ 1000000; omega
      · show 0 ≤ imax 0 ((j : Int) - 3) + around (l.getD j 0) 1000000 % 7 ∧ imax 0 ((j : Int) - 3) + around (l.getD j 0) 1000000 % 7 ≤ 1000000; omega
theorem ledger_led (l what : List Int) : Led (ledger l what).1 (ledger l what).2 := by
  unfold ledger
  rcases Nat.lt_or_ge what.length 30 with h | h
  · rw [gall_end (i := 30) (by omega)]
    exact (gi_all (frames_ok l) what what.length (Nat.le_refl _) (by omega)).led (frames_ok l) (by omega)
  · exact (gi_all (frames_ok l) what 30 h (by omega)).led (frames_ok l) (by omega)

/-! ### The generator's steps -/
section
variable {F : List Frm} {what : List Int} {i : Nat}
theorem gall_on (hi : i < what.length) (h16 : (gall F what i).recs.length < 16) : gall F what (i + 1) = gstep F (around what[i] 1000000) (gall F what i) := by
  rw [gall_succ hi]; unfold gnext; rw [if_pos h16]
theorem gall_send {n : Int} {sn : Nat} (hi : i < what.length) (hn : around what[i] 1000000 = n) (h16 : (gall F what i).recs.length < 16) (hs : sn = (gall F what i).sn) (c : n / 3 % 5 < 2) (c2 : sn < F.length) :
    gall F what (i + 1) = gput (gall F what i) ⟨(gall F what i).tick + n % 3, 1, F[sn], zr, zd⟩ (sn + 1) ((gall F what i).tick + n % 3) := by
  subst hs hn
  rw [gall_on hi h16]; unfold gstep
  rw [if_pos ⟨c, c2⟩, show F.getD (gall F what i).sn zf = F[(gall F what i).sn] from by simp [List.getD_eq_getElem?_getD, c2]]
theorem gall_arr {n : Int} {sn q : Nat} (hi : i < what.length) (hn : around what[i] 1000000 = n) (h16 : (gall F what i).recs.length < 16) (hs : sn = (gall F what i).sn) (c : n / 3 % 5 = 2) (c2 : 0 < sn) (hq : n / 15 % (sn : Int) = (q : Int)) (hqf : q < F.length) :
    gall F what (i + 1) = garr (gall F what i) F[q] ((gall F what i).tick + n % 3) := by
  subst hs hn
  rw [gall_on hi h16]; unfold gstep
  rw [if_neg (by omega), if_pos ⟨c, c2⟩, hq, Int.toNat_natCast, show F.getD q zf = F[q] from by simp [List.getD_eq_getElem?_getD, hqf]]
theorem gall_hear {n : Int} {sn q : Nat} (hi : i < what.length) (hn : around what[i] 1000000 = n) (h16 : (gall F what i).recs.length < 16) (hs : sn = (gall F what i).sn) (c : n / 3 % 5 = 3) (hq : imax 0 (((gall F what i).reps.length : Int) - 1 - n / 15 % 3) = (q : Int)) (hql : q < (gall F what i).reps.length) :
    gall F what (i + 1) = gput (gall F what i) ⟨(gall F what i).tick + n % 3, 2, zf, (gall F what i).reps[q], zd⟩ sn ((gall F what i).tick + n % 3) := by
  subst hs hn
  rw [gall_on hi h16]; unfold gstep repAt
  rw [if_neg (by omega), if_neg (by omega), if_pos c, hq, Int.toNat_natCast, show (gall F what i).reps.getD q zr = (gall F what i).reps[q] from by simp [List.getD_eq_getElem?_getD, hql]]
theorem gall_dec {n : Int} {sn : Nat} (hi : i < what.length) (hn : around what[i] 1000000 = n) (h16 : (gall F what i).recs.length < 16) (hs : sn = (gall F what i).sn) (c1 : ¬ (n / 3 % 5 < 2 ∧ sn < F.length)) (c2 : ¬ (n / 3 % 5 = 2 ∧ 0 < sn)) (c3 : ¬ n / 3 % 5 = 3) :
    gall F what (i + 1) = gput (gall F what i) ⟨(gall F what i).tick + n % 3, 3, zf, zr, ⟨(gall F what i).tick + n % 3, n / 15 % 3, n / 45 % 4, n / 180 % 8⟩⟩ sn ((gall F what i).tick + n % 3) := by
  subst hs hn
  rw [gall_on hi h16]; unfold gstep
  rw [if_neg c1, if_neg c2, if_neg c3]
end
theorem mapT_snoc {α : Type} {f : α → Tr} {l : List α} {x : α} {y : AV} (h : y = .t (f x)) : (l.map f).map AV.t ++ [y] = ((l ++ [x]).map f).map .t := by subst h; simp
theorem elR {l : List Rep} {i : Nat} (h : i < l.length) : ((l.map encR).map AV.t)[i]? = some (.t (encR l[i])) := by simp [h]

/-! ### A ledger with one field replaced -/
/-! ### The examples -/
abbrev dAg : Dec := ⟨3, 0, 1, 0⟩
abbrev dTo : Dec := ⟨3, 0, 3, 0⟩
abbrev rSe : Rcd := ⟨0, 1, zf, zr, zd⟩
abbrev rHe : Rcd := ⟨3, 2, zf, ⟨1, 0, 1, false⟩, zd⟩
abbrev rX : Rcd := ⟨3, 3, zf, zr, dAg⟩
abbrev rY : Rcd := ⟨3, 3, zf, zr, dTo⟩
abbrev late4 : List Rcd := [rSe, rX, rY, rHe]
abbrev early4 : List Rcd := [rSe, rHe, rX, rY]
theorem livA : judge late4 dAg = (zv, 0) := by decide +kernel
theorem livB : judge late4 dTo = (⟨false, ⟨1, 0, 1, false⟩⟩, 0) := by decide +kernel
theorem livC : judge early4 dAg = (⟨true, zr⟩, 0) := by decide +kernel
theorem livD : held early4 = ([2], 0) := by decide +kernel
theorem hp1 : HP ⟨1, 0, 1, false⟩ := ⟨by decide, by decide⟩
theorem okL4 {l : List Rcd} (h : ∀ r, r ∈ l → r = rSe ∨ r = rX ∨ r = rY ∨ r = rHe) (hl : l.length ≤ 12) : OKL l where
  len := by omega
  few := Nat.le_trans (List.length_filter_le _ _) hl
  hp := by intro r hr; rcases h r hr with rfl | rfl | rfl | rfl <;> first | exact hpzr | exact hp1
  bod := by intro r hr; rcases h r hr with rfl | rfl | rfl | rfl <;> exact Nat.zero_le _
  seq := by intro r hr; rcases h r hr with rfl | rfl | rfl | rfl <;> exact ⟨Int.le_refl _, by decide⟩
theorem okLate : OKL late4 := okL4 (by simp) (by decide)
theorem okEarly : OKL early4 := okL4 (by simp) (by decide)
end Go.Tv.C36

end
section
open Go Go.Tv Go.Proofs
namespace Go.Tv.C36
set_option maxRecDepth 20000
set_option maxHeartbeats 2000000
set_option linter.unusedSimpArgs false
set_option linter.unusedVariables false
theorem ledger_ret (l what : List Int) (hI : ∀ x, x ∈ l → I64 x) (hl : l.length ≤ 9223372036854775807) (hJ : ∀ x, x ∈ what → I64 x) (hwl : what.length ≤ 9223372036854775807) : Ret Tryd.prog 17 [.sl (l.map encI) false, .sl (what.map encI) false] (.tup [.sl ((ledger l what).1.map encC) false, .sl ((ledger l what).2.map encR) false]) := by
  refine ret_of_awp Tryd.func17 rfl (Nat.le_of_ble_eq_true rfl) ?_
  refine awp_seq ?_
  refine awp_rw rfl ?_
  refine asT ?_
  refine asT ?_
  refine RW.nil ?_
  refine awp_seq ?_
  refine awp_rw rfl ?_
  refine mvT ?_
  refine RW.op rfl rfl (eff_callT (frames_ret l 7 hI hl (by decide)) co36 rfl rfl rfl rfl) ?_
  refine asT ?_
  refine RW.nil ?_
  refine awp_seq ?_
  refine awp_rw rfl ?_
  refine asT ?_
  refine RW.nil ?_
  show AWP _ _ _ _
  refine awp_weak (weak_adopt (d := 7) (id := 7) (k := 15) (ty := 47) rfl rfl) ?_
  refine awp_seq ?_
  refine awp_rw rfl ?_
  refine asT ?_
  refine RW.nil ?_
  show AWP _ _ _ _
  refine awp_weak (weak_adopt (d := 8) (id := 8) (k := 4) (ty := 23) rfl rfl) ?_
  refine awp_seq ?_
  refine awp_rw rfl ?_
  refine RW.op rfl rfl (eff_buildT (ys := [_, _, _, _]) rfl rfl tz23 tg23 rfl) ?_
  refine RW.new rfl rfl (eff_allocK (k := 4) (id := 9) rfl rfl tz23 rfl rfl) ?_
  refine RW.store rfl rfl (eff_storeW (v := .t _) (els := [_]) (els' := [_]) rfl rfl ti23 rfl rfl rfl rfl rfl rfl rfl rfl rfl) ?_
  refine RW.nil ?_
  refine awp_seq ?_
  refine awp_rw rfl ?_
  refine RW.op rfl rfl (eff_load rfl rfl ti23 rfl (.whole rfl rfl rfl rfl rfl rfl)) ?_
  refine RW.new rfl rfl (eff_buildSliceL (id := 20) (els := [.t (.agg [_, _, _, _])]) rfl rfl te33 tz23 rfl (by decide) (by decide) rfl rfl rfl rfl) ?_
  refine asO ?_
  refine RW.nil ?_
  refine awp_seq ?_
  refine awp_rw rfl ?_
  refine asT ?_
  refine RW.nil ?_
  refine awp_seq ?_
  refine awp_rw rfl ?_
  refine asT ?_
  refine RW.nil ?_
  refine awp_seq ?_
  refine awp_seq ?_
  refine awp_rw rfl ?_
  refine asT ?_
  refine RW.nil ?_
  refine awp_block ?_
  refine awp_loopW (fun m s => ∃ (i : Nat) (g7 : Nat) (g8 : Nat) (g0 : Nat) (n7 : Nat) (n8 : Nat) (n0 : Nat) (e7 : List AV) (e8 : List AV) (e0 : List AV) (cs : Rep) (sn : Nat) (tk : Int), (i ≤ what.length) ∧ (i ≤ 30) ∧ (n7 = (gall (frames l 7) what i).recs.length) ∧ (n8 = (gall (frames l 7) what i).sts.length) ∧ (n0 = (gall (frames l 7) what i).reps.length) ∧ (e7 = ((gall (frames l 7) what i).recs.map encC).map .t) ∧ (e8 = ((gall (frames l 7) what i).sts.map encR).map .t) ∧ (e0 = ((gall (frames l 7) what i).reps.map encR).map .t) ∧ (cs = (gall (frames l 7) what i).s) ∧ (sn = (gall (frames l 7) what i).sn) ∧ (tk = (gall (frames l 7) what i).tick) ∧ m = what.length - i ∧ s = ⟨129, [(1, .t (.sl (what.map encI) false)), (6, .t (.sl ((frames l 7).map encF) false)), (7, .own 7 g7 0 n7), (8, .own 8 g8 0 n8), (9, .ptr 9 0 0 0), (10, .own 20 g0 0 n0), (11, .t (encI (sn : Nat))), (12, .t (encI tk)), (13, .t (encI (i : Nat)))], [(7, some ⟨15, 47, g7, e7⟩), (8, some ⟨4, 23, g8, e8⟩), (9, some ⟨4, 23, 0, [.t (encR cs)]⟩), (20, some ⟨4, 23, g0, e0⟩)]⟩) (_) (⟨_, weak_keep (n := 129) (fr' := [(1, .t (.sl (what.map encI) false)), (6, .t (.sl ((frames l 7).map encF) false)), (7, .own 7 0 0 0), (8, .own 8 0 0 0), (9, .ptr 9 0 0 0), (10, .own 20 0 0 1), (11, .t (encI (0 : Nat))), (12, .t (encI 0)), (13, .t (encI (0 : Nat)))]) (st' := [(7, some ⟨15, 47, 0, ([])⟩), (8, some ⟨4, 23, 0, ([])⟩), (9, some ⟨4, 23, 0, [.t (encR zr)]⟩), (20, some ⟨4, 23, 0, _⟩)]) ⟨rfl, rfl, rfl, rfl, rfl, rfl, rfl, rfl, rfl, rfl, rfl, rfl, rfl, rfl, rfl, rfl, rfl, rfl, trivial⟩ ⟨rfl, (by first | exact okE_nil | exact okE_one rfl | (rw [he7]; exact okE_t) | (rw [he7]; intro x hx; simp only [List.mem_append, List.mem_map, List.mem_singleton] at hx; rcases hx with ⟨y, _, rfl⟩ | rfl <;> rfl)), rfl, (by first | exact okE_nil | exact okE_one rfl | (rw [he8]; exact okE_t) | (rw [he8]; intro x hx; simp only [List.mem_append, List.mem_map, List.mem_singleton] at hx; rcases hx with ⟨y, _, rfl⟩ | rfl <;> rfl)), rfl, okE_one rfl, rfl, (by first | exact okE_nil | exact okE_one rfl | (rw [he0]; exact okE_t) | (rw [he0]; intro x hx; simp only [List.mem_append, List.mem_map, List.mem_singleton] at hx; rcases hx with ⟨y, _, rfl⟩ | rfl <;> rfl)), trivial⟩, 0, 0, 0, 0, 0, 0, 1, [], [], _, zr, 0, 0, (by omega), (by omega), (by rfl), (by rfl), (by rfl), (by rfl), (by rfl), (by rfl), (by rfl), (by rfl), (by rfl), rfl, rfl⟩) ?_
  rintro m s ⟨i, g7, g8, g0, n7, n8, n0, e7, e8, e0, cs, sn, tk, hi, h30, hn7, hn8, hn0, he7, he8, he0, hcs, hsn, htk, rfl, rfl⟩
  have hgi := gi_all (frames_ok l) what i hi (by omega)
  have hg1 := hgi.sn
  have hg2 := hgi.tick
  have hg3 := hgi.rlen
  have hg4 := hgi.rne
  have hg5 := hgi.len
  have hg6 := hgi.short
  have hg7 : HP cs := by rw [hcs]; exact hgi.chp
  have hfl : (frames l 7).length ≤ 7 := by rw [frames_len]; omega
  refine awp_seq ?_
  refine awp_seq ?_
  refine awp_rw rfl ?_
  refine mvT ?_
  refine mvT ?_
  refine RW.op rfl rfl (eff_lenM rfl rfl te26 rfl) ?_
  refine ioT ?_
  refine mvT ?_
  refine RW.split 25 rfl (fun h1 => ?_) (fun h1 => ?_)
  · try simp only [cl] at h1
    refine RW.gop rfl rfl rfl rfl rfl rfl (eff_move (v := .own _ _ _ _) rfl rfl rfl) ?_
    refine RW.gop rfl rfl rfl rfl rfl rfl (eff_len rfl rfl te32 rfl rfl rfl) ?_
    refine RW.gop rfl rfl rfl rfl rfl rfl (eff_iop rfl rfl rfl rfl rfl) ?_
    refine pkT ?_
    refine mvT ?_
    refine RW.split 30 rfl (fun h2 => ?_) (fun h2 => ?_)
    · try simp only [cl] at h2
      refine RW.gop rfl rfl rfl rfl rfl rfl (eff_move (v := .t _) rfl rfl rfl) ?_
      refine RW.gop rfl rfl rfl rfl rfl rfl (eff_iop rfl rfl rfl rfl rfl) ?_
      refine pkT ?_
      refine RW.nil ?_
      refine awp_cond rfl (fun h3 => ?_) (fun h3 => ?_)
      · try simp only [cl] at h3
        refine awp_skip ?_
        refine awp_seq ?_
        refine awp_block ?_
        refine awp_seq ?_
        refine awp_rw rfl ?_
        have hil : i < what.length := by omega
        refine mvT ?_
        refine mvT ?_
        refine RW.op rfl rfl (eff_indexM rfl rfl te26 rfl rfl rfl (by first | assumption | exact List.getElem?_eq_getElem (by omega)) rfl (by decide)) ?_
        refine RW.op rfl rfl (eff_loadW1 rfl rfl ti3 rfl rfl) ?_
        refine RW.op rfl rfl (eff_callT (around_ret _ _ (hJ _ (List.getElem_mem _)) (by omega)) co13 rfl rfl rfl rfl) ?_
        refine asT ?_
        refine RW.nil ?_
        refine awp_seq ?_
        refine awp_rw rfl ?_
        have har := around_range (n := what[i]'hil) (m := 1000000) (by decide)
        refine mvT ?_
        refine mvT ?_
        refine RW.op rfl rfl (eff_remE (r := (around (what[i]'hil) 1000000) % 3) rfl rfl rfl rfl (by decide) (tmod_pos (by omega))) ?_
        refine RW.op rfl rfl (eff_iop (r := encI (tk + (around (what[i]'hil) 1000000) % 3)) rfl rfl rfl rfl (iadd (by omega))) ?_
        refine asT ?_
        refine RW.nil ?_
        refine awp_seq ?_
        refine awp_rw rfl ?_
        refine mvT ?_
        refine RW.op rfl rfl (eff_buildT (ys := [_, _, _, _, _, _, _, _, _, _, _, _, _, _, _]) rfl rfl tz47 tg47 rfl) ?_
        refine RW.new rfl rfl (eff_allocK (k := 15) (id := 15) rfl rfl tz47 rfl rfl) ?_
        refine RW.store rfl rfl (eff_storeW (v := .t _) (els := [_]) (els' := [_]) rfl rfl ti47 rfl rfl rfl rfl rfl rfl rfl rfl rfl) ?_
        refine RW.nil ?_
        refine awp_seq ?_
        refine awp_block ?_
        refine awp_seq ?_
        refine awp_rw rfl ?_
        refine mvT ?_
        refine RW.op rfl rfl (eff_quoE (r := (around (what[i]'hil) 1000000) / 3) rfl rfl rfl rfl (by decide) (quoN (by omega) (by decide))) ?_
        refine RW.op rfl rfl (eff_remE (r := ((around (what[i]'hil) 1000000) / 3) % 5) rfl rfl rfl rfl (by decide) (tmod_pos (by omega))) ?_
        refine ioT ?_
        refine mvT ?_
        refine RW.split 65 rfl (fun h4 => ?_) (fun h4 => ?_)
        · try simp only [cl] at h4
          refine RW.gop rfl rfl rfl rfl rfl rfl (eff_move (v := .t _) rfl rfl rfl) ?_
          refine RW.gop rfl rfl rfl rfl rfl rfl (eff_move (v := .t _) rfl rfl rfl) ?_
          refine RW.gop rfl rfl rfl rfl rfl rfl (eff_lenM rfl rfl te62 rfl) ?_
          refine RW.gop rfl rfl rfl rfl rfl rfl (eff_iop rfl rfl rfl rfl rfl) ?_
          refine pkT ?_
          refine asT ?_
          refine RW.nil ?_
          refine awp_cond rfl (fun h5 => ?_) (fun h5 => ?_)
          · try simp only [cl] at h5
            refine awp_seq ?_
            refine awp_rw rfl ?_
            refine faT tf47_1 ?_
            refine RW.store rfl rfl (eff_storeS (v := .t _) (ys := [_, _, _, _, _, _, _, _, _, _, _, _, _, _, _]) (els := [_]) (els' := [_]) rfl rfl ti3 rfl rfl rfl rfl rfl rfl rfl (Nat.le_of_ble_eq_true rfl) rfl rfl) ?_
            refine RW.nil ?_
            refine awp_seq ?_
            refine awp_rw rfl ?_
            refine mvT ?_
            refine mvT ?_
            refine RW.op rfl rfl (eff_indexM rfl rfl te62 rfl rfl rfl (by first | assumption | exact List.getElem?_eq_getElem (by omega)) rfl (by decide)) ?_
            refine RW.op rfl rfl (eff_loadW rfl rfl ti45 rfl rfl rfl) ?_
            refine faT tf47_2 ?_
            refine RW.store rfl rfl (eff_storeS (v := .t _) (ys := [_, _, _, _, _, _, _, _, _, _, _, _, _, _, _]) (els := [_]) (els' := [_]) rfl rfl ti45 rfl rfl rfl rfl rfl rfl rfl (Nat.le_of_ble_eq_true rfl) rfl rfl) ?_
            refine RW.nil ?_
            refine awp_rw rfl ?_
            refine mvT ?_
            refine RW.op rfl rfl (eff_iop rfl rfl rfl rfl (iadd (by omega))) ?_
            refine asT ?_
            refine RW.nil ?_
            refine awp_seq ?_
            refine awp_rw rfl ?_
            refine mvO ?_
            refine RW.op rfl rfl (eff_load rfl rfl ti47 rfl (.whole rfl rfl rfl rfl rfl rfl)) ?_
            (refine RW.weak (weak_slot 120 (y := encC ⟨tk + (around (what[i]'hil) 1000000) % 3, 1, (frames l 7)[sn]'(by omega), zr, zd⟩) rfl (by first | ((repeat' (first | exact trivial | exact Wk.refl _ | exact Wk.sl _ | refine And.intro ?_ ?_ | refine Wk.tupP ?_ | refine Wk.aggP ?_)); done) | fail)) rfl ?_)
            refine RW.new rfl rfl (eff_buildSliceL (id := 121) (els := [.t (.agg [_, _, _, _, _, _, _, _, _, _, _, _, _, _, _])]) rfl rfl te32 tz47 rfl (by decide) (by decide) rfl rfl rfl rfl) ?_
            refine RW.new rfl rfl (eff_append (id := 7) (ys := [_]) rfl rfl ta32 rfl rfl rfl (by rw [he7, hn7]; simp) rfl rfl (srcOwn rfl rfl rfl rfl rfl rfl) (by simp) (by simp; omega) (by simp; omega)) ?_
            refine asO ?_
            refine RW.nil ?_
            refine awp_rw rfl ?_
            refine mvO ?_
            refine RW.op rfl rfl (eff_load rfl rfl ti23 rfl (.whole rfl rfl rfl rfl rfl rfl)) ?_
            refine RW.new rfl rfl (eff_buildSliceL (id := 125) (els := [.t (.agg [_, _, _, _])]) rfl rfl te33 tz23 rfl (by decide) (by decide) rfl rfl rfl rfl) ?_
            refine RW.new rfl rfl (eff_append (id := 8) (ys := [_]) rfl rfl ta33 rfl rfl rfl (by rw [he8, hn8]; simp) rfl rfl (srcOwn rfl rfl rfl rfl rfl rfl) (by simp) (by simp; omega) (by simp; omega)) ?_
            refine asO ?_
            refine RW.nil ?_
            refine awp_rw rfl ?_
            refine mvT ?_
            refine RW.op rfl rfl (eff_iop rfl rfl rfl rfl (iadd (by omega))) ?_
            refine asT ?_
            refine RW.nil ?_
            have hG := gall_send (F := (frames l 7)) hil rfl (by omega) hsn (by omega) (by omega)
            refine ⟨_, ?_, _, weak_keep (n := 129) (fr' := [(1, .t (.sl (what.map encI) false)), (6, .t (.sl ((frames l 7).map encF) false)), (7, .own 7 _ 0 _), (8, .own 8 _ 0 _), (9, .ptr 9 0 0 0), (10, .own 20 _ 0 _), (11, .t (encI (_ : Nat))), (12, .t (encI _)), (13, .t (encI ((i + 1) : Nat)))]) (st' := [(7, some ⟨15, 47, _, _⟩), (8, some ⟨4, 23, _, _⟩), (9, some ⟨4, 23, 0, [.t (encR _)]⟩), (20, some ⟨4, 23, _, _⟩)]) ⟨rfl, rfl, rfl, rfl, rfl, rfl, rfl, rfl, rfl, rfl, rfl, rfl, rfl, rfl, rfl, rfl, rfl, rfl, trivial⟩ ⟨rfl, (by first | exact okE_nil | exact okE_one rfl | (rw [he7]; exact okE_t) | (rw [he7]; intro x hx; simp only [List.mem_append, List.mem_map, List.mem_singleton] at hx; rcases hx with ⟨y, _, rfl⟩ | rfl <;> rfl)), rfl, (by first | exact okE_nil | exact okE_one rfl | (rw [he8]; exact okE_t) | (rw [he8]; intro x hx; simp only [List.mem_append, List.mem_map, List.mem_singleton] at hx; rcases hx with ⟨y, _, rfl⟩ | rfl <;> rfl)), rfl, okE_one rfl, rfl, (by first | exact okE_nil | exact okE_one rfl | (rw [he0]; exact okE_t) | (rw [he0]; intro x hx; simp only [List.mem_append, List.mem_map, List.mem_singleton] at hx; rcases hx with ⟨y, _, rfl⟩ | rfl <;> rfl)), trivial⟩, i + 1, _, _, _, _, _, _, _, _, _, _, _, _, (by omega), (by omega), (by first | (exfalso; omega) | (rw [hG]; simp [gput, garr, hn7])), (by first | (exfalso; omega) | (rw [hG]; simp [gput, garr, hn8])), (by first | (exfalso; omega) | (rw [hG]; simp [gput, garr, hn0])), (by first | (exfalso; omega) | (first | (rw [hG]; exact he7) | (rw [hG, he7]; exact mapT_snoc (by subst htk; rfl)))), (by first | (exfalso; omega) | (first | (rw [hG]; exact he8) | (rw [hG, he8]; exact mapT_snoc (by subst hcs; rfl)))), (by first | (exfalso; omega) | (first | (rw [hG]; exact he0) | (rw [hG, he0]; exact mapT_snoc (by subst hcs; rfl)))), (by first | (exfalso; omega) | (first | (rw [hG]; exact hcs) | (rw [hG, hcs]; rfl))), (by first | (exfalso; omega) | (first | (rw [hG]; rfl) | (rw [hG]; exact hsn))), (by first | (exfalso; omega) | (rw [hG, htk]; rfl)), rfl, rfl⟩
            omega
          · try simp only [cl] at h5
            refine awp_seq ?_
            refine awp_rw rfl ?_
            refine mvT ?_
            refine RW.op rfl rfl (eff_quoE (r := (around (what[i]'hil) 1000000) / 3) rfl rfl rfl rfl (by decide) (quoN (by omega) (by decide))) ?_
            refine RW.op rfl rfl (eff_remE (r := ((around (what[i]'hil) 1000000) / 3) % 5) rfl rfl rfl rfl (by decide) (tmod_pos (by omega))) ?_
            refine ioT ?_
            refine mvT ?_
            refine RW.split 84 rfl (fun h6 => ?_) (fun h6 => ?_)
            · try simp only [cl] at h6
              refine RW.gop rfl rfl rfl rfl rfl rfl (eff_move (v := .t _) rfl rfl rfl) ?_
              refine RW.gop rfl rfl rfl rfl rfl rfl (eff_iop rfl rfl rfl rfl rfl) ?_
              refine pkT ?_
              refine asT ?_
              refine RW.nil ?_
              refine awp_cond rfl (fun h7 => ?_) (fun h7 => ?_)
              · try simp only [cl] at h7
                refine awp_seq ?_
                obtain ⟨q, hq, hqn⟩ : ∃ q : Nat, (around (what[i]'hil) 1000000) / 15 % (sn : Int) = (q : Int) ∧ q < sn := ⟨((around (what[i]'hil) 1000000) / 15 % (sn : Int)).toNat, by have := Int.emod_nonneg ((around (what[i]'hil) 1000000) / 15) (show (sn : Int) ≠ 0 by omega); omega, by have := Int.emod_lt_of_pos ((around (what[i]'hil) 1000000) / 15) (show (0 : Int) < sn by omega); have := Int.emod_nonneg ((around (what[i]'hil) 1000000) / 15) (show (sn : Int) ≠ 0 by omega); omega⟩
                have hqf : q < (frames l 7).length := by omega
                refine awp_rd [(some 88, []), (some 89, []), (some 90, []), (some 91, []), (some 92, []), (some 93, []), (some 94, []), (some 95, []), (some 96, []), (none, [9])] [[], [], [], [2], [], [2, 3, 4], [1, 2, 3, 4, 5], [1, 2, 3, 4, 5, 6], [0, 1, 2, 3, 4, 5, 6, 7], [0, 1, 2, 3, 4, 5, 6, 7, 8]] tm rfl rfl rfl rfl ?_
                refine RD.op rfl rfl rfl (eff_load rfl rfl ti23 rfl (.whole rfl rfl rfl rfl rfl rfl)) ?_
                refine mvD ?_
                refine mvD ?_
                refine RD.op rfl rfl rfl (eff_quoE (r := (around (what[i]'hil) 1000000) / 15) rfl rfl rfl rfl (by decide) (quoN (by omega) (by decide))) ?_
                refine mvD ?_
                refine RD.op rfl rfl rfl (eff_remE (r := ((q : Nat) : Int)) rfl rfl rfl rfl (by omega) (by rw [tmod_pos (by omega), hq])) ?_
                refine RD.op rfl rfl rfl (eff_indexM (i := q) rfl rfl te62 rfl rfl (by first | rfl | omega) (by first | assumption | exact List.getElem?_eq_getElem (by omega)) rfl (by decide)) ?_
                refine RD.op rfl rfl rfl (eff_loadW rfl rfl ti45 rfl rfl rfl) ?_
                refine RD.op rfl rfl rfl (eff_callT (rapply_ret cs _ hg7) co37 rfl rfl rfl rfl) ?_
                refine RD.store rfl rfl rfl (eff_storeW (v := .t _) (els := [_]) (els' := [_]) rfl rfl ti23 rfl rfl rfl rfl rfl rfl rfl rfl rfl) ?_
                refine RD.nil ?_
                refine awp_seq ?_
                refine awp_rw rfl ?_
                refine mvO ?_
                refine RW.op rfl rfl (eff_load rfl rfl ti23 rfl (.whole rfl rfl rfl rfl rfl rfl)) ?_
                refine RW.new rfl rfl (eff_buildSliceL (id := 99) (els := [.t (.agg [_, _, _, _])]) rfl rfl te33 tz23 rfl (by decide) (by decide) rfl rfl rfl rfl) ?_
                refine RW.new rfl rfl (eff_append (id := 20) (ys := [_]) rfl rfl ta33 rfl rfl rfl (by rw [he0, hn0]; simp) rfl rfl (srcOwn rfl rfl rfl rfl rfl rfl) (by simp) (by simp; omega) (by simp; omega)) ?_
                refine asO ?_
                refine RW.nil ?_
                refine awp_exit ?_
                refine awp_rw rfl ?_
                refine mvT ?_
                refine RW.op rfl rfl (eff_iop rfl rfl rfl rfl (iadd (by omega))) ?_
                refine asT ?_
                refine RW.nil ?_
                have hG := gall_send (F := (frames l 7)) hil rfl (by omega) hsn (by omega) (by omega)
                refine ⟨_, ?_, _, weak_keep (n := 129) (fr' := [(1, .t (.sl (what.map encI) false)), (6, .t (.sl ((frames l 7).map encF) false)), (7, .own 7 _ 0 _), (8, .own 8 _ 0 _), (9, .ptr 9 0 0 0), (10, .own 20 _ 0 _), (11, .t (encI (_ : Nat))), (12, .t (encI _)), (13, .t (encI ((i + 1) : Nat)))]) (st' := [(7, some ⟨15, 47, _, _⟩), (8, some ⟨4, 23, _, _⟩), (9, some ⟨4, 23, 0, [.t (encR _)]⟩), (20, some ⟨4, 23, _, _⟩)]) ⟨rfl, rfl, rfl, rfl, rfl, rfl, rfl, rfl, rfl, rfl, rfl, rfl, rfl, rfl, rfl, rfl, rfl, rfl, trivial⟩ ⟨rfl, (by first | exact okE_nil | exact okE_one rfl | (rw [he7]; exact okE_t) | (rw [he7]; intro x hx; simp only [List.mem_append, List.mem_map, List.mem_singleton] at hx; rcases hx with ⟨y, _, rfl⟩ | rfl <;> rfl)), rfl, (by first | exact okE_nil | exact okE_one rfl | (rw [he8]; exact okE_t) | (rw [he8]; intro x hx; simp only [List.mem_append, List.mem_map, List.mem_singleton] at hx; rcases hx with ⟨y, _, rfl⟩ | rfl <;> rfl)), rfl, okE_one rfl, rfl, (by first | exact okE_nil | exact okE_one rfl | (rw [he0]; exact okE_t) | (rw [he0]; intro x hx; simp only [List.mem_append, List.mem_map, List.mem_singleton] at hx; rcases hx with ⟨y, _, rfl⟩ | rfl <;> rfl)), trivial⟩, i + 1, _, _, _, _, _, _, _, _, _, _, _, _, (by omega), (by omega), (by first | (exfalso; omega) | (rw [hG]; simp [gput, garr, hn7])), (by first | (exfalso; omega) | (rw [hG]; simp [gput, garr, hn8])), (by first | (exfalso; omega) | (rw [hG]; simp [gput, garr, hn0])), (by first | (exfalso; omega) | (first | (rw [hG]; exact he7) | (rw [hG, he7]; exact mapT_snoc (by subst htk; rfl)))), (by first | (exfalso; omega) | (first | (rw [hG]; exact he8) | (rw [hG, he8]; exact mapT_snoc (by subst hcs; rfl)))), (by first | (exfalso; omega) | (first | (rw [hG]; exact he0) | (rw [hG, he0]; exact mapT_snoc (by subst hcs; rfl)))), (by first | (exfalso; omega) | (first | (rw [hG]; exact hcs) | (rw [hG, hcs]; rfl))), (by first | (exfalso; omega) | (first | (rw [hG]; rfl) | (rw [hG]; exact hsn))), (by first | (exfalso; omega) | (rw [hG, htk]; rfl)), rfl, rfl⟩
                omega
              · try simp only [cl] at h7
                refine awp_seq ?_
                refine awp_rw rfl ?_
                refine mvT ?_
                refine RW.op rfl rfl (eff_quoE (r := (around (what[i]'hil) 1000000) / 3) rfl rfl rfl rfl (by decide) (quoN (by omega) (by decide))) ?_
                refine RW.op rfl rfl (eff_remE (r := ((around (what[i]'hil) 1000000) / 3) % 5) rfl rfl rfl rfl (by decide) (tmod_pos (by omega))) ?_
                refine ioT ?_
                refine asT ?_
                refine RW.nil ?_
                refine awp_cond rfl (fun h8 => ?_) (fun h8 => ?_)
                · try simp only [cl] at h8
                  refine awp_seq ?_
                  refine awp_rw rfl ?_
                  refine faT tf47_1 ?_
                  refine RW.store rfl rfl (eff_storeS (v := .t _) (ys := [_, _, _, _, _, _, _, _, _, _, _, _, _, _, _]) (els := [_]) (els' := [_]) rfl rfl ti3 rfl rfl rfl rfl rfl rfl rfl (Nat.le_of_ble_eq_true rfl) rfl rfl) ?_
                  refine RW.nil ?_
                  refine awp_rw rfl ?_
                  obtain ⟨q2, hq2⟩ : ∃ q : Nat, imax 0 (((gall (frames l 7) what i).reps.length : Int) - 1 - (around (what[i]'hil) 1000000) / 15 % 3) = (q : Int) := ⟨(imax 0 (((gall (frames l 7) what i).reps.length : Int) - 1 - (around (what[i]'hil) 1000000) / 15 % 3)).toNat, by unfold imax; split <;> omega⟩
                  have hql : q2 < (gall (frames l 7) what i).reps.length := by unfold imax at hq2; split at hq2 <;> omega
                  refine mvO ?_
                  refine mvO ?_
                  refine RW.op rfl rfl (eff_len rfl rfl te33 rfl rfl rfl) ?_
                  refine RW.op rfl rfl (eff_iop (r := encI ((n0 : Int) - 1)) rfl rfl rfl rfl (isub (by omega))) ?_
                  refine mvT ?_
                  refine RW.op rfl rfl (eff_quoE (r := (around (what[i]'hil) 1000000) / 15) rfl rfl rfl rfl (by decide) (quoN (by omega) (by decide))) ?_
                  refine RW.op rfl rfl (eff_remE (r := ((around (what[i]'hil) 1000000) / 15) % 3) rfl rfl rfl rfl (by decide) (tmod_pos (by omega))) ?_
                  refine RW.op rfl rfl (eff_iop (r := encI ((n0 : Int) - 1 - (around (what[i]'hil) 1000000) / 15 % 3)) rfl rfl rfl rfl (isub (by omega))) ?_
                  refine RW.op rfl rfl (eff_maxE (r := ((q2 : Nat) : Int)) rfl rfl rfl rfl (by rw [hn0]; exact hq2)) ?_
                  refine RW.op rfl rfl (eff_indexAddr (i := q2) rfl rfl te33 rfl rfl rfl rfl rfl rfl (by omega)) ?_
                  refine RW.op rfl rfl (eff_load (y := .t (encR ((gall (frames l 7) what i).reps[q2]'hql))) rfl rfl ti23 rfl (.whole rfl rfl (by rw [Nat.zero_add, he0]; exact elR hql) rfl rfl rfl)) ?_
                  refine faT tf47_3 ?_
                  refine RW.store rfl rfl (eff_storeS (v := .t _) (ys := [_, _, _, _, _, _, _, _, _, _, _, _, _, _, _]) (els := [_]) (els' := [_]) rfl rfl ti23 rfl rfl rfl rfl rfl rfl rfl (Nat.le_of_ble_eq_true rfl) rfl rfl) ?_
                  refine RW.nil ?_
                  refine awp_seq ?_
                  refine awp_rw rfl ?_
                  refine mvO ?_
                  refine RW.op rfl rfl (eff_load rfl rfl ti47 rfl (.whole rfl rfl rfl rfl rfl rfl)) ?_
                  (refine RW.weak (weak_slot 120 (y := encC ⟨tk + (around (what[i]'hil) 1000000) % 3, 2, zf, (gall (frames l 7) what i).reps[q2]'hql, zd⟩) rfl (by first | ((repeat' (first | exact trivial | exact Wk.refl _ | exact Wk.sl _ | refine And.intro ?_ ?_ | refine Wk.tupP ?_ | refine Wk.aggP ?_)); done) | fail)) rfl ?_)
                  refine RW.new rfl rfl (eff_buildSliceL (id := 121) (els := [.t (.agg [_, _, _, _, _, _, _, _, _, _, _, _, _, _, _])]) rfl rfl te32 tz47 rfl (by decide) (by decide) rfl rfl rfl rfl) ?_
                  refine RW.new rfl rfl (eff_append (id := 7) (ys := [_]) rfl rfl ta32 rfl rfl rfl (by rw [he7, hn7]; simp) rfl rfl (srcOwn rfl rfl rfl rfl rfl rfl) (by simp) (by simp; omega) (by simp; omega)) ?_
                  refine asO ?_
                  refine RW.nil ?_
                  refine awp_rw rfl ?_
                  refine mvO ?_
                  refine RW.op rfl rfl (eff_load rfl rfl ti23 rfl (.whole rfl rfl rfl rfl rfl rfl)) ?_
                  refine RW.new rfl rfl (eff_buildSliceL (id := 125) (els := [.t (.agg [_, _, _, _])]) rfl rfl te33 tz23 rfl (by decide) (by decide) rfl rfl rfl rfl) ?_
                  refine RW.new rfl rfl (eff_append (id := 8) (ys := [_]) rfl rfl ta33 rfl rfl rfl (by rw [he8, hn8]; simp) rfl rfl (srcOwn rfl rfl rfl rfl rfl rfl) (by simp) (by simp; omega) (by simp; omega)) ?_
                  refine asO ?_
                  refine RW.nil ?_
                  refine awp_rw rfl ?_
                  refine mvT ?_
                  refine RW.op rfl rfl (eff_iop rfl rfl rfl rfl (iadd (by omega))) ?_
                  refine asT ?_
                  refine RW.nil ?_
                  have hG := gall_send (F := (frames l 7)) hil rfl (by omega) hsn (by omega) (by omega)
                  refine ⟨_, ?_, _, weak_keep (n := 129) (fr' := [(1, .t (.sl (what.map encI) false)), (6, .t (.sl ((frames l 7).map encF) false)), (7, .own 7 _ 0 _), (8, .own 8 _ 0 _), (9, .ptr 9 0 0 0), (10, .own 20 _ 0 _), (11, .t (encI (_ : Nat))), (12, .t (encI _)), (13, .t (encI ((i + 1) : Nat)))]) (st' := [(7, some ⟨15, 47, _, _⟩), (8, some ⟨4, 23, _, _⟩), (9, some ⟨4, 23, 0, [.t (encR _)]⟩), (20, some ⟨4, 23, _, _⟩)]) ⟨rfl, rfl, rfl, rfl, rfl, rfl, rfl, rfl, rfl, rfl, rfl, rfl, rfl, rfl, rfl, rfl, rfl, rfl, trivial⟩ ⟨rfl, (by first | exact okE_nil | exact okE_one rfl | (rw [he7]; exact okE_t) | (rw [he7]; intro x hx; simp only [List.mem_append, List.mem_map, List.mem_singleton] at hx; rcases hx with ⟨y, _, rfl⟩ | rfl <;> rfl)), rfl, (by first | exact okE_nil | exact okE_one rfl | (rw [he8]; exact okE_t) | (rw [he8]; intro x hx; simp only [List.mem_append, List.mem_map, List.mem_singleton] at hx; rcases hx with ⟨y, _, rfl⟩ | rfl <;> rfl)), rfl, okE_one rfl, rfl, (by first | exact okE_nil | exact okE_one rfl | (rw [he0]; exact okE_t) | (rw [he0]; intro x hx; simp only [List.mem_append, List.mem_map, List.mem_singleton] at hx; rcases hx with ⟨y, _, rfl⟩ | rfl <;> rfl)), trivial⟩, i + 1, _, _, _, _, _, _, _, _, _, _, _, _, (by omega), (by omega), (by first | (exfalso; omega) | (rw [hG]; simp [gput, garr, hn7])), (by first | (exfalso; omega) | (rw [hG]; simp [gput, garr, hn8])), (by first | (exfalso; omega) | (rw [hG]; simp [gput, garr, hn0])), (by first | (exfalso; omega) | (first | (rw [hG]; exact he7) | (rw [hG, he7]; exact mapT_snoc (by subst htk; rfl)))), (by first | (exfalso; omega) | (first | (rw [hG]; exact he8) | (rw [hG, he8]; exact mapT_snoc (by subst hcs; rfl)))), (by first | (exfalso; omega) | (first | (rw [hG]; exact he0) | (rw [hG, he0]; exact mapT_snoc (by subst hcs; rfl)))), (by first | (exfalso; omega) | (first | (rw [hG]; exact hcs) | (rw [hG, hcs]; rfl))), (by first | (exfalso; omega) | (first | (rw [hG]; rfl) | (rw [hG]; exact hsn))), (by first | (exfalso; omega) | (rw [hG, htk]; rfl)), rfl, rfl⟩
                  omega
                · try simp only [cl] at h8
                  refine awp_seq ?_
                  refine awp_rw rfl ?_
                  refine faT tf47_1 ?_
                  refine RW.store rfl rfl (eff_storeS (v := .t _) (ys := [_, _, _, _, _, _, _, _, _, _, _, _, _, _, _]) (els := [_]) (els' := [_]) rfl rfl ti3 rfl rfl rfl rfl rfl rfl rfl (Nat.le_of_ble_eq_true rfl) rfl rfl) ?_
                  refine RW.nil ?_
                  refine awp_rw rfl ?_
                  refine mvT ?_
                  refine mvT ?_
                  refine RW.op rfl rfl (eff_quoE (r := (around (what[i]'hil) 1000000) / 15) rfl rfl rfl rfl (by decide) (quoN (by omega) (by decide))) ?_
                  refine RW.op rfl rfl (eff_remE (r := ((around (what[i]'hil) 1000000) / 15) % 3) rfl rfl rfl rfl (by decide) (tmod_pos (by omega))) ?_
                  refine mvT ?_
                  refine RW.op rfl rfl (eff_quoE (r := (around (what[i]'hil) 1000000) / 45) rfl rfl rfl rfl (by decide) (quoN (by omega) (by decide))) ?_
                  refine RW.op rfl rfl (eff_remE (r := ((around (what[i]'hil) 1000000) / 45) % 4) rfl rfl rfl rfl (by decide) (tmod_pos (by omega))) ?_
                  refine mvT ?_
                  refine RW.op rfl rfl (eff_quoE (r := (around (what[i]'hil) 1000000) / 180) rfl rfl rfl rfl (by decide) (quoN (by omega) (by decide))) ?_
                  refine RW.op rfl rfl (eff_remE (r := ((around (what[i]'hil) 1000000) / 180) % 8) rfl rfl rfl rfl (by decide) (tmod_pos (by omega))) ?_
                  refine RW.op rfl rfl (eff_buildT (ys := [_, _, _, _]) rfl rfl tz28 tg28 rfl) ?_
                  refine faT tf47_4 ?_
                  refine RW.store rfl rfl (eff_storeS (v := .t _) (ys := [_, _, _, _, _, _, _, _, _, _, _, _, _, _, _]) (els := [_]) (els' := [_]) rfl rfl ti28 rfl rfl rfl rfl rfl rfl rfl (Nat.le_of_ble_eq_true rfl) rfl rfl) ?_
                  refine RW.nil ?_
                  refine awp_seq ?_
                  refine awp_rw rfl ?_
                  refine mvO ?_
                  refine RW.op rfl rfl (eff_load rfl rfl ti47 rfl (.whole rfl rfl rfl rfl rfl rfl)) ?_
                  (refine RW.weak (weak_slot 120 (y := encC ⟨tk + (around (what[i]'hil) 1000000) % 3, 3, zf, zr, ⟨tk + (around (what[i]'hil) 1000000) % 3, (around (what[i]'hil) 1000000) / 15 % 3, (around (what[i]'hil) 1000000) / 45 % 4, (around (what[i]'hil) 1000000) / 180 % 8⟩⟩) rfl (by first | ((repeat' (first | exact trivial | exact Wk.refl _ | exact Wk.sl _ | refine And.intro ?_ ?_ | refine Wk.tupP ?_ | refine Wk.aggP ?_)); done) | fail)) rfl ?_)
                  refine RW.new rfl rfl (eff_buildSliceL (id := 121) (els := [.t (.agg [_, _, _, _, _, _, _, _, _, _, _, _, _, _, _])]) rfl rfl te32 tz47 rfl (by decide) (by decide) rfl rfl rfl rfl) ?_
                  refine RW.new rfl rfl (eff_append (id := 7) (ys := [_]) rfl rfl ta32 rfl rfl rfl (by rw [he7, hn7]; simp) rfl rfl (srcOwn rfl rfl rfl rfl rfl rfl) (by simp) (by simp; omega) (by simp; omega)) ?_
                  refine asO ?_
                  refine RW.nil ?_
                  refine awp_rw rfl ?_
                  refine mvO ?_
                  refine RW.op rfl rfl (eff_load rfl rfl ti23 rfl (.whole rfl rfl rfl rfl rfl rfl)) ?_
                  refine RW.new rfl rfl (eff_buildSliceL (id := 125) (els := [.t (.agg [_, _, _, _])]) rfl rfl te33 tz23 rfl (by decide) (by decide) rfl rfl rfl rfl) ?_
                  refine RW.new rfl rfl (eff_append (id := 8) (ys := [_]) rfl rfl ta33 rfl rfl rfl (by rw [he8, hn8]; simp) rfl rfl (srcOwn rfl rfl rfl rfl rfl rfl) (by simp) (by simp; omega) (by simp; omega)) ?_
                  refine asO ?_
                  refine RW.nil ?_
                  refine awp_rw rfl ?_
                  refine mvT ?_
                  refine RW.op rfl rfl (eff_iop rfl rfl rfl rfl (iadd (by omega))) ?_
                  refine asT ?_
                  refine RW.nil ?_
                  have hG := gall_send (F := (frames l 7)) hil rfl (by omega) hsn (by omega) (by omega)
                  refine ⟨_, ?_, _, weak_keep (n := 129) (fr' := [(1, .t (.sl (what.map encI) false)), (6, .t (.sl ((frames l 7).map encF) false)), (7, .own 7 _ 0 _), (8, .own 8 _ 0 _), (9, .ptr 9 0 0 0), (10, .own 20 _ 0 _), (11, .t (encI (_ : Nat))), (12, .t (encI _)), (13, .t (encI ((i + 1) : Nat)))]) (st' := [(7, some ⟨15, 47, _, _⟩), (8, some ⟨4, 23, _, _⟩), (9, some ⟨4, 23, 0, [.t (encR _)]⟩), (20, some ⟨4, 23, _, _⟩)]) ⟨rfl, rfl, rfl, rfl, rfl, rfl, rfl, rfl, rfl, rfl, rfl, rfl, rfl, rfl, rfl, rfl, rfl, rfl, trivial⟩ ⟨rfl, (by first | exact okE_nil | exact okE_one rfl | (rw [he7]; exact okE_t) | (rw [he7]; intro x hx; simp only [List.mem_append, List.mem_map, List.mem_singleton] at hx; rcases hx with ⟨y, _, rfl⟩ | rfl <;> rfl)), rfl, (by first | exact okE_nil | exact okE_one rfl | (rw [he8]; exact okE_t) | (rw [he8]; intro x hx; simp only [List.mem_append, List.mem_map, List.mem_singleton] at hx; rcases hx with ⟨y, _, rfl⟩ | rfl <;> rfl)), rfl, okE_one rfl, rfl, (by first | exact okE_nil | exact okE_one rfl | (rw [he0]; exact okE_t) | (rw [he0]; intro x hx; simp only [List.mem_append, List.mem_map, List.mem_singleton] at hx; rcases hx with ⟨y, _, rfl⟩ | rfl <;> rfl)), trivial⟩, i + 1, _, _, _, _, _, _, _, _, _, _, _, _, (by omega), (by omega), (by first | (exfalso; omega) | (rw [hG]; simp [gput, garr, hn7])), (by first | (exfalso; omega) | (rw [hG]; simp [gput, garr, hn8])), (by first | (exfalso; omega) | (rw [hG]; simp [gput, garr, hn0])), (by first | (exfalso; omega) | (first | (rw [hG]; exact he7) | (rw [hG, he7]; exact mapT_snoc (by subst htk; rfl)))), (by first | (exfalso; omega) | (first | (rw [hG]; exact he8) | (rw [hG, he8]; exact mapT_snoc (by subst hcs; rfl)))), (by first | (exfalso; omega) | (first | (rw [hG]; exact he0) | (rw [hG, he0]; exact mapT_snoc (by subst hcs; rfl)))), (by first | (exfalso; omega) | (first | (rw [hG]; exact hcs) | (rw [hG, hcs]; rfl))), (by first | (exfalso; omega) | (first | (rw [hG]; rfl) | (rw [hG]; exact hsn))), (by first | (exfalso; omega) | (rw [hG, htk]; rfl)), rfl, rfl⟩
                  omega
            · try simp only [cl] at h6
              refine gkT ?_
              refine gkT ?_
              refine pkT ?_
              refine asT ?_
              refine RW.nil ?_
              refine awp_cond rfl (fun h => nomatch h) (fun _ => ?_)
              refine awp_seq ?_
              refine awp_rw rfl ?_
              refine mvT ?_
              refine RW.op rfl rfl (eff_quoE (r := (around (what[i]'hil) 1000000) / 3) rfl rfl rfl rfl (by decide) (quoN (by omega) (by decide))) ?_
              refine RW.op rfl rfl (eff_remE (r := ((around (what[i]'hil) 1000000) / 3) % 5) rfl rfl rfl rfl (by decide) (tmod_pos (by omega))) ?_
              refine ioT ?_
              refine asT ?_
              refine RW.nil ?_
              refine awp_cond rfl (fun h9 => ?_) (fun h9 => ?_)
              · try simp only [cl] at h9
                refine awp_seq ?_
                refine awp_rw rfl ?_
                refine faT tf47_1 ?_
                refine RW.store rfl rfl (eff_storeS (v := .t _) (ys := [_, _, _, _, _, _, _, _, _, _, _, _, _, _, _]) (els := [_]) (els' := [_]) rfl rfl ti3 rfl rfl rfl rfl rfl rfl rfl (Nat.le_of_ble_eq_true rfl) rfl rfl) ?_
                refine RW.nil ?_
                refine awp_rw rfl ?_
                obtain ⟨q2, hq2⟩ : ∃ q : Nat, imax 0 (((gall (frames l 7) what i).reps.length : Int) - 1 - (around (what[i]'hil) 1000000) / 15 % 3) = (q : Int) := ⟨(imax 0 (((gall (frames l 7) what i).reps.length : Int) - 1 - (around (what[i]'hil) 1000000) / 15 % 3)).toNat, by unfold imax; split <;> omega⟩
                have hql : q2 < (gall (frames l 7) what i).reps.length := by unfold imax at hq2; split at hq2 <;> omega
                refine mvO ?_
                refine mvO ?_
                refine RW.op rfl rfl (eff_len rfl rfl te33 rfl rfl rfl) ?_
                refine RW.op rfl rfl (eff_iop (r := encI ((n0 : Int) - 1)) rfl rfl rfl rfl (isub (by omega))) ?_
                refine mvT ?_
                refine RW.op rfl rfl (eff_quoE (r := (around (what[i]'hil) 1000000) / 15) rfl rfl rfl rfl (by decide) (quoN (by omega) (by decide))) ?_
                refine RW.op rfl rfl (eff_remE (r := ((around (what[i]'hil) 1000000) / 15) % 3) rfl rfl rfl rfl (by decide) (tmod_pos (by omega))) ?_
                refine RW.op rfl rfl (eff_iop (r := encI ((n0 : Int) - 1 - (around (what[i]'hil) 1000000) / 15 % 3)) rfl rfl rfl rfl (isub (by omega))) ?_
                refine RW.op rfl rfl (eff_maxE (r := ((q2 : Nat) : Int)) rfl rfl rfl rfl (by rw [hn0]; exact hq2)) ?_
                refine RW.op rfl rfl (eff_indexAddr (i := q2) rfl rfl te33 rfl rfl rfl rfl rfl rfl (by omega)) ?_
                refine RW.op rfl rfl (eff_load (y := .t (encR ((gall (frames l 7) what i).reps[q2]'hql))) rfl rfl ti23 rfl (.whole rfl rfl (by rw [Nat.zero_add, he0]; exact elR hql) rfl rfl rfl)) ?_
                refine faT tf47_3 ?_
                refine RW.store rfl rfl (eff_storeS (v := .t _) (ys := [_, _, _, _, _, _, _, _, _, _, _, _, _, _, _]) (els := [_]) (els' := [_]) rfl rfl ti23 rfl rfl rfl rfl rfl rfl rfl (Nat.le_of_ble_eq_true rfl) rfl rfl) ?_
                refine RW.nil ?_
                refine awp_seq ?_
                refine awp_rw rfl ?_
                refine mvO ?_
                refine RW.op rfl rfl (eff_load rfl rfl ti47 rfl (.whole rfl rfl rfl rfl rfl rfl)) ?_
                (refine RW.weak (weak_slot 120 (y := encC ⟨tk + (around (what[i]'hil) 1000000) % 3, 2, zf, (gall (frames l 7) what i).reps[q2]'hql, zd⟩) rfl (by first | ((repeat' (first | exact trivial | exact Wk.refl _ | exact Wk.sl _ | refine And.intro ?_ ?_ | refine Wk.tupP ?_ | refine Wk.aggP ?_)); done) | fail)) rfl ?_)
                refine RW.new rfl rfl (eff_buildSliceL (id := 121) (els := [.t (.agg [_, _, _, _, _, _, _, _, _, _, _, _, _, _, _])]) rfl rfl te32 tz47 rfl (by decide) (by decide) rfl rfl rfl rfl) ?_
                refine RW.new rfl rfl (eff_append (id := 7) (ys := [_]) rfl rfl ta32 rfl rfl rfl (by rw [he7, hn7]; simp) rfl rfl (srcOwn rfl rfl rfl rfl rfl rfl) (by simp) (by simp; omega) (by simp; omega)) ?_
                refine asO ?_
                refine RW.nil ?_
                refine awp_rw rfl ?_
                refine mvO ?_
                refine RW.op rfl rfl (eff_load rfl rfl ti23 rfl (.whole rfl rfl rfl rfl rfl rfl)) ?_
                refine RW.new rfl rfl (eff_buildSliceL (id := 125) (els := [.t (.agg [_, _, _, _])]) rfl rfl te33 tz23 rfl (by decide) (by decide) rfl rfl rfl rfl) ?_
                refine RW.new rfl rfl (eff_append (id := 8) (ys := [_]) rfl rfl ta33 rfl rfl rfl (by rw [he8, hn8]; simp) rfl rfl (srcOwn rfl rfl rfl rfl rfl rfl) (by simp) (by simp; omega) (by simp; omega)) ?_
                refine asO ?_
                refine RW.nil ?_
                refine awp_rw rfl ?_
                refine mvT ?_
                refine RW.op rfl rfl (eff_iop rfl rfl rfl rfl (iadd (by omega))) ?_
                refine asT ?_
                refine RW.nil ?_
                have hG := gall_send (F := (frames l 7)) hil rfl (by omega) hsn (by omega) (by omega)
                refine ⟨_, ?_, _, weak_keep (n := 129) (fr' := [(1, .t (.sl (what.map encI) false)), (6, .t (.sl ((frames l 7).map encF) false)), (7, .own 7 _ 0 _), (8, .own 8 _ 0 _), (9, .ptr 9 0 0 0), (10, .own 20 _ 0 _), (11, .t (encI (_ : Nat))), (12, .t (encI _)), (13, .t (encI ((i + 1) : Nat)))]) (st' := [(7, some ⟨15, 47, _, _⟩), (8, some ⟨4, 23, _, _⟩), (9, some ⟨4, 23, 0, [.t (encR _)]⟩), (20, some ⟨4, 23, _, _⟩)]) ⟨rfl, rfl, rfl, rfl, rfl, rfl, rfl, rfl, rfl, rfl, rfl, rfl, rfl, rfl, rfl, rfl, rfl, rfl, trivial⟩ ⟨rfl, (by first | exact okE_nil | exact okE_one rfl | (rw [he7]; exact okE_t) | (rw [he7]; intro x hx; simp only [List.mem_append, List.mem_map, List.mem_singleton] at hx; rcases hx with ⟨y, _, rfl⟩ | rfl <;> rfl)), rfl, (by first | exact okE_nil | exact okE_one rfl | (rw [he8]; exact okE_t) | (rw [he8]; intro x hx; simp only [List.mem_append, List.mem_map, List.mem_singleton] at hx; rcases hx with ⟨y, _, rfl⟩ | rfl <;> rfl)), rfl, okE_one rfl, rfl, (by first | exact okE_nil | exact okE_one rfl | (rw [he0]; exact okE_t) | (rw [he0]; intro x hx; simp only [List.mem_append, List.mem_map, List.mem_singleton] at hx; rcases hx with ⟨y, _, rfl⟩ | rfl <;> rfl)), trivial⟩, i + 1, _, _, _, _, _, _, _, _, _, _, _, _, (by omega), (by omega), (by first | (exfalso; omega) | (rw [hG]; simp [gput, garr, hn7])), (by first | (exfalso; omega) | (rw [hG]; simp [gput, garr, hn8])), (by first | (exfalso; omega) | (rw [hG]; simp [gput, garr, hn0])), (by first | (exfalso; omega) | (first | (rw [hG]; exact he7) | (rw [hG, he7]; exact mapT_snoc (by subst htk; rfl)))), (by first | (exfalso; omega) | (first | (rw [hG]; exact he8) | (rw [hG, he8]; exact mapT_snoc (by subst hcs; rfl)))), (by first | (exfalso; omega) | (first | (rw [hG]; exact he0) | (rw [hG, he0]; exact mapT_snoc (by subst hcs; rfl)))), (by first | (exfalso; omega) | (first | (rw [hG]; exact hcs) | (rw [hG, hcs]; rfl))), (by first | (exfalso; omega) | (first | (rw [hG]; rfl) | (rw [hG]; exact hsn))), (by first | (exfalso; omega) | (rw [hG, htk]; rfl)), rfl, rfl⟩
                omega
              · try simp only [cl] at h9
                refine awp_seq ?_
                refine awp_rw rfl ?_
                refine faT tf47_1 ?_
                refine RW.store rfl rfl (eff_storeS (v := .t _) (ys := [_, _, _, _, _, _, _, _, _, _, _, _, _, _, _]) (els := [_]) (els' := [_]) rfl rfl ti3 rfl rfl rfl rfl rfl rfl rfl (Nat.le_of_ble_eq_true rfl) rfl rfl) ?_
                refine RW.nil ?_
                refine awp_rw rfl ?_
                refine mvT ?_
                refine mvT ?_
                refine RW.op rfl rfl (eff_quoE (r := (around (what[i]'hil) 1000000) / 15) rfl rfl rfl rfl (by decide) (quoN (by omega) (by decide))) ?_
                refine RW.op rfl rfl (eff_remE (r := ((around (what[i]'hil) 1000000) / 15) % 3) rfl rfl rfl rfl (by decide) (tmod_pos (by omega))) ?_
                refine mvT ?_
                refine RW.op rfl rfl (eff_quoE (r := (around (what[i]'hil) 1000000) / 45) rfl rfl rfl rfl (by decide) (quoN (by omega) (by decide))) ?_
                refine RW.op rfl rfl (eff_remE (r := ((around (what[i]'hil) 1000000) / 45) % 4) rfl rfl rfl rfl (by decide) (tmod_pos (by omega))) ?_
                refine mvT ?_
                refine RW.op rfl rfl (eff_quoE (r := (around (what[i]'hil) 1000000) / 180) rfl rfl rfl rfl (by decide) (quoN (by omega) (by decide))) ?_
                refine RW.op rfl rfl (eff_remE (r := ((around (what[i]'hil) 1000000) / 180) % 8) rfl rfl rfl rfl (by decide) (tmod_pos (by omega))) ?_
                refine RW.op rfl rfl (eff_buildT (ys := [_, _, _, _]) rfl rfl tz28 tg28 rfl) ?_
                refine faT tf47_4 ?_
                refine RW.store rfl rfl (eff_storeS (v := .t _) (ys := [_, _, _, _, _, _, _, _, _, _, _, _, _, _, _]) (els := [_]) (els' := [_]) rfl rfl ti28 rfl rfl rfl rfl rfl rfl rfl (Nat.le_of_ble_eq_true rfl) rfl rfl) ?_
                refine RW.nil ?_
                refine awp_seq ?_
                refine awp_rw rfl ?_
                refine mvO ?_
                refine RW.op rfl rfl (eff_load rfl rfl ti47 rfl (.whole rfl rfl rfl rfl rfl rfl)) ?_
                (refine RW.weak (weak_slot 120 (y := encC ⟨tk + (around (what[i]'hil) 1000000) % 3, 3, zf, zr, ⟨tk + (around (what[i]'hil) 1000000) % 3, (around (what[i]'hil) 1000000) / 15 % 3, (around (what[i]'hil) 1000000) / 45 % 4, (around (what[i]'hil) 1000000) / 180 % 8⟩⟩) rfl (by first | ((repeat' (first | exact trivial | exact Wk.refl _ | exact Wk.sl _ | refine And.intro ?_ ?_ | refine Wk.tupP ?_ | refine Wk.aggP ?_)); done) | fail)) rfl ?_)
                refine RW.new rfl rfl (eff_buildSliceL (id := 121) (els := [.t (.agg [_, _, _, _, _, _, _, _, _, _, _, _, _, _, _])]) rfl rfl te32 tz47 rfl (by decide) (by decide) rfl rfl rfl rfl) ?_
                refine RW.new rfl rfl (eff_append (id := 7) (ys := [_]) rfl rfl ta32 rfl rfl rfl (by rw [he7, hn7]; simp) rfl rfl (srcOwn rfl rfl rfl rfl rfl rfl) (by simp) (by simp; omega) (by simp; omega)) ?_
                refine asO ?_
                refine RW.nil ?_
                refine awp_rw rfl ?_
                refine mvO ?_
                refine RW.op rfl rfl (eff_load rfl rfl ti23 rfl (.whole rfl rfl rfl rfl rfl rfl)) ?_
                refine RW.new rfl rfl (eff_buildSliceL (id := 125) (els := [.t (.agg [_, _, _, _])]) rfl rfl te33 tz23 rfl (by decide) (by decide) rfl rfl rfl rfl) ?_
                refine RW.new rfl rfl (eff_append (id := 8) (ys := [_]) rfl rfl ta33 rfl rfl rfl (by rw [he8, hn8]; simp) rfl rfl (srcOwn rfl rfl rfl rfl rfl rfl) (by simp) (by simp; omega) (by simp; omega)) ?_
                refine asO ?_
                refine RW.nil ?_
                refine awp_rw rfl ?_
                refine mvT ?_
                refine RW.op rfl rfl (eff_iop rfl rfl rfl rfl (iadd (by omega))) ?_
                refine asT ?_
                refine RW.nil ?_
                have hG := gall_dec (F := (frames l 7)) hil rfl (by omega) hsn (by omega) (by omega) (by omega)
                refine ⟨_, ?_, _, weak_keep (n := 129) (fr' := [(1, .t (.sl (what.map encI) false)), (6, .t (.sl ((frames l 7).map encF) false)), (7, .own 7 _ 0 _), (8, .own 8 _ 0 _), (9, .ptr 9 0 0 0), (10, .own 20 _ 0 _), (11, .t (encI (_ : Nat))), (12, .t (encI _)), (13, .t (encI ((i + 1) : Nat)))]) (st' := [(7, some ⟨15, 47, _, _⟩), (8, some ⟨4, 23, _, _⟩), (9, some ⟨4, 23, 0, [.t (encR _)]⟩), (20, some ⟨4, 23, _, _⟩)]) ⟨rfl, rfl, rfl, rfl, rfl, rfl, rfl, rfl, rfl, rfl, rfl, rfl, rfl, rfl, rfl, rfl, rfl, rfl, trivial⟩ ⟨rfl, (by first | exact okE_nil | exact okE_one rfl | (rw [he7]; exact okE_t) | (rw [he7]; intro x hx; simp only [List.mem_append, List.mem_map, List.mem_singleton] at hx; rcases hx with ⟨y, _, rfl⟩ | rfl <;> rfl)), rfl, (by first | exact okE_nil | exact okE_one rfl | (rw [he8]; exact okE_t) | (rw [he8]; intro x hx; simp only [List.mem_append, List.mem_map, List.mem_singleton] at hx; rcases hx with ⟨y, _, rfl⟩ | rfl <;> rfl)), rfl, okE_one rfl, rfl, (by first | exact okE_nil | exact okE_one rfl | (rw [he0]; exact okE_t) | (rw [he0]; intro x hx; simp only [List.mem_append, List.mem_map, List.mem_singleton] at hx; rcases hx with ⟨y, _, rfl⟩ | rfl <;> rfl)), trivial⟩, i + 1, _, _, _, _, _, _, _, _, _, _, _, _, (by omega), (by omega), (by first | (exfalso; omega) | (rw [hG]; simp [gput, garr, hn7])), (by first | (exfalso; omega) | (rw [hG]; simp [gput, garr, hn8])), (by first | (exfalso; omega) | (rw [hG]; simp [gput, garr, hn0])), (by first | (exfalso; omega) | (first | (rw [hG]; exact he7) | (rw [hG, he7]; exact mapT_snoc (by subst htk; rfl)))), (by first | (exfalso; omega) | (first | (rw [hG]; exact he8) | (rw [hG, he8]; exact mapT_snoc (by subst hcs; rfl)))), (by first | (exfalso; omega) | (first | (rw [hG]; exact he0) | (rw [hG, he0]; exact mapT_snoc (by subst hcs; rfl)))), (by first | (exfalso; omega) | (first | (rw [hG]; exact hcs) | (rw [hG, hcs]; rfl))), (by first | (exfalso; omega) | (first | (rw [hG]; rfl) | (rw [hG]; exact hsn))), (by first | (exfalso; omega) | (rw [hG, htk]; rfl)), rfl, rfl⟩
                omega
        · try simp only [cl] at h4
          refine gkT ?_
          refine gkT ?_
          refine gkT ?_
          refine gkT ?_
          refine pkT ?_
          refine asT ?_
          refine RW.nil ?_
          refine awp_cond rfl (fun h => nomatch h) (fun _ => ?_)
          refine awp_seq ?_
          refine awp_rw rfl ?_
          refine mvT ?_
          refine RW.op rfl rfl (eff_quoE (r := (around (what[i]'hil) 1000000) / 3) rfl rfl rfl rfl (by decide) (quoN (by omega) (by decide))) ?_
          refine RW.op rfl rfl (eff_remE (r := ((around (what[i]'hil) 1000000) / 3) % 5) rfl rfl rfl rfl (by decide) (tmod_pos (by omega))) ?_
          refine ioT ?_
          refine mvT ?_
          refine RW.split 84 rfl (fun h10 => ?_) (fun h10 => ?_)
          · try simp only [cl] at h10
            refine RW.gop rfl rfl rfl rfl rfl rfl (eff_move (v := .t _) rfl rfl rfl) ?_
            refine RW.gop rfl rfl rfl rfl rfl rfl (eff_iop rfl rfl rfl rfl rfl) ?_
            refine pkT ?_
            refine asT ?_
            refine RW.nil ?_
            refine awp_cond rfl (fun h11 => ?_) (fun h11 => ?_)
            · try simp only [cl] at h11
              refine awp_seq ?_
              obtain ⟨q, hq, hqn⟩ : ∃ q : Nat, (around (what[i]'hil) 1000000) / 15 % (sn : Int) = (q : Int) ∧ q < sn := ⟨((around (what[i]'hil) 1000000) / 15 % (sn : Int)).toNat, by have := Int.emod_nonneg ((around (what[i]'hil) 1000000) / 15) (show (sn : Int) ≠ 0 by omega); omega, by have := Int.emod_lt_of_pos ((around (what[i]'hil) 1000000) / 15) (show (0 : Int) < sn by omega); have := Int.emod_nonneg ((around (what[i]'hil) 1000000) / 15) (show (sn : Int) ≠ 0 by omega); omega⟩
              have hqf : q < (frames l 7).length := by omega
              refine awp_rd [(some 88, []), (some 89, []), (some 90, []), (some 91, []), (some 92, []), (some 93, []), (some 94, []), (some 95, []), (some 96, []), (none, [9])] [[], [], [], [2], [], [2, 3, 4], [1, 2, 3, 4, 5], [1, 2, 3, 4, 5, 6], [0, 1, 2, 3, 4, 5, 6, 7], [0, 1, 2, 3, 4, 5, 6, 7, 8]] tm rfl rfl rfl rfl ?_
              refine RD.op rfl rfl rfl (eff_load rfl rfl ti23 rfl (.whole rfl rfl rfl rfl rfl rfl)) ?_
              refine mvD ?_
              refine mvD ?_
              refine RD.op rfl rfl rfl (eff_quoE (r := (around (what[i]'hil) 1000000) / 15) rfl rfl rfl rfl (by decide) (quoN (by omega) (by decide))) ?_
              refine mvD ?_
              refine RD.op rfl rfl rfl (eff_remE (r := ((q : Nat) : Int)) rfl rfl rfl rfl (by omega) (by rw [tmod_pos (by omega), hq])) ?_
              refine RD.op rfl rfl rfl (eff_indexM (i := q) rfl rfl te62 rfl rfl (by first | rfl | omega) (by first | assumption | exact List.getElem?_eq_getElem (by omega)) rfl (by decide)) ?_
              refine RD.op rfl rfl rfl (eff_loadW rfl rfl ti45 rfl rfl rfl) ?_
              refine RD.op rfl rfl rfl (eff_callT (rapply_ret cs _ hg7) co37 rfl rfl rfl rfl) ?_
              refine RD.store rfl rfl rfl (eff_storeW (v := .t _) (els := [_]) (els' := [_]) rfl rfl ti23 rfl rfl rfl rfl rfl rfl rfl rfl rfl) ?_
              refine RD.nil ?_
              refine awp_seq ?_
              refine awp_rw rfl ?_
              refine mvO ?_
              refine RW.op rfl rfl (eff_load rfl rfl ti23 rfl (.whole rfl rfl rfl rfl rfl rfl)) ?_
              refine RW.new rfl rfl (eff_buildSliceL (id := 99) (els := [.t (.agg [_, _, _, _])]) rfl rfl te33 tz23 rfl (by decide) (by decide) rfl rfl rfl rfl) ?_
              refine RW.new rfl rfl (eff_append (id := 20) (ys := [_]) rfl rfl ta33 rfl rfl rfl (by rw [he0, hn0]; simp) rfl rfl (srcOwn rfl rfl rfl rfl rfl rfl) (by simp) (by simp; omega) (by simp; omega)) ?_
              refine asO ?_
              refine RW.nil ?_
              refine awp_exit ?_
              refine awp_rw rfl ?_
              refine mvT ?_
              refine RW.op rfl rfl (eff_iop rfl rfl rfl rfl (iadd (by omega))) ?_
              refine asT ?_
              refine RW.nil ?_
              have hG := gall_arr (F := (frames l 7)) hil rfl (by omega) hsn (by omega) (by omega) hq (by omega)
              refine ⟨_, ?_, _, weak_keep (n := 129) (fr' := [(1, .t (.sl (what.map encI) false)), (6, .t (.sl ((frames l 7).map encF) false)), (7, .own 7 _ 0 _), (8, .own 8 _ 0 _), (9, .ptr 9 0 0 0), (10, .own 20 _ 0 _), (11, .t (encI (_ : Nat))), (12, .t (encI _)), (13, .t (encI ((i + 1) : Nat)))]) (st' := [(7, some ⟨15, 47, _, _⟩), (8, some ⟨4, 23, _, _⟩), (9, some ⟨4, 23, 0, [.t (encR _)]⟩), (20, some ⟨4, 23, _, _⟩)]) ⟨rfl, rfl, rfl, rfl, rfl, rfl, rfl, rfl, rfl, rfl, rfl, rfl, rfl, rfl, rfl, rfl, rfl, rfl, trivial⟩ ⟨rfl, (by first | exact okE_nil | exact okE_one rfl | (rw [he7]; exact okE_t) | (rw [he7]; intro x hx; simp only [List.mem_append, List.mem_map, List.mem_singleton] at hx; rcases hx with ⟨y, _, rfl⟩ | rfl <;> rfl)), rfl, (by first | exact okE_nil | exact okE_one rfl | (rw [he8]; exact okE_t) | (rw [he8]; intro x hx; simp only [List.mem_append, List.mem_map, List.mem_singleton] at hx; rcases hx with ⟨y, _, rfl⟩ | rfl <;> rfl)), rfl, okE_one rfl, rfl, (by first | exact okE_nil | exact okE_one rfl | (rw [he0]; exact okE_t) | (rw [he0]; intro x hx; simp only [List.mem_append, List.mem_map, List.mem_singleton] at hx; rcases hx with ⟨y, _, rfl⟩ | rfl <;> rfl)), trivial⟩, i + 1, _, _, _, _, _, _, _, _, _, _, _, _, (by omega), (by omega), (by first | (exfalso; omega) | (rw [hG]; simp [gput, garr, hn7])), (by first | (exfalso; omega) | (rw [hG]; simp [gput, garr, hn8])), (by first | (exfalso; omega) | (rw [hG]; simp [gput, garr, hn0])), (by first | (exfalso; omega) | (first | (rw [hG]; exact he7) | (rw [hG, he7]; exact mapT_snoc (by subst htk; rfl)))), (by first | (exfalso; omega) | (first | (rw [hG]; exact he8) | (rw [hG, he8]; exact mapT_snoc (by subst hcs; rfl)))), (by first | (exfalso; omega) | (first | (rw [hG]; exact he0) | (rw [hG, he0]; exact mapT_snoc (by subst hcs; rfl)))), (by first | (exfalso; omega) | (first | (rw [hG]; exact hcs) | (rw [hG, hcs]; rfl))), (by first | (exfalso; omega) | (first | (rw [hG]; rfl) | (rw [hG]; exact hsn))), (by first | (exfalso; omega) | (rw [hG, htk]; rfl)), rfl, rfl⟩
              omega
            · try simp only [cl] at h11
              refine awp_seq ?_
              refine awp_rw rfl ?_
              refine mvT ?_
              refine RW.op rfl rfl (eff_quoE (r := (around (what[i]'hil) 1000000) / 3) rfl rfl rfl rfl (by decide) (quoN (by omega) (by decide))) ?_
              refine RW.op rfl rfl (eff_remE (r := ((around (what[i]'hil) 1000000) / 3) % 5) rfl rfl rfl rfl (by decide) (tmod_pos (by omega))) ?_
              refine ioT ?_
              refine asT ?_
              refine RW.nil ?_
              refine awp_cond rfl (fun h12 => ?_) (fun h12 => ?_)
              · try simp only [cl] at h12
                refine awp_seq ?_
                refine awp_rw rfl ?_
                refine faT tf47_1 ?_
                refine RW.store rfl rfl (eff_storeS (v := .t _) (ys := [_, _, _, _, _, _, _, _, _, _, _, _, _, _, _]) (els := [_]) (els' := [_]) rfl rfl ti3 rfl rfl rfl rfl rfl rfl rfl (Nat.le_of_ble_eq_true rfl) rfl rfl) ?_
                refine RW.nil ?_
                refine awp_rw rfl ?_
                obtain ⟨q2, hq2⟩ : ∃ q : Nat, imax 0 (((gall (frames l 7) what i).reps.length : Int) - 1 - (around (what[i]'hil) 1000000) / 15 % 3) = (q : Int) := ⟨(imax 0 (((gall (frames l 7) what i).reps.length : Int) - 1 - (around (what[i]'hil) 1000000) / 15 % 3)).toNat, by unfold imax; split <;> omega⟩
                have hql : q2 < (gall (frames l 7) what i).reps.length := by unfold imax at hq2; split at hq2 <;> omega
                refine mvO ?_
                refine mvO ?_
                refine RW.op rfl rfl (eff_len rfl rfl te33 rfl rfl rfl) ?_
                refine RW.op rfl rfl (eff_iop (r := encI ((n0 : Int) - 1)) rfl rfl rfl rfl (isub (by omega))) ?_
                refine mvT ?_
                refine RW.op rfl rfl (eff_quoE (r := (around (what[i]'hil) 1000000) / 15) rfl rfl rfl rfl (by decide) (quoN (by omega) (by decide))) ?_
                refine RW.op rfl rfl (eff_remE (r := ((around (what[i]'hil) 1000000) / 15) % 3) rfl rfl rfl rfl (by decide) (tmod_pos (by omega))) ?_
                refine RW.op rfl rfl (eff_iop (r := encI ((n0 : Int) - 1 - (around (what[i]'hil) 1000000) / 15 % 3)) rfl rfl rfl rfl (isub (by omega))) ?_
                refine RW.op rfl rfl (eff_maxE (r := ((q2 : Nat) : Int)) rfl rfl rfl rfl (by rw [hn0]; exact hq2)) ?_
                refine RW.op rfl rfl (eff_indexAddr (i := q2) rfl rfl te33 rfl rfl rfl rfl rfl rfl (by omega)) ?_
                refine RW.op rfl rfl (eff_load (y := .t (encR ((gall (frames l 7) what i).reps[q2]'hql))) rfl rfl ti23 rfl (.whole rfl rfl (by rw [Nat.zero_add, he0]; exact elR hql) rfl rfl rfl)) ?_
                refine faT tf47_3 ?_
                refine RW.store rfl rfl (eff_storeS (v := .t _) (ys := [_, _, _, _, _, _, _, _, _, _, _, _, _, _, _]) (els := [_]) (els' := [_]) rfl rfl ti23 rfl rfl rfl rfl rfl rfl rfl (Nat.le_of_ble_eq_true rfl) rfl rfl) ?_
                refine RW.nil ?_
                refine awp_seq ?_
                refine awp_rw rfl ?_
                refine mvO ?_
                refine RW.op rfl rfl (eff_load rfl rfl ti47 rfl (.whole rfl rfl rfl rfl rfl rfl)) ?_
                (refine RW.weak (weak_slot 120 (y := encC ⟨tk + (around (what[i]'hil) 1000000) % 3, 2, zf, (gall (frames l 7) what i).reps[q2]'hql, zd⟩) rfl (by first | ((repeat' (first | exact trivial | exact Wk.refl _ | exact Wk.sl _ | refine And.intro ?_ ?_ | refine Wk.tupP ?_ | refine Wk.aggP ?_)); done) | fail)) rfl ?_)
                refine RW.new rfl rfl (eff_buildSliceL (id := 121) (els := [.t (.agg [_, _, _, _, _, _, _, _, _, _, _, _, _, _, _])]) rfl rfl te32 tz47 rfl (by decide) (by decide) rfl rfl rfl rfl) ?_
                refine RW.new rfl rfl (eff_append (id := 7) (ys := [_]) rfl rfl ta32 rfl rfl rfl (by rw [he7, hn7]; simp) rfl rfl (srcOwn rfl rfl rfl rfl rfl rfl) (by simp) (by simp; omega) (by simp; omega)) ?_
                refine asO ?_
                refine RW.nil ?_
                refine awp_rw rfl ?_
                refine mvO ?_
                refine RW.op rfl rfl (eff_load rfl rfl ti23 rfl (.whole rfl rfl rfl rfl rfl rfl)) ?_
                refine RW.new rfl rfl (eff_buildSliceL (id := 125) (els := [.t (.agg [_, _, _, _])]) rfl rfl te33 tz23 rfl (by decide) (by decide) rfl rfl rfl rfl) ?_
                refine RW.new rfl rfl (eff_append (id := 8) (ys := [_]) rfl rfl ta33 rfl rfl rfl (by rw [he8, hn8]; simp) rfl rfl (srcOwn rfl rfl rfl rfl rfl rfl) (by simp) (by simp; omega) (by simp; omega)) ?_
                refine asO ?_
                refine RW.nil ?_
                refine awp_rw rfl ?_
                refine mvT ?_
                refine RW.op rfl rfl (eff_iop rfl rfl rfl rfl (iadd (by omega))) ?_
                refine asT ?_
                refine RW.nil ?_
                have hG := gall_send (F := (frames l 7)) hil rfl (by omega) hsn (by omega) (by omega)
                refine ⟨_, ?_, _, weak_keep (n := 129) (fr' := [(1, .t (.sl (what.map encI) false)), (6, .t (.sl ((frames l 7).map encF) false)), (7, .own 7 _ 0 _), (8, .own 8 _ 0 _), (9, .ptr 9 0 0 0), (10, .own 20 _ 0 _), (11, .t (encI (_ : Nat))), (12, .t (encI _)), (13, .t (encI ((i + 1) : Nat)))]) (st' := [(7, some ⟨15, 47, _, _⟩), (8, some ⟨4, 23, _, _⟩), (9, some ⟨4, 23, 0, [.t (encR _)]⟩), (20, some ⟨4, 23, _, _⟩)]) ⟨rfl, rfl, rfl, rfl, rfl, rfl, rfl, rfl, rfl, rfl, rfl, rfl, rfl, rfl, rfl, rfl, rfl, rfl, trivial⟩ ⟨rfl, (by first | exact okE_nil | exact okE_one rfl | (rw [he7]; exact okE_t) | (rw [he7]; intro x hx; simp only [List.mem_append, List.mem_map, List.mem_singleton] at hx; rcases hx with ⟨y, _, rfl⟩ | rfl <;> rfl)), rfl, (by first | exact okE_nil | exact okE_one rfl | (rw [he8]; exact okE_t) | (rw [he8]; intro x hx; simp only [List.mem_append, List.mem_map, List.mem_singleton] at hx; rcases hx with ⟨y, _, rfl⟩ | rfl <;> rfl)), rfl, okE_one rfl, rfl, (by first | exact okE_nil | exact okE_one rfl | (rw [he0]; exact okE_t) | (rw [he0]; intro x hx; simp only [List.mem_append, List.mem_map, List.mem_singleton] at hx; rcases hx with ⟨y, _, rfl⟩ | rfl <;> rfl)), trivial⟩, i + 1, _, _, _, _, _, _, _, _, _, _, _, _, (by omega), (by omega), (by first | (exfalso; omega) | (rw [hG]; simp [gput, garr, hn7])), (by first | (exfalso; omega) | (rw [hG]; simp [gput, garr, hn8])), (by first | (exfalso; omega) | (rw [hG]; simp [gput, garr, hn0])), (by first | (exfalso; omega) | (first | (rw [hG]; exact he7) | (rw [hG, he7]; exact mapT_snoc (by subst htk; rfl)))), (by first | (exfalso; omega) | (first | (rw [hG]; exact he8) | (rw [hG, he8]; exact mapT_snoc (by subst hcs; rfl)))), (by first | (exfalso; omega) | (first | (rw [hG]; exact he0) | (rw [hG, he0]; exact mapT_snoc (by subst hcs; rfl)))), (by first | (exfalso; omega) | (first | (rw [hG]; exact hcs) | (rw [hG, hcs]; rfl))), (by first | (exfalso; omega) | (first | (rw [hG]; rfl) | (rw [hG]; exact hsn))), (by first | (exfalso; omega) | (rw [hG, htk]; rfl)), rfl, rfl⟩
                omega
              · try simp only [cl] at h12
                refine awp_seq ?_
                refine awp_rw rfl ?_
                refine faT tf47_1 ?_
                refine RW.store rfl rfl (eff_storeS (v := .t _) (ys := [_, _, _, _, _, _, _, _, _, _, _, _, _, _, _]) (els := [_]) (els' := [_]) rfl rfl ti3 rfl rfl rfl rfl rfl rfl rfl (Nat.le_of_ble_eq_true rfl) rfl rfl) ?_
                refine RW.nil ?_
                refine awp_rw rfl ?_
                refine mvT ?_
                refine mvT ?_
                refine RW.op rfl rfl (eff_quoE (r := (around (what[i]'hil) 1000000) / 15) rfl rfl rfl rfl (by decide) (quoN (by omega) (by decide))) ?_
                refine RW.op rfl rfl (eff_remE (r := ((around (what[i]'hil) 1000000) / 15) % 3) rfl rfl rfl rfl (by decide) (tmod_pos (by omega))) ?_
                refine mvT ?_
                refine RW.op rfl rfl (eff_quoE (r := (around (what[i]'hil) 1000000) / 45) rfl rfl rfl rfl (by decide) (quoN (by omega) (by decide))) ?_
                refine RW.op rfl rfl (eff_remE (r := ((around (what[i]'hil) 1000000) / 45) % 4) rfl rfl rfl rfl (by decide) (tmod_pos (by omega))) ?_
                refine mvT ?_
                refine RW.op rfl rfl (eff_quoE (r := (around (what[i]'hil) 1000000) / 180) rfl rfl rfl rfl (by decide) (quoN (by omega) (by decide))) ?_
                refine RW.op rfl rfl (eff_remE (r := ((around (what[i]'hil) 1000000) / 180) % 8) rfl rfl rfl rfl (by decide) (tmod_pos (by omega))) ?_
                refine RW.op rfl rfl (eff_buildT (ys := [_, _, _, _]) rfl rfl tz28 tg28 rfl) ?_
                refine faT tf47_4 ?_
                refine RW.store rfl rfl (eff_storeS (v := .t _) (ys := [_, _, _, _, _, _, _, _, _, _, _, _, _, _, _]) (els := [_]) (els' := [_]) rfl rfl ti28 rfl rfl rfl rfl rfl rfl rfl (Nat.le_of_ble_eq_true rfl) rfl rfl) ?_
                refine RW.nil ?_
                refine awp_seq ?_
                refine awp_rw rfl ?_
                refine mvO ?_
                refine RW.op rfl rfl (eff_load rfl rfl ti47 rfl (.whole rfl rfl rfl rfl rfl rfl)) ?_
                (refine RW.weak (weak_slot 120 (y := encC ⟨tk + (around (what[i]'hil) 1000000) % 3, 3, zf, zr, ⟨tk + (around (what[i]'hil) 1000000) % 3, (around (what[i]'hil) 1000000) / 15 % 3, (around (what[i]'hil) 1000000) / 45 % 4, (around (what[i]'hil) 1000000) / 180 % 8⟩⟩) rfl (by first | ((repeat' (first | exact trivial | exact Wk.refl _ | exact Wk.sl _ | refine And.intro ?_ ?_ | refine Wk.tupP ?_ | refine Wk.aggP ?_)); done) | fail)) rfl ?_)
                refine RW.new rfl rfl (eff_buildSliceL (id := 121) (els := [.t (.agg [_, _, _, _, _, _, _, _, _, _, _, _, _, _, _])]) rfl rfl te32 tz47 rfl (by decide) (by decide) rfl rfl rfl rfl) ?_
                refine RW.new rfl rfl (eff_append (id := 7) (ys := [_]) rfl rfl ta32 rfl rfl rfl (by rw [he7, hn7]; simp) rfl rfl (srcOwn rfl rfl rfl rfl rfl rfl) (by simp) (by simp; omega) (by simp; omega)) ?_
                refine asO ?_
                refine RW.nil ?_
                refine awp_rw rfl ?_
                refine mvO ?_
                refine RW.op rfl rfl (eff_load rfl rfl ti23 rfl (.whole rfl rfl rfl rfl rfl rfl)) ?_
                refine RW.new rfl rfl (eff_buildSliceL (id := 125) (els := [.t (.agg [_, _, _, _])]) rfl rfl te33 tz23 rfl (by decide) (by decide) rfl rfl rfl rfl) ?_
                refine RW.new rfl rfl (eff_append (id := 8) (ys := [_]) rfl rfl ta33 rfl rfl rfl (by rw [he8, hn8]; simp) rfl rfl (srcOwn rfl rfl rfl rfl rfl rfl) (by simp) (by simp; omega) (by simp; omega)) ?_
                refine asO ?_
                refine RW.nil ?_
                refine awp_rw rfl ?_
                refine mvT ?_
                refine RW.op rfl rfl (eff_iop rfl rfl rfl rfl (iadd (by omega))) ?_
                refine asT ?_
                refine RW.nil ?_
                have hG := gall_dec (F := (frames l 7)) hil rfl (by omega) hsn (by omega) (by omega) (by omega)
                refine ⟨_, ?_, _, weak_keep (n := 129) (fr' := [(1, .t (.sl (what.map encI) false)), (6, .t (.sl ((frames l 7).map encF) false)), (7, .own 7 _ 0 _), (8, .own 8 _ 0 _), (9, .ptr 9 0 0 0), (10, .own 20 _ 0 _), (11, .t (encI (_ : Nat))), (12, .t (encI _)), (13, .t (encI ((i + 1) : Nat)))]) (st' := [(7, some ⟨15, 47, _, _⟩), (8, some ⟨4, 23, _, _⟩), (9, some ⟨4, 23, 0, [.t (encR _)]⟩), (20, some ⟨4, 23, _, _⟩)]) ⟨rfl, rfl, rfl, rfl, rfl, rfl, rfl, rfl, rfl, rfl, rfl, rfl, rfl, rfl, rfl, rfl, rfl, rfl, trivial⟩ ⟨rfl, (by first | exact okE_nil | exact okE_one rfl | (rw [he7]; exact okE_t) | (rw [he7]; intro x hx; simp only [List.mem_append, List.mem_map, List.mem_singleton] at hx; rcases hx with ⟨y, _, rfl⟩ | rfl <;> rfl)), rfl, (by first | exact okE_nil | exact okE_one rfl | (rw [he8]; exact okE_t) | (rw [he8]; intro x hx; simp only [List.mem_append, List.mem_map, List.mem_singleton] at hx; rcases hx with ⟨y, _, rfl⟩ | rfl <;> rfl)), rfl, okE_one rfl, rfl, (by first | exact okE_nil | exact okE_one rfl | (rw [he0]; exact okE_t) | (rw [he0]; intro x hx; simp only [List.mem_append, List.mem_map, List.mem_singleton] at hx; rcases hx with ⟨y, _, rfl⟩ | rfl <;> rfl)), trivial⟩, i + 1, _, _, _, _, _, _, _, _, _, _, _, _, (by omega), (by omega), (by first | (exfalso; omega) | (rw [hG]; simp [gput, garr, hn7])), (by first | (exfalso; omega) | (rw [hG]; simp [gput, garr, hn8])), (by first | (exfalso; omega) | (rw [hG]; simp [gput, garr, hn0])), (by first | (exfalso; omega) | (first | (rw [hG]; exact he7) | (rw [hG, he7]; exact mapT_snoc (by subst htk; rfl)))), (by first | (exfalso; omega) | (first | (rw [hG]; exact he8) | (rw [hG, he8]; exact mapT_snoc (by subst hcs; rfl)))), (by first | (exfalso; omega) | (first | (rw [hG]; exact he0) | (rw [hG, he0]; exact mapT_snoc (by subst hcs; rfl)))), (by first | (exfalso; omega) | (first | (rw [hG]; exact hcs) | (rw [hG, hcs]; rfl))), (by first | (exfalso; omega) | (first | (rw [hG]; rfl) | (rw [hG]; exact hsn))), (by first | (exfalso; omega) | (rw [hG, htk]; rfl)), rfl, rfl⟩
                omega
          · try simp only [cl] at h10
            refine gkT ?_
            refine gkT ?_
            refine pkT ?_
            refine asT ?_
            refine RW.nil ?_
            refine awp_cond rfl (fun h => nomatch h) (fun _ => ?_)
            refine awp_seq ?_
            refine awp_rw rfl ?_
            refine mvT ?_
            refine RW.op rfl rfl (eff_quoE (r := (around (what[i]'hil) 1000000) / 3) rfl rfl rfl rfl (by decide) (quoN (by omega) (by decide))) ?_
            refine RW.op rfl rfl (eff_remE (r := ((around (what[i]'hil) 1000000) / 3) % 5) rfl rfl rfl rfl (by decide) (tmod_pos (by omega))) ?_
            refine ioT ?_
            refine asT ?_
            refine RW.nil ?_
            refine awp_cond rfl (fun h13 => ?_) (fun h13 => ?_)
            · try simp only [cl] at h13
              refine awp_seq ?_
              refine awp_rw rfl ?_
              refine faT tf47_1 ?_
              refine RW.store rfl rfl (eff_storeS (v := .t _) (ys := [_, _, _, _, _, _, _, _, _, _, _, _, _, _, _]) (els := [_]) (els' := [_]) rfl rfl ti3 rfl rfl rfl rfl rfl rfl rfl (Nat.le_of_ble_eq_true rfl) rfl rfl) ?_
              refine RW.nil ?_
              refine awp_rw rfl ?_
              obtain ⟨q2, hq2⟩ : ∃ q : Nat, imax 0 (((gall (frames l 7) what i).reps.length : Int) - 1 - (around (what[i]'hil) 1000000) / 15 % 3) = (q : Int) := ⟨(imax 0 (((gall (frames l 7) what i).reps.length : Int) - 1 - (around (what[i]'hil) 1000000) / 15 % 3)).toNat, by unfold imax; split <;> omega⟩
              have hql : q2 < (gall (frames l 7) what i).reps.length := by unfold imax at hq2; split at hq2 <;> omega
              refine mvO ?_
              refine mvO ?_
              refine RW.op rfl rfl (eff_len rfl rfl te33 rfl rfl rfl) ?_
              refine RW.op rfl rfl (eff_iop (r := encI ((n0 : Int) - 1)) rfl rfl rfl rfl (isub (by omega))) ?_
              refine mvT ?_
              refine RW.op rfl rfl (eff_quoE (r := (around (what[i]'hil) 1000000) / 15) rfl rfl rfl rfl (by decide) (quoN (by omega) (by decide))) ?_
              refine RW.op rfl rfl (eff_remE (r := ((around (what[i]'hil) 1000000) / 15) % 3) rfl rfl rfl rfl (by decide) (tmod_pos (by omega))) ?_
              refine RW.op rfl rfl (eff_iop (r := encI ((n0 : Int) - 1 - (around (what[i]'hil) 1000000) / 15 % 3)) rfl rfl rfl rfl (isub (by omega))) ?_
              refine RW.op rfl rfl (eff_maxE (r := ((q2 : Nat) : Int)) rfl rfl rfl rfl (by rw [hn0]; exact hq2)) ?_
              refine RW.op rfl rfl (eff_indexAddr (i := q2) rfl rfl te33 rfl rfl rfl rfl rfl rfl (by omega)) ?_
              refine RW.op rfl rfl (eff_load (y := .t (encR ((gall (frames l 7) what i).reps[q2]'hql))) rfl rfl ti23 rfl (.whole rfl rfl (by rw [Nat.zero_add, he0]; exact elR hql) rfl rfl rfl)) ?_
              refine faT tf47_3 ?_
              refine RW.store rfl rfl (eff_storeS (v := .t _) (ys := [_, _, _, _, _, _, _, _, _, _, _, _, _, _, _]) (els := [_]) (els' := [_]) rfl rfl ti23 rfl rfl rfl rfl rfl rfl rfl (Nat.le_of_ble_eq_true rfl) rfl rfl) ?_
              refine RW.nil ?_
              refine awp_seq ?_
              refine awp_rw rfl ?_
              refine mvO ?_
              refine RW.op rfl rfl (eff_load rfl rfl ti47 rfl (.whole rfl rfl rfl rfl rfl rfl)) ?_
              (refine RW.weak (weak_slot 120 (y := encC ⟨tk + (around (what[i]'hil) 1000000) % 3, 2, zf, (gall (frames l 7) what i).reps[q2]'hql, zd⟩) rfl (by first | ((repeat' (first | exact trivial | exact Wk.refl _ | exact Wk.sl _ | refine And.intro ?_ ?_ | refine Wk.tupP ?_ | refine Wk.aggP ?_)); done) | fail)) rfl ?_)
              refine RW.new rfl rfl (eff_buildSliceL (id := 121) (els := [.t (.agg [_, _, _, _, _, _, _, _, _, _, _, _, _, _, _])]) rfl rfl te32 tz47 rfl (by decide) (by decide) rfl rfl rfl rfl) ?_
              refine RW.new rfl rfl (eff_append (id := 7) (ys := [_]) rfl rfl ta32 rfl rfl rfl (by rw [he7, hn7]; simp) rfl rfl (srcOwn rfl rfl rfl rfl rfl rfl) (by simp) (by simp; omega) (by simp; omega)) ?_
              refine asO ?_
              refine RW.nil ?_
              refine awp_rw rfl ?_
              refine mvO ?_
              refine RW.op rfl rfl (eff_load rfl rfl ti23 rfl (.whole rfl rfl rfl rfl rfl rfl)) ?_
              refine RW.new rfl rfl (eff_buildSliceL (id := 125) (els := [.t (.agg [_, _, _, _])]) rfl rfl te33 tz23 rfl (by decide) (by decide) rfl rfl rfl rfl) ?_
              refine RW.new rfl rfl (eff_append (id := 8) (ys := [_]) rfl rfl ta33 rfl rfl rfl (by rw [he8, hn8]; simp) rfl rfl (srcOwn rfl rfl rfl rfl rfl rfl) (by simp) (by simp; omega) (by simp; omega)) ?_
              refine asO ?_
              refine RW.nil ?_
              refine awp_rw rfl ?_
              refine mvT ?_
              refine RW.op rfl rfl (eff_iop rfl rfl rfl rfl (iadd (by omega))) ?_
              refine asT ?_
              refine RW.nil ?_
              have hG := gall_hear (F := (frames l 7)) hil rfl (by omega) hsn (by omega) hq2 hql
              refine ⟨_, ?_, _, weak_keep (n := 129) (fr' := [(1, .t (.sl (what.map encI) false)), (6, .t (.sl ((frames l 7).map encF) false)), (7, .own 7 _ 0 _), (8, .own 8 _ 0 _), (9, .ptr 9 0 0 0), (10, .own 20 _ 0 _), (11, .t (encI (_ : Nat))), (12, .t (encI _)), (13, .t (encI ((i + 1) : Nat)))]) (st' := [(7, some ⟨15, 47, _, _⟩), (8, some ⟨4, 23, _, _⟩), (9, some ⟨4, 23, 0, [.t (encR _)]⟩), (20, some ⟨4, 23, _, _⟩)]) ⟨rfl, rfl, rfl, rfl, rfl, rfl, rfl, rfl, rfl, rfl, rfl, rfl, rfl, rfl, rfl, rfl, rfl, rfl, trivial⟩ ⟨rfl, (by first | exact okE_nil | exact okE_one rfl | (rw [he7]; exact okE_t) | (rw [he7]; intro x hx; simp only [List.mem_append, List.mem_map, List.mem_singleton] at hx; rcases hx with ⟨y, _, rfl⟩ | rfl <;> rfl)), rfl, (by first | exact okE_nil | exact okE_one rfl | (rw [he8]; exact okE_t) | (rw [he8]; intro x hx; simp only [List.mem_append, List.mem_map, List.mem_singleton] at hx; rcases hx with ⟨y, _, rfl⟩ | rfl <;> rfl)), rfl, okE_one rfl, rfl, (by first | exact okE_nil | exact okE_one rfl | (rw [he0]; exact okE_t) | (rw [he0]; intro x hx; simp only [List.mem_append, List.mem_map, List.mem_singleton] at hx; rcases hx with ⟨y, _, rfl⟩ | rfl <;> rfl)), trivial⟩, i + 1, _, _, _, _, _, _, _, _, _, _, _, _, (by omega), (by omega), (by first | (exfalso; omega) | (rw [hG]; simp [gput, garr, hn7])), (by first | (exfalso; omega) | (rw [hG]; simp [gput, garr, hn8])), (by first | (exfalso; omega) | (rw [hG]; simp [gput, garr, hn0])), (by first | (exfalso; omega) | (first | (rw [hG]; exact he7) | (rw [hG, he7]; exact mapT_snoc (by subst htk; rfl)))), (by first | (exfalso; omega) | (first | (rw [hG]; exact he8) | (rw [hG, he8]; exact mapT_snoc (by subst hcs; rfl)))), (by first | (exfalso; omega) | (first | (rw [hG]; exact he0) | (rw [hG, he0]; exact mapT_snoc (by subst hcs; rfl)))), (by first | (exfalso; omega) | (first | (rw [hG]; exact hcs) | (rw [hG, hcs]; rfl))), (by first | (exfalso; omega) | (first | (rw [hG]; rfl) | (rw [hG]; exact hsn))), (by first | (exfalso; omega) | (rw [hG, htk]; rfl)), rfl, rfl⟩
              omega
            · try simp only [cl] at h13
              refine awp_seq ?_
              refine awp_rw rfl ?_
              refine faT tf47_1 ?_
              refine RW.store rfl rfl (eff_storeS (v := .t _) (ys := [_, _, _, _, _, _, _, _, _, _, _, _, _, _, _]) (els := [_]) (els' := [_]) rfl rfl ti3 rfl rfl rfl rfl rfl rfl rfl (Nat.le_of_ble_eq_true rfl) rfl rfl) ?_
              refine RW.nil ?_
              refine awp_rw rfl ?_
              refine mvT ?_
              refine mvT ?_
              refine RW.op rfl rfl (eff_quoE (r := (around (what[i]'hil) 1000000) / 15) rfl rfl rfl rfl (by decide) (quoN (by omega) (by decide))) ?_
              refine RW.op rfl rfl (eff_remE (r := ((around (what[i]'hil) 1000000) / 15) % 3) rfl rfl rfl rfl (by decide) (tmod_pos (by omega))) ?_
              refine mvT ?_
              refine RW.op rfl rfl (eff_quoE (r := (around (what[i]'hil) 1000000) / 45) rfl rfl rfl rfl (by decide) (quoN (by omega) (by decide))) ?_
              refine RW.op rfl rfl (eff_remE (r := ((around (what[i]'hil) 1000000) / 45) % 4) rfl rfl rfl rfl (by decide) (tmod_pos (by omega))) ?_
              refine mvT ?_
              refine RW.op rfl rfl (eff_quoE (r := (around (what[i]'hil) 1000000) / 180) rfl rfl rfl rfl (by decide) (quoN (by omega) (by decide))) ?_
              refine RW.op rfl rfl (eff_remE (r := ((around (what[i]'hil) 1000000) / 180) % 8) rfl rfl rfl rfl (by decide) (tmod_pos (by omega))) ?_
              refine RW.op rfl rfl (eff_buildT (ys := [_, _, _, _]) rfl rfl tz28 tg28 rfl) ?_
              refine faT tf47_4 ?_
              refine RW.store rfl rfl (eff_storeS (v := .t _) (ys := [_, _, _, _, _, _, _, _, _, _, _, _, _, _, _]) (els := [_]) (els' := [_]) rfl rfl ti28 rfl rfl rfl rfl rfl rfl rfl (Nat.le_of_ble_eq_true rfl) rfl rfl) ?_
              refine RW.nil ?_
              refine awp_seq ?_
              refine awp_rw rfl ?_
              refine mvO ?_
              refine RW.op rfl rfl (eff_load rfl rfl ti47 rfl (.whole rfl rfl rfl rfl rfl rfl)) ?_
              (refine RW.weak (weak_slot 120 (y := encC ⟨tk + (around (what[i]'hil) 1000000) % 3, 3, zf, zr, ⟨tk + (around (what[i]'hil) 1000000) % 3, (around (what[i]'hil) 1000000) / 15 % 3, (around (what[i]'hil) 1000000) / 45 % 4, (around (what[i]'hil) 1000000) / 180 % 8⟩⟩) rfl (by first | ((repeat' (first | exact trivial | exact Wk.refl _ | exact Wk.sl _ | refine And.intro ?_ ?_ | refine Wk.tupP ?_ | refine Wk.aggP ?_)); done) | fail)) rfl ?_)
              refine RW.new rfl rfl (eff_buildSliceL (id := 121) (els := [.t (.agg [_, _, _, _, _, _, _, _, _, _, _, _, _, _, _])]) rfl rfl te32 tz47 rfl (by decide) (by decide) rfl rfl rfl rfl) ?_
              refine RW.new rfl rfl (eff_append (id := 7) (ys := [_]) rfl rfl ta32 rfl rfl rfl (by rw [he7, hn7]; simp) rfl rfl (srcOwn rfl rfl rfl rfl rfl rfl) (by simp) (by simp; omega) (by simp; omega)) ?_
              refine asO ?_
              refine RW.nil ?_
              refine awp_rw rfl ?_
              refine mvO ?_
              refine RW.op rfl rfl (eff_load rfl rfl ti23 rfl (.whole rfl rfl rfl rfl rfl rfl)) ?_
              refine RW.new rfl rfl (eff_buildSliceL (id := 125) (els := [.t (.agg [_, _, _, _])]) rfl rfl te33 tz23 rfl (by decide) (by decide) rfl rfl rfl rfl) ?_
              refine RW.new rfl rfl (eff_append (id := 8) (ys := [_]) rfl rfl ta33 rfl rfl rfl (by rw [he8, hn8]; simp) rfl rfl (srcOwn rfl rfl rfl rfl rfl rfl) (by simp) (by simp; omega) (by simp; omega)) ?_
              refine asO ?_
              refine RW.nil ?_
              refine awp_rw rfl ?_
              refine mvT ?_
              refine RW.op rfl rfl (eff_iop rfl rfl rfl rfl (iadd (by omega))) ?_
              refine asT ?_
              refine RW.nil ?_
              have hG := gall_dec (F := (frames l 7)) hil rfl (by omega) hsn (by omega) (by omega) (by omega)
              refine ⟨_, ?_, _, weak_keep (n := 129) (fr' := [(1, .t (.sl (what.map encI) false)), (6, .t (.sl ((frames l 7).map encF) false)), (7, .own 7 _ 0 _), (8, .own 8 _ 0 _), (9, .ptr 9 0 0 0), (10, .own 20 _ 0 _), (11, .t (encI (_ : Nat))), (12, .t (encI _)), (13, .t (encI ((i + 1) : Nat)))]) (st' := [(7, some ⟨15, 47, _, _⟩), (8, some ⟨4, 23, _, _⟩), (9, some ⟨4, 23, 0, [.t (encR _)]⟩), (20, some ⟨4, 23, _, _⟩)]) ⟨rfl, rfl, rfl, rfl, rfl, rfl, rfl, rfl, rfl, rfl, rfl, rfl, rfl, rfl, rfl, rfl, rfl, rfl, trivial⟩ ⟨rfl, (by first | exact okE_nil | exact okE_one rfl | (rw [he7]; exact okE_t) | (rw [he7]; intro x hx; simp only [List.mem_append, List.mem_map, List.mem_singleton] at hx; rcases hx with ⟨y, _, rfl⟩ | rfl <;> rfl)), rfl, (by first | exact okE_nil | exact okE_one rfl | (rw [he8]; exact okE_t) | (rw [he8]; intro x hx; simp only [List.mem_append, List.mem_map, List.mem_singleton] at hx; rcases hx with ⟨y, _, rfl⟩ | rfl <;> rfl)), rfl, okE_one rfl, rfl, (by first | exact okE_nil | exact okE_one rfl | (rw [he0]; exact okE_t) | (rw [he0]; intro x hx; simp only [List.mem_append, List.mem_map, List.mem_singleton] at hx; rcases hx with ⟨y, _, rfl⟩ | rfl <;> rfl)), trivial⟩, i + 1, _, _, _, _, _, _, _, _, _, _, _, _, (by omega), (by omega), (by first | (exfalso; omega) | (rw [hG]; simp [gput, garr, hn7])), (by first | (exfalso; omega) | (rw [hG]; simp [gput, garr, hn8])), (by first | (exfalso; omega) | (rw [hG]; simp [gput, garr, hn0])), (by first | (exfalso; omega) | (first | (rw [hG]; exact he7) | (rw [hG, he7]; exact mapT_snoc (by subst htk; rfl)))), (by first | (exfalso; omega) | (first | (rw [hG]; exact he8) | (rw [hG, he8]; exact mapT_snoc (by subst hcs; rfl)))), (by first | (exfalso; omega) | (first | (rw [hG]; exact he0) | (rw [hG, he0]; exact mapT_snoc (by subst hcs; rfl)))), (by first | (exfalso; omega) | (first | (rw [hG]; exact hcs) | (rw [hG, hcs]; rfl))), (by first | (exfalso; omega) | (first | (rw [hG]; rfl) | (rw [hG]; exact hsn))), (by first | (exfalso; omega) | (rw [hG, htk]; rfl)), rfl, rfl⟩
              omega
      · try simp only [cl] at h3
        refine awp_exit ?_
        refine awp_seq ?_
        refine awp_rw rfl ?_
        refine mvO ?_
        refine mvO ?_
        refine asO ?_
        refine asO ?_
        refine RW.nil ?_
        refine awp_ret ?_
        have hst := gall_stop (F := (frames l 7)) hi h30 (by rintro ⟨a1, a2, a3⟩; omega)
        unfold ledger
        rw [hst]
        exact ⟨Or.inr rfl, [_, _], ⟨.tmp (Res.ownT (xs := (gall (frames l 7) what i).recs.map encC) rfl rfl he7 (by rw [hn7]; simp)), .tmp (Res.ownT (xs := (gall (frames l 7) what i).sts.map encR) rfl rfl he8 (by rw [hn8]; simp)), trivial⟩, .refl _⟩
    · try simp only [cl] at h2
      refine gkT ?_
      refine gkT ?_
      refine pkT ?_
      refine RW.nil ?_
      refine awp_cond rfl (fun h => nomatch h) (fun _ => ?_)
      refine awp_exit ?_
      refine awp_seq ?_
      refine awp_rw rfl ?_
      refine mvO ?_
      refine mvO ?_
      refine asO ?_
      refine asO ?_
      refine RW.nil ?_
      refine awp_ret ?_
      have hst := gall_stop (F := (frames l 7)) hi h30 (by rintro ⟨a1, a2, a3⟩; omega)
      unfold ledger
      rw [hst]
      exact ⟨Or.inr rfl, [_, _], ⟨.tmp (Res.ownT (xs := (gall (frames l 7) what i).recs.map encC) rfl rfl he7 (by rw [hn7]; simp)), .tmp (Res.ownT (xs := (gall (frames l 7) what i).sts.map encR) rfl rfl he8 (by rw [hn8]; simp)), trivial⟩, .refl _⟩
  · try simp only [cl] at h1
    refine gkT ?_
    refine gkT ?_
    refine gkT ?_
    refine pkT ?_
    refine mvT ?_
    refine gkT ?_
    refine gkT ?_
    refine pkT ?_
    refine RW.nil ?_
    refine awp_cond rfl (fun h => nomatch h) (fun _ => ?_)
    refine awp_exit ?_
    refine awp_seq ?_
    refine awp_rw rfl ?_
    refine mvO ?_
    refine mvO ?_
    refine asO ?_
    refine asO ?_
    refine RW.nil ?_
    refine awp_ret ?_
    have hst := gall_stop (F := (frames l 7)) hi h30 (by rintro ⟨a1, a2, a3⟩; omega)
    unfold ledger
    rw [hst]
    exact ⟨Or.inr rfl, [_, _], ⟨.tmp (Res.ownT (xs := (gall (frames l 7) what i).recs.map encC) rfl rfl he7 (by rw [hn7]; simp)), .tmp (Res.ownT (xs := (gall (frames l 7) what i).sts.map encR) rfl rfl he8 (by rw [hn8]; simp)), trivial⟩, .refl _⟩

end Go.Tv.C36

end
section
open Go Go.Tv Go.Proofs
namespace Go.Tv.C36
set_option maxRecDepth 20000
set_option maxHeartbeats 2000000
set_option linter.unusedSimpArgs false
set_option linter.unusedVariables false
theorem lives1 : RetT Tryd.prog 22 [(1, deT)] [.sl (late4.map encC) false, encD dAg] (.tup [encV zv, encI 0]) := by have h := judge_ret late4 dAg okLate; rw [livA] at h; exact h
theorem lives2 : RetT Tryd.prog 22 [(1, deT)] [.sl (late4.map encC) false, encD dTo] (.tup [encV ⟨false, ⟨1, 0, 1, false⟩⟩, encI 0]) := by have h := judge_ret late4 dTo okLate; rw [livB] at h; exact h
theorem lives3 : RetT Tryd.prog 22 [(1, deT)] [.sl (early4.map encC) false, encD dAg] (.tup [encV ⟨true, zr⟩, encI 0]) := by have h := judge_ret early4 dAg okEarly; rw [livC] at h; exact h
theorem lives4 : RetT Tryd.prog 19 [(1, deT)] [.sl (early4.map encC) false] (.tup [.sl ([2].map encN) false, encI 0]) := by have h := held_ret early4 okEarly; rw [livD] at h; exact h
theorem lives5 : Ret Tryd.prog 21 [.sl ([2].map encN) false, .sl ([2].map encN) false] (.bool true) := sameN_ret [2] (by decide)

theorem lives_ret  : RetT Tryd.prog 16 [(1, deT)] [] (.bool true) := by
  refine retT_of_awp Tryd.func16 rfl (Nat.le_of_ble_eq_true rfl) ?_
  refine awp_seq ?_
  refine awp_rw rfl ?_
  refine asT ?_
  refine RW.nil ?_
  refine awp_seq ?_
  refine awp_rw rfl ?_
  refine RW.op rfl rfl (eff_buildT (ys := [_, _, _, _, _, _, _, _, _, _, _, _, _, _, _]) rfl rfl tz47 tg47 rfl) ?_
  refine RW.new rfl rfl (eff_allocK (k := 15) (id := 1) rfl rfl tz47 rfl rfl) ?_
  refine RW.store rfl rfl (eff_storeW (v := .t _) (els := [_]) (els' := [_]) rfl rfl ti47 rfl rfl rfl rfl rfl rfl rfl rfl rfl) ?_
  refine RW.nil ?_
  refine awp_seq ?_
  refine awp_rw rfl ?_
  refine RW.op rfl rfl (eff_buildT (ys := [_, _, _, _]) rfl rfl tz23 tg23 rfl) ?_
  refine RW.op rfl rfl (eff_buildT (ys := [_, _, _, _, _, _, _, _, _, _, _, _, _, _, _]) rfl rfl tz47 tg47 rfl) ?_
  refine RW.new rfl rfl (eff_allocK (k := 15) (id := 2) rfl rfl tz47 rfl rfl) ?_
  refine RW.store rfl rfl (eff_storeW (v := .t _) (els := [_]) (els' := [_]) rfl rfl ti47 rfl rfl rfl rfl rfl rfl rfl rfl rfl) ?_
  refine RW.nil ?_
  refine awp_seq ?_
  refine awp_rw rfl ?_
  refine RW.op rfl rfl (eff_buildT (ys := [_, _, _, _]) rfl rfl tz28 tg28 rfl) ?_
  refine RW.new rfl rfl (eff_allocK (k := 4) (id := 3) rfl rfl tz28 rfl rfl) ?_
  refine RW.store rfl rfl (eff_storeW (v := .t _) (els := [_]) (els' := [_]) rfl rfl ti28 rfl rfl rfl rfl rfl rfl rfl rfl rfl) ?_
  refine RW.nil ?_
  refine awp_seq ?_
  refine awp_rw rfl ?_
  refine RW.op rfl rfl (eff_buildT (ys := [_, _, _, _]) rfl rfl tz28 tg28 rfl) ?_
  refine RW.new rfl rfl (eff_allocK (k := 4) (id := 4) rfl rfl tz28 rfl rfl) ?_
  refine RW.store rfl rfl (eff_storeW (v := .t _) (els := [_]) (els' := [_]) rfl rfl ti28 rfl rfl rfl rfl rfl rfl rfl rfl rfl) ?_
  refine RW.nil ?_
  refine awp_seq ?_
  refine awp_rw rfl ?_
  refine RW.op rfl rfl (eff_load rfl rfl ti28 rfl (.whole rfl rfl rfl rfl rfl rfl)) ?_
  refine RW.op rfl rfl (eff_buildT (ys := [_, _, _, _, _, _, _, _, _, _, _, _, _, _, _]) rfl rfl tz47 tg47 rfl) ?_
  refine RW.new rfl rfl (eff_allocK (k := 15) (id := 5) rfl rfl tz47 rfl rfl) ?_
  refine RW.store rfl rfl (eff_storeW (v := .t _) (els := [_]) (els' := [_]) rfl rfl ti47 rfl rfl rfl rfl rfl rfl rfl rfl rfl) ?_
  refine RW.nil ?_
  refine awp_seq ?_
  refine awp_rw rfl ?_
  refine RW.op rfl rfl (eff_load rfl rfl ti28 rfl (.whole rfl rfl rfl rfl rfl rfl)) ?_
  refine RW.op rfl rfl (eff_buildT (ys := [_, _, _, _, _, _, _, _, _, _, _, _, _, _, _]) rfl rfl tz47 tg47 rfl) ?_
  refine RW.new rfl rfl (eff_allocK (k := 15) (id := 6) rfl rfl tz47 rfl rfl) ?_
  refine RW.store rfl rfl (eff_storeW (v := .t _) (els := [_]) (els' := [_]) rfl rfl ti47 rfl rfl rfl rfl rfl rfl rfl rfl rfl) ?_
  refine RW.nil ?_
  refine awp_seq ?_
  refine awp_rw rfl ?_
  refine RW.op rfl rfl (eff_load rfl rfl ti47 rfl (.whole rfl rfl rfl rfl rfl rfl)) ?_
  refine RW.op rfl rfl (eff_load rfl rfl ti47 rfl (.whole rfl rfl rfl rfl rfl rfl)) ?_
  refine RW.op rfl rfl (eff_load rfl rfl ti47 rfl (.whole rfl rfl rfl rfl rfl rfl)) ?_
  refine RW.op rfl rfl (eff_load rfl rfl ti47 rfl (.whole rfl rfl rfl rfl rfl rfl)) ?_
  refine RW.weak (weak_slot 26 (y := encC rSe) rfl (by first | ((repeat' (first | exact trivial | exact Wk.refl _ | exact Wk.sl _ | refine And.intro ?_ ?_ | refine Wk.tupP ?_ | refine Wk.aggP ?_)); done) | fail)) rfl ?_
  refine RW.weak (weak_slot 27 (y := encC rX) rfl (by first | ((repeat' (first | exact trivial | exact Wk.refl _ | exact Wk.sl _ | refine And.intro ?_ ?_ | refine Wk.tupP ?_ | refine Wk.aggP ?_)); done) | fail)) rfl ?_
  refine RW.weak (weak_slot 28 (y := encC rY) rfl (by first | ((repeat' (first | exact trivial | exact Wk.refl _ | exact Wk.sl _ | refine And.intro ?_ ?_ | refine Wk.tupP ?_ | refine Wk.aggP ?_)); done) | fail)) rfl ?_
  refine RW.weak (weak_slot 29 (y := encC rHe) rfl (by first | ((repeat' (first | exact trivial | exact Wk.refl _ | exact Wk.sl _ | refine And.intro ?_ ?_ | refine Wk.tupP ?_ | refine Wk.aggP ?_)); done) | fail)) rfl ?_
  refine RW.new rfl rfl (eff_buildSliceL (id := 30) (els := [.t (.agg [_, _, _, _, _, _, _, _, _, _, _, _, _, _, _]), .t (.agg [_, _, _, _, _, _, _, _, _, _, _, _, _, _, _]), .t (.agg [_, _, _, _, _, _, _, _, _, _, _, _, _, _, _]), .t (.agg [_, _, _, _, _, _, _, _, _, _, _, _, _, _, _])]) rfl rfl te32 tz47 rfl (by decide) (by decide) rfl rfl rfl rfl) ?_
  refine asO ?_
  refine RW.nil ?_
  refine awp_seq ?_
  refine awp_rw rfl ?_
  refine RW.op rfl rfl (eff_load rfl rfl ti47 rfl (.whole rfl rfl rfl rfl rfl rfl)) ?_
  refine RW.op rfl rfl (eff_load rfl rfl ti47 rfl (.whole rfl rfl rfl rfl rfl rfl)) ?_
  refine RW.op rfl rfl (eff_load rfl rfl ti47 rfl (.whole rfl rfl rfl rfl rfl rfl)) ?_
  refine RW.op rfl rfl (eff_load rfl rfl ti47 rfl (.whole rfl rfl rfl rfl rfl rfl)) ?_
  refine RW.weak (weak_slot 31 (y := encC rSe) rfl (by first | ((repeat' (first | exact trivial | exact Wk.refl _ | exact Wk.sl _ | refine And.intro ?_ ?_ | refine Wk.tupP ?_ | refine Wk.aggP ?_)); done) | fail)) rfl ?_
  refine RW.weak (weak_slot 32 (y := encC rHe) rfl (by first | ((repeat' (first | exact trivial | exact Wk.refl _ | exact Wk.sl _ | refine And.intro ?_ ?_ | refine Wk.tupP ?_ | refine Wk.aggP ?_)); done) | fail)) rfl ?_
  refine RW.weak (weak_slot 33 (y := encC rX) rfl (by first | ((repeat' (first | exact trivial | exact Wk.refl _ | exact Wk.sl _ | refine And.intro ?_ ?_ | refine Wk.tupP ?_ | refine Wk.aggP ?_)); done) | fail)) rfl ?_
  refine RW.weak (weak_slot 34 (y := encC rY) rfl (by first | ((repeat' (first | exact trivial | exact Wk.refl _ | exact Wk.sl _ | refine And.intro ?_ ?_ | refine Wk.tupP ?_ | refine Wk.aggP ?_)); done) | fail)) rfl ?_
  refine RW.new rfl rfl (eff_buildSliceL (id := 35) (els := [.t (.agg [_, _, _, _, _, _, _, _, _, _, _, _, _, _, _]), .t (.agg [_, _, _, _, _, _, _, _, _, _, _, _, _, _, _]), .t (.agg [_, _, _, _, _, _, _, _, _, _, _, _, _, _, _]), .t (.agg [_, _, _, _, _, _, _, _, _, _, _, _, _, _, _])]) rfl rfl te32 tz47 rfl (by decide) (by decide) rfl rfl rfl rfl) ?_
  refine asO ?_
  refine RW.nil ?_
  refine awp_seq ?_
  refine awp_weak (weak_frz (n := 93) (fr' := [(3, .ptr 3 0 0 0), (4, .ptr 4 0 0 0), (7, .t (.sl (late4.map encC) false)), (8, .t (.sl (early4.map encC) false)), (94, .t deT)]) (st' := [(3, some ⟨4, 28, 0, [.t (encD dAg)]⟩), (4, some ⟨4, 28, 0, [.t (encD dTo)]⟩)]) [(30, some ⟨15, 47, 0, (late4.map encC).map .t⟩), (35, some ⟨15, 47, 0, (early4.map encC).map .t⟩)] ⟨rfl, rfl, trivial⟩ ⟨rfl, rfl, trivial⟩ ⟨wa_eq rfl rfl, wa_eq rfl rfl, .res (Res.ownT (xs := late4.map encC) rfl rfl rfl rfl) (.refl _), .res (Res.ownT (xs := early4.map encC) rfl rfl rfl rfl) (.refl _), wa_eq rfl rfl, trivial⟩ ⟨rfl, okE_one rfl, rfl, okE_one rfl, trivial⟩) ?_
  refine awp_rw rfl ?_
  refine mvT ?_
  refine RW.op rfl rfl (eff_load rfl rfl ti28 rfl (.whole rfl rfl rfl rfl rfl rfl)) ?_
  refine RW.op rfl rfl (eff_callXT (lives1) co22 rfl rfl rfl ⟨rfl, trivial⟩ rfl) ?_
  refine mvT ?_
  refine RW.op rfl rfl (eff_extract rfl rfl rfl rfl) ?_
  refine RW.op rfl rfl (eff_extract rfl rfl rfl rfl) ?_
  refine RW.new rfl rfl (eff_allocK (k := 5) (id := 9) rfl rfl tz49 rfl rfl) ?_
  refine RW.store rfl rfl (eff_storeW (v := .t _) (els := [_]) (els' := [_]) rfl rfl ti49 rfl rfl rfl rfl rfl rfl rfl rfl rfl) ?_
  refine asT ?_
  refine RW.nil ?_
  refine awp_seq ?_
  refine awp_rw rfl ?_
  refine mvT ?_
  refine RW.op rfl rfl (eff_load rfl rfl ti28 rfl (.whole rfl rfl rfl rfl rfl rfl)) ?_
  refine RW.op rfl rfl (eff_callXT (lives2) co22 rfl rfl rfl ⟨rfl, trivial⟩ rfl) ?_
  refine mvT ?_
  refine RW.op rfl rfl (eff_extract rfl rfl rfl rfl) ?_
  refine RW.op rfl rfl (eff_extract rfl rfl rfl rfl) ?_
  refine RW.new rfl rfl (eff_allocK (k := 5) (id := 11) rfl rfl tz49 rfl rfl) ?_
  refine RW.store rfl rfl (eff_storeW (v := .t _) (els := [_]) (els' := [_]) rfl rfl ti49 rfl rfl rfl rfl rfl rfl rfl rfl rfl) ?_
  refine asT ?_
  refine RW.nil ?_
  refine awp_seq ?_
  refine awp_rw rfl ?_
  refine mvT ?_
  refine RW.op rfl rfl (eff_load rfl rfl ti28 rfl (.whole rfl rfl rfl rfl rfl rfl)) ?_
  refine RW.op rfl rfl (eff_callXT (lives3) co22 rfl rfl rfl ⟨rfl, trivial⟩ rfl) ?_
  refine mvT ?_
  refine RW.op rfl rfl (eff_extract rfl rfl rfl rfl) ?_
  refine RW.op rfl rfl (eff_extract rfl rfl rfl rfl) ?_
  refine RW.new rfl rfl (eff_allocK (k := 5) (id := 13) rfl rfl tz49 rfl rfl) ?_
  refine RW.store rfl rfl (eff_storeW (v := .t _) (els := [_]) (els' := [_]) rfl rfl ti49 rfl rfl rfl rfl rfl rfl rfl rfl rfl) ?_
  refine asT ?_
  refine RW.nil ?_
  refine awp_seq ?_
  refine awp_rw rfl ?_
  refine mvT ?_
  refine RW.op rfl rfl (eff_callXT (lives4) co19 rfl rfl rfl ⟨rfl, trivial⟩ rfl) ?_
  refine mvT ?_
  refine RW.op rfl rfl (eff_extract rfl rfl rfl rfl) ?_
  refine RW.op rfl rfl (eff_extract rfl rfl rfl rfl) ?_
  refine asT ?_
  refine asT ?_
  refine RW.nil ?_
  refine awp_seq ?_
  refine awp_seq ?_
  refine awp_rw rfl ?_
  refine mvT ?_
  refine RW.op rfl rfl (eff_iop (r := .bool false) rfl rfl rfl rfl (by rfl)) ?_
  refine mvT ?_
  refine RW.gop rfl rfl rfl rfl rfl rfl (eff_move (v := .t _) rfl rfl rfl) ?_
  refine RW.gop rfl rfl rfl rfl rfl rfl (eff_iop (r := .bool false) rfl rfl rfl rfl (by rfl)) ?_
  refine pkT ?_
  refine mvT ?_
  refine RW.gop rfl rfl rfl rfl rfl rfl (eff_move (v := .t _) rfl rfl rfl) ?_
  refine RW.gop rfl rfl rfl rfl rfl rfl (eff_iop (r := .bool false) rfl rfl rfl rfl (by rfl)) ?_
  refine pkT ?_
  refine mvT ?_
  refine RW.gop rfl rfl rfl rfl rfl rfl (eff_move (v := .t _) rfl rfl rfl) ?_
  refine RW.gop rfl rfl rfl rfl rfl rfl (eff_iop (r := .bool false) rfl rfl rfl rfl (by rfl)) ?_
  refine pkT ?_
  refine mvT ?_
  refine RW.gop rfl rfl rfl rfl rfl rfl (eff_move (v := .t _) rfl rfl rfl) ?_
  refine RW.gop rfl rfl rfl rfl rfl rfl (eff_buildSliceT (xs := [2].map encN) rfl rfl te26 tz3 rfl (by decide) rfl rfl rfl (by decide)) ?_
  refine RW.gop rfl rfl rfl rfl rfl rfl (eff_callW (xs := [_, _]) (lives5) co21 rfl rfl rfl rfl (by repeat' first | exact trivial | exact Wk.refl _ | exact Wk.sl _ | refine And.intro ?_ ?_ | refine Wk.aggP ?_)) ?_
  refine RW.gop rfl rfl rfl rfl rfl rfl (eff_unop rfl rfl rfl rfl) ?_
  refine pkT ?_
  refine RW.nil ?_
  refine awp_cond rfl (fun h => nomatch h) (fun _ => ?_)
  refine awp_skip ?_
  refine awp_seq ?_
  refine awp_rw rfl ?_
  refine RW.op rfl rfl (eff_load rfl rfl ti49 rfl (.whole rfl rfl rfl rfl rfl rfl)) ?_
  refine RW.op rfl rfl (eff_buildT (ys := [_, _, _, _, _]) rfl rfl tz49 tg49 rfl) ?_
  refine RW.op rfl rfl (eff_structEqlAB (cells := cellsV) (a := zv) (b := zv) (r := true) rfl rfl ts49s ti49 th49 cellsV_inj cellsV_kind rfl rfl (by decide)) ?_
  refine mvT ?_
  refine RW.gop rfl rfl rfl rfl rfl rfl (eff_load rfl rfl ti49 rfl (.whole rfl rfl rfl rfl rfl rfl)) ?_
  refine RW.gop rfl rfl rfl rfl rfl rfl (eff_buildT (ys := [_, _, _, _]) rfl rfl tz23 tg23 rfl) ?_
  refine RW.gop rfl rfl rfl rfl rfl rfl (eff_buildT (ys := [_, _, _, _, _]) rfl rfl tz49 tg49 rfl) ?_
  refine RW.gop rfl rfl rfl rfl rfl rfl (eff_structEqlAB (cells := cellsV) (a := ⟨false, ⟨1, 0, 1, false⟩⟩) (b := ⟨false, ⟨1, 0, 1, false⟩⟩) (r := true) rfl rfl ts49s ti49 th49 cellsV_inj cellsV_kind rfl rfl (by decide)) ?_
  refine pkT ?_
  refine mvT ?_
  refine RW.gop rfl rfl rfl rfl rfl rfl (eff_load rfl rfl ti49 rfl (.whole rfl rfl rfl rfl rfl rfl)) ?_
  refine RW.gop rfl rfl rfl rfl rfl rfl (eff_buildT (ys := [_, _, _, _, _]) rfl rfl tz49 tg49 rfl) ?_
  refine RW.gop rfl rfl rfl rfl rfl rfl (eff_structEqlAB (cells := cellsV) (a := ⟨true, zr⟩) (b := ⟨true, zr⟩) (r := true) rfl rfl ts49s ti49 th49 cellsV_inj cellsV_kind rfl rfl (by decide)) ?_
  refine pkT ?_
  refine asT ?_
  refine RW.nil ?_
  refine awp_ret ?_
  exact ⟨Or.inr rfl, [_], ⟨.tmp (.t _), trivial⟩, .refl _⟩

end Go.Tv.C36

end
section
open Go Go.Tv Go.Proofs
namespace Go.Tv.C36
set_option maxRecDepth 20000
set_option maxHeartbeats 2000000
set_option linter.unusedSimpArgs false
set_option linter.unusedVariables false
end Go.Tv.C36

end
section
open Go Go.Tv Go.Proofs
namespace Go.Tv.C36

/-! ### Fair judgement -/
/-! ### Confirming -/
/-! ### Prefixes -/
structure Pre (A B : List Nat) (k : Nat) : Prop where
  le : B.length ≤ A.length
  eq : ∀ i (ha : i < A.length) (hb : i < B.length), B[i] = A[i]
  lt : ∀ i (ha : i < A.length), A[i] < k ↔ i < B.length
end Go.Tv.C36

end
section
open Go Go.Tv Go.Proofs
namespace Go.Tv.C36

theorem nodup_sub_len {α : Type} [DecidableEq α] : ∀ (l m : List α), l.Nodup → (∀ x, x ∈ l → x ∈ m) → l.length ≤ m.length
  | [], _, _, _ => Nat.zero_le _
  | a :: l, m, hn, hs => by
    obtain ⟨h1, h2⟩ := List.nodup_cons.1 hn
    have ha := hs a List.mem_cons_self
    have := nodup_sub_len l (m.erase a) h2 (fun x hx => (List.mem_erase_of_ne (fun e => h1 (by rw [← e]; exact hx))).2 (hs x (List.mem_cons_of_mem _ hx)))
    rw [List.length_erase_of_mem ha] at this
    have := List.length_pos_of_mem ha
    simp only [List.length_cons]; omega

theorem sentF_mono {l : List Rcd} {p x : Rep} {i : Nat} : ∀ j, i ≤ j → x ∈ reachF p (sentF (l.take i)) → x ∈ reachF p (sentF (l.take j))
  | 0, h, hx => by obtain rfl : i = 0 := by omega
                   exact hx
  | j + 1, h, hx => by
    rcases Nat.lt_or_ge j i with h1 | h1
    · obtain rfl : i = j + 1 := by omega
      exact hx
    · have ih := sentF_mono j h1 hx
      rcases Nat.lt_or_ge j l.length with h2 | h2
      · rw [sentF_succ h2]
        split
        · exact reach_cases.2 (.inl ih)
        · rw [List.append_nil]; exact ih
      · rw [List.take_of_length_le (by omega)]
        rw [List.take_of_length_le h2] at ih
        exact ih
theorem Led.reach {l sts} (h : Led l sts) {q : Nat} : ∀ k, q ≤ k → k < l.length → sts.getD k zr ∈ reachF (sts.getD q zr) (sentF (l.take k))
  | 0, hq, _ => by obtain rfl : q = 0 := by omega
                   exact reach_self _ _
  | k + 1, hq, hk => by
    rcases Nat.lt_or_ge k q with h1 | h1
    · obtain rfl : q = k + 1 := by omega
      exact reach_self _ _
    · exact reach_trans (h.incT _) (h.kbT _) _ _ _ (sentF_mono (k + 1) (by omega) (h.reach k h1 (by omega))) (h.nxt k hk)

/-- A ledger with one record more. -/
def moreL (l : List Rcd) (k : Nat) (r : Rcd) : List Rcd := l.take k ++ r :: l.drop k
section
variable {l : List Rcd} {k : Nat} {r : Rcd}
theorem more_len (hk : k ≤ l.length) : (moreL l k r).length = l.length + 1 := by unfold moreL; simp; omega
theorem more_lt (hk : k ≤ l.length) {j : Nat} (hj : j < k) : (moreL l k r).getD j zc = l.getD j zc := by
  unfold moreL
  rw [List.getD_eq_getElem?_getD, List.getElem?_append_left (by simp; omega), List.getElem?_take, if_pos hj, List.getD_eq_getElem?_getD]
theorem more_eq (hk : k ≤ l.length) : (moreL l k r).getD k zc = r := by
  unfold moreL
  rw [List.getD_eq_getElem?_getD, List.getElem?_append_right (by simp; omega)]
  simp [Nat.min_eq_left hk]
theorem more_gt (hk : k ≤ l.length) {j : Nat} (hj : k ≤ j) : (moreL l k r).getD (j + 1) zc = l.getD j zc := by
  unfold moreL
  rw [List.getD_eq_getElem?_getD, List.getElem?_append_right (by simp; omega), List.length_take, Nat.min_eq_left hk, show j + 1 - k = (j - k) + 1 from by omega, List.getElem?_cons_succ, List.getElem?_drop, List.getD_eq_getElem?_getD,
    show k + (j - k) = j from by omega]
theorem more_take (hk : k ≤ l.length) : (moreL l k r).take k = l.take k := by
  unfold moreL
  rw [List.take_append_of_le_length (by simp; omega), List.take_of_length_le (by simp; omega)]
theorem more_run (hk : k ≤ l.length) {j : Nat} (hj : j ≤ k) : runTo (moreL l k r) j = runTo l j := by
  rw [← runTo_take (l := moreL l k r) (n := k) j hj, more_take hk, runTo_take j hj]
theorem sentF_more (hr : r.kind ≠ 1) : sentF (moreL l k r) = sentF l := by
  unfold moreL sentF
  rw [List.filter_append, List.filter_cons, if_neg (by simpa using hr), ← List.filter_append, List.take_append_drop]
end

theorem formR_mono {p p' : Int} {r : Rcd} (h : formR p r = 0) (hp : p' ≤ r.tick) : formR p' r = 0 := by
  unfold formR at h ⊢
  by_cases h1 : r.kind < 1 ∨ 3 < r.kind
  · rw [if_pos h1] at h; exact absurd h (by decide)
  · rw [if_neg h1] at h ⊢
    by_cases h2 : r.tick < 0 ∨ 1000000 < r.tick
    · rw [if_pos h2] at h; exact absurd h (by decide)
    · rw [if_neg h2] at h ⊢
      rw [if_neg (show ¬ r.tick < p' by omega)]
      by_cases h3 : r.tick < p
      · rw [if_pos h3] at h; exact absurd h (by decide)
      · rw [if_neg h3] at h; exact h
theorem formR_le {p : Int} {r : Rcd} (h : formR p r = 0) : p ≤ r.tick ∧ 0 ≤ r.tick ∧ r.tick ≤ 1000000 := by
  unfold formR at h
  by_cases h1 : r.kind < 1 ∨ 3 < r.kind
  · rw [if_pos h1] at h; exact absurd h (by decide)
  · rw [if_neg h1] at h
    by_cases h2 : r.tick < 0 ∨ 1000000 < r.tick
    · rw [if_pos h2] at h; exact absurd h (by decide)
    · rw [if_neg h2] at h
      by_cases h3 : r.tick < p
      · rw [if_pos h3] at h; exact absurd h (by decide)
      · omega

/-- The run with the further report, beside the run without. -/
structure Beside (T' T : Twn) : Prop where
  sent : T'.sent = T.sent
  sub : ∀ x, x ∈ T'.poss → x ∈ T.poss
  srt : Srt T'.poss
theorem beside_send {T' T : Twn} {f : Frm} (h : Beside T' T) (hs : (send T f).2 = 0) : (send T' f).2 = 0 ∧ Beside (send T' f).1 (send T f).1 := by
  have hsub : ∀ x, x ∈ stepF T'.poss f → x ∈ stepF T.poss f := by
    intro x hx
    rcases stepF_mem.1 hx with h1 | ⟨z, hz, rfl⟩
    · exact stepF_mem.2 (.inl (h.sub x h1))
    · exact stepF_mem.2 (.inr ⟨z, h.sub z hz, rfl⟩)
  have hlen := nodup_sub_len _ _ (srt_nodup (srt_stepF (f := f) h.srt)) hsub
  obtain ⟨e1, e2⟩ := send_inv hs
  have h0 : (send T' f).2 = 0 := by
    unfold send at hs ⊢
    rw [h.sent]
    split
    · rename_i hc; rw [if_pos hc] at hs; exact absurd hs (by decide)
    · rename_i hc
      rw [if_neg hc] at hs
      split
      · rename_i hd
        rw [if_pos (by omega)] at hs; exact absurd hs (by decide)
      · rfl
  obtain ⟨e3, e4⟩ := send_inv h0
  exact ⟨h0, ⟨by rw [e1, e3, h.sent], by rw [e2, e4]; exact hsub, by rw [e4]; exact srt_stepF h.srt⟩⟩
theorem beside_hear {T' T : Twn} {r : Rep} (h : Beside T' T) (h0 : (hear T' r).2 = 0) (hs : (hear T r).2 = 0) : Beside (hear T' r).1 (hear T r).1 := by
  obtain ⟨e1, e2⟩ := hear_inv hs
  obtain ⟨e3, e4⟩ := hear_inv h0
  refine ⟨by rw [e1, e3, h.sent], ?_, ?_⟩
  · rw [e2, e4]
    intro x hx
    unfold left_ at hx ⊢
    rw [h.sent] at hx
    obtain ⟨a, b⟩ := List.mem_filter.1 hx
    exact List.mem_filter.2 ⟨h.sub x a, b⟩
  · rw [e4]; exact h.srt.filter _

theorem Led.more {l sts} (h : Led l sts) (hal : (allOf l).2 = 0) {k q : Nat} (hk : k < l.length) (hq : q ≤ k) {r : Rcd} (hrk : r.kind = 2) (hrt : r.tick = (l.getD k zc).tick) (hrr : r.rep = sts.getD q zr) :
    ∀ j, k ≤ j → j ≤ l.length → (runTo (moreL l k r) (j + 1)).2 = 0 ∧ Beside (runTo (moreL l k r) (j + 1)).1 (runTo l j).1 ∧ (j < l.length → Inv (runTo (moreL l k r) (j + 1)).1 (sts.getD j zr)) := by
  have hkl : k ≤ l.length := by omega
  have base : (runTo (moreL l k r) (k + 1)).2 = 0 ∧ Beside (runTo (moreL l k r) (k + 1)).1 (runTo l k).1 ∧ (k < l.length → Inv (runTo (moreL l k r) (k + 1)).1 (sts.getD k zr)) := by
    have hok := run_ok hal hkl
    have hfl := h.form k hk
    have hfm : C36.form (moreL l k r) k = 0 := by
      unfold C36.form at hfl ⊢
      rw [more_eq hkl]
      have hp : prevT (moreL l k r) k = prevT l k := by
        unfold prevT
        split
        · rfl
        · rw [more_lt hkl (by omega)]
      rw [hp]
      obtain ⟨a, b, c⟩ := formR_le hfl
      exact formR_ok (.inr hrk) (by omega) (by omega)
    have hsn := run_sent k hkl hok
    obtain ⟨h0, hi⟩ := inv_hear (r := r.rep) (h.truth k hk hok) (by rw [hsn]; exact h.incT k) (by rw [hsn]; exact h.kbT k) (by rw [hsn, hrr]; exact h.reach k hq hk)
    have e : nextT (runTo (moreL l k r) k).1 ((moreL l k r).getD k zc) = hear (runTo l k).1 r.rep := by
      rw [more_eq hkl, more_run hkl (Nat.le_refl _)]
      unfold nextT; rw [if_neg (by omega), if_pos hrk]
    have hr := run_on (l := moreL l k r) (i := k) (by rw [more_run hkl (Nat.le_refl _)]; exact hok) hfm (by rw [e]; exact h0)
    rw [e] at hr
    rw [hr]
    refine ⟨rfl, ?_, fun _ => hi⟩
    obtain ⟨e1, e2⟩ := hear_inv h0
    have hfit := runTo_fit12 h.okl hkl hok
    refine ⟨e1, ?_, ?_⟩
    · show ∀ x, x ∈ (hear _ _).1.poss → _
      rw [e2]; exact fun x hx => (List.mem_filter.1 hx).1
    · show Srt (hear _ _).1.poss
      rw [e2]; exact hfit.srt.filter _
  intro j hkj
  induction j with
  | zero =>
    intro _
    obtain rfl : k = 0 := by omega
    exact base
  | succ j ih =>
    intro hjl
    rcases Nat.lt_or_ge j k with h1 | h1
    · obtain rfl : k = j + 1 := by omega
      exact base
    · obtain ⟨i1, i2, i3⟩ := ih h1 (by omega)
      have hjlt : j < l.length := by omega
      have i3 := i3 hjlt
      have hokl := run_ok hal (show j + 1 ≤ l.length by omega)
      obtain ⟨a0, a1, a2, a3⟩ := run_inv hokl
      have hg : (moreL l k r).getD (j + 1) zc = l.getD j zc := more_gt hkl h1
      have hfm : C36.form (moreL l k r) (j + 1) = 0 := by
        unfold C36.form at a1 ⊢
        rw [hg]
        obtain ⟨b1, b2, b3⟩ := formR_le a1
        refine formR_mono a1 ?_
        unfold prevT
        rw [if_neg (by omega), Nat.add_sub_cancel]
        rcases Nat.lt_or_ge k j with h2 | h2
        · rw [show j = (j - 1) + 1 from by omega, more_gt hkl (by omega)]
          unfold prevT at b1
          rw [if_neg (by omega)] at b1
          rw [show (j - 1) + 1 = j from by omega]
          exact b1
        · obtain rfl : j = k := by omega
          rw [more_eq hkl, hrt]; exact Int.le_refl _
      have hsn0 := run_sent j (by omega) a0
      have hsn := run_sent (j + 1) hjl hokl
      have key : (nextT (runTo (moreL l k r) (j + 1)).1 (l.getD j zc)).2 = 0 ∧ Beside (nextT (runTo (moreL l k r) (j + 1)).1 (l.getD j zc)).1 (nextT (runTo l j).1 (l.getD j zc)).1 ∧ Inv (nextT (runTo (moreL l k r) (j + 1)).1 (l.getD j zc)).1 (sts.getD j zr) := by
        unfold nextT at a2 ⊢
        split
        · rename_i hk1
          rw [if_pos hk1] at a2
          obtain ⟨c1, c2⟩ := beside_send i2 a2
          exact ⟨c1, c2, inv_send i3 c1⟩
        · rename_i hk1
          rw [if_neg hk1] at a2
          split
          · rename_i hk2
            rw [if_pos hk2] at a2
            have hs' : (runTo (moreL l k r) (j + 1)).1.sent = sentF (l.take j) := by rw [i2.sent, hsn0]
            obtain ⟨c1, c2⟩ := inv_hear (r := (l.getD j zc).rep) i3 (by rw [hs']; exact h.incT j) (by rw [hs']; exact h.kbT j) (by rw [hs']; exact h.heard j hjlt hk2)
            exact ⟨c1, beside_hear i2 c1 a2, c2⟩
          · exact ⟨rfl, i2, i3⟩
      have hr := run_on (l := moreL l k r) (i := j + 1) i1 hfm (by rw [hg]; exact key.1)
      rw [hg] at hr
      rw [hr, a3]
      refine ⟨rfl, key.2.1, fun hlt => ?_⟩
      have hs2 : (nextT (runTo (moreL l k r) (j + 1)).1 (l.getD j zc)).1.sent = sentF (l.take (j + 1)) := by
        rw [key.2.1.sent, ← hsn, a3]
      exact inv_arrive key.2.2 (by rw [hs2]; exact h.incT _) (by rw [hs2]; exact h.kbT _) (by rw [hs2]; exact h.nxt j hlt)

theorem more_okl {l : List Rcd} (h : OKL l) (hs : l.length ≤ 16) {k : Nat} (hk : k ≤ l.length) {r : Rcd} (hrk : r.kind ≠ 1) (hr : HP r.rep) (hb : r.frame.body.length ≤ 1000000) (hq : 0 ≤ r.frame.seq ∧ r.frame.seq ≤ 1000000) : OKL (moreL l k r) := by
  have hm : ∀ x, x ∈ moreL l k r → x ∈ l ∨ x = r := by
    intro x hx
    unfold moreL at hx
    rcases List.mem_append.1 hx with h1 | h1
    · exact .inl (List.mem_of_mem_take h1)
    · rcases List.mem_cons.1 h1 with h2 | h2
      · exact .inr h2
      · exact .inl (List.mem_of_mem_drop h2)
  refine ⟨by rw [more_len hk]; omega, ?_, ?_, ?_, ?_⟩
  · rw [nSent_sentF, sentF_more hrk, ← nSent_sentF]; exact h.few
  · intro x hx; rcases hm x hx with h1 | rfl
    · exact h.hp x h1
    · exact hr
  · intro x hx; rcases hm x hx with h1 | rfl
    · exact h.bod x h1
    · exact hb
  · intro x hx; rcases hm x hx with h1 | rfl
    · exact h.seq x h1
    · exact hq

/-! ### One decision more, at the end -/
theorem more_end (l : List Rcd) (r : Rcd) : moreL l l.length r = l ++ [r] := by unfold moreL; rw [List.take_length, List.drop_length]
theorem Led.ticks {l sts} (h : Led l sts) {t : Int} (ht : 1000000 ≤ t) : upTo l t = l.length :=
  upTo_eq (Nat.le_refl _) (fun r hr => by
    obtain ⟨i, hi, rfl⟩ := List.getElem_of_mem (List.mem_of_mem_take hr)
    have := h.form i hi
    rw [form_at hi] at this
    have := (formR_le this).2.2
    omega) (fun h => absurd h (Nat.lt_irrefl _))
theorem Led.exact {l sts} (h : Led l sts) (hal : (allOf l).2 = 0) {d : Dec} (h1 : d.tick = 1000000) (h2 : d.op = 9) (h3 : 0 ≤ d.kind ∧ d.kind ≤ 3) (h4 : 0 ≤ d.seq ∧ d.seq ≤ 1000000) :
    judge (l ++ [⟨1000000, 3, zf, zr, d⟩]) d = (vOf (rights (known l 1000000).1 d (sentN l)), 0) ∧ (known l 1000000).2 = 0 ∧ (known l 1000000).1 = (runTo l l.length).1 := by
  have hok := run_ok hal (Nat.le_refl _)
  have hsh := h.short
  have hkn : known l 1000000 = runTo l l.length := by rw [known_ok hal, h.ticks (Int.le_refl _)]
  have hlen : (l ++ [(⟨1000000, 3, zf, zr, d⟩ : Rcd)]).length = l.length + 1 := by simp
  have hg : (l ++ [(⟨1000000, 3, zf, zr, d⟩ : Rcd)]).getD l.length zc = ⟨1000000, 3, zf, zr, d⟩ := getD_snoc_eq
  have hfm : C36.form (l ++ [(⟨1000000, 3, zf, zr, d⟩ : Rcd)]) l.length = 0 := by
    unfold C36.form
    rw [hg]
    refine formR_dec rfl (by show (0 : Int) ≤ 1000000 ∧ (1000000 : Int) ≤ 1000000; decide) ?_ h1 h3 h4
    unfold prevT
    split
    · show (-1 : Int) ≤ 1000000; decide
    · rw [getD_snoc_lt (by omega)]
      have hf := h.form (l.length - 1) (by omega)
      unfold C36.form at hf
      exact (formR_le hf).2.2
  have hrun : runTo (l ++ [(⟨1000000, 3, zf, zr, d⟩ : Rcd)]) l.length = runTo l l.length := runTo_app (Nat.le_refl _)
  have e : nextT (runTo (l ++ [(⟨1000000, 3, zf, zr, d⟩ : Rcd)]) l.length).1 ((l ++ [(⟨1000000, 3, zf, zr, d⟩ : Rcd)]).getD l.length zc) = ((runTo l l.length).1, 0) := by
    rw [hg, hrun]; unfold nextT; rw [if_neg (show ¬ (3 : Int) = 1 by decide), if_neg (show ¬ (3 : Int) = 2 by decide)]
  have hr := run_on (l := l ++ [(⟨1000000, 3, zf, zr, d⟩ : Rcd)]) (i := l.length) (by rw [hrun]; exact hok) hfm (by rw [e])
  have hall : (allOf (l ++ [(⟨1000000, 3, zf, zr, d⟩ : Rcd)])).2 = 0 := by
    unfold allOf
    rw [hlen, if_neg (by omega), hr]
  have hfd : findD (l ++ [(⟨1000000, 3, zf, zr, d⟩ : Rcd)]) d (l ++ [(⟨1000000, 3, zf, zr, d⟩ : Rcd)]).length = some l.length := by
    refine findD_hit (by rw [hlen]; omega) (fun j hj => ?_) (by unfold isD; rw [hg]; simp)
    unfold isD
    rw [getD_snoc_lt hj, getD_at hj]
    refine decide_eq_false (fun hh => ?_)
    have := h.opr _ (List.getElem_mem hj)
    rw [hh.2, h2] at this
    exact absurd this (by decide)
  refine ⟨?_, by rw [hkn]; exact hok, by rw [hkn]⟩
  rw [judge_hit hall hfd]
  unfold rightsAt
  rw [hrun, hkn, List.take_left']
  rfl
theorem exact_held {T : Twn} {d : Dec} {n : Int} (h : (exact_ T).2 = true) : (vOf (rights T d n)).held = !rightD d (exact_ T).1 n ∧ (exact_ T).1 ∈ T.poss := by
  unfold exact_ at h ⊢
  split at h
  · rename_i s hs
    rw [hs]
    refine ⟨?_, by simp⟩
    show (vOf (rights T d n)).held = !rightD d s n
    rw [vOf_held]
    unfold rights
    rw [hs]
    cases hr : rightD d s n <;> simp [hr]
  · cases h
theorem not_both {t o q n : Int} {s : Rep} (h : rightD ⟨t, o, 1, q⟩ s n = true) : rightD ⟨t, o, 3, q⟩ s n = false := by
  unfold rightD at h ⊢
  simp at h
  simp
  omega
end Go.Tv.C36

end
section
open Go Go.Tv Go.Proofs
namespace Go.Tv.C36
set_option maxRecDepth 20000
set_option maxHeartbeats 2000000
set_option linter.unusedSimpArgs false
set_option linter.unusedVariables false
theorem ex_t {t : Twn} (h : (exact_ t).2 = true) (hl : t.poss.length ≤ 1000000) : Ret Tryd.prog 31 [encT t] (.tup [encR (exact_ t).1, .bool true]) := by
  have h2 := exact_ret t hl
  rwa [h] at h2
theorem ex_f {t : Twn} (h : (exact_ t).2 = false) (hl : t.poss.length ≤ 1000000) : Ret Tryd.prog 31 [encT t] (.tup [encR (exact_ t).1, .bool false]) := by
  have h2 := exact_ret t hl
  rwa [h] at h2
theorem app_one {l : List Rcd} {r : Rcd} : ([] : List AV) ++ (l.map encC).map AV.t ++ [.t (encC r)] = ((l ++ [r]).map encC).map .t := by simp

theorem law10 (l what : List Int) (kind seq : Int) (hI : ∀ x, x ∈ l → I64 x) (hl : l.length ≤ 9223372036854775807) (hJ : ∀ x, x ∈ what → I64 x) (hwl : what.length ≤ 9223372036854775807) (hk : I64 kind) (hsq : I64 seq) : RetT Tryd.prog 10 [(1, deT)] [.sl (l.map encI) false, .sl (what.map encI) false, encI kind, encI seq] (.bool true) := by
  refine retT_of_awp Tryd.func10 rfl (Nat.le_of_ble_eq_true rfl) ?_
  refine awp_seq ?_
  refine awp_rw rfl ?_
  refine asT ?_
  refine RW.nil ?_
  refine awp_seq ?_
  refine awp_rw rfl ?_
  refine mvT ?_
  refine mvT ?_
  refine RW.op rfl rfl (eff_callT (ledger_ret l what hI hl hJ hwl) co17 rfl rfl rfl rfl) ?_
  refine mvT ?_
  refine RW.op rfl rfl (eff_extract rfl rfl rfl rfl) ?_
  refine RW.op rfl rfl (eff_extract rfl rfl rfl rfl) ?_
  refine asT ?_
  refine asT ?_
  refine RW.nil ?_
  refine awp_seq ?_
  refine awp_seq ?_
  refine awp_rw rfl ?_
  have hled := ledger_led l what
  have hO := hled.okl
  have hsh := hled.short
  refine mvT ?_
  refine RW.op rfl rfl (eff_callXT (check_ret (ledger l what).1 hO) co27 rfl rfl rfl ⟨rfl, trivial⟩ rfl) ?_
  refine ioT ?_
  refine RW.nil ?_
  refine awp_cond rfl (fun h1 => ?_) (fun h1 => ?_)
  · try simp only [cl] at h1
    refine awp_seq ?_
    refine awp_rw rfl ?_
    refine RW.op rfl rfl (eff_callXT (lives_ret) co16 rfl rfl rfl ⟨rfl, trivial⟩ rfl) ?_
    refine asT ?_
    refine RW.nil ?_
    refine awp_ret ?_
    exact ⟨Or.inr rfl, [_], ⟨.tmp (.t _), trivial⟩, .refl _⟩
  · try simp only [cl] at h1
    refine awp_skip ?_
    refine awp_seq ?_
    refine awp_rw rfl ?_
    have hal : (allOf (ledger l what).1).2 = 0 := h1
    have hkr := around_range (n := kind) (m := 4) (by decide)
    have hsr := around_range (n := seq) (m := 9) (by decide)
    obtain ⟨hx1, hx2, hx3⟩ := hled.exact hal (d := (⟨1000000, 9, around kind 4, around seq 9⟩ : Dec)) rfl rfl (by show 0 ≤ around kind 4 ∧ around kind 4 ≤ 3; omega) (by show 0 ≤ around seq 9 ∧ around seq 9 ≤ 1000000; omega)
    have hFit := runTo_fit12 hO (Nat.le_refl _) (run_ok hal (Nat.le_refl _))
    rw [← hx3] at hFit
    have hOx := more_okl hO hsh (Nat.le_refl (ledger l what).1.length) (r := (⟨1000000, 3, zf, zr, (⟨1000000, 9, around kind 4, around seq 9⟩ : Dec)⟩ : Rcd)) (by show (3 : Int) ≠ 1; decide) hpzr (Nat.zero_le _) (by show (0 : Int) ≤ 0 ∧ (0 : Int) ≤ 1000000; decide)
    rw [more_end] at hOx
    have hxp := hFit.len
    have hxs := hFit.sl
    refine mvT ?_
    refine RW.op rfl rfl (eff_callXT (known_ret (ledger l what).1 1000000 hO) co28 rfl rfl rfl ⟨rfl, trivial⟩ rfl) ?_
    refine mvT ?_
    refine RW.op rfl rfl (eff_extract rfl rfl rfl rfl) ?_
    refine RW.op rfl rfl (eff_extract rfl rfl rfl rfl) ?_
    refine RW.new rfl rfl (eff_allocK (k := 2) (id := 11) rfl rfl tz64 rfl rfl) ?_
    refine RW.store rfl rfl (eff_storeW (v := .t _) (els := [_]) (els' := [_]) rfl rfl ti64 rfl rfl rfl rfl rfl rfl rfl rfl rfl) ?_
    refine asT ?_
    refine RW.nil ?_
    refine awp_seq ?_
    refine awp_rw rfl ?_
    refine mvT ?_
    refine mvT ?_
    refine RW.op rfl rfl (eff_lenM rfl rfl te32 rfl) ?_
    refine RW.op rfl rfl (eff_callT ((by have h := rsent_ret (ledger l what).1 (ledger l what).1.length (Nat.le_refl _) (by omega) hO.seq; rwa [List.take_length] at h)) co24 rfl rfl rfl rfl) ?_
    refine asT ?_
    refine RW.nil ?_
    refine awp_seq ?_
    refine awp_rw rfl ?_
    refine mvT ?_
    refine RW.op rfl rfl (eff_callT (around_ret kind 4 hk (by decide)) co13 rfl rfl rfl rfl) ?_
    refine mvT ?_
    refine RW.op rfl rfl (eff_callT (around_ret seq 9 hsq (by decide)) co13 rfl rfl rfl rfl) ?_
    refine RW.op rfl rfl (eff_buildT (ys := [_, _, _, _]) rfl rfl tz28 tg28 rfl) ?_
    refine RW.new rfl rfl (eff_allocK (k := 4) (id := 14) rfl rfl tz28 rfl rfl) ?_
    refine RW.store rfl rfl (eff_storeW (v := .t _) (els := [_]) (els' := [_]) rfl rfl ti28 rfl rfl rfl rfl rfl rfl rfl rfl rfl) ?_
    refine RW.nil ?_
    refine awp_seq ?_
    refine awp_rw rfl ?_
    refine RW.op rfl rfl (eff_load rfl rfl ti28 rfl (.whole rfl rfl rfl rfl rfl rfl)) ?_
    refine RW.op rfl rfl (eff_buildT (ys := [_, _, _, _, _, _, _, _, _, _, _, _, _, _, _]) rfl rfl tz47 tg47 rfl) ?_
    refine RW.new rfl rfl (eff_allocK (k := 15) (id := 15) rfl rfl tz47 rfl rfl) ?_
    refine RW.store rfl rfl (eff_storeW (v := .t _) (els := [_]) (els' := [_]) rfl rfl ti47 rfl rfl rfl rfl rfl rfl rfl rfl rfl) ?_
    refine RW.nil ?_
    show AWP _ _ _ _
    refine awp_weak (weak_obT 15 (encC (⟨1000000, 3, zf, zr, (⟨1000000, 9, around kind 4, around seq 9⟩ : Dec)⟩ : Rcd)).cells rfl ⟨⟨rfl, .refl _⟩, ⟨rfl, .refl _⟩, ⟨rfl, .refl _⟩, ⟨rfl, .refl _⟩, ⟨rfl, .refl _⟩, ⟨rfl, .sl _⟩, ⟨rfl, .refl _⟩, ⟨rfl, .refl _⟩, ⟨rfl, .refl _⟩, ⟨rfl, .refl _⟩, ⟨rfl, .refl _⟩, ⟨rfl, .refl _⟩, ⟨rfl, .refl _⟩, ⟨rfl, .refl _⟩, ⟨rfl, .refl _⟩, trivial⟩) ?_
    refine awp_seq ?_
    refine awp_rd [(some 53, [53]), (some 54, []), (some 55, [53]), (some 56, []), (some 57, [57]), (some 58, [53]), (some 59, []), (some 60, []), (some 52, []), (some 61, []), (some 62, []), (some 16, [16]), (none, [16]), (some 17, [])] [[], [], [0, 1], [], [3], [0, 1, 2, 3, 4], [], [0, 1, 2, 3, 4, 5, 6], [0, 1, 2, 3, 4, 5, 6, 7], [0, 1, 2, 3, 4, 5, 6, 7, 8], [0, 1, 2, 3, 4, 5, 6, 7, 8], [], [0, 1, 2, 3, 4, 5, 6, 7, 8, 9, 11], [0, 1, 2, 3, 4, 5, 6, 7, 8, 9, 10, 11, 12]] tm rfl rfl rfl rfl ?_
    refine RD.new rfl rfl rfl (eff_buildSliceL (id := 53) (els := []) rfl rfl te32 tz47 rfl (by decide) (by decide) rfl rfl rfl rfl) ?_
    refine mvD ?_
    refine RD.new rfl rfl rfl (eff_appendAny (id := 53) rfl rfl ta32 rfl rfl rfl rfl rfl rfl (srcM rfl (fun _ => rfl)) (by simp; omega) (by simp; omega)) ?_
    refine RD.op rfl rfl rfl (eff_load rfl rfl ti47 rfl (.whole rfl rfl rfl rfl rfl rfl)) ?_
    refine RD.new rfl rfl rfl (eff_buildSliceL (id := 57) (els := [.t (.agg [_, _, _, _, _, _, _, _, _, _, _, _, _, _, _])]) rfl rfl te32 tz47 rfl (by decide) (by decide) rfl rfl rfl rfl) ?_
    refine RD.new rfl rfl rfl (eff_appendAny (id := 53) rfl rfl ta32 rfl rfl rfl (by simp) rfl rfl (srcOwn rfl rfl rfl rfl rfl rfl) (by simp; omega) (by simp; omega)) ?_
    refine RD.op rfl rfl rfl (eff_load rfl rfl ti28 rfl (.whole rfl rfl rfl rfl rfl rfl)) ?_
    refine RD.op rfl rfl rfl (eff_callXB (ts := [(1, deT)]) (ys := [.sl (((ledger l what).1 ++ [(⟨1000000, 3, zf, zr, (⟨1000000, 9, around kind 4, around seq 9⟩ : Dec)⟩ : Rcd)]).map encC) false, encD (⟨1000000, 9, around kind 4, around seq 9⟩ : Dec)]) (caps := []) rfl rfl rfl (.t _) co22 ⟨rfl, trivial⟩ (ResL.cons (Res.ownT (xs := ((ledger l what).1 ++ [(⟨1000000, 3, zf, zr, (⟨1000000, 9, around kind 4, around seq 9⟩ : Dec)⟩ : Rcd)]).map encC) rfl rfl app_one (by simp)) (.refl _) (ResL.cons (.t _) (.refl _) .nil)) (by rw [List.append_nil]; have h := judge_ret ((ledger l what).1 ++ [(⟨1000000, 3, zf, zr, (⟨1000000, 9, around kind 4, around seq 9⟩ : Dec)⟩ : Rcd)]) (⟨1000000, 9, around kind 4, around seq 9⟩ : Dec) hOx; rw [hx1] at h; exact h) rfl) ?_
    refine mvD ?_
    refine RD.op rfl rfl rfl (eff_extract rfl rfl rfl rfl) ?_
    refine RD.op rfl rfl rfl (eff_extract rfl rfl rfl rfl) ?_
    refine RD.new rfl rfl rfl (eff_allocK (k := 5) (id := 16) rfl rfl tz49 rfl rfl) ?_
    refine RD.store rfl rfl rfl (eff_storeW (v := .t _) (els := [_]) (els' := [_]) rfl rfl ti49 rfl rfl rfl rfl rfl rfl rfl rfl rfl) ?_
    refine RD.op rfl rfl rfl (eff_assign (v := .t _) rfl rfl rfl) ?_
    refine RD.nil ?_
    refine awp_seq ?_
    refine awp_seq ?_
    refine awp_rw rfl ?_
    refine mvT ?_
    refine RW.op rfl rfl (eff_iop (r := .bool false) rfl rfl rfl rfl (by rw [hx2]; rfl)) ?_
    refine mvT ?_
    refine RW.gop rfl rfl rfl rfl rfl rfl (eff_move (v := .t _) rfl rfl rfl) ?_
    refine RW.gop rfl rfl rfl rfl rfl rfl (eff_iop (r := .bool false) rfl rfl rfl rfl (by rfl)) ?_
    refine pkT ?_
    refine RW.nil ?_
    refine awp_cond rfl (fun h => nomatch h) (fun _ => ?_)
    refine awp_skip ?_
    refine awp_seq ?_
    by_cases hc2 : (exact_ (known (ledger l what).1 1000000).1).2 = true
    · refine awp_rw rfl ?_
      refine RW.op rfl rfl (eff_load rfl rfl ti64 rfl (.whole rfl rfl rfl rfl rfl rfl)) ?_
      refine RW.op rfl rfl (eff_callT (ex_t hc2 (by omega)) co31 rfl rfl rfl rfl) ?_
      refine mvT ?_
      refine RW.op rfl rfl (eff_extract rfl rfl rfl rfl) ?_
      refine RW.op rfl rfl (eff_extract rfl rfl rfl rfl) ?_
      refine RW.new rfl rfl (eff_allocK (k := 4) (id := 18) rfl rfl tz23 rfl rfl) ?_
      refine RW.store rfl rfl (eff_storeW (v := .t _) (els := [_]) (els' := [_]) rfl rfl ti23 rfl rfl rfl rfl rfl rfl rfl rfl rfl) ?_
      refine asT ?_
      refine RW.nil ?_
      refine awp_seq ?_
      refine awp_seq ?_
      obtain ⟨hxh, hxm⟩ := exact_held (d := (⟨1000000, 9, around kind 4, around seq 9⟩ : Dec)) (n := (sentN (ledger l what).1)) hc2
      refine awp_rd [(some 74, []), (some 75, []), (some 76, []), (some 77, []), (some 78, []), (some 79, []), (some 80, []), (some 81, []), (some 82, []), (some 83, []), (some 84, [])] [[], [0], [0, 1], [0, 1, 2], [0, 1], [0, 1], [0, 1], [0, 1, 4, 5, 6], [0, 1, 4, 5, 6, 7], [0, 1, 2, 3, 4, 5, 6, 7, 8], [0, 1, 2, 3, 4, 5, 6, 7, 8, 9]] tm rfl rfl rfl rfl ?_
      refine mvD ?_
      refine mvD ?_
      refine RD.gop rfl rfl rfl rfl rfl rfl rfl (eff_fieldAddr rfl rfl tf49_0 (by decide) rfl rfl rfl (Nat.le_of_ble_eq_true rfl)) ?_
      refine RD.gop rfl rfl rfl rfl rfl rfl rfl (eff_load (y := .t _) rfl rfl ti4 rfl (.one rfl rfl rfl rfl)) ?_
      refine RD.gop rfl rfl rfl rfl rfl rfl rfl (eff_load rfl rfl ti28 rfl (.whole rfl rfl rfl rfl rfl rfl)) ?_
      refine RD.gop rfl rfl rfl rfl rfl rfl rfl (eff_load rfl rfl ti23 rfl (.whole rfl rfl rfl rfl rfl rfl)) ?_
      refine RD.gop rfl rfl rfl rfl rfl rfl rfl (eff_move (v := .t _) rfl rfl rfl) ?_
      refine RD.gop rfl rfl rfl rfl rfl rfl rfl (eff_callT (right_ret ⟨1000000, 9, (around kind 4), around seq 9⟩ (exact_ (known (ledger l what).1 1000000).1).1 (sentN (ledger l what).1) (hFit.hp _ hxm) ((hFit.nx _ hxm).mono (by decide)) (by show -2000000 ≤ around seq 9 ∧ around seq 9 ≤ 2000000; omega)) co14 rfl rfl rfl rfl) ?_
      refine RD.gop rfl rfl rfl rfl rfl rfl rfl (eff_unop rfl rfl rfl rfl) ?_
      refine RD.gop rfl rfl rfl rfl rfl rfl rfl (eff_boolEq (b := false) rfl rfl (.inr rfl) tu4 rfl rfl (by simp [hxh])) ?_
      refine RD.op rfl rfl rfl (eff_pick (v := .t _) rfl rfl rfl rfl) ?_
      refine RD.nil ?_
      refine awp_cond rfl (fun h => nomatch h) (fun _ => ?_)
      refine awp_skip ?_
      refine awp_seq ?_
      refine awp_seq ?_
      refine awp_rw rfl ?_
      refine faT tf28_3 ?_
      refine l1T ti3 rfl rfl rfl rfl rfl (.one rfl rfl rfl rfl) ?_
      refine mvT ?_
      refine ioT ?_
      refine RW.nil ?_
      refine awp_cond rfl (fun h3 => ?_) (fun h3 => ?_)
      · try simp only [cl] at h3
        refine awp_seq ?_
        refine awp_rw rfl ?_
        refine RW.op rfl rfl (eff_callXT (lives_ret) co16 rfl rfl rfl ⟨rfl, trivial⟩ rfl) ?_
        refine asT ?_
        refine RW.nil ?_
        refine awp_ret ?_
        exact ⟨Or.inr rfl, [_], ⟨.tmp (.t _), trivial⟩, .refl _⟩
      · try simp only [cl] at h3
        refine awp_skip ?_
        refine awp_seq ?_
        refine awp_rw rfl ?_
        refine asT ?_
        refine RW.nil ?_
        refine awp_seq ?_
        refine awp_rw rfl ?_
        refine asT ?_
        refine RW.nil ?_
        refine awp_seq ?_
        refine awp_seq ?_
        refine awp_rw rfl ?_
        refine asT ?_
        refine RW.nil ?_
        refine awp_block ?_
        refine awp_loopW (fun m s => ∃ (i : Nat) (kd : Int) (ei : Bool) (ah : Bool), (i ≤ (known (ledger l what).1 1000000).1.poss.length) ∧ (ah = !ei) ∧ m = (known (ledger l what).1 1000000).1.poss.length - i ∧ s = ⟨138, [(11, .ptr 11 0 0 0), (13, .t (encI (sentN (ledger l what).1))), (14, .ptr 14 0 0 0), (20, .t (.bool ei)), (21, .t (.bool ah)), (22, .t (encI (i : Nat))), (139, .t deT)], [(11, some ⟨2, 64, 0, [.t (encT (known (ledger l what).1 1000000).1)]⟩), (14, some ⟨4, 28, 0, [.t (encD ⟨1000000, 9, kd, around seq 9⟩)]⟩)]⟩) (_) (⟨_, weak_keep (n := 138) (fr' := [(11, .ptr 11 0 0 0), (13, .t (encI (sentN (ledger l what).1))), (14, .ptr 14 0 0 0), (20, .t (.bool false)), (21, .t (.bool true)), (22, .t (encI (0 : Nat))), (139, .t deT)]) (st' := [(11, some ⟨2, 64, 0, [.t (encT (known (ledger l what).1 1000000).1)]⟩), (14, some ⟨4, 28, 0, [.t (encD ⟨1000000, 9, _, around seq 9⟩)]⟩)]) ⟨rfl, rfl, rfl, rfl, rfl, rfl, rfl, rfl, rfl, rfl, rfl, rfl, rfl, rfl, trivial⟩ ⟨rfl, okE_one rfl, rfl, okE_one rfl, trivial⟩, 0, _, false, true, (by omega), (by rfl), rfl, rfl⟩) ?_
        rintro m s ⟨i, kd, ei, ah, hi, hah, rfl, rfl⟩
        refine awp_seq ?_
        refine awp_seq ?_
        refine awp_rw rfl ?_
        refine mvT ?_
        refine faT tf64_1 ?_
        refine l1T ti33 rfl rfl rfl rfl rfl (.one rfl rfl rfl rfl) ?_
        refine RW.op rfl rfl (eff_lenM rfl rfl te33 rfl) ?_
        refine ioT ?_
        refine RW.nil ?_
        refine awp_cond rfl (fun h4 => ?_) (fun h4 => ?_)
        · try simp only [cl] at h4
          refine awp_skip ?_
          refine awp_seq ?_
          refine awp_block ?_
          refine awp_seq ?_
          refine awp_rw rfl ?_
          have hil : i < (known (ledger l what).1 1000000).1.poss.length := by omega
          refine faT tf64_1 ?_
          refine l1T ti33 rfl rfl rfl rfl rfl (.one rfl rfl rfl rfl) ?_
          refine mvT ?_
          refine RW.op rfl rfl (eff_indexM rfl rfl te33 rfl rfl rfl (by first | assumption | exact List.getElem?_eq_getElem (by omega)) rfl (by decide)) ?_
          refine RW.op rfl rfl (eff_loadW rfl rfl ti23 rfl rfl rfl) ?_
          refine RW.new rfl rfl (eff_allocK (k := 4) (id := 23) rfl rfl tz23 rfl rfl) ?_
          refine RW.store rfl rfl (eff_storeW (v := .t _) (els := [_]) (els' := [_]) rfl rfl ti23 rfl rfl rfl rfl rfl rfl rfl rfl rfl) ?_
          refine RW.nil ?_
          refine awp_seq ?_
          refine awp_rw rfl ?_
          refine faT tf28_2 ?_
          refine RW.store rfl rfl (eff_storeS (v := .t _) (ys := [_, _, _, _]) (els := [_]) (els' := [_]) rfl rfl ti3 rfl rfl rfl rfl rfl rfl rfl (Nat.le_of_ble_eq_true rfl) rfl rfl) ?_
          refine RW.nil ?_
          refine awp_seq ?_
          by_cases hc5 : rightD ⟨1000000, 9, 1, around seq 9⟩ ((known (ledger l what).1 1000000).1.poss[i]'hil) (sentN (ledger l what).1) = true
          · refine awp_rw rfl ?_
            refine RW.op rfl rfl (eff_load rfl rfl ti28 rfl (.whole rfl rfl rfl rfl rfl rfl)) ?_
            refine RW.op rfl rfl (eff_load rfl rfl ti23 rfl (.whole rfl rfl rfl rfl rfl rfl)) ?_
            refine mvT ?_
            refine RW.op rfl rfl (eff_callT ((by have h := right_ret ⟨1000000, 9, 1, around seq 9⟩ ((known (ledger l what).1 1000000).1.poss[i]'hil) (sentN (ledger l what).1) (hFit.hp _ (List.getElem_mem hil)) ((hFit.nx _ (List.getElem_mem hil)).mono (by decide)) (by show -2000000 ≤ around seq 9 ∧ around seq 9 ≤ 2000000; omega); rwa [show rightD ⟨1000000, 9, 1, around seq 9⟩ ((known (ledger l what).1 1000000).1.poss[i]'hil) (sentN (ledger l what).1) = true from by first | exact hc5 | exact Bool.eq_false_iff.2 hc5] at h)) co14 rfl rfl rfl rfl) ?_
            refine asT ?_
            refine RW.nil ?_
            refine awp_seq ?_
            refine awp_rw rfl ?_
            refine faT tf28_2 ?_
            refine RW.store rfl rfl (eff_storeS (v := .t _) (ys := [_, _, _, _]) (els := [_]) (els' := [_]) rfl rfl ti3 rfl rfl rfl rfl rfl rfl rfl (Nat.le_of_ble_eq_true rfl) rfl rfl) ?_
            refine RW.nil ?_
            refine awp_seq ?_
            by_cases hc6 : rightD ⟨1000000, 9, 3, around seq 9⟩ ((known (ledger l what).1 1000000).1.poss[i]'hil) (sentN (ledger l what).1) = true
            · refine awp_rw rfl ?_
              refine RW.op rfl rfl (eff_load rfl rfl ti28 rfl (.whole rfl rfl rfl rfl rfl rfl)) ?_
              refine RW.op rfl rfl (eff_load rfl rfl ti23 rfl (.whole rfl rfl rfl rfl rfl rfl)) ?_
              refine mvT ?_
              refine RW.op rfl rfl (eff_callT ((by have h := right_ret ⟨1000000, 9, 3, around seq 9⟩ ((known (ledger l what).1 1000000).1.poss[i]'hil) (sentN (ledger l what).1) (hFit.hp _ (List.getElem_mem hil)) ((hFit.nx _ (List.getElem_mem hil)).mono (by decide)) (by show -2000000 ≤ around seq 9 ∧ around seq 9 ≤ 2000000; omega); rwa [show rightD ⟨1000000, 9, 3, around seq 9⟩ ((known (ledger l what).1 1000000).1.poss[i]'hil) (sentN (ledger l what).1) = true from by first | exact hc6 | exact Bool.eq_false_iff.2 hc6] at h)) co14 rfl rfl rfl rfl) ?_
              refine asT ?_
              refine RW.nil ?_
              refine awp_seq ?_
              refine awp_rw rfl ?_
              refine mvT ?_
              refine mvT ?_
              refine RW.split 113 rfl (fun h7 => ?_) (fun h7 => ?_)
              · try simp only [cl] at h7
                refine gkT ?_
                refine pkT ?_
                refine mvT ?_
                refine gkT ?_
                refine pkT ?_
                refine asT ?_
                refine RW.nil ?_
                refine awp_seq ?_
                refine awp_rw rfl ?_
                refine mvT ?_
                refine mvT ?_
                refine RW.split 120 rfl (fun h8 => ?_) (fun h8 => ?_)
                · try simp only [cl] at h8
                  refine RW.gop rfl rfl rfl rfl rfl rfl (eff_move (v := .t _) rfl rfl rfl) ?_
                  refine RW.gop rfl rfl rfl rfl rfl rfl (eff_unop rfl rfl rfl rfl) ?_
                  refine pkT ?_
                  refine mvT ?_
                  refine gkT ?_
                  refine gkT ?_
                  refine pkT ?_
                  refine asT ?_
                  refine RW.nil ?_
                  refine awp_seq ?_
                  refine awp_rw rfl ?_
                  refine mvT ?_
                  refine mvT ?_
                  refine RW.gop rfl rfl rfl rfl rfl rfl (eff_move (v := .t _) rfl rfl rfl) ?_
                  refine pkT ?_
                  refine RW.nil ?_
                  refine awp_cond rfl (fun _ => ?_) (fun h => nomatch h)
                  refine awp_seq ?_
                  refine awp_rw rfl ?_
                  refine asT ?_
                  refine RW.nil ?_
                  refine awp_ret ?_
                  (exfalso; have hnb := not_both (t := 1000000) (o := 9) (q := around seq 9) (n := (sentN (ledger l what).1)) (s := ((known (ledger l what).1 1000000).1.poss[i]'hil)) (by assumption); simp_all)
                · try simp only [cl] at h8
                  refine gkT ?_
                  refine gkT ?_
                  refine pkT ?_
                  refine mvT ?_
                  refine gkT ?_
                  refine gkT ?_
                  refine pkT ?_
                  refine asT ?_
                  refine RW.nil ?_
                  refine awp_seq ?_
                  refine awp_rw rfl ?_
                  refine mvT ?_
                  refine mvT ?_
                  refine RW.gop rfl rfl rfl rfl rfl rfl (eff_move (v := .t _) rfl rfl rfl) ?_
                  refine pkT ?_
                  refine RW.nil ?_
                  refine awp_cond rfl (fun _ => ?_) (fun h => nomatch h)
                  refine awp_seq ?_
                  refine awp_rw rfl ?_
                  refine asT ?_
                  refine RW.nil ?_
                  refine awp_ret ?_
                  (exfalso; have hnb := not_both (t := 1000000) (o := 9) (q := around seq 9) (n := (sentN (ledger l what).1)) (s := ((known (ledger l what).1 1000000).1.poss[i]'hil)) (by assumption); simp_all)
              · try simp only [cl] at h7
                refine RW.gop rfl rfl rfl rfl rfl rfl (eff_move (v := .t _) rfl rfl rfl) ?_
                refine pkT ?_
                refine mvT ?_
                refine gkT ?_
                refine pkT ?_
                refine asT ?_
                refine RW.nil ?_
                refine awp_seq ?_
                refine awp_rw rfl ?_
                refine mvT ?_
                refine mvT ?_
                refine RW.split 120 rfl (fun h9 => ?_) (fun h9 => ?_)
                · try simp only [cl] at h9
                  refine RW.gop rfl rfl rfl rfl rfl rfl (eff_move (v := .t _) rfl rfl rfl) ?_
                  refine RW.gop rfl rfl rfl rfl rfl rfl (eff_unop rfl rfl rfl rfl) ?_
                  refine pkT ?_
                  refine mvT ?_
                  refine gkT ?_
                  refine gkT ?_
                  refine pkT ?_
                  refine asT ?_
                  refine RW.nil ?_
                  refine awp_seq ?_
                  refine awp_rw rfl ?_
                  refine mvT ?_
                  refine mvT ?_
                  refine RW.gop rfl rfl rfl rfl rfl rfl (eff_move (v := .t _) rfl rfl rfl) ?_
                  refine pkT ?_
                  refine RW.nil ?_
                  refine awp_cond rfl (fun _ => ?_) (fun h => nomatch h)
                  refine awp_seq ?_
                  refine awp_rw rfl ?_
                  refine asT ?_
                  refine RW.nil ?_
                  refine awp_ret ?_
                  (exfalso; have hnb := not_both (t := 1000000) (o := 9) (q := around seq 9) (n := (sentN (ledger l what).1)) (s := ((known (ledger l what).1 1000000).1.poss[i]'hil)) (by assumption); simp_all)
                · try simp only [cl] at h9
                  refine gkT ?_
                  refine gkT ?_
                  refine pkT ?_
                  refine mvT ?_
                  refine gkT ?_
                  refine gkT ?_
                  refine pkT ?_
                  refine asT ?_
                  refine RW.nil ?_
                  refine awp_seq ?_
                  refine awp_rw rfl ?_
                  refine mvT ?_
                  refine mvT ?_
                  refine RW.gop rfl rfl rfl rfl rfl rfl (eff_move (v := .t _) rfl rfl rfl) ?_
                  refine pkT ?_
                  refine RW.nil ?_
                  refine awp_cond rfl (fun _ => ?_) (fun h => nomatch h)
                  refine awp_seq ?_
                  refine awp_rw rfl ?_
                  refine asT ?_
                  refine RW.nil ?_
                  refine awp_ret ?_
                  (exfalso; have hnb := not_both (t := 1000000) (o := 9) (q := around seq 9) (n := (sentN (ledger l what).1)) (s := ((known (ledger l what).1 1000000).1.poss[i]'hil)) (by assumption); simp_all)
            · refine awp_rw rfl ?_
              refine RW.op rfl rfl (eff_load rfl rfl ti28 rfl (.whole rfl rfl rfl rfl rfl rfl)) ?_
              refine RW.op rfl rfl (eff_load rfl rfl ti23 rfl (.whole rfl rfl rfl rfl rfl rfl)) ?_
              refine mvT ?_
              refine RW.op rfl rfl (eff_callT ((by have h := right_ret ⟨1000000, 9, 3, around seq 9⟩ ((known (ledger l what).1 1000000).1.poss[i]'hil) (sentN (ledger l what).1) (hFit.hp _ (List.getElem_mem hil)) ((hFit.nx _ (List.getElem_mem hil)).mono (by decide)) (by show -2000000 ≤ around seq 9 ∧ around seq 9 ≤ 2000000; omega); rwa [show rightD ⟨1000000, 9, 3, around seq 9⟩ ((known (ledger l what).1 1000000).1.poss[i]'hil) (sentN (ledger l what).1) = false from by first | exact hc6 | exact Bool.eq_false_iff.2 hc6] at h)) co14 rfl rfl rfl rfl) ?_
              refine asT ?_
              refine RW.nil ?_
              refine awp_seq ?_
              refine awp_rw rfl ?_
              refine mvT ?_
              refine mvT ?_
              refine RW.split 113 rfl (fun h10 => ?_) (fun h10 => ?_)
              · try simp only [cl] at h10
                refine gkT ?_
                refine pkT ?_
                refine mvT ?_
                refine gkT ?_
                refine pkT ?_
                refine asT ?_
                refine RW.nil ?_
                refine awp_seq ?_
                refine awp_rw rfl ?_
                refine mvT ?_
                refine mvT ?_
                refine RW.split 120 rfl (fun h11 => ?_) (fun h11 => ?_)
                · try simp only [cl] at h11
                  refine RW.gop rfl rfl rfl rfl rfl rfl (eff_move (v := .t _) rfl rfl rfl) ?_
                  refine RW.gop rfl rfl rfl rfl rfl rfl (eff_unop rfl rfl rfl rfl) ?_
                  refine pkT ?_
                  refine mvT ?_
                  refine gkT ?_
                  refine gkT ?_
                  refine pkT ?_
                  refine asT ?_
                  refine RW.nil ?_
                  refine awp_seq ?_
                  refine awp_rw rfl ?_
                  refine mvT ?_
                  refine mvT ?_
                  refine RW.gop rfl rfl rfl rfl rfl rfl (eff_move (v := .t _) rfl rfl rfl) ?_
                  refine pkT ?_
                  refine RW.nil ?_
                  refine awp_cond rfl (fun h => nomatch h) (fun _ => ?_)
                  refine awp_skip ?_
                  refine awp_rw rfl ?_
                  refine mvT ?_
                  refine RW.op rfl rfl (eff_iop rfl rfl rfl rfl (iadd (by omega))) ?_
                  refine asT ?_
                  refine RW.nil ?_
                  refine ⟨_, ?_, _, weak_keep (n := 138) (fr' := [(11, .ptr 11 0 0 0), (13, .t (encI (sentN (ledger l what).1))), (14, .ptr 14 0 0 0), (20, .t (.bool _)), (21, .t (.bool _)), (22, .t (encI ((i + 1) : Nat))), (139, .t deT)]) (st' := [(11, some ⟨2, 64, 0, [.t (encT (known (ledger l what).1 1000000).1)]⟩), (14, some ⟨4, 28, 0, [.t (encD ⟨1000000, 9, 3, around seq 9⟩)]⟩)]) ⟨rfl, rfl, rfl, rfl, rfl, rfl, rfl, rfl, rfl, rfl, rfl, rfl, rfl, rfl, trivial⟩ ⟨rfl, okE_one rfl, rfl, okE_one rfl, trivial⟩, i + 1, 3, _, _, (by omega), (by simp_all), rfl, rfl⟩
                  omega
                · try simp only [cl] at h11
                  refine gkT ?_
                  refine gkT ?_
                  refine pkT ?_
                  refine mvT ?_
                  refine gkT ?_
                  refine gkT ?_
                  refine pkT ?_
                  refine asT ?_
                  refine RW.nil ?_
                  refine awp_seq ?_
                  refine awp_rw rfl ?_
                  refine mvT ?_
                  refine mvT ?_
                  refine RW.gop rfl rfl rfl rfl rfl rfl (eff_move (v := .t _) rfl rfl rfl) ?_
                  refine pkT ?_
                  refine RW.nil ?_
                  refine awp_cond rfl (fun h => nomatch h) (fun _ => ?_)
                  refine awp_skip ?_
                  refine awp_rw rfl ?_
                  refine mvT ?_
                  refine RW.op rfl rfl (eff_iop rfl rfl rfl rfl (iadd (by omega))) ?_
                  refine asT ?_
                  refine RW.nil ?_
                  refine ⟨_, ?_, _, weak_keep (n := 138) (fr' := [(11, .ptr 11 0 0 0), (13, .t (encI (sentN (ledger l what).1))), (14, .ptr 14 0 0 0), (20, .t (.bool _)), (21, .t (.bool _)), (22, .t (encI ((i + 1) : Nat))), (139, .t deT)]) (st' := [(11, some ⟨2, 64, 0, [.t (encT (known (ledger l what).1 1000000).1)]⟩), (14, some ⟨4, 28, 0, [.t (encD ⟨1000000, 9, 3, around seq 9⟩)]⟩)]) ⟨rfl, rfl, rfl, rfl, rfl, rfl, rfl, rfl, rfl, rfl, rfl, rfl, rfl, rfl, trivial⟩ ⟨rfl, okE_one rfl, rfl, okE_one rfl, trivial⟩, i + 1, 3, _, _, (by omega), (by simp_all), rfl, rfl⟩
                  omega
              · try simp only [cl] at h10
                refine RW.gop rfl rfl rfl rfl rfl rfl (eff_move (v := .t _) rfl rfl rfl) ?_
                refine pkT ?_
                refine mvT ?_
                refine gkT ?_
                refine pkT ?_
                refine asT ?_
                refine RW.nil ?_
                refine awp_seq ?_
                refine awp_rw rfl ?_
                refine mvT ?_
                refine mvT ?_
                refine RW.split 120 rfl (fun h12 => ?_) (fun h12 => ?_)
                · try simp only [cl] at h12
                  refine RW.gop rfl rfl rfl rfl rfl rfl (eff_move (v := .t _) rfl rfl rfl) ?_
                  refine RW.gop rfl rfl rfl rfl rfl rfl (eff_unop rfl rfl rfl rfl) ?_
                  refine pkT ?_
                  refine mvT ?_
                  refine gkT ?_
                  refine gkT ?_
                  refine pkT ?_
                  refine asT ?_
                  refine RW.nil ?_
                  refine awp_seq ?_
                  refine awp_rw rfl ?_
                  refine mvT ?_
                  refine mvT ?_
                  refine RW.gop rfl rfl rfl rfl rfl rfl (eff_move (v := .t _) rfl rfl rfl) ?_
                  refine pkT ?_
                  refine RW.nil ?_
                  refine awp_cond rfl (fun h => nomatch h) (fun _ => ?_)
                  refine awp_skip ?_
                  refine awp_rw rfl ?_
                  refine mvT ?_
                  refine RW.op rfl rfl (eff_iop rfl rfl rfl rfl (iadd (by omega))) ?_
                  refine asT ?_
                  refine RW.nil ?_
                  refine ⟨_, ?_, _, weak_keep (n := 138) (fr' := [(11, .ptr 11 0 0 0), (13, .t (encI (sentN (ledger l what).1))), (14, .ptr 14 0 0 0), (20, .t (.bool _)), (21, .t (.bool _)), (22, .t (encI ((i + 1) : Nat))), (139, .t deT)]) (st' := [(11, some ⟨2, 64, 0, [.t (encT (known (ledger l what).1 1000000).1)]⟩), (14, some ⟨4, 28, 0, [.t (encD ⟨1000000, 9, 3, around seq 9⟩)]⟩)]) ⟨rfl, rfl, rfl, rfl, rfl, rfl, rfl, rfl, rfl, rfl, rfl, rfl, rfl, rfl, trivial⟩ ⟨rfl, okE_one rfl, rfl, okE_one rfl, trivial⟩, i + 1, 3, _, _, (by omega), (by simp_all), rfl, rfl⟩
                  omega
                · try simp only [cl] at h12
                  refine gkT ?_
                  refine gkT ?_
                  refine pkT ?_
                  refine mvT ?_
                  refine gkT ?_
                  refine gkT ?_
                  refine pkT ?_
                  refine asT ?_
                  refine RW.nil ?_
                  refine awp_seq ?_
                  refine awp_rw rfl ?_
                  refine mvT ?_
                  refine mvT ?_
                  refine RW.gop rfl rfl rfl rfl rfl rfl (eff_move (v := .t _) rfl rfl rfl) ?_
                  refine pkT ?_
                  refine RW.nil ?_
                  refine awp_cond rfl (fun h => nomatch h) (fun _ => ?_)
                  refine awp_skip ?_
                  refine awp_rw rfl ?_
                  refine mvT ?_
                  refine RW.op rfl rfl (eff_iop rfl rfl rfl rfl (iadd (by omega))) ?_
                  refine asT ?_
                  refine RW.nil ?_
                  refine ⟨_, ?_, _, weak_keep (n := 138) (fr' := [(11, .ptr 11 0 0 0), (13, .t (encI (sentN (ledger l what).1))), (14, .ptr 14 0 0 0), (20, .t (.bool _)), (21, .t (.bool _)), (22, .t (encI ((i + 1) : Nat))), (139, .t deT)]) (st' := [(11, some ⟨2, 64, 0, [.t (encT (known (ledger l what).1 1000000).1)]⟩), (14, some ⟨4, 28, 0, [.t (encD ⟨1000000, 9, 3, around seq 9⟩)]⟩)]) ⟨rfl, rfl, rfl, rfl, rfl, rfl, rfl, rfl, rfl, rfl, rfl, rfl, rfl, rfl, trivial⟩ ⟨rfl, okE_one rfl, rfl, okE_one rfl, trivial⟩, i + 1, 3, _, _, (by omega), (by simp_all), rfl, rfl⟩
                  omega
          · refine awp_rw rfl ?_
            refine RW.op rfl rfl (eff_load rfl rfl ti28 rfl (.whole rfl rfl rfl rfl rfl rfl)) ?_
            refine RW.op rfl rfl (eff_load rfl rfl ti23 rfl (.whole rfl rfl rfl rfl rfl rfl)) ?_
            refine mvT ?_
            refine RW.op rfl rfl (eff_callT ((by have h := right_ret ⟨1000000, 9, 1, around seq 9⟩ ((known (ledger l what).1 1000000).1.poss[i]'hil) (sentN (ledger l what).1) (hFit.hp _ (List.getElem_mem hil)) ((hFit.nx _ (List.getElem_mem hil)).mono (by decide)) (by show -2000000 ≤ around seq 9 ∧ around seq 9 ≤ 2000000; omega); rwa [show rightD ⟨1000000, 9, 1, around seq 9⟩ ((known (ledger l what).1 1000000).1.poss[i]'hil) (sentN (ledger l what).1) = false from by first | exact hc5 | exact Bool.eq_false_iff.2 hc5] at h)) co14 rfl rfl rfl rfl) ?_
            refine asT ?_
            refine RW.nil ?_
            refine awp_seq ?_
            refine awp_rw rfl ?_
            refine faT tf28_2 ?_
            refine RW.store rfl rfl (eff_storeS (v := .t _) (ys := [_, _, _, _]) (els := [_]) (els' := [_]) rfl rfl ti3 rfl rfl rfl rfl rfl rfl rfl (Nat.le_of_ble_eq_true rfl) rfl rfl) ?_
            refine RW.nil ?_
            refine awp_seq ?_
            by_cases hc13 : rightD ⟨1000000, 9, 3, around seq 9⟩ ((known (ledger l what).1 1000000).1.poss[i]'hil) (sentN (ledger l what).1) = true
            · refine awp_rw rfl ?_
              refine RW.op rfl rfl (eff_load rfl rfl ti28 rfl (.whole rfl rfl rfl rfl rfl rfl)) ?_
              refine RW.op rfl rfl (eff_load rfl rfl ti23 rfl (.whole rfl rfl rfl rfl rfl rfl)) ?_
              refine mvT ?_
              refine RW.op rfl rfl (eff_callT ((by have h := right_ret ⟨1000000, 9, 3, around seq 9⟩ ((known (ledger l what).1 1000000).1.poss[i]'hil) (sentN (ledger l what).1) (hFit.hp _ (List.getElem_mem hil)) ((hFit.nx _ (List.getElem_mem hil)).mono (by decide)) (by show -2000000 ≤ around seq 9 ∧ around seq 9 ≤ 2000000; omega); rwa [show rightD ⟨1000000, 9, 3, around seq 9⟩ ((known (ledger l what).1 1000000).1.poss[i]'hil) (sentN (ledger l what).1) = true from by first | exact hc13 | exact Bool.eq_false_iff.2 hc13] at h)) co14 rfl rfl rfl rfl) ?_
              refine asT ?_
              refine RW.nil ?_
              refine awp_seq ?_
              refine awp_rw rfl ?_
              refine mvT ?_
              refine mvT ?_
              refine RW.split 113 rfl (fun h14 => ?_) (fun h14 => ?_)
              · try simp only [cl] at h14
                refine gkT ?_
                refine pkT ?_
                refine mvT ?_
                refine gkT ?_
                refine pkT ?_
                refine asT ?_
                refine RW.nil ?_
                refine awp_seq ?_
                refine awp_rw rfl ?_
                refine mvT ?_
                refine mvT ?_
                refine RW.split 120 rfl (fun h15 => ?_) (fun h15 => ?_)
                · try simp only [cl] at h15
                  refine RW.gop rfl rfl rfl rfl rfl rfl (eff_move (v := .t _) rfl rfl rfl) ?_
                  refine RW.gop rfl rfl rfl rfl rfl rfl (eff_unop rfl rfl rfl rfl) ?_
                  refine pkT ?_
                  refine mvT ?_
                  refine RW.gop rfl rfl rfl rfl rfl rfl (eff_move (v := .t _) rfl rfl rfl) ?_
                  refine RW.gop rfl rfl rfl rfl rfl rfl (eff_unop rfl rfl rfl rfl) ?_
                  refine pkT ?_
                  refine asT ?_
                  refine RW.nil ?_
                  refine awp_seq ?_
                  refine awp_rw rfl ?_
                  refine mvT ?_
                  refine mvT ?_
                  refine gkT ?_
                  refine pkT ?_
                  refine RW.nil ?_
                  refine awp_cond rfl (fun h => nomatch h) (fun _ => ?_)
                  refine awp_skip ?_
                  refine awp_rw rfl ?_
                  refine mvT ?_
                  refine RW.op rfl rfl (eff_iop rfl rfl rfl rfl (iadd (by omega))) ?_
                  refine asT ?_
                  refine RW.nil ?_
                  refine ⟨_, ?_, _, weak_keep (n := 138) (fr' := [(11, .ptr 11 0 0 0), (13, .t (encI (sentN (ledger l what).1))), (14, .ptr 14 0 0 0), (20, .t (.bool _)), (21, .t (.bool _)), (22, .t (encI ((i + 1) : Nat))), (139, .t deT)]) (st' := [(11, some ⟨2, 64, 0, [.t (encT (known (ledger l what).1 1000000).1)]⟩), (14, some ⟨4, 28, 0, [.t (encD ⟨1000000, 9, 3, around seq 9⟩)]⟩)]) ⟨rfl, rfl, rfl, rfl, rfl, rfl, rfl, rfl, rfl, rfl, rfl, rfl, rfl, rfl, trivial⟩ ⟨rfl, okE_one rfl, rfl, okE_one rfl, trivial⟩, i + 1, 3, _, _, (by omega), (by simp_all), rfl, rfl⟩
                  omega
                · try simp only [cl] at h15
                  refine gkT ?_
                  refine gkT ?_
                  refine pkT ?_
                  refine mvT ?_
                  refine gkT ?_
                  refine gkT ?_
                  refine pkT ?_
                  refine asT ?_
                  refine RW.nil ?_
                  refine awp_seq ?_
                  refine awp_rw rfl ?_
                  refine mvT ?_
                  refine mvT ?_
                  refine gkT ?_
                  refine pkT ?_
                  refine RW.nil ?_
                  refine awp_cond rfl (fun h => nomatch h) (fun _ => ?_)
                  refine awp_skip ?_
                  refine awp_rw rfl ?_
                  refine mvT ?_
                  refine RW.op rfl rfl (eff_iop rfl rfl rfl rfl (iadd (by omega))) ?_
                  refine asT ?_
                  refine RW.nil ?_
                  refine ⟨_, ?_, _, weak_keep (n := 138) (fr' := [(11, .ptr 11 0 0 0), (13, .t (encI (sentN (ledger l what).1))), (14, .ptr 14 0 0 0), (20, .t (.bool _)), (21, .t (.bool _)), (22, .t (encI ((i + 1) : Nat))), (139, .t deT)]) (st' := [(11, some ⟨2, 64, 0, [.t (encT (known (ledger l what).1 1000000).1)]⟩), (14, some ⟨4, 28, 0, [.t (encD ⟨1000000, 9, 3, around seq 9⟩)]⟩)]) ⟨rfl, rfl, rfl, rfl, rfl, rfl, rfl, rfl, rfl, rfl, rfl, rfl, rfl, rfl, trivial⟩ ⟨rfl, okE_one rfl, rfl, okE_one rfl, trivial⟩, i + 1, 3, _, _, (by omega), (by simp_all), rfl, rfl⟩
                  omega
              · try simp only [cl] at h14
                refine RW.gop rfl rfl rfl rfl rfl rfl (eff_move (v := .t _) rfl rfl rfl) ?_
                refine pkT ?_
                refine mvT ?_
                refine RW.gop rfl rfl rfl rfl rfl rfl (eff_move (v := .t _) rfl rfl rfl) ?_
                refine pkT ?_
                refine asT ?_
                refine RW.nil ?_
                refine awp_seq ?_
                refine awp_rw rfl ?_
                refine mvT ?_
                refine mvT ?_
                refine RW.split 120 rfl (fun h16 => ?_) (fun h16 => ?_)
                · try simp only [cl] at h16
                  refine RW.gop rfl rfl rfl rfl rfl rfl (eff_move (v := .t _) rfl rfl rfl) ?_
                  refine RW.gop rfl rfl rfl rfl rfl rfl (eff_unop rfl rfl rfl rfl) ?_
                  refine pkT ?_
                  refine mvT ?_
                  refine RW.gop rfl rfl rfl rfl rfl rfl (eff_move (v := .t _) rfl rfl rfl) ?_
                  refine RW.gop rfl rfl rfl rfl rfl rfl (eff_unop rfl rfl rfl rfl) ?_
                  refine pkT ?_
                  refine asT ?_
                  refine RW.nil ?_
                  refine awp_seq ?_
                  refine awp_rw rfl ?_
                  refine mvT ?_
                  refine mvT ?_
                  refine gkT ?_
                  refine pkT ?_
                  refine RW.nil ?_
                  refine awp_cond rfl (fun h => nomatch h) (fun _ => ?_)
                  refine awp_skip ?_
                  refine awp_rw rfl ?_
                  refine mvT ?_
                  refine RW.op rfl rfl (eff_iop rfl rfl rfl rfl (iadd (by omega))) ?_
                  refine asT ?_
                  refine RW.nil ?_
                  refine ⟨_, ?_, _, weak_keep (n := 138) (fr' := [(11, .ptr 11 0 0 0), (13, .t (encI (sentN (ledger l what).1))), (14, .ptr 14 0 0 0), (20, .t (.bool _)), (21, .t (.bool _)), (22, .t (encI ((i + 1) : Nat))), (139, .t deT)]) (st' := [(11, some ⟨2, 64, 0, [.t (encT (known (ledger l what).1 1000000).1)]⟩), (14, some ⟨4, 28, 0, [.t (encD ⟨1000000, 9, 3, around seq 9⟩)]⟩)]) ⟨rfl, rfl, rfl, rfl, rfl, rfl, rfl, rfl, rfl, rfl, rfl, rfl, rfl, rfl, trivial⟩ ⟨rfl, okE_one rfl, rfl, okE_one rfl, trivial⟩, i + 1, 3, _, _, (by omega), (by simp_all), rfl, rfl⟩
                  omega
                · try simp only [cl] at h16
                  refine gkT ?_
                  refine gkT ?_
                  refine pkT ?_
                  refine mvT ?_
                  refine gkT ?_
                  refine gkT ?_
                  refine pkT ?_
                  refine asT ?_
                  refine RW.nil ?_
                  refine awp_seq ?_
                  refine awp_rw rfl ?_
                  refine mvT ?_
                  refine mvT ?_
                  refine gkT ?_
                  refine pkT ?_
                  refine RW.nil ?_
                  refine awp_cond rfl (fun h => nomatch h) (fun _ => ?_)
                  refine awp_skip ?_
                  refine awp_rw rfl ?_
                  refine mvT ?_
                  refine RW.op rfl rfl (eff_iop rfl rfl rfl rfl (iadd (by omega))) ?_
                  refine asT ?_
                  refine RW.nil ?_
                  refine ⟨_, ?_, _, weak_keep (n := 138) (fr' := [(11, .ptr 11 0 0 0), (13, .t (encI (sentN (ledger l what).1))), (14, .ptr 14 0 0 0), (20, .t (.bool _)), (21, .t (.bool _)), (22, .t (encI ((i + 1) : Nat))), (139, .t deT)]) (st' := [(11, some ⟨2, 64, 0, [.t (encT (known (ledger l what).1 1000000).1)]⟩), (14, some ⟨4, 28, 0, [.t (encD ⟨1000000, 9, 3, around seq 9⟩)]⟩)]) ⟨rfl, rfl, rfl, rfl, rfl, rfl, rfl, rfl, rfl, rfl, rfl, rfl, rfl, rfl, trivial⟩ ⟨rfl, okE_one rfl, rfl, okE_one rfl, trivial⟩, i + 1, 3, _, _, (by omega), (by simp_all), rfl, rfl⟩
                  omega
            · refine awp_rw rfl ?_
              refine RW.op rfl rfl (eff_load rfl rfl ti28 rfl (.whole rfl rfl rfl rfl rfl rfl)) ?_
              refine RW.op rfl rfl (eff_load rfl rfl ti23 rfl (.whole rfl rfl rfl rfl rfl rfl)) ?_
              refine mvT ?_
              refine RW.op rfl rfl (eff_callT ((by have h := right_ret ⟨1000000, 9, 3, around seq 9⟩ ((known (ledger l what).1 1000000).1.poss[i]'hil) (sentN (ledger l what).1) (hFit.hp _ (List.getElem_mem hil)) ((hFit.nx _ (List.getElem_mem hil)).mono (by decide)) (by show -2000000 ≤ around seq 9 ∧ around seq 9 ≤ 2000000; omega); rwa [show rightD ⟨1000000, 9, 3, around seq 9⟩ ((known (ledger l what).1 1000000).1.poss[i]'hil) (sentN (ledger l what).1) = false from by first | exact hc13 | exact Bool.eq_false_iff.2 hc13] at h)) co14 rfl rfl rfl rfl) ?_
              refine asT ?_
              refine RW.nil ?_
              refine awp_seq ?_
              refine awp_rw rfl ?_
              refine mvT ?_
              refine mvT ?_
              refine RW.split 113 rfl (fun h17 => ?_) (fun h17 => ?_)
              · try simp only [cl] at h17
                refine gkT ?_
                refine pkT ?_
                refine mvT ?_
                refine gkT ?_
                refine pkT ?_
                refine asT ?_
                refine RW.nil ?_
                refine awp_seq ?_
                refine awp_rw rfl ?_
                refine mvT ?_
                refine mvT ?_
                refine RW.split 120 rfl (fun h18 => ?_) (fun h18 => ?_)
                · try simp only [cl] at h18
                  refine RW.gop rfl rfl rfl rfl rfl rfl (eff_move (v := .t _) rfl rfl rfl) ?_
                  refine RW.gop rfl rfl rfl rfl rfl rfl (eff_unop rfl rfl rfl rfl) ?_
                  refine pkT ?_
                  refine mvT ?_
                  refine RW.gop rfl rfl rfl rfl rfl rfl (eff_move (v := .t _) rfl rfl rfl) ?_
                  refine RW.gop rfl rfl rfl rfl rfl rfl (eff_unop rfl rfl rfl rfl) ?_
                  refine pkT ?_
                  refine asT ?_
                  refine RW.nil ?_
                  refine awp_seq ?_
                  refine awp_rw rfl ?_
                  refine mvT ?_
                  refine mvT ?_
                  refine gkT ?_
                  refine pkT ?_
                  refine RW.nil ?_
                  refine awp_cond rfl (fun h => nomatch h) (fun _ => ?_)
                  refine awp_skip ?_
                  refine awp_rw rfl ?_
                  refine mvT ?_
                  refine RW.op rfl rfl (eff_iop rfl rfl rfl rfl (iadd (by omega))) ?_
                  refine asT ?_
                  refine RW.nil ?_
                  refine ⟨_, ?_, _, weak_keep (n := 138) (fr' := [(11, .ptr 11 0 0 0), (13, .t (encI (sentN (ledger l what).1))), (14, .ptr 14 0 0 0), (20, .t (.bool _)), (21, .t (.bool _)), (22, .t (encI ((i + 1) : Nat))), (139, .t deT)]) (st' := [(11, some ⟨2, 64, 0, [.t (encT (known (ledger l what).1 1000000).1)]⟩), (14, some ⟨4, 28, 0, [.t (encD ⟨1000000, 9, 3, around seq 9⟩)]⟩)]) ⟨rfl, rfl, rfl, rfl, rfl, rfl, rfl, rfl, rfl, rfl, rfl, rfl, rfl, rfl, trivial⟩ ⟨rfl, okE_one rfl, rfl, okE_one rfl, trivial⟩, i + 1, 3, _, _, (by omega), (by simp_all), rfl, rfl⟩
                  omega
                · try simp only [cl] at h18
                  refine gkT ?_
                  refine gkT ?_
                  refine pkT ?_
                  refine mvT ?_
                  refine gkT ?_
                  refine gkT ?_
                  refine pkT ?_
                  refine asT ?_
                  refine RW.nil ?_
                  refine awp_seq ?_
                  refine awp_rw rfl ?_
                  refine mvT ?_
                  refine mvT ?_
                  refine gkT ?_
                  refine pkT ?_
                  refine RW.nil ?_
                  refine awp_cond rfl (fun h => nomatch h) (fun _ => ?_)
                  refine awp_skip ?_
                  refine awp_rw rfl ?_
                  refine mvT ?_
                  refine RW.op rfl rfl (eff_iop rfl rfl rfl rfl (iadd (by omega))) ?_
                  refine asT ?_
                  refine RW.nil ?_
                  refine ⟨_, ?_, _, weak_keep (n := 138) (fr' := [(11, .ptr 11 0 0 0), (13, .t (encI (sentN (ledger l what).1))), (14, .ptr 14 0 0 0), (20, .t (.bool _)), (21, .t (.bool _)), (22, .t (encI ((i + 1) : Nat))), (139, .t deT)]) (st' := [(11, some ⟨2, 64, 0, [.t (encT (known (ledger l what).1 1000000).1)]⟩), (14, some ⟨4, 28, 0, [.t (encD ⟨1000000, 9, 3, around seq 9⟩)]⟩)]) ⟨rfl, rfl, rfl, rfl, rfl, rfl, rfl, rfl, rfl, rfl, rfl, rfl, rfl, rfl, trivial⟩ ⟨rfl, okE_one rfl, rfl, okE_one rfl, trivial⟩, i + 1, 3, _, _, (by omega), (by simp_all), rfl, rfl⟩
                  omega
              · try simp only [cl] at h17
                refine RW.gop rfl rfl rfl rfl rfl rfl (eff_move (v := .t _) rfl rfl rfl) ?_
                refine pkT ?_
                refine mvT ?_
                refine RW.gop rfl rfl rfl rfl rfl rfl (eff_move (v := .t _) rfl rfl rfl) ?_
                refine pkT ?_
                refine asT ?_
                refine RW.nil ?_
                refine awp_seq ?_
                refine awp_rw rfl ?_
                refine mvT ?_
                refine mvT ?_
                refine RW.split 120 rfl (fun h19 => ?_) (fun h19 => ?_)
                · try simp only [cl] at h19
                  refine RW.gop rfl rfl rfl rfl rfl rfl (eff_move (v := .t _) rfl rfl rfl) ?_
                  refine RW.gop rfl rfl rfl rfl rfl rfl (eff_unop rfl rfl rfl rfl) ?_
                  refine pkT ?_
                  refine mvT ?_
                  refine RW.gop rfl rfl rfl rfl rfl rfl (eff_move (v := .t _) rfl rfl rfl) ?_
                  refine RW.gop rfl rfl rfl rfl rfl rfl (eff_unop rfl rfl rfl rfl) ?_
                  refine pkT ?_
                  refine asT ?_
                  refine RW.nil ?_
                  refine awp_seq ?_
                  refine awp_rw rfl ?_
                  refine mvT ?_
                  refine mvT ?_
                  refine gkT ?_
                  refine pkT ?_
                  refine RW.nil ?_
                  refine awp_cond rfl (fun h => nomatch h) (fun _ => ?_)
                  refine awp_skip ?_
                  refine awp_rw rfl ?_
                  refine mvT ?_
                  refine RW.op rfl rfl (eff_iop rfl rfl rfl rfl (iadd (by omega))) ?_
                  refine asT ?_
                  refine RW.nil ?_
                  refine ⟨_, ?_, _, weak_keep (n := 138) (fr' := [(11, .ptr 11 0 0 0), (13, .t (encI (sentN (ledger l what).1))), (14, .ptr 14 0 0 0), (20, .t (.bool _)), (21, .t (.bool _)), (22, .t (encI ((i + 1) : Nat))), (139, .t deT)]) (st' := [(11, some ⟨2, 64, 0, [.t (encT (known (ledger l what).1 1000000).1)]⟩), (14, some ⟨4, 28, 0, [.t (encD ⟨1000000, 9, 3, around seq 9⟩)]⟩)]) ⟨rfl, rfl, rfl, rfl, rfl, rfl, rfl, rfl, rfl, rfl, rfl, rfl, rfl, rfl, trivial⟩ ⟨rfl, okE_one rfl, rfl, okE_one rfl, trivial⟩, i + 1, 3, _, _, (by omega), (by simp_all), rfl, rfl⟩
                  omega
                · try simp only [cl] at h19
                  refine gkT ?_
                  refine gkT ?_
                  refine pkT ?_
                  refine mvT ?_
                  refine gkT ?_
                  refine gkT ?_
                  refine pkT ?_
                  refine asT ?_
                  refine RW.nil ?_
                  refine awp_seq ?_
                  refine awp_rw rfl ?_
                  refine mvT ?_
                  refine mvT ?_
                  refine gkT ?_
                  refine pkT ?_
                  refine RW.nil ?_
                  refine awp_cond rfl (fun h => nomatch h) (fun _ => ?_)
                  refine awp_skip ?_
                  refine awp_rw rfl ?_
                  refine mvT ?_
                  refine RW.op rfl rfl (eff_iop rfl rfl rfl rfl (iadd (by omega))) ?_
                  refine asT ?_
                  refine RW.nil ?_
                  refine ⟨_, ?_, _, weak_keep (n := 138) (fr' := [(11, .ptr 11 0 0 0), (13, .t (encI (sentN (ledger l what).1))), (14, .ptr 14 0 0 0), (20, .t (.bool _)), (21, .t (.bool _)), (22, .t (encI ((i + 1) : Nat))), (139, .t deT)]) (st' := [(11, some ⟨2, 64, 0, [.t (encT (known (ledger l what).1 1000000).1)]⟩), (14, some ⟨4, 28, 0, [.t (encD ⟨1000000, 9, 3, around seq 9⟩)]⟩)]) ⟨rfl, rfl, rfl, rfl, rfl, rfl, rfl, rfl, rfl, rfl, rfl, rfl, rfl, rfl, trivial⟩ ⟨rfl, okE_one rfl, rfl, okE_one rfl, trivial⟩, i + 1, 3, _, _, (by omega), (by simp_all), rfl, rfl⟩
                  omega
        · try simp only [cl] at h4
          refine awp_exit ?_
          refine awp_seq ?_
          refine awp_rw rfl ?_
          refine mvT ?_
          refine mvT ?_
          refine RW.op rfl rfl (eff_boolEq (b := true) rfl rfl (.inr rfl) tu4 rfl rfl (by rw [hah]; cases ei <;> rfl)) ?_
          refine mvT ?_
          refine RW.gop rfl rfl rfl rfl rfl rfl (eff_callXT (lives_ret) co16 rfl rfl rfl ⟨rfl, trivial⟩ rfl) ?_
          refine pkT ?_
          refine asT ?_
          refine RW.nil ?_
          refine awp_ret ?_
          exact ⟨Or.inr rfl, [_], ⟨.tmp (.t _), trivial⟩, .refl _⟩
    · refine awp_rw rfl ?_
      refine RW.op rfl rfl (eff_load rfl rfl ti64 rfl (.whole rfl rfl rfl rfl rfl rfl)) ?_
      refine RW.op rfl rfl (eff_callT (ex_f (by simpa using hc2) (by omega)) co31 rfl rfl rfl rfl) ?_
      refine mvT ?_
      refine RW.op rfl rfl (eff_extract rfl rfl rfl rfl) ?_
      refine RW.op rfl rfl (eff_extract rfl rfl rfl rfl) ?_
      refine RW.new rfl rfl (eff_allocK (k := 4) (id := 18) rfl rfl tz23 rfl rfl) ?_
      refine RW.store rfl rfl (eff_storeW (v := .t _) (els := [_]) (els' := [_]) rfl rfl ti23 rfl rfl rfl rfl rfl rfl rfl rfl rfl) ?_
      refine asT ?_
      refine RW.nil ?_
      refine awp_seq ?_
      refine awp_seq ?_
      refine awp_rd [(some 74, []), (some 75, []), (some 76, []), (some 77, []), (some 78, []), (some 79, []), (some 80, []), (some 81, []), (some 82, []), (some 83, []), (some 84, [])] [[], [0], [0, 1], [0, 1, 2], [0, 1], [0, 1], [0, 1], [0, 1, 4, 5, 6], [0, 1, 4, 5, 6, 7], [0, 1, 2, 3, 4, 5, 6, 7, 8], [0, 1, 2, 3, 4, 5, 6, 7, 8, 9]] tm rfl rfl rfl rfl ?_
      refine mvD ?_
      refine mvD ?_
      refine gkD ?_
      refine gkD ?_
      refine gkD ?_
      refine gkD ?_
      refine gkD ?_
      refine gkD ?_
      refine gkD ?_
      refine gkD ?_
      refine RD.op rfl rfl rfl (eff_pick (v := .t _) rfl rfl rfl rfl) ?_
      refine RD.nil ?_
      refine awp_cond rfl (fun h => nomatch h) (fun _ => ?_)
      refine awp_skip ?_
      refine awp_seq ?_
      refine awp_seq ?_
      refine awp_rw rfl ?_
      refine faT tf28_3 ?_
      refine l1T ti3 rfl rfl rfl rfl rfl (.one rfl rfl rfl rfl) ?_
      refine mvT ?_
      refine ioT ?_
      refine RW.nil ?_
      refine awp_cond rfl (fun h20 => ?_) (fun h20 => ?_)
      · try simp only [cl] at h20
        refine awp_seq ?_
        refine awp_rw rfl ?_
        refine RW.op rfl rfl (eff_callXT (lives_ret) co16 rfl rfl rfl ⟨rfl, trivial⟩ rfl) ?_
        refine asT ?_
        refine RW.nil ?_
        refine awp_ret ?_
        exact ⟨Or.inr rfl, [_], ⟨.tmp (.t _), trivial⟩, .refl _⟩
      · try simp only [cl] at h20
        refine awp_skip ?_
        refine awp_seq ?_
        refine awp_rw rfl ?_
        refine asT ?_
        refine RW.nil ?_
        refine awp_seq ?_
        refine awp_rw rfl ?_
        refine asT ?_
        refine RW.nil ?_
        refine awp_seq ?_
        refine awp_seq ?_
        refine awp_rw rfl ?_
        refine asT ?_
        refine RW.nil ?_
        refine awp_block ?_
        refine awp_loopW (fun m s => ∃ (i : Nat) (kd : Int) (ei : Bool) (ah : Bool), (i ≤ (known (ledger l what).1 1000000).1.poss.length) ∧ (ah = !ei) ∧ m = (known (ledger l what).1 1000000).1.poss.length - i ∧ s = ⟨138, [(11, .ptr 11 0 0 0), (13, .t (encI (sentN (ledger l what).1))), (14, .ptr 14 0 0 0), (20, .t (.bool ei)), (21, .t (.bool ah)), (22, .t (encI (i : Nat))), (139, .t deT)], [(11, some ⟨2, 64, 0, [.t (encT (known (ledger l what).1 1000000).1)]⟩), (14, some ⟨4, 28, 0, [.t (encD ⟨1000000, 9, kd, around seq 9⟩)]⟩)]⟩) (_) (⟨_, weak_keep (n := 138) (fr' := [(11, .ptr 11 0 0 0), (13, .t (encI (sentN (ledger l what).1))), (14, .ptr 14 0 0 0), (20, .t (.bool false)), (21, .t (.bool true)), (22, .t (encI (0 : Nat))), (139, .t deT)]) (st' := [(11, some ⟨2, 64, 0, [.t (encT (known (ledger l what).1 1000000).1)]⟩), (14, some ⟨4, 28, 0, [.t (encD ⟨1000000, 9, _, around seq 9⟩)]⟩)]) ⟨rfl, rfl, rfl, rfl, rfl, rfl, rfl, rfl, rfl, rfl, rfl, rfl, rfl, rfl, trivial⟩ ⟨rfl, okE_one rfl, rfl, okE_one rfl, trivial⟩, 0, _, false, true, (by omega), (by rfl), rfl, rfl⟩) ?_
        rintro m s ⟨i, kd, ei, ah, hi, hah, rfl, rfl⟩
        refine awp_seq ?_
        refine awp_seq ?_
        refine awp_rw rfl ?_
        refine mvT ?_
        refine faT tf64_1 ?_
        refine l1T ti33 rfl rfl rfl rfl rfl (.one rfl rfl rfl rfl) ?_
        refine RW.op rfl rfl (eff_lenM rfl rfl te33 rfl) ?_
        refine ioT ?_
        refine RW.nil ?_
        refine awp_cond rfl (fun h21 => ?_) (fun h21 => ?_)
        · try simp only [cl] at h21
          refine awp_skip ?_
          refine awp_seq ?_
          refine awp_block ?_
          refine awp_seq ?_
          refine awp_rw rfl ?_
          have hil : i < (known (ledger l what).1 1000000).1.poss.length := by omega
          refine faT tf64_1 ?_
          refine l1T ti33 rfl rfl rfl rfl rfl (.one rfl rfl rfl rfl) ?_
          refine mvT ?_
          refine RW.op rfl rfl (eff_indexM rfl rfl te33 rfl rfl rfl (by first | assumption | exact List.getElem?_eq_getElem (by omega)) rfl (by decide)) ?_
          refine RW.op rfl rfl (eff_loadW rfl rfl ti23 rfl rfl rfl) ?_
          refine RW.new rfl rfl (eff_allocK (k := 4) (id := 23) rfl rfl tz23 rfl rfl) ?_
          refine RW.store rfl rfl (eff_storeW (v := .t _) (els := [_]) (els' := [_]) rfl rfl ti23 rfl rfl rfl rfl rfl rfl rfl rfl rfl) ?_
          refine RW.nil ?_
          refine awp_seq ?_
          refine awp_rw rfl ?_
          refine faT tf28_2 ?_
          refine RW.store rfl rfl (eff_storeS (v := .t _) (ys := [_, _, _, _]) (els := [_]) (els' := [_]) rfl rfl ti3 rfl rfl rfl rfl rfl rfl rfl (Nat.le_of_ble_eq_true rfl) rfl rfl) ?_
          refine RW.nil ?_
          refine awp_seq ?_
          by_cases hc22 : rightD ⟨1000000, 9, 1, around seq 9⟩ ((known (ledger l what).1 1000000).1.poss[i]'hil) (sentN (ledger l what).1) = true
          · refine awp_rw rfl ?_
            refine RW.op rfl rfl (eff_load rfl rfl ti28 rfl (.whole rfl rfl rfl rfl rfl rfl)) ?_
            refine RW.op rfl rfl (eff_load rfl rfl ti23 rfl (.whole rfl rfl rfl rfl rfl rfl)) ?_
            refine mvT ?_
            refine RW.op rfl rfl (eff_callT ((by have h := right_ret ⟨1000000, 9, 1, around seq 9⟩ ((known (ledger l what).1 1000000).1.poss[i]'hil) (sentN (ledger l what).1) (hFit.hp _ (List.getElem_mem hil)) ((hFit.nx _ (List.getElem_mem hil)).mono (by decide)) (by show -2000000 ≤ around seq 9 ∧ around seq 9 ≤ 2000000; omega); rwa [show rightD ⟨1000000, 9, 1, around seq 9⟩ ((known (ledger l what).1 1000000).1.poss[i]'hil) (sentN (ledger l what).1) = true from by first | exact hc22 | exact Bool.eq_false_iff.2 hc22] at h)) co14 rfl rfl rfl rfl) ?_
            refine asT ?_
            refine RW.nil ?_
            refine awp_seq ?_
            refine awp_rw rfl ?_
            refine faT tf28_2 ?_
            refine RW.store rfl rfl (eff_storeS (v := .t _) (ys := [_, _, _, _]) (els := [_]) (els' := [_]) rfl rfl ti3 rfl rfl rfl rfl rfl rfl rfl (Nat.le_of_ble_eq_true rfl) rfl rfl) ?_
            refine RW.nil ?_
            refine awp_seq ?_
            by_cases hc23 : rightD ⟨1000000, 9, 3, around seq 9⟩ ((known (ledger l what).1 1000000).1.poss[i]'hil) (sentN (ledger l what).1) = true
            · refine awp_rw rfl ?_
              refine RW.op rfl rfl (eff_load rfl rfl ti28 rfl (.whole rfl rfl rfl rfl rfl rfl)) ?_
              refine RW.op rfl rfl (eff_load rfl rfl ti23 rfl (.whole rfl rfl rfl rfl rfl rfl)) ?_
              refine mvT ?_
              refine RW.op rfl rfl (eff_callT ((by have h := right_ret ⟨1000000, 9, 3, around seq 9⟩ ((known (ledger l what).1 1000000).1.poss[i]'hil) (sentN (ledger l what).1) (hFit.hp _ (List.getElem_mem hil)) ((hFit.nx _ (List.getElem_mem hil)).mono (by decide)) (by show -2000000 ≤ around seq 9 ∧ around seq 9 ≤ 2000000; omega); rwa [show rightD ⟨1000000, 9, 3, around seq 9⟩ ((known (ledger l what).1 1000000).1.poss[i]'hil) (sentN (ledger l what).1) = true from by first | exact hc23 | exact Bool.eq_false_iff.2 hc23] at h)) co14 rfl rfl rfl rfl) ?_
              refine asT ?_
              refine RW.nil ?_
              refine awp_seq ?_
              refine awp_rw rfl ?_
              refine mvT ?_
              refine mvT ?_
              refine RW.split 113 rfl (fun h24 => ?_) (fun h24 => ?_)
              · try simp only [cl] at h24
                refine gkT ?_
                refine pkT ?_
                refine mvT ?_
                refine gkT ?_
                refine pkT ?_
                refine asT ?_
                refine RW.nil ?_
                refine awp_seq ?_
                refine awp_rw rfl ?_
                refine mvT ?_
                refine mvT ?_
                refine RW.split 120 rfl (fun h25 => ?_) (fun h25 => ?_)
                · try simp only [cl] at h25
                  refine RW.gop rfl rfl rfl rfl rfl rfl (eff_move (v := .t _) rfl rfl rfl) ?_
                  refine RW.gop rfl rfl rfl rfl rfl rfl (eff_unop rfl rfl rfl rfl) ?_
                  refine pkT ?_
                  refine mvT ?_
                  refine gkT ?_
                  refine gkT ?_
                  refine pkT ?_
                  refine asT ?_
                  refine RW.nil ?_
                  refine awp_seq ?_
                  refine awp_rw rfl ?_
                  refine mvT ?_
                  refine mvT ?_
                  refine RW.gop rfl rfl rfl rfl rfl rfl (eff_move (v := .t _) rfl rfl rfl) ?_
                  refine pkT ?_
                  refine RW.nil ?_
                  refine awp_cond rfl (fun _ => ?_) (fun h => nomatch h)
                  refine awp_seq ?_
                  refine awp_rw rfl ?_
                  refine asT ?_
                  refine RW.nil ?_
                  refine awp_ret ?_
                  (exfalso; have hnb := not_both (t := 1000000) (o := 9) (q := around seq 9) (n := (sentN (ledger l what).1)) (s := ((known (ledger l what).1 1000000).1.poss[i]'hil)) (by assumption); simp_all)
                · try simp only [cl] at h25
                  refine gkT ?_
                  refine gkT ?_
                  refine pkT ?_
                  refine mvT ?_
                  refine gkT ?_
                  refine gkT ?_
                  refine pkT ?_
                  refine asT ?_
                  refine RW.nil ?_
                  refine awp_seq ?_
                  refine awp_rw rfl ?_
                  refine mvT ?_
                  refine mvT ?_
                  refine RW.gop rfl rfl rfl rfl rfl rfl (eff_move (v := .t _) rfl rfl rfl) ?_
                  refine pkT ?_
                  refine RW.nil ?_
                  refine awp_cond rfl (fun _ => ?_) (fun h => nomatch h)
                  refine awp_seq ?_
                  refine awp_rw rfl ?_
                  refine asT ?_
                  refine RW.nil ?_
                  refine awp_ret ?_
                  (exfalso; have hnb := not_both (t := 1000000) (o := 9) (q := around seq 9) (n := (sentN (ledger l what).1)) (s := ((known (ledger l what).1 1000000).1.poss[i]'hil)) (by assumption); simp_all)
              · try simp only [cl] at h24
                refine RW.gop rfl rfl rfl rfl rfl rfl (eff_move (v := .t _) rfl rfl rfl) ?_
                refine pkT ?_
                refine mvT ?_
                refine gkT ?_
                refine pkT ?_
                refine asT ?_
                refine RW.nil ?_
                refine awp_seq ?_
                refine awp_rw rfl ?_
                refine mvT ?_
                refine mvT ?_
                refine RW.split 120 rfl (fun h26 => ?_) (fun h26 => ?_)
                · try simp only [cl] at h26
                  refine RW.gop rfl rfl rfl rfl rfl rfl (eff_move (v := .t _) rfl rfl rfl) ?_
                  refine RW.gop rfl rfl rfl rfl rfl rfl (eff_unop rfl rfl rfl rfl) ?_
                  refine pkT ?_
                  refine mvT ?_
                  refine gkT ?_
                  refine gkT ?_
                  refine pkT ?_
                  refine asT ?_
                  refine RW.nil ?_
                  refine awp_seq ?_
                  refine awp_rw rfl ?_
                  refine mvT ?_
                  refine mvT ?_
                  refine RW.gop rfl rfl rfl rfl rfl rfl (eff_move (v := .t _) rfl rfl rfl) ?_
                  refine pkT ?_
                  refine RW.nil ?_
                  refine awp_cond rfl (fun _ => ?_) (fun h => nomatch h)
                  refine awp_seq ?_
                  refine awp_rw rfl ?_
                  refine asT ?_
                  refine RW.nil ?_
                  refine awp_ret ?_
                  (exfalso; have hnb := not_both (t := 1000000) (o := 9) (q := around seq 9) (n := (sentN (ledger l what).1)) (s := ((known (ledger l what).1 1000000).1.poss[i]'hil)) (by assumption); simp_all)
                · try simp only [cl] at h26
                  refine gkT ?_
                  refine gkT ?_
                  refine pkT ?_
                  refine mvT ?_
                  refine gkT ?_
                  refine gkT ?_
                  refine pkT ?_
                  refine asT ?_
                  refine RW.nil ?_
                  refine awp_seq ?_
                  refine awp_rw rfl ?_
                  refine mvT ?_
                  refine mvT ?_
                  refine RW.gop rfl rfl rfl rfl rfl rfl (eff_move (v := .t _) rfl rfl rfl) ?_
                  refine pkT ?_
                  refine RW.nil ?_
                  refine awp_cond rfl (fun _ => ?_) (fun h => nomatch h)
                  refine awp_seq ?_
                  refine awp_rw rfl ?_
                  refine asT ?_
                  refine RW.nil ?_
                  refine awp_ret ?_
                  (exfalso; have hnb := not_both (t := 1000000) (o := 9) (q := around seq 9) (n := (sentN (ledger l what).1)) (s := ((known (ledger l what).1 1000000).1.poss[i]'hil)) (by assumption); simp_all)
            · refine awp_rw rfl ?_
              refine RW.op rfl rfl (eff_load rfl rfl ti28 rfl (.whole rfl rfl rfl rfl rfl rfl)) ?_
              refine RW.op rfl rfl (eff_load rfl rfl ti23 rfl (.whole rfl rfl rfl rfl rfl rfl)) ?_
              refine mvT ?_
              refine RW.op rfl rfl (eff_callT ((by have h := right_ret ⟨1000000, 9, 3, around seq 9⟩ ((known (ledger l what).1 1000000).1.poss[i]'hil) (sentN (ledger l what).1) (hFit.hp _ (List.getElem_mem hil)) ((hFit.nx _ (List.getElem_mem hil)).mono (by decide)) (by show -2000000 ≤ around seq 9 ∧ around seq 9 ≤ 2000000; omega); rwa [show rightD ⟨1000000, 9, 3, around seq 9⟩ ((known (ledger l what).1 1000000).1.poss[i]'hil) (sentN (ledger l what).1) = false from by first | exact hc23 | exact Bool.eq_false_iff.2 hc23] at h)) co14 rfl rfl rfl rfl) ?_
              refine asT ?_
              refine RW.nil ?_
              refine awp_seq ?_
              refine awp_rw rfl ?_
              refine mvT ?_
              refine mvT ?_
              refine RW.split 113 rfl (fun h27 => ?_) (fun h27 => ?_)
              · try simp only [cl] at h27
                refine gkT ?_
                refine pkT ?_
                refine mvT ?_
                refine gkT ?_
                refine pkT ?_
                refine asT ?_
                refine RW.nil ?_
                refine awp_seq ?_
                refine awp_rw rfl ?_
                refine mvT ?_
                refine mvT ?_
                refine RW.split 120 rfl (fun h28 => ?_) (fun h28 => ?_)
                · try simp only [cl] at h28
                  refine RW.gop rfl rfl rfl rfl rfl rfl (eff_move (v := .t _) rfl rfl rfl) ?_
                  refine RW.gop rfl rfl rfl rfl rfl rfl (eff_unop rfl rfl rfl rfl) ?_
                  refine pkT ?_
                  refine mvT ?_
                  refine gkT ?_
                  refine gkT ?_
                  refine pkT ?_
                  refine asT ?_
                  refine RW.nil ?_
                  refine awp_seq ?_
                  refine awp_rw rfl ?_
                  refine mvT ?_
                  refine mvT ?_
                  refine RW.gop rfl rfl rfl rfl rfl rfl (eff_move (v := .t _) rfl rfl rfl) ?_
                  refine pkT ?_
                  refine RW.nil ?_
                  refine awp_cond rfl (fun h => nomatch h) (fun _ => ?_)
                  refine awp_skip ?_
                  refine awp_rw rfl ?_
                  refine mvT ?_
                  refine RW.op rfl rfl (eff_iop rfl rfl rfl rfl (iadd (by omega))) ?_
                  refine asT ?_
                  refine RW.nil ?_
                  refine ⟨_, ?_, _, weak_keep (n := 138) (fr' := [(11, .ptr 11 0 0 0), (13, .t (encI (sentN (ledger l what).1))), (14, .ptr 14 0 0 0), (20, .t (.bool _)), (21, .t (.bool _)), (22, .t (encI ((i + 1) : Nat))), (139, .t deT)]) (st' := [(11, some ⟨2, 64, 0, [.t (encT (known (ledger l what).1 1000000).1)]⟩), (14, some ⟨4, 28, 0, [.t (encD ⟨1000000, 9, 3, around seq 9⟩)]⟩)]) ⟨rfl, rfl, rfl, rfl, rfl, rfl, rfl, rfl, rfl, rfl, rfl, rfl, rfl, rfl, trivial⟩ ⟨rfl, okE_one rfl, rfl, okE_one rfl, trivial⟩, i + 1, 3, _, _, (by omega), (by simp_all), rfl, rfl⟩
                  omega
                · try simp only [cl] at h28
                  refine gkT ?_
                  refine gkT ?_
                  refine pkT ?_
                  refine mvT ?_
                  refine gkT ?_
                  refine gkT ?_
                  refine pkT ?_
                  refine asT ?_
                  refine RW.nil ?_
                  refine awp_seq ?_
                  refine awp_rw rfl ?_
                  refine mvT ?_
                  refine mvT ?_
                  refine RW.gop rfl rfl rfl rfl rfl rfl (eff_move (v := .t _) rfl rfl rfl) ?_
                  refine pkT ?_
                  refine RW.nil ?_
                  refine awp_cond rfl (fun h => nomatch h) (fun _ => ?_)
                  refine awp_skip ?_
                  refine awp_rw rfl ?_
                  refine mvT ?_
                  refine RW.op rfl rfl (eff_iop rfl rfl rfl rfl (iadd (by omega))) ?_
                  refine asT ?_
                  refine RW.nil ?_
                  refine ⟨_, ?_, _, weak_keep (n := 138) (fr' := [(11, .ptr 11 0 0 0), (13, .t (encI (sentN (ledger l what).1))), (14, .ptr 14 0 0 0), (20, .t (.bool _)), (21, .t (.bool _)), (22, .t (encI ((i + 1) : Nat))), (139, .t deT)]) (st' := [(11, some ⟨2, 64, 0, [.t (encT (known (ledger l what).1 1000000).1)]⟩), (14, some ⟨4, 28, 0, [.t (encD ⟨1000000, 9, 3, around seq 9⟩)]⟩)]) ⟨rfl, rfl, rfl, rfl, rfl, rfl, rfl, rfl, rfl, rfl, rfl, rfl, rfl, rfl, trivial⟩ ⟨rfl, okE_one rfl, rfl, okE_one rfl, trivial⟩, i + 1, 3, _, _, (by omega), (by simp_all), rfl, rfl⟩
                  omega
              · try simp only [cl] at h27
                refine RW.gop rfl rfl rfl rfl rfl rfl (eff_move (v := .t _) rfl rfl rfl) ?_
                refine pkT ?_
                refine mvT ?_
                refine gkT ?_
                refine pkT ?_
                refine asT ?_
                refine RW.nil ?_
                refine awp_seq ?_
                refine awp_rw rfl ?_
                refine mvT ?_
                refine mvT ?_
                refine RW.split 120 rfl (fun h29 => ?_) (fun h29 => ?_)
                · try simp only [cl] at h29
                  refine RW.gop rfl rfl rfl rfl rfl rfl (eff_move (v := .t _) rfl rfl rfl) ?_
                  refine RW.gop rfl rfl rfl rfl rfl rfl (eff_unop rfl rfl rfl rfl) ?_
                  refine pkT ?_
                  refine mvT ?_
                  refine gkT ?_
                  refine gkT ?_
                  refine pkT ?_
                  refine asT ?_
                  refine RW.nil ?_
                  refine awp_seq ?_
                  refine awp_rw rfl ?_
                  refine mvT ?_
                  refine mvT ?_
                  refine RW.gop rfl rfl rfl rfl rfl rfl (eff_move (v := .t _) rfl rfl rfl) ?_
                  refine pkT ?_
                  refine RW.nil ?_
                  refine awp_cond rfl (fun h => nomatch h) (fun _ => ?_)
                  refine awp_skip ?_
                  refine awp_rw rfl ?_
                  refine mvT ?_
                  refine RW.op rfl rfl (eff_iop rfl rfl rfl rfl (iadd (by omega))) ?_
                  refine asT ?_
                  refine RW.nil ?_
                  refine ⟨_, ?_, _, weak_keep (n := 138) (fr' := [(11, .ptr 11 0 0 0), (13, .t (encI (sentN (ledger l what).1))), (14, .ptr 14 0 0 0), (20, .t (.bool _)), (21, .t (.bool _)), (22, .t (encI ((i + 1) : Nat))), (139, .t deT)]) (st' := [(11, some ⟨2, 64, 0, [.t (encT (known (ledger l what).1 1000000).1)]⟩), (14, some ⟨4, 28, 0, [.t (encD ⟨1000000, 9, 3, around seq 9⟩)]⟩)]) ⟨rfl, rfl, rfl, rfl, rfl, rfl, rfl, rfl, rfl, rfl, rfl, rfl, rfl, rfl, trivial⟩ ⟨rfl, okE_one rfl, rfl, okE_one rfl, trivial⟩, i + 1, 3, _, _, (by omega), (by simp_all), rfl, rfl⟩
                  omega
                · try simp only [cl] at h29
                  refine gkT ?_
                  refine gkT ?_
                  refine pkT ?_
                  refine mvT ?_
                  refine gkT ?_
                  refine gkT ?_
                  refine pkT ?_
                  refine asT ?_
                  refine RW.nil ?_
                  refine awp_seq ?_
                  refine awp_rw rfl ?_
                  refine mvT ?_
                  refine mvT ?_
                  refine RW.gop rfl rfl rfl rfl rfl rfl (eff_move (v := .t _) rfl rfl rfl) ?_
                  refine pkT ?_
                  refine RW.nil ?_
                  refine awp_cond rfl (fun h => nomatch h) (fun _ => ?_)
                  refine awp_skip ?_
                  refine awp_rw rfl ?_
                  refine mvT ?_
                  refine RW.op rfl rfl (eff_iop rfl rfl rfl rfl (iadd (by omega))) ?_
                  refine asT ?_
                  refine RW.nil ?_
                  refine ⟨_, ?_, _, weak_keep (n := 138) (fr' := [(11, .ptr 11 0 0 0), (13, .t (encI (sentN (ledger l what).1))), (14, .ptr 14 0 0 0), (20, .t (.bool _)), (21, .t (.bool _)), (22, .t (encI ((i + 1) : Nat))), (139, .t deT)]) (st' := [(11, some ⟨2, 64, 0, [.t (encT (known (ledger l what).1 1000000).1)]⟩), (14, some ⟨4, 28, 0, [.t (encD ⟨1000000, 9, 3, around seq 9⟩)]⟩)]) ⟨rfl, rfl, rfl, rfl, rfl, rfl, rfl, rfl, rfl, rfl, rfl, rfl, rfl, rfl, trivial⟩ ⟨rfl, okE_one rfl, rfl, okE_one rfl, trivial⟩, i + 1, 3, _, _, (by omega), (by simp_all), rfl, rfl⟩
                  omega
          · refine awp_rw rfl ?_
            refine RW.op rfl rfl (eff_load rfl rfl ti28 rfl (.whole rfl rfl rfl rfl rfl rfl)) ?_
            refine RW.op rfl rfl (eff_load rfl rfl ti23 rfl (.whole rfl rfl rfl rfl rfl rfl)) ?_
            refine mvT ?_
            refine RW.op rfl rfl (eff_callT ((by have h := right_ret ⟨1000000, 9, 1, around seq 9⟩ ((known (ledger l what).1 1000000).1.poss[i]'hil) (sentN (ledger l what).1) (hFit.hp _ (List.getElem_mem hil)) ((hFit.nx _ (List.getElem_mem hil)).mono (by decide)) (by show -2000000 ≤ around seq 9 ∧ around seq 9 ≤ 2000000; omega); rwa [show rightD ⟨1000000, 9, 1, around seq 9⟩ ((known (ledger l what).1 1000000).1.poss[i]'hil) (sentN (ledger l what).1) = false from by first | exact hc22 | exact Bool.eq_false_iff.2 hc22] at h)) co14 rfl rfl rfl rfl) ?_
            refine asT ?_
            refine RW.nil ?_
            refine awp_seq ?_
            refine awp_rw rfl ?_
            refine faT tf28_2 ?_
            refine RW.store rfl rfl (eff_storeS (v := .t _) (ys := [_, _, _, _]) (els := [_]) (els' := [_]) rfl rfl ti3 rfl rfl rfl rfl rfl rfl rfl (Nat.le_of_ble_eq_true rfl) rfl rfl) ?_
            refine RW.nil ?_
            refine awp_seq ?_
            by_cases hc30 : rightD ⟨1000000, 9, 3, around seq 9⟩ ((known (ledger l what).1 1000000).1.poss[i]'hil) (sentN (ledger l what).1) = true
            · refine awp_rw rfl ?_
              refine RW.op rfl rfl (eff_load rfl rfl ti28 rfl (.whole rfl rfl rfl rfl rfl rfl)) ?_
              refine RW.op rfl rfl (eff_load rfl rfl ti23 rfl (.whole rfl rfl rfl rfl rfl rfl)) ?_
              refine mvT ?_
              refine RW.op rfl rfl (eff_callT ((by have h := right_ret ⟨1000000, 9, 3, around seq 9⟩ ((known (ledger l what).1 1000000).1.poss[i]'hil) (sentN (ledger l what).1) (hFit.hp _ (List.getElem_mem hil)) ((hFit.nx _ (List.getElem_mem hil)).mono (by decide)) (by show -2000000 ≤ around seq 9 ∧ around seq 9 ≤ 2000000; omega); rwa [show rightD ⟨1000000, 9, 3, around seq 9⟩ ((known (ledger l what).1 1000000).1.poss[i]'hil) (sentN (ledger l what).1) = true from by first | exact hc30 | exact Bool.eq_false_iff.2 hc30] at h)) co14 rfl rfl rfl rfl) ?_
              refine asT ?_
              refine RW.nil ?_
              refine awp_seq ?_
              refine awp_rw rfl ?_
              refine mvT ?_
              refine mvT ?_
              refine RW.split 113 rfl (fun h31 => ?_) (fun h31 => ?_)
              · try simp only [cl] at h31
                refine gkT ?_
                refine pkT ?_
                refine mvT ?_
                refine gkT ?_
                refine pkT ?_
                refine asT ?_
                refine RW.nil ?_
                refine awp_seq ?_
                refine awp_rw rfl ?_
                refine mvT ?_
                refine mvT ?_
                refine RW.split 120 rfl (fun h32 => ?_) (fun h32 => ?_)
                · try simp only [cl] at h32
                  refine RW.gop rfl rfl rfl rfl rfl rfl (eff_move (v := .t _) rfl rfl rfl) ?_
                  refine RW.gop rfl rfl rfl rfl rfl rfl (eff_unop rfl rfl rfl rfl) ?_
                  refine pkT ?_
                  refine mvT ?_
                  refine RW.gop rfl rfl rfl rfl rfl rfl (eff_move (v := .t _) rfl rfl rfl) ?_
                  refine RW.gop rfl rfl rfl rfl rfl rfl (eff_unop rfl rfl rfl rfl) ?_
                  refine pkT ?_
                  refine asT ?_
                  refine RW.nil ?_
                  refine awp_seq ?_
                  refine awp_rw rfl ?_
                  refine mvT ?_
                  refine mvT ?_
                  refine gkT ?_
                  refine pkT ?_
                  refine RW.nil ?_
                  refine awp_cond rfl (fun h => nomatch h) (fun _ => ?_)
                  refine awp_skip ?_
                  refine awp_rw rfl ?_
                  refine mvT ?_
                  refine RW.op rfl rfl (eff_iop rfl rfl rfl rfl (iadd (by omega))) ?_
                  refine asT ?_
                  refine RW.nil ?_
                  refine ⟨_, ?_, _, weak_keep (n := 138) (fr' := [(11, .ptr 11 0 0 0), (13, .t (encI (sentN (ledger l what).1))), (14, .ptr 14 0 0 0), (20, .t (.bool _)), (21, .t (.bool _)), (22, .t (encI ((i + 1) : Nat))), (139, .t deT)]) (st' := [(11, some ⟨2, 64, 0, [.t (encT (known (ledger l what).1 1000000).1)]⟩), (14, some ⟨4, 28, 0, [.t (encD ⟨1000000, 9, 3, around seq 9⟩)]⟩)]) ⟨rfl, rfl, rfl, rfl, rfl, rfl, rfl, rfl, rfl, rfl, rfl, rfl, rfl, rfl, trivial⟩ ⟨rfl, okE_one rfl, rfl, okE_one rfl, trivial⟩, i + 1, 3, _, _, (by omega), (by simp_all), rfl, rfl⟩
                  omega
                · try simp only [cl] at h32
                  refine gkT ?_
                  refine gkT ?_
                  refine pkT ?_
                  refine mvT ?_
                  refine gkT ?_
                  refine gkT ?_
                  refine pkT ?_
                  refine asT ?_
                  refine RW.nil ?_
                  refine awp_seq ?_
                  refine awp_rw rfl ?_
                  refine mvT ?_
                  refine mvT ?_
                  refine gkT ?_
                  refine pkT ?_
                  refine RW.nil ?_
                  refine awp_cond rfl (fun h => nomatch h) (fun _ => ?_)
                  refine awp_skip ?_
                  refine awp_rw rfl ?_
                  refine mvT ?_
                  refine RW.op rfl rfl (eff_iop rfl rfl rfl rfl (iadd (by omega))) ?_
                  refine asT ?_
                  refine RW.nil ?_
                  refine ⟨_, ?_, _, weak_keep (n := 138) (fr' := [(11, .ptr 11 0 0 0), (13, .t (encI (sentN (ledger l what).1))), (14, .ptr 14 0 0 0), (20, .t (.bool _)), (21, .t (.bool _)), (22, .t (encI ((i + 1) : Nat))), (139, .t deT)]) (st' := [(11, some ⟨2, 64, 0, [.t (encT (known (ledger l what).1 1000000).1)]⟩), (14, some ⟨4, 28, 0, [.t (encD ⟨1000000, 9, 3, around seq 9⟩)]⟩)]) ⟨rfl, rfl, rfl, rfl, rfl, rfl, rfl, rfl, rfl, rfl, rfl, rfl, rfl, rfl, trivial⟩ ⟨rfl, okE_one rfl, rfl, okE_one rfl, trivial⟩, i + 1, 3, _, _, (by omega), (by simp_all), rfl, rfl⟩
                  omega
              · try simp only [cl] at h31
                refine RW.gop rfl rfl rfl rfl rfl rfl (eff_move (v := .t _) rfl rfl rfl) ?_
                refine pkT ?_
                refine mvT ?_
                refine RW.gop rfl rfl rfl rfl rfl rfl (eff_move (v := .t _) rfl rfl rfl) ?_
                refine pkT ?_
                refine asT ?_
                refine RW.nil ?_
                refine awp_seq ?_
                refine awp_rw rfl ?_
                refine mvT ?_
                refine mvT ?_
                refine RW.split 120 rfl (fun h33 => ?_) (fun h33 => ?_)
                · try simp only [cl] at h33
                  refine RW.gop rfl rfl rfl rfl rfl rfl (eff_move (v := .t _) rfl rfl rfl) ?_
                  refine RW.gop rfl rfl rfl rfl rfl rfl (eff_unop rfl rfl rfl rfl) ?_
                  refine pkT ?_
                  refine mvT ?_
                  refine RW.gop rfl rfl rfl rfl rfl rfl (eff_move (v := .t _) rfl rfl rfl) ?_
                  refine RW.gop rfl rfl rfl rfl rfl rfl (eff_unop rfl rfl rfl rfl) ?_
                  refine pkT ?_
                  refine asT ?_
                  refine RW.nil ?_
                  refine awp_seq ?_
                  refine awp_rw rfl ?_
                  refine mvT ?_
                  refine mvT ?_
                  refine gkT ?_
                  refine pkT ?_
                  refine RW.nil ?_
                  refine awp_cond rfl (fun h => nomatch h) (fun _ => ?_)
                  refine awp_skip ?_
                  refine awp_rw rfl ?_
                  refine mvT ?_
                  refine RW.op rfl rfl (eff_iop rfl rfl rfl rfl (iadd (by omega))) ?_
                  refine asT ?_
                  refine RW.nil ?_
                  refine ⟨_, ?_, _, weak_keep (n := 138) (fr' := [(11, .ptr 11 0 0 0), (13, .t (encI (sentN (ledger l what).1))), (14, .ptr 14 0 0 0), (20, .t (.bool _)), (21, .t (.bool _)), (22, .t (encI ((i + 1) : Nat))), (139, .t deT)]) (st' := [(11, some ⟨2, 64, 0, [.t (encT (known (ledger l what).1 1000000).1)]⟩), (14, some ⟨4, 28, 0, [.t (encD ⟨1000000, 9, 3, around seq 9⟩)]⟩)]) ⟨rfl, rfl, rfl, rfl, rfl, rfl, rfl, rfl, rfl, rfl, rfl, rfl, rfl, rfl, trivial⟩ ⟨rfl, okE_one rfl, rfl, okE_one rfl, trivial⟩, i + 1, 3, _, _, (by omega), (by simp_all), rfl, rfl⟩
                  omega
                · try simp only [cl] at h33
                  refine gkT ?_
                  refine gkT ?_
                  refine pkT ?_
                  refine mvT ?_
                  refine gkT ?_
                  refine gkT ?_
                  refine pkT ?_
                  refine asT ?_
                  refine RW.nil ?_
                  refine awp_seq ?_
                  refine awp_rw rfl ?_
                  refine mvT ?_
                  refine mvT ?_
                  refine gkT ?_
                  refine pkT ?_
                  refine RW.nil ?_
                  refine awp_cond rfl (fun h => nomatch h) (fun _ => ?_)
                  refine awp_skip ?_
                  refine awp_rw rfl ?_
                  refine mvT ?_
                  refine RW.op rfl rfl (eff_iop rfl rfl rfl rfl (iadd (by omega))) ?_
                  refine asT ?_
                  refine RW.nil ?_
                  refine ⟨_, ?_, _, weak_keep (n := 138) (fr' := [(11, .ptr 11 0 0 0), (13, .t (encI (sentN (ledger l what).1))), (14, .ptr 14 0 0 0), (20, .t (.bool _)), (21, .t (.bool _)), (22, .t (encI ((i + 1) : Nat))), (139, .t deT)]) (st' := [(11, some ⟨2, 64, 0, [.t (encT (known (ledger l what).1 1000000).1)]⟩), (14, some ⟨4, 28, 0, [.t (encD ⟨1000000, 9, 3, around seq 9⟩)]⟩)]) ⟨rfl, rfl, rfl, rfl, rfl, rfl, rfl, rfl, rfl, rfl, rfl, rfl, rfl, rfl, trivial⟩ ⟨rfl, okE_one rfl, rfl, okE_one rfl, trivial⟩, i + 1, 3, _, _, (by omega), (by simp_all), rfl, rfl⟩
                  omega
            · refine awp_rw rfl ?_
              refine RW.op rfl rfl (eff_load rfl rfl ti28 rfl (.whole rfl rfl rfl rfl rfl rfl)) ?_
              refine RW.op rfl rfl (eff_load rfl rfl ti23 rfl (.whole rfl rfl rfl rfl rfl rfl)) ?_
              refine mvT ?_
              refine RW.op rfl rfl (eff_callT ((by have h := right_ret ⟨1000000, 9, 3, around seq 9⟩ ((known (ledger l what).1 1000000).1.poss[i]'hil) (sentN (ledger l what).1) (hFit.hp _ (List.getElem_mem hil)) ((hFit.nx _ (List.getElem_mem hil)).mono (by decide)) (by show -2000000 ≤ around seq 9 ∧ around seq 9 ≤ 2000000; omega); rwa [show rightD ⟨1000000, 9, 3, around seq 9⟩ ((known (ledger l what).1 1000000).1.poss[i]'hil) (sentN (ledger l what).1) = false from by first | exact hc30 | exact Bool.eq_false_iff.2 hc30] at h)) co14 rfl rfl rfl rfl) ?_
              refine asT ?_
              refine RW.nil ?_
              refine awp_seq ?_
              refine awp_rw rfl ?_
              refine mvT ?_
              refine mvT ?_
              refine RW.split 113 rfl (fun h34 => ?_) (fun h34 => ?_)
              · try simp only [cl] at h34
                refine gkT ?_
                refine pkT ?_
                refine mvT ?_
                refine gkT ?_
                refine pkT ?_
                refine asT ?_
                refine RW.nil ?_
                refine awp_seq ?_
                refine awp_rw rfl ?_
                refine mvT ?_
                refine mvT ?_
                refine RW.split 120 rfl (fun h35 => ?_) (fun h35 => ?_)
                · try simp only [cl] at h35
                  refine RW.gop rfl rfl rfl rfl rfl rfl (eff_move (v := .t _) rfl rfl rfl) ?_
                  refine RW.gop rfl rfl rfl rfl rfl rfl (eff_unop rfl rfl rfl rfl) ?_
                  refine pkT ?_
                  refine mvT ?_
                  refine RW.gop rfl rfl rfl rfl rfl rfl (eff_move (v := .t _) rfl rfl rfl) ?_
                  refine RW.gop rfl rfl rfl rfl rfl rfl (eff_unop rfl rfl rfl rfl) ?_
                  refine pkT ?_
                  refine asT ?_
                  refine RW.nil ?_
                  refine awp_seq ?_
                  refine awp_rw rfl ?_
                  refine mvT ?_
                  refine mvT ?_
                  refine gkT ?_
                  refine pkT ?_
                  refine RW.nil ?_
                  refine awp_cond rfl (fun h => nomatch h) (fun _ => ?_)
                  refine awp_skip ?_
                  refine awp_rw rfl ?_
                  refine mvT ?_
                  refine RW.op rfl rfl (eff_iop rfl rfl rfl rfl (iadd (by omega))) ?_
                  refine asT ?_
                  refine RW.nil ?_
                  refine ⟨_, ?_, _, weak_keep (n := 138) (fr' := [(11, .ptr 11 0 0 0), (13, .t (encI (sentN (ledger l what).1))), (14, .ptr 14 0 0 0), (20, .t (.bool _)), (21, .t (.bool _)), (22, .t (encI ((i + 1) : Nat))), (139, .t deT)]) (st' := [(11, some ⟨2, 64, 0, [.t (encT (known (ledger l what).1 1000000).1)]⟩), (14, some ⟨4, 28, 0, [.t (encD ⟨1000000, 9, 3, around seq 9⟩)]⟩)]) ⟨rfl, rfl, rfl, rfl, rfl, rfl, rfl, rfl, rfl, rfl, rfl, rfl, rfl, rfl, trivial⟩ ⟨rfl, okE_one rfl, rfl, okE_one rfl, trivial⟩, i + 1, 3, _, _, (by omega), (by simp_all), rfl, rfl⟩
                  omega
                · try simp only [cl] at h35
                  refine gkT ?_
                  refine gkT ?_
                  refine pkT ?_
                  refine mvT ?_
                  refine gkT ?_
                  refine gkT ?_
                  refine pkT ?_
                  refine asT ?_
                  refine RW.nil ?_
                  refine awp_seq ?_
                  refine awp_rw rfl ?_
                  refine mvT ?_
                  refine mvT ?_
                  refine gkT ?_
                  refine pkT ?_
                  refine RW.nil ?_
                  refine awp_cond rfl (fun h => nomatch h) (fun _ => ?_)
                  refine awp_skip ?_
                  refine awp_rw rfl ?_
                  refine mvT ?_
                  refine RW.op rfl rfl (eff_iop rfl rfl rfl rfl (iadd (by omega))) ?_
                  refine asT ?_
                  refine RW.nil ?_
                  refine ⟨_, ?_, _, weak_keep (n := 138) (fr' := [(11, .ptr 11 0 0 0), (13, .t (encI (sentN (ledger l what).1))), (14, .ptr 14 0 0 0), (20, .t (.bool _)), (21, .t (.bool _)), (22, .t (encI ((i + 1) : Nat))), (139, .t deT)]) (st' := [(11, some ⟨2, 64, 0, [.t (encT (known (ledger l what).1 1000000).1)]⟩), (14, some ⟨4, 28, 0, [.t (encD ⟨1000000, 9, 3, around seq 9⟩)]⟩)]) ⟨rfl, rfl, rfl, rfl, rfl, rfl, rfl, rfl, rfl, rfl, rfl, rfl, rfl, rfl, trivial⟩ ⟨rfl, okE_one rfl, rfl, okE_one rfl, trivial⟩, i + 1, 3, _, _, (by omega), (by simp_all), rfl, rfl⟩
                  omega
              · try simp only [cl] at h34
                refine RW.gop rfl rfl rfl rfl rfl rfl (eff_move (v := .t _) rfl rfl rfl) ?_
                refine pkT ?_
                refine mvT ?_
                refine RW.gop rfl rfl rfl rfl rfl rfl (eff_move (v := .t _) rfl rfl rfl) ?_
                refine pkT ?_
                refine asT ?_
                refine RW.nil ?_
                refine awp_seq ?_
                refine awp_rw rfl ?_
                refine mvT ?_
                refine mvT ?_
                refine RW.split 120 rfl (fun h36 => ?_) (fun h36 => ?_)
                · try simp only [cl] at h36
                  refine RW.gop rfl rfl rfl rfl rfl rfl (eff_move (v := .t _) rfl rfl rfl) ?_
                  refine RW.gop rfl rfl rfl rfl rfl rfl (eff_unop rfl rfl rfl rfl) ?_
                  refine pkT ?_
                  refine mvT ?_
                  refine RW.gop rfl rfl rfl rfl rfl rfl (eff_move (v := .t _) rfl rfl rfl) ?_
                  refine RW.gop rfl rfl rfl rfl rfl rfl (eff_unop rfl rfl rfl rfl) ?_
                  refine pkT ?_
                  refine asT ?_
                  refine RW.nil ?_
                  refine awp_seq ?_
                  refine awp_rw rfl ?_
                  refine mvT ?_
                  refine mvT ?_
                  refine gkT ?_
                  refine pkT ?_
                  refine RW.nil ?_
                  refine awp_cond rfl (fun h => nomatch h) (fun _ => ?_)
                  refine awp_skip ?_
                  refine awp_rw rfl ?_
                  refine mvT ?_
                  refine RW.op rfl rfl (eff_iop rfl rfl rfl rfl (iadd (by omega))) ?_
                  refine asT ?_
                  refine RW.nil ?_
                  refine ⟨_, ?_, _, weak_keep (n := 138) (fr' := [(11, .ptr 11 0 0 0), (13, .t (encI (sentN (ledger l what).1))), (14, .ptr 14 0 0 0), (20, .t (.bool _)), (21, .t (.bool _)), (22, .t (encI ((i + 1) : Nat))), (139, .t deT)]) (st' := [(11, some ⟨2, 64, 0, [.t (encT (known (ledger l what).1 1000000).1)]⟩), (14, some ⟨4, 28, 0, [.t (encD ⟨1000000, 9, 3, around seq 9⟩)]⟩)]) ⟨rfl, rfl, rfl, rfl, rfl, rfl, rfl, rfl, rfl, rfl, rfl, rfl, rfl, rfl, trivial⟩ ⟨rfl, okE_one rfl, rfl, okE_one rfl, trivial⟩, i + 1, 3, _, _, (by omega), (by simp_all), rfl, rfl⟩
                  omega
                · try simp only [cl] at h36
                  refine gkT ?_
                  refine gkT ?_
                  refine pkT ?_
                  refine mvT ?_
                  refine gkT ?_
                  refine gkT ?_
                  refine pkT ?_
                  refine asT ?_
                  refine RW.nil ?_
                  refine awp_seq ?_
                  refine awp_rw rfl ?_
                  refine mvT ?_
                  refine mvT ?_
                  refine gkT ?_
                  refine pkT ?_
                  refine RW.nil ?_
                  refine awp_cond rfl (fun h => nomatch h) (fun _ => ?_)
                  refine awp_skip ?_
                  refine awp_rw rfl ?_
                  refine mvT ?_
                  refine RW.op rfl rfl (eff_iop rfl rfl rfl rfl (iadd (by omega))) ?_
                  refine asT ?_
                  refine RW.nil ?_
                  refine ⟨_, ?_, _, weak_keep (n := 138) (fr' := [(11, .ptr 11 0 0 0), (13, .t (encI (sentN (ledger l what).1))), (14, .ptr 14 0 0 0), (20, .t (.bool _)), (21, .t (.bool _)), (22, .t (encI ((i + 1) : Nat))), (139, .t deT)]) (st' := [(11, some ⟨2, 64, 0, [.t (encT (known (ledger l what).1 1000000).1)]⟩), (14, some ⟨4, 28, 0, [.t (encD ⟨1000000, 9, 3, around seq 9⟩)]⟩)]) ⟨rfl, rfl, rfl, rfl, rfl, rfl, rfl, rfl, rfl, rfl, rfl, rfl, rfl, rfl, trivial⟩ ⟨rfl, okE_one rfl, rfl, okE_one rfl, trivial⟩, i + 1, 3, _, _, (by omega), (by simp_all), rfl, rfl⟩
                  omega
        · try simp only [cl] at h21
          refine awp_exit ?_
          refine awp_seq ?_
          refine awp_rw rfl ?_
          refine mvT ?_
          refine mvT ?_
          refine RW.op rfl rfl (eff_boolEq (b := true) rfl rfl (.inr rfl) tu4 rfl rfl (by rw [hah]; cases ei <;> rfl)) ?_
          refine mvT ?_
          refine RW.gop rfl rfl rfl rfl rfl rfl (eff_callXT (lives_ret) co16 rfl rfl rfl ⟨rfl, trivial⟩ rfl) ?_
          refine pkT ?_
          refine asT ?_
          refine RW.nil ?_
          refine awp_ret ?_
          exact ⟨Or.inr rfl, [_], ⟨.tmp (.t _), trivial⟩, .refl _⟩

end Go.Tv.C36

end
section
open Go Go.Tv Go.Proofs Go.ChangeShapes Go.WideShapes Go.ChangeAt Go.RowKit
namespace Go.Tv.C36
set_option maxRecDepth 100000

theorem wfI64 {n : Int} (h : (Lit.int .i64 n).wf = true) : I64 n := by
  unfold I64
  simp [Lit.wf, IntKind.min, IntKind.max, IntKind.signed, IntKind.bits] at h; omega
theorem map_of {α : Type} {f : α → Tr} {p : α → Prop} : ∀ {els : List Tr}, (∀ x, x ∈ els → ∃ n, p n ∧ x = f n) → ∃ l : List α, els = l.map f ∧ ∀ n, n ∈ l → p n
  | [], _ => ⟨[], rfl, fun n h => by simp at h⟩
  | x :: els, h => by
    obtain ⟨n, hp, rfl⟩ := h x List.mem_cons_self
    obtain ⟨l, rfl, hl⟩ := map_of (els := els) (fun y hy => h y (List.mem_cons_of_mem _ hy))
    exact ⟨n :: l, rfl, fun m hm => (List.mem_cons.1 hm).elim (fun e => e ▸ hp) (hl m)⟩
theorem rd3 : Reads Tryd.prog 3 1 (fun ts => ∃ n, ts = [encI n] ∧ I64 n) := (reads_int Tryd.underlying3 (by kernel_rfl)).mono (fun ts ⟨n, h, hw⟩ => ⟨n, h, wfI64 hw⟩)
theorem rd26 : Reads Tryd.prog 26 1 (fun ts => ∃ l : List Int, ts = [.sl (l.map encI) false] ∧ l.length ≤ maxLen ∧ ∀ n, n ∈ l → I64 n) :=
  (reads_slice Tryd.underlying26 (by kernel_rfl) (by decide) (.inr rfl) rd3 (g := false)).mono (by
    rintro ts ⟨els, rfl, hm, h⟩
    obtain ⟨l, rfl, hl⟩ := map_of (f := encI) (p := I64) (fun x hx => by obtain ⟨_, ⟨n, rfl, hn⟩, rfl⟩ := h x hx; exact ⟨n, hn, rfl⟩)
    exact ⟨l, rfl, by simpa using hm, hl⟩)
def laid1 : List (String × DataW Unit) := [("math/bits.deBruijn32tab", Go.Proofs.YtiphgohbnhinnaaDoor.Rows.laid_math_bits_deBruijn32tab), ("math/bits.deBruijn64tab", Go.Proofs.YtiphgohbnhinnaaDoor.Rows.laid_math_bits_deBruijn64tab)]
theorem gDe : Tryd.prog.globalNamed "math/bits.deBruijn64tab" = some 1 := by kernel_rfl
theorem tDe : (Tryd.prog.globals[1]?).map (·.type) = some 125 := by kernel_rfl
theorem door_met (os : Os) (args : Array Value) : laidMetH Tryd.prog laid1 ((World.doorLaid Tryd.prog 400 os).forCall (fun _ _ => 0) ⟨#[], args, []⟩).memory :=
  laidMetH_of_parts3 (fuel := 8) (laidMet_of_run' 8 (by kernel_rfl) (by kernel_rfl)) (by kernel_rfl) (by kernel_rfl)
theorem tabs_of_laid {W : World} (h : laidMetH Tryd.prog laid1 W) : TabOK W (fun _ => False) [(1, deT)] := by
  intro g x hm
  simp only [List.mem_singleton, Prod.mk.injEq] at hm
  obtain ⟨rfl, rfl⟩ := hm
  exact tab_of_laid (l := deB) (k := .u8) h rfl (List.mem_cons_of_mem _ (List.mem_singleton.2 rfl)) (by intro e; cases e) gDe tDe Tryd.underlying125 Tryd.underlying5 (by kernel_rfl)
end Go.Tv.C36

end
section
namespace Go.Proofs.YtiphgohbnhinnaaDoor
open Go Go.Tv Go.Tv.C36 Go.ChangeShapes Go.WideShapes Go.ChangeAt Go.RowKit
set_option linter.unusedVariables false
set_option maxRecDepth 100000
theorem courtExact_contract (H : Type) (enc : TypeId × Value → H) (W : World) (base : Nat) (args : Array Value) (ds gs : List (DataW H)) (before : List MemPlace)
    (hval : ∀ (j : Nat) t v, Tryd.f10.params[j]? = some t → args[j]? = some v → Value.okWide Tryd.prog W .any base t v)
    (hW : DataW.Whole enc Tryd.prog Tryd.f10.params.toList Rows.courtExactSpec.vars false W args.toList ds gs before) (hL : laidMetH Tryd.prog laid1 W) :
    Calls Tryd.prog 10 args W fun e W' => ∃ v, e = .returned v ∧ Rows.courtExactSpec.post enc Tryd.prog Tryd.f10 false true false false W args v W' := by
  have hW' := hW
  obtain ⟨p, q, hA0, hV, rfl, hfz, hnd⟩ := hW
  have hA : DataW.TrodAll enc Tryd.prog W 0 (fun _ => true) true Tryd.f10.params.toList args.toList ds p := hA0
  rw [Tryd.params10] at hA hval
  obtain ⟨v0, vs0, d0, ds0, p0, q0, hargs, rfl, rfl, h0, r0⟩ := trodAll_cons hA
  obtain ⟨v1, vs1, d1, ds1, p1, q1, rfl, rfl, rfl, h1, r1⟩ := trodAll_cons r0
  obtain ⟨v2, vs2, d2, ds2, p2, q2, rfl, rfl, rfl, h2, r2⟩ := trodAll_cons r1
  obtain ⟨v3, vs3, d3, ds3, p3, q3, rfl, rfl, rfl, h3, r3⟩ := trodAll_cons r2
  obtain ⟨rfl, rfl, rfl⟩ := trodAll_nil r3
  obtain rfl : args = #[v0, v1, v2, v3] := by cases args; simp_all
  obtain ⟨rfl, rfl⟩ := trodVars_none hV
  have k0 := hval 0 26 v0 rfl rfl
  have k1 := hval 1 26 v1 rfl rfl
  have k2 := hval 2 3 v2 rfl rfl
  have k3 := hval 3 3 v3 rfl rfl
  obtain ⟨x0, hx0, l, e0, m0, b0⟩ := arg_slice Tryd.underlying26 rd26 k0 h0
  obtain rfl : x0 = .sl (l.map Go.Tv.C36.encI) false := by simpa using e0
  unfold maxLen at m0
  have n0 : l.length ≤ 9223372036854775807 := by simpa using m0
  obtain ⟨x1, hx1, wh, e1, m1, b1⟩ := arg_slice Tryd.underlying26 rd26 k1 h1
  obtain rfl : x1 = .sl (wh.map Go.Tv.C36.encI) false := by simpa using e1
  unfold maxLen at m1
  have n1 : wh.length ≤ 9223372036854775807 := by simpa using m1
  obtain ⟨kd, rfl, wkd⟩ := arg_int Tryd.underlying3 k2 h2
  have i_kd := wfI64 wkd
  obtain ⟨sq, rfl, wsq⟩ := arg_int Tryd.underlying3 k3 h3
  have i_sq := wfI64 wsq
  refine (law_callsT (law10 l wh kd sq b0 n0 b1 n1 i_kd i_sq) (tabs_of_laid hL) (vl_cons hx0 (vl_cons hx1 (vl_cons (.int _ _) (vl_cons (.int _ _) vl_nil))))).mono ?_
  rintro e W' ⟨rfl, hb⟩
  refine ⟨_, rfl, law_post (P := Tryd.prog) (by kernel_rfl) rfl (fun t ht => ?_) rfl Tryd.underlying4 hW' ⟨rfl, rfl, rfl⟩ hb⟩
  rw [Tryd.params10] at ht
  simp only [List.mem_cons, List.not_mem_nil, or_false] at ht
  rcases ht with rfl | rfl | rfl | rfl <;> exact ⟨by kernel_rfl, Nat.le_of_ble_eq_true (by kernel_rfl)⟩

theorem courtExact_lifted (os : Os) (started : os.Started) (H : Type) (enc : TypeId × Value → H) :
    ReturnsInHanded {} Tryd.checked os 10 .any (fun w args => (Rows.courtExactSpec.pre enc Tryd.prog Tryd.f10 [] false w args ∧ laidMetH Tryd.prog laid1 w) ∧ sizedMet enc Tryd.prog Tryd.f10 (OpenSpec.ofChange Rows.courtExactSpec) false w args)
      (Rows.courtExactSpec.post enc Tryd.prog Tryd.f10 false true false false) := by
  refine returnsInHanded_of_change_and (C := Tryd.checked) (X := fun w _ => laidMetH Tryd.prog laid1 w) (fun _ _ _ hh h => h.of_heap hh) (by kernel_rfl) started (by kernel_rfl) Tryd.func10
    (ChangeSpec.witness_shaped (enc := enc) (C := Tryd.checked) (os := os) (X := fun w _ => laidMetH Tryd.prog laid1 w) false (World.doorLaid Tryd.prog 400 os) #[.slice none 0 0, .slice none 0 0, .int .i64 0, .int .i64 0] 8 rfl (World.shaped_of_RefB (by kernel_rfl) (by kernel_rfl)) (by kernel_rfl) (by kernel_rfl) (by kernel_rfl) (door_met os _)) ?_
  intro W base args ds gs before hval hW _ _ hL _
  exact courtExact_contract H enc W base args ds gs before hval hW hL

theorem courtExact_row_holds : Rows.CourtExactSaid :=
  OpenClaim.holds_of_wide 10 Tryd.f10 rfl rfl rfl rfl rfl rfl rfl ⟨rfl, rfl, rfl, rfl, rfl⟩ rfl rfl rfl rfl rfl (by kernel_rfl) Tryd.func10 (by kernel_rfl)
    (of_decide_eq_true (by kernel_rfl)) (by unfold Func.isWrapper; first | (rw [if_pos (by decide +kernel)]; kernel_rfl) | (rw [if_neg (by decide +kernel)]; exact ⟨rfl, rfl⟩))
    (fun os started H enc _ => courtExact_lifted os started H enc)

theorem courtExactCard_holds : Rows.CourtExactCardSaid :=
  Claim7.holds_tied_plain_at .later [] [.data, .data] true _ false
    courtExact_row_holds (fun _ h => by cases h) (by kernel_rfl) (fun _ h => by cases h) courtExact_row_tie rfl ⟨rfl, rfl⟩ (by kernel_rfl) rfl
    (fun f fn hf hfn => by
      obtain rfl : f = 10 := Option.some.inj ((show Tryd.prog.funcNamed "perigee/perigeelaw36.CourtExact" = some 10 by kernel_rfl).symm.trans hf) |>.symm
      obtain rfl : fn = Tryd.f10 := (Option.some.inj (Tryd.func10.symm.trans hfn)).symm
      exact ⟨by kernel_rfl, fun j t ht => by
        rw [Tryd.params10] at ht
        have hm : t ∈ [26, 26, 3, 3] := by simpa using Array.mem_of_getElem? ht
        have hall : ([26, 26, 3, 3].all fun u => !Tryd.prog.wantsStandIn u) = true := by kernel_rfl
        exact (show Tryd.prog.wantsStandIn t = false by simpa using List.all_eq_true.1 hall t hm)⟩)
    (by kernel_rfl)

end Go.Proofs.YtiphgohbnhinnaaDoor

end
