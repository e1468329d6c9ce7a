/- Part of the proof that the laws of this seat return true for every input. No condition. -/
import Derived.Test.YtiphgohbnhinnaaDoorT1
import Derived.Laws.IdiomStrings
import Derived.Shelf.SlSortCmp.NoneTotal
import Derived.Lib.QuietBelow
import Derived.Test.YtiphgohbnhinnaaDoorProg
import Derived.Lib.TrailingZeros
set_option linter.unnecessarySimpa false
set_option linter.unusedVariables false
set_option linter.unusedSimpArgs false
section
namespace Go.Tv
variable {P : Program} {o : Oper} {D : St}

/-- As eff_callKR, of a function value whose captured things are the caller's objects. -/
theorem eff_callKF {f : FuncId} {ks : List (Nat × AV)} {x : Operand} {args : Array Operand} {ats : Array TypeId} {σ0 σ1 : Sto} {xs : List AV} {r r' : AV} (hret : RetK P f σ0 xs σ1 r ks) (hf : callOK P f = true) (ren : Nat → Nat)
    (hd : dstOK D.n o.dst = true) (ho : o.op = .call { callee := .value x, args := args, argTypes := ats }) {cs : List AV} (hx : D.ev x = .fn f cs)
    (hargs : RenL σ0 ren xs (args.toList.map D.ev ++ cs)) (hr' : RenA σ1 ren r r') (hkeys : keysOK ren σ1 = true)
    (h0 : AllS (fun id ob => sget D.st (ren id) = some ob ∧ selfEls σ0 ren ob ∧ ∃ ob1, sget σ1 id = some ob1 ∧ (ob.gen < ob1.gen ∨ Stays xs ks id ob ob1)) σ0)
    (h1 : AllS (fun id ob => selfEls σ1 ren ob ∧ ((sget σ0 id).isSome = true ∨ (sget D.st (ren id)).isNone = true)) σ1) :
    Eff P o D ⟨r', upsOf ren σ1⟩ := by
  intro s hs hfresh F β a w hrel next Q hnext
  have hsd := hs.st
  -- the objects that are lent
  have k0 : ∀ id ob, sget σ0 id = some ob → sget s.st (ren id) = some ob ∧ selfEls σ0 ren ob ∧ ∃ ob1, sget σ1 id = some ob1 ∧ (ob.gen < ob1.gen ∨ Stays xs ks id ob ob1) := fun id ob h => by
    obtain ⟨q1, q2, q3⟩ := h0.get id ob h
    exact ⟨hsd _ _ q1, q2, q3⟩
  have memUps : ∀ (σ : Sto) id ob, (id, some ob) ∈ σ → (ren id, ob) ∈ upsOf ren σ := by
    intro σ
    induction σ with
    | nil => intro id ob h; simp at h
    | cons y l ih =>
      intro id ob h
      obtain ⟨i, q⟩ := y
      simp only [List.mem_cons] at h
      rcases h with h | h
      · cases h; exact List.mem_cons_self
      · cases q with
        | none => exact ih id ob h
        | some q => exact List.mem_cons_of_mem _ (ih id ob h)
  have k1 : ∀ id ob, sget σ1 id = some ob → selfEls σ1 ren ob ∧ ((∃ ob0, sget σ0 id = some ob0) ∨ sget s.st (ren id) = none) := fun id ob h => by
    obtain ⟨q1, q2⟩ := h1.get id ob h
    refine ⟨q1, q2.imp (fun h => Option.isSome_iff_exists.1 h) (fun h2 => ?_)⟩
    exact hfresh (ren id) ob (memUps _ _ _ (sget_mem h)) (Option.isNone_iff_eq_none.1 h2)
  have inj1 : ∀ i j oi oj, sget σ1 i = some oi → sget σ1 j = some oj → ren i = ren j → i = j := fun i j oi oj hi hj e => by
    have := keys_inj hkeys _ _ (sget_mem hi) (sget_mem hj) e
    exact congrArg Prod.fst this
  -- the callee's view
  let lent : Nat → Prop := fun n => ∃ id ob, sget σ0 id = some ob ∧ ren id = n
  let Fc : Nat → Prop := fun b => F b ∨ ∃ n ob, sget s.st n = some ob ∧ β n = some b ∧ ¬ lent n
  let β0 : Nat → Option Nat := fun id => β (ren id)
  have hG0 : ∀ b, G Fc β0 σ0 b ↔ G F β s.st b := by
    intro b
    constructor
    · rintro ((h | ⟨n, ob, hn, hb, _⟩) | ⟨id, ob, hid, hb⟩)
      · exact .inl h
      · exact .inr ⟨n, ob, hn, hb⟩
      · exact .inr ⟨ren id, ob, (k0 id ob hid).1, hb⟩
    · rintro (h | ⟨n, ob, hn, hb⟩)
      · exact .inl (.inl h)
      · by_cases hl : lent n
        · obtain ⟨id, ob', hid, rfl⟩ := hl
          exact .inr ⟨id, ob', hid, hb⟩
        · exact .inl (.inr ⟨n, ob, hn, hb, hl⟩)
  have hto : ∀ id ob, sget σ0 id = some ob → sget s.st (ren id) = some ob ∧ β (ren id) = β0 id := fun id ob h => ⟨(k0 id ob h).1, rfl⟩
  have inj0 : ∀ i j oi oj, sget σ0 i = some oi → sget σ0 j = some oj → ren i = ren j → i = j := fun i j oi oj hi hj e => by
    obtain ⟨_, _, o1, q1, _⟩ := k0 i oi hi
    obtain ⟨_, _, o2, q2, _⟩ := k0 j oj hj
    exact inj1 i j o1 o2 q1 q2 e
  have hmem0 : Mem Fc β0 σ0 w := by
    refine ⟨fun id ob h => ?_, fun i j oi oj b hi hj hbi hbj => ?_, fun i oi b hi hb => ?_, fun b hb => ?_⟩
    · exact ObOK.of (k0 id ob h).2.1 (fun b hb => (hG0 b).1 hb) hto rfl (hrel.ob (ren id) ob (k0 id ob h).1)
    · exact inj0 i j oi oj hi hj (hrel.inj _ _ oi oj b (k0 i oi hi).1 (k0 j oj hj).1 hbi hbj)
    · rintro (h | ⟨n, ob, hn, hbn, hl⟩)
      · exact hrel.notF (ren i) oi b (k0 i oi hi).1 hb h
      · have := hrel.inj (ren i) n oi ob b (k0 i oi hi).1 hn hb hbn
        exact hl ⟨i, oi, hi, this⟩
    · exact hrel.ltG b ((hG0 b).1 (.inl hb))
  have hlen : (args.toList.map D.ev ++ cs).length = xs.length := hargs.len.symm
  have hxv := hrel.evA hs hx
  generalize hxe : a.eval x = xv at hxv
  cases hxv with
  | @fn f cs vs hl' hcv =>
    have hvals : ∀ (i : Nat) (y : AV) (v : Value), xs[i]? = some y → (args.toList.map a.eval ++ vs)[i]? = some v → VA w (G Fc β0 σ0) β0 σ0 y v := by
      intro i y v hy hv
      by_cases hi : i < args.toList.length
      · rw [List.getElem?_append_left (by simpa using hi), List.getElem?_map, Option.map_eq_some_iff] at hv
        obtain ⟨op, hop, rfl⟩ := hv
        have hz : (args.toList.map D.ev ++ cs)[i]? = some (D.ev op) := by rw [List.getElem?_append_left (by simpa using hi), List.getElem?_map, hop]; rfl
        exact (hargs.get _ _ i y _ hy hz).of (fun b hb => (hG0 b).1 hb) hto (hrel.evA hs rfl)
      · have hi' : args.toList.length ≤ i := Nat.le_of_not_lt hi
        rw [List.getElem?_append_right (by simpa using hi')] at hv
        have hlt := lt_get hv
        rw [hl'] at hlt
        have hz : (args.toList.map D.ev ++ cs)[i]? = some (cs[i - (args.toList.map a.eval).length]'hlt) := by
          rw [List.getElem?_append_right (by simpa using hi')]
          rw [show (args.toList.map D.ev).length = (args.toList.map a.eval).length from by simp]
          exact List.getElem?_eq_getElem hlt
        exact (hargs.get _ _ i y _ hy hz).of (fun b hb => (hG0 b).1 hb) hto (hcv _ _ v (List.getElem?_eq_getElem hlt) hv)
    have := hret Fc β0 w (args.toList.map a.eval ++ vs) hmem0 (by rw [← hlen]; simp [hl']) hvals
    unfold Oper.wp
    rw [execCall ho hxe hf w, Oper.upon_enter]
    rw [show (args.toList.map a.eval ++ vs).toArray = args.map a.eval ++ vs.toArray from by apply Array.ext'; simp] at this
    refine Calls.mono this ?_
    rintro e w' ⟨v, β1, rfl, hva, hm1, hev, hkept⟩
    -- the caller's view behind the call
    let β2 : Nat → Option Nat := fun n => match σ1.find? (fun y => Nat.beq (ren y.1) n) with
      | some y => β1 y.1
      | none => β n
    have hβhit : ∀ id ob, sget σ1 id = some ob → β2 (ren id) = β1 id := by
      intro id ob h
      show (match σ1.find? (fun y => Nat.beq (ren y.1) (ren id)) with | some y => β1 y.1 | none => β (ren id)) = β1 id
      cases hfd : σ1.find? (fun y => Nat.beq (ren y.1) (ren id)) with
      | none =>
        have := List.find?_eq_none.1 hfd _ (sget_mem h)
        simp at this
      | some y =>
        have hy := List.find?_some hfd
        have hm := List.mem_of_find?_eq_some hfd
        have := keys_inj hkeys _ _ hm (sget_mem h) (Nat.eq_of_beq_eq_true hy)
        rw [this]
    have hβmiss : ∀ n, (∀ id ob, sget σ1 id = some ob → ren id ≠ n) → (∀ y, y ∈ σ1 → ren y.1 ≠ n) → β2 n = β n := by
      intro n _ h
      show (match σ1.find? (fun y => Nat.beq (ren y.1) n) with | some y => β1 y.1 | none => β n) = β n
      rw [List.find?_eq_none.2 (fun y hy he => h y hy (Nat.eq_of_beq_eq_true he))]
    have memSome : ∀ (σ : Sto), keysOK ren σ = true → ∀ y, y ∈ σ → ∃ ob, sget σ y.1 = some ob := by
      intro σ
      induction σ with
      | nil => intro _ y h; simp at h
      | cons z l ih =>
        intro hk y h
        obtain ⟨q1, q2, q3⟩ := keys_head hk
        rw [show z :: l = sput l z.1 z.2 from rfl, sget_sput]
        by_cases e : y.1 = z.1
        · rw [if_pos e]; exact Option.isSome_iff_exists.1 q1
        · rw [if_neg e]
          simp only [List.mem_cons] at h
          rcases h with rfl | h
          · exact absurd rfl e
          · exact ih q3 y h
    have missOf : ∀ n, (∀ id ob, sget σ1 id = some ob → ren id ≠ n) → ∀ y, y ∈ σ1 → ren y.1 ≠ n := fun n h y hy => by
      obtain ⟨ob, hob⟩ := memSome σ1 hkeys y hy
      exact h _ _ hob
    let σ2 : Sto := upAll s.st (upsOf ren σ1)
    have hσhit : ∀ id ob, sget σ1 id = some ob → sget σ2 (ren id) = some ob := fun id ob h => (upAll_ups hkeys s.st (ren id)).1 id ob (sget_mem h) rfl
    have hσmiss : ∀ n, (∀ id ob, sget σ1 id = some ob → ren id ≠ n) → sget σ2 n = sget s.st n := fun n h => (upAll_ups hkeys s.st n).2 (missOf n h)
    have hcase : ∀ n, (∃ id ob, sget σ1 id = some ob ∧ ren id = n) ∨ (∀ id ob, sget σ1 id = some ob → ren id ≠ n) := fun n => by
      by_cases h : ∃ id ob, sget σ1 id = some ob ∧ ren id = n
      · exact .inl h
      · exact .inr fun id ob h1 h2 => h ⟨id, ob, h1, h2⟩
    have hG1 : ∀ b, G F β2 σ2 b ↔ G Fc β1 σ1 b := by
      intro b
      constructor
      · rintro (h | ⟨n, ob, hn, hb⟩)
        · exact .inl (.inl h)
        · rcases hcase n with ⟨id, ob1, hid, rfl⟩ | hmiss
          · exact .inr ⟨id, ob1, hid, by rw [← hβhit id ob1 hid]; exact hb⟩
          · rw [hσmiss n hmiss] at hn
            rw [hβmiss n hmiss (missOf n hmiss)] at hb
            refine .inl (.inr ⟨n, ob, hn, hb, ?_⟩)
            rintro ⟨id, ob0, hid, rfl⟩
            obtain ⟨_, _, o1, q1, _⟩ := k0 id ob0 hid
            exact hmiss id o1 q1 rfl
      · rintro ((h | ⟨n, ob, hn, hb, hl⟩) | ⟨id, ob, hid, hb⟩)
        · exact .inl h
        · have hmiss : ∀ id ob, sget σ1 id = some ob → ren id ≠ n := by
            rintro id ob1 hid rfl
            rcases (k1 id ob1 hid).2 with ⟨ob0, h00⟩ | hnone
            · exact hl ⟨id, ob0, h00, rfl⟩
            · rw [hn] at hnone; cases hnone
          exact .inr ⟨n, ob, by rw [hσmiss n hmiss]; exact hn, by rw [hβmiss n hmiss (missOf n hmiss)]; exact hb⟩
        · exact .inr ⟨ren id, ob, hσhit id ob hid, by rw [hβhit id ob hid]; exact hb⟩
    have hkeepG : ∀ b, b < w.heap.size → ¬ G F β s.st b → ¬ G F β2 σ2 b ∧ w'.heap[b]? = w.heap[b]? := by
      intro b hb hn
      have hn0 : ¬ Owned β0 σ0 b := fun h => hn ((hG0 b).1 (.inr h))
      refine ⟨fun h => ?_, hev.keep b hb hn0⟩
      rcases (hG1 b).1 h with h | h
      · exact hn ((hG0 b).1 (.inl h))
      · rcases hev.own b h with h | h
        · omega
        · exact hn0 h
    have hmissHeap : ∀ n ob b, sget s.st n = some ob → β n = some b → (∀ id ob, sget σ1 id = some ob → ren id ≠ n) → w'.heap[b]? = w.heap[b]? := by
      intro n ob b hn hb hmiss
      refine hev.keep b (hrel.ltG b (.inr ⟨n, ob, hn, hb⟩)) ?_
      rintro ⟨id, ob0, hid, hb0⟩
      have := hrel.inj n (ren id) ob ob0 b hn (k0 id ob0 hid).1 hb hb0
      obtain ⟨_, _, o1, q1, _⟩ := k0 id ob0 hid
      exact hmiss id o1 q1 this.symm
    have hturn : Turns w w' β β2 s.st σ2 := by
      intro n ob hn
      rcases hcase n with ⟨id, ob1, hid, rfl⟩ | hmiss
      · refine ⟨ob1, hσhit id ob1 hid, ?_⟩
        rcases (k1 id ob1 hid).2 with ⟨ob0, h00⟩ | hnone
        · obtain ⟨q1, _, o1, q2, q3⟩ := k0 id ob0 h00
          rw [hid] at q2; cases q2
          rw [hn] at q1; cases q1
          refine q3.imp (fun h => h) ?_
          rintro ⟨e1, e2, e3, e4, i, hi, hk⟩
          refine ⟨e1, e2, e3, e4, ?_, fun b c _ hc => hev.shp b c _ hc⟩
          rw [hβhit id ob1 hid]
          have hil : i < (args.toList.map a.eval ++ vs).length := by have := lt_get hi; rw [← hlen] at this; simp at this ⊢; omega
          have hv0 := hvals i _ _ hi (List.getElem?_eq_getElem hil)
          have hv1 := hkept i _ _ hk (List.getElem?_eq_getElem hil)
          obtain ⟨b0, h1, h2⟩ := hv0.ptrB h00 rfl
          obtain ⟨b1, g1, g2⟩ := hv1.ptrB hid e1
          rw [h2] at g2
          cases g2
          exact g1.trans h1.symm
        · rw [hn] at hnone; cases hnone
      · refine ⟨ob, by rw [hσmiss n hmiss]; exact hn, .inr ⟨rfl, rfl, rfl, rfl, hβmiss n hmiss (missOf n hmiss), fun b c hb hc => ⟨c, ?_, rfl⟩⟩⟩
        rw [hmissHeap n ob b hn hb hmiss]; exact hc
    have hmono : ∀ {y : AV} {v : Value}, VA w (G F β s.st) β s.st y v → VA w' (G F β2 σ2) β2 σ2 y v := fun hv => VA.mono hev.size hkeepG hturn hv
    have hrel2 : Rel F β2 ⟨s.n, s.fr, σ2⟩ a w' := by
      refine ⟨hrel.defers, hrel.size, fun i => hmono (hrel.fr i), fun n ob hn => ?_, fun i j oi oj b hi hj hbi hbj => ?_, fun i oi b hi hb => ?_, fun b hb => Nat.lt_of_lt_of_le (hrel.ltF b hb) hev.size⟩
      · change sget σ2 n = some ob at hn
        rcases hcase n with ⟨id, ob1, hid, rfl⟩ | hmiss
        · rw [hσhit id ob1 hid] at hn; cases hn
          exact ObOK.to (k1 id _ hid).1 (fun b hb => (hG1 b).1 hb) (fun id ob h => ⟨hσhit id ob h, hβhit id ob h⟩) (hβhit id _ hid) (hm1.ob id _ hid)
        · rw [hσmiss n hmiss] at hn
          rcases hrel.ob n ob hn with ⟨q1, q2⟩ | ⟨b, c, q1, q2, q3, q4, q5⟩
          · exact .inl ⟨(hβmiss n hmiss (missOf n hmiss)).trans q1, q2⟩
          · refine .inr ⟨b, c, (hβmiss n hmiss (missOf n hmiss)).trans q1, by rw [hmissHeap n ob b hn q1 hmiss]; exact q2, q3, q4, fun i x j y hx hy => ?_⟩
            obtain ⟨g1, u, hu, hva⟩ := q5 i x j y hx hy
            exact ⟨g1, u, hu, hmono hva⟩
      · change sget σ2 i = some oi at hi
        change sget σ2 j = some oj at hj
        rcases hcase i with ⟨id, ob1, hid, rfl⟩ | hmi <;> rcases hcase j with ⟨jd, ob2, hjd, rfl⟩ | hmj
        · rw [hβhit id ob1 hid] at hbi
          rw [hβhit jd ob2 hjd] at hbj
          rw [hm1.inj id jd ob1 ob2 b hid hjd hbi hbj]
        · rw [hβhit id ob1 hid] at hbi
          rw [hσmiss j hmj] at hj
          rw [hβmiss j hmj (missOf j hmj)] at hbj
          refine absurd (show Fc b from .inr ⟨j, oj, hj, hbj, ?_⟩) (hm1.notF id ob1 b hid hbi)
          rintro ⟨id', ob0, hid', rfl⟩
          obtain ⟨_, _, o1, q1, _⟩ := k0 id' ob0 hid'
          exact hmj id' o1 q1 rfl
        · rw [hβhit jd ob2 hjd] at hbj
          rw [hσmiss i hmi] at hi
          rw [hβmiss i hmi (missOf i hmi)] at hbi
          refine absurd (show Fc b from .inr ⟨i, oi, hi, hbi, ?_⟩) (hm1.notF jd ob2 b hjd hbj)
          rintro ⟨id', ob0, hid', rfl⟩
          obtain ⟨_, _, o1, q1, _⟩ := k0 id' ob0 hid'
          exact hmi id' o1 q1 rfl
        · rw [hσmiss i hmi] at hi
          rw [hσmiss j hmj] at hj
          rw [hβmiss i hmi (missOf i hmi)] at hbi
          rw [hβmiss j hmj (missOf j hmj)] at hbj
          exact hrel.inj i j oi oj b hi hj hbi hbj
      · change sget σ2 i = some oi at hi
        rcases hcase i with ⟨id, ob1, hid, rfl⟩ | hmi
        · rw [hβhit id ob1 hid] at hb
          exact fun hF => hm1.notF id ob1 b hid hb (.inl hF)
        · rw [hσmiss i hmi] at hi
          rw [hβmiss i hmi (missOf i hmi)] at hb
          exact hrel.notF i oi b hi hb
    have hva2 : VA w' (G F β2 σ2) β2 σ2 r' v := hr'.to (fun b hb => (hG1 b).1 hb) (fun id ob h => ⟨hσhit id ob h, hβhit id ob h⟩) hva
    refine hnext β2 _ _ (hrel2.put (by rw [show (St.mk s.n s.fr σ2).n = s.n from rfl, hs.n]; exact hd) hva2) ⟨hev.os, hev.tape, hev.output, hev.size, fun b hb hn => ?_, fun b hb => ?_, hev.shp⟩
    · refine hev.keep b hb ?_
      rintro ⟨id, ob0, hid, hb0⟩
      exact hn ⟨ren id, ob0, (k0 id ob0 hid).1, hb0⟩
    · obtain ⟨n, ob, hn, hbn⟩ := hb
      change sget σ2 n = some ob at hn
      rcases hcase n with ⟨id, ob1, hid, rfl⟩ | hmiss
      · rw [hβhit id ob1 hid] at hbn
        rcases hev.own b ⟨id, ob1, hid, hbn⟩ with h | ⟨id0, ob0, hid0, hb0⟩
        · exact .inl h
        · exact .inr ⟨ren id0, ob0, (k0 id0 ob0 hid0).1, hb0⟩
      · rw [hσmiss n hmiss] at hn
        rw [hβmiss n hmiss (missOf n hmiss)] at hbn
        exact .inr ⟨n, ob, hn, hbn⟩

end Go.Tv

end
section
namespace Go.Tv
variable {P : Program}

theorem okA_1 {σ : Sto} {x : AV} (h : okA1 σ x = true) : okA σ x = true := by
  cases x <;> first | exact h | (simp [okA1] at h)

theorem VA.sub1 {w : World} {H H' : Nat → Prop} {β : Nat → Option Nat} {st st1 : Sto} {x : AV} {v : Value} (hH : ∀ b, H' b → H b) (hs : ∀ id ob, sget st1 id = some ob → sget st id = some ob)
    (h1 : okA1 st1 x = true) (h : VA w H β st x v) : VA w H' β st1 x v := by
  have hsub : ∀ id ob, (sget st1 id).isSome = true → sget st id = some ob → sget st1 id = some ob := fun id ob h2 h3 => by
    obtain ⟨o, ho⟩ := Option.isSome_iff_exists.1 h2
    have := hs id o ho
    rw [h3] at this; cases this; exact ho
  cases h with
  | t h => exact .t (h.same hH)
  | own a b c d e f g => exact .own (hsub _ _ h1 a) b c d e f g
  | ownNil a b c d => exact .ownNil (hsub _ _ h1 a) b c d
  | ownZ a b c d e => exact .ownZ (hsub _ _ h1 a) b c d e
  | ownE a b c d => exact .ownE (hsub _ _ h1 a) b c d
  | stale a b c => exact .stale (hsub _ _ h1 a) b c
  | ptr a b c d e => exact .ptr (hsub _ _ h1 a) b c d e
  | stalep a b c => exact .stalep (hsub _ _ h1 a) b c
  | agg _ _ _ => simp [okA1] at h1
  | tup _ _ => simp [okA1] at h1
  | fn _ _ => simp [okA1] at h1
  | junk v => exact .junk _

theorem VA.sub {w : World} {H H' : Nat → Prop} {β : Nat → Option Nat} {st st1 : Sto} {x : AV} {v : Value} (hH : ∀ b, H' b → H b) (hs : ∀ id ob, sget st1 id = some ob → sget st id = some ob)
    (h1 : okA st1 x = true) (h : VA w H β st x v) : VA w H' β st1 x v := by
  cases x with
  | agg cs =>
    cases h with
    | agg hl h2 hv =>
      simp only [okA, Bool.and_eq_true] at h1
      exact .agg hl h2 (fun j c v hc hv' => VA.sub1 hH hs (List.all_eq_true.1 h1.1 c (List.mem_of_getElem? hc)) (hv j c v hc hv'))
  | fn f cs =>
    cases h with
    | fn hl hv => exact .fn hl (fun j c v hc hv' => VA.sub1 hH hs (List.all_eq_true.1 (show cs.all (okA1 st1) = true from h1) c (List.mem_of_getElem? hc)) (hv j c v hc hv'))
  | tup cs => simp [okA, okA1] at h1
  | t x => exact VA.sub1 hH hs h1 h
  | own id g off len => exact VA.sub1 hH hs h1 h
  | ptr id g i j => exact VA.sub1 hH hs h1 h
  | junk => exact .junk _

theorem okA_cell {σ : Sto} {x : AV} (h : okA σ x = true) {j : Nat} {y : AV} (hy : x.cells[j]? = some y) : okA σ y = true := by
  have one : ∀ (z : AV), z.cells = [z] → okA σ z = true → ∀ (j : Nat) (y : AV), z.cells[j]? = some y → okA σ y = true := by
    intro z hz hr j y hy
    rw [hz] at hy
    match j with
    | 0 => simp at hy; subst hy; exact hr
    | j + 1 => simp at hy
  cases x with
  | t x =>
    simp only [AV.cells, List.getElem?_map, Option.map_eq_some_iff] at hy
    obtain ⟨y', _, rfl⟩ := hy
    rfl
  | agg cs =>
    simp only [okA, Bool.and_eq_true] at h
    exact okA_1 (List.all_eq_true.1 h.1 y (List.mem_of_getElem? hy))
  | own id g off len => exact one _ rfl h j y hy
  | ptr id g i k => exact one _ rfl h j y hy
  | tup vs => exact one _ rfl h j y hy
  | fn f cs => exact one _ rfl h j y hy
  | junk => exact one _ rfl h j y hy

/-- A part of the objects is put aside: into the memory that is not touched. -/
theorem Rel.split {F : Nat → Prop} {β : Nat → Option Nat} {n : Nat} {fr fr1 : Fra} {st st1 : Sto} {a : Act} {w : World} (h : Rel F β ⟨n, fr, st⟩ a w) (hf : KeF st1 fr fr1) (hs : KeS st st1 st1) :
    Rel (fun b => F b ∨ (Owned β st b ∧ ¬ Owned β st1 b)) β ⟨n, fr1, st1⟩ a w := by
  have hsub : ∀ id ob, sget st1 id = some ob → sget st id = some ob := fun id ob ho => (hs.get _ id ob ho).1
  have hG : ∀ b, G (fun b => F b ∨ (Owned β st b ∧ ¬ Owned β st1 b)) β st1 b → G F β st b := by
    rintro b ((h | h) | ⟨id, ob, h1, h2⟩)
    · exact .inl h
    · exact .inr h.1
    · exact .inr ⟨id, ob, hsub id ob h1, h2⟩
  refine ⟨h.defers, h.size, fun i => ?_, fun id ob ho => ?_, fun i j oi oj b hi hj => h.inj i j oi oj b (hsub i oi hi) (hsub j oj hj), fun i oi b hi hb => ?_, fun b hb => ?_⟩
  · rcases hf.get _ i with h1 | ⟨h1, h2⟩
    · show VA w _ _ _ (fget fr1 i) _
      rw [h1]; exact .junk _
    · show VA w _ _ _ (fget fr1 i) _
      refine VA.sub hG hsub h2 ?_
      rw [← h1]; exact h.fr i
  · obtain ⟨h1, h2⟩ := hs.get _ id ob ho
    rcases h.ob id ob h1 with h0 | ⟨b, c, g1, g2, g3, g4, g5⟩
    · exact .inl h0
    · refine .inr ⟨b, c, g1, g2, g3, g4, fun i x j y hx hy => ?_⟩
      obtain ⟨q1, u, hu, hva⟩ := g5 i x j y hx hy
      exact ⟨q1, u, hu, VA.sub hG hsub (okA_cell (h2 x (List.mem_of_getElem? hx)) hy) hva⟩
  · rintro (h1 | ⟨_, h1⟩)
    · exact h.notF i oi b (hsub i oi hi) hb h1
    · exact h1 ⟨i, oi, hi, hb⟩
  · rcases hb with h1 | ⟨h1, _⟩
    · exact h.ltF b h1
    · exact (h.owned_cells h1).1

structure LoopO (F M0 : Nat → Prop) (s0 : St) (β0 : Nat → Option Nat) (w0 : World) (a : Act) (L D : Nat) (rec : LoopState → Option Code → Loop) (I : Nat → St → Prop) (Ix : Code → St → Prop)
    (g : Option Code × Nat × St) (M C : Nat → Prop) (W : World) (β : Nat → Option Nat) : Prop where
  rel : Rel (fun b => F b ∨ M b ∨ b = L ∨ b = D) β g.2.2 a W
  inv : match g.1 with | none => I g.2.1 g.2.2 | some c => Ix c g.2.2
  rc : W.heap[L]? = some (.loop (rec (if g.1.isNone then .ready else .done) g.1))
  df : W.heap[D]? = some (.deferred (some []))
  ciff : ∀ b, C b ↔ (F b ∨ Owned β g.2.2.st b ∨ b = L ∨ b = D)
  os : W.os = w0.os
  tape : TapeLe w0 W
  output : W.output = w0.output
  size : w0.heap.size ≤ W.heap.size
  keep : ∀ b, b < w0.heap.size → (F b ∨ ¬ Owned β0 s0.st b) → W.heap[b]? = w0.heap[b]?
  own : ∀ b, Owned β g.2.2.st b → w0.heap.size ≤ b ∨ Owned β0 s0.st b
  mnew : ∀ b, M b → (w0.heap.size ≤ b ∨ M0 b) ∧ b ≠ L ∧ b ≠ D

end Go.Tv

end
section
namespace Go.Tv
variable {P : Program} {o : Oper} {D : St}

/-- A slice literal as data: nothing lies behind its last element. -/
theorem eff_buildSliceT {t e : TypeId} {len : Nat} {ag : Bool} {parts : Array (Nat × Operand)} {z : Tr} {xs : List Tr} (hd : dstOK D.n o.dst = true) (ho : o.op = .buildSlice t len parts)
    (ht : elemOf P t = some (e, 1, ag)) (hz : zeroOf P e = some z) (hzk : z.cells.length = 1) (hlim : len * 1 ≤ 16777216)
    (hf : fillA (fun i => some (i * 1, 1)) (zeroCellsA z (len * 1)) (parts.toList.map fun p => (p.1, D.ev p.2)) = some (xs.map .t))
    (h1 : xs.all Tr.one = true) (hel : xs.length = len) (h0 : len * 1 ≠ 0) : Eff P o D ⟨.t (.sl xs true), []⟩ := by
  intro s hs hfresh F β a w hR next Q hnext
  obtain ⟨hu, hte⟩ := elemOf_spec ht
  obtain ⟨zv, hzr, hzV, hzn, hzs⟩ := zeroOf_run hz w (G F β s.st)
  have hcr := zero_cr (β := β) (σ := s.st) hzV hzn (by rw [hzk]; decide) (len * 1)
  obtain ⟨c', hc', hcr'⟩ := fill_run _ _ _ _ (xs.map .t) hcr (by simp) (map_parts hR hs parts) hf
  obtain ⟨W, hW⟩ : ∃ W, W = w.alloc (.cells c' e) := ⟨_, rfl⟩
  have hbel : BelowD w.heap.size w W := by
    rw [hW]
    exact ⟨⟨rfl, rfl, rfl, by simp, fun b hb => RowKit.Below.heap_alloc w _ b hb⟩, Nat.le_refl _⟩
  obtain ⟨hrel, hev, hmono⟩ := hR.below hbel
  have hrun : (execOp a.eval o).run P w = .ok (.value (.slice (some ⟨w.heap.size, 0, none⟩) len len)) W := by
    have hc'' : Instr.fill (fun i => some (i * 1, 1)) ((Array.range (len * 1)).map fun i => zv.cells[i % zv.cells.size]!) (Array.map (fun (x : Nat × Operand) => (x.1, a.eval x.2)) parts).toList = some c' := by
      rw [Array.toList_map]; exact hc'
    rw [hW]
    simp only [execOp, ho, Instr.buildSlice, Sem.run_bind, run_underlying' w hu, Result.andThen_ok, run_sizeOf' w hte, show ¬ (len * 1 > 2 ^ 24) from by omega, if_false, h0, hzr, Sem.run_pure, hc'',
      newRow, run_newObj, World.alloc_eq]
  have hheap : W.heap[w.heap.size]? = some (.cells c' e) := by rw [hW]; exact World.alloc_heap_new w _
  have one : ∀ (i : Nat) x, xs[i]? = some x → x.one = true := fun i x hx => List.all_eq_true.1 h1 x (List.mem_of_getElem? hx)
  have ocells : ∀ x : Tr, x.one = true → x.cells = [x] ∧ x.noTup = true := fun x hx => by cases x <;> first | exact ⟨rfl, rfl⟩ | (simp [Tr.one] at hx)
  have hG : ¬ G F β s.st w.heap.size := by
    rintro (h | h)
    · exact absurd (hR.ltF _ h) (Nat.lt_irrefl _)
    · exact absurd (hR.owned_cells h).1 (Nat.lt_irrefl _)
  have hcell : ∀ (i : Nat) x, xs[i]? = some x → ∃ v, c'[i]? = some v ∧ V w (G F β s.st) x v := fun i x hx => by
    obtain ⟨v, hv, hva⟩ := (hcr'.2 i (.t x) (by rw [List.getElem?_map, hx]; rfl)).2
    cases hva with
    | t h => exact ⟨v, hv, h⟩
  have hV : V W (G F β s.st) (.sl xs true) (.slice (some ⟨w.heap.size, 0, none⟩) len len) := by
    rw [← hel]
    refine V.sl xs true 1 w.heap.size 0 xs.length (fun i _ => c'.getD i undef) (lt_of_heap hheap) hG (fun _ => rfl) (Nat.le_refl _) ?_ ?_ ?_ ?_
    · intro i x hx
      have := ocells x (one i x hx)
      exact ⟨this.2, by rw [this.1]; rfl⟩
    · intro i x j c hx hc
      rw [(ocells x (one i x hx)).1] at hc
      match j with
      | 0 => simp at hc; subst hc; exact one i _ hx
      | j + 1 => simp at hc
    · intro i x j c hx hc
      rw [(ocells x (one i x hx)).1] at hc
      match j with
      | 0 =>
        obtain ⟨v, hv, _⟩ := hcell i x hx
        unfold World.cell?
        rw [hheap]
        simp only [Nat.zero_add, Nat.mul_one, Nat.add_zero]
        rw [show (c'.getD i undef) = v from by rw [Array.getD_eq_getD_getElem?, hv]; rfl]
        exact hv
      | j + 1 => simp at hc
    · intro i x j c hx hc
      rw [(ocells x (one i x hx)).1] at hc
      match j with
      | 0 =>
        simp at hc; subst hc
        obtain ⟨v, hv, hvv⟩ := hcell i _ hx
        rw [show (c'.getD i undef) = v from by rw [Array.getD_eq_getD_getElem?, hv]; rfl]
        exact V.mono hbel.size (fun b hb hn => ⟨hn, hbel.block b hb⟩) hvv
      | j + 1 => simp at hc
  unfold Oper.wp
  rw [hrun]
  exact hnext β _ _ (hrel.put (by rw [hs.n]; exact hd) (.t hV)) hev
end Go.Tv

end
section
namespace Go.Tv
variable {P : Program}
section
variable {γ : Type} {X : JP γ} {ro : Option Nat} {all l : List Oper} {o : Oper} {n : Nat} {fr : Fra} {st : Sto} {g : γ} {K : St → γ → Prop}
theorem RJ.new2 {v : AV} {d : Tmp} {i1 i2 : Nat} {o1 o2 : Ob} (hg : o.guard = none) (hd : o.dst = some d) (he : Eff P o ⟨n, fr, st⟩ ⟨v, [(i1, o1), (i2, o2)]⟩) (h : RJ P ro X all l ⟨n, (d, v) :: fr, (i2, some o2) :: (i1, some o1) :: st⟩ g K) (hnd : noDefer o = true := by rfl) : RJ P ro X all (o :: l) ⟨n, fr, st⟩ g K :=
  ⟨_, Weak.refl _, rfl, .inl ⟨.inl hg, _, effJ_of hnd he, fun e g' ⟨h1, h2⟩ => by subst h1 h2; rw [hd]; exact h⟩⟩
end
end Go.Tv

end
section
namespace Go.Tv
set_option linter.unusedVariables false
variable {P : Program} {o : Oper} {D : St}

/-- As RetK, where the tables are ts. -/
def RetKT (P : Program) (f : FuncId) (ts : List (Nat × Tr)) (σ0 : Sto) (xs : List AV) (σ1 : Sto) (r : AV) (ks : List (Nat × AV)) : Prop :=
  ∀ (F : Nat → Prop) (β : Nat → Option Nat) (w : World) (vals : List Value), Mem F β σ0 w → TabOK w (G F β σ0) ts → vals.length = xs.length →
    (∀ (i : Nat) (x : AV) (v : Value), xs[i]? = some x → vals[i]? = some v → VA w (G F β σ0) β σ0 x v) →
    Calls P f vals.toArray w (fun e w' => ∃ v β', e = .returned v ∧ VA w' (G F β' σ1) β' σ1 r v ∧ Mem F β' σ1 w' ∧ Evo σ0 β w σ1 β' w' ∧
      ∀ (i : Nat) (x : AV) (v : Value), (i, x) ∈ ks → vals[i]? = some v → VA w' (G F β' σ1) β' σ1 x v)

theorem initFrA_lt : ∀ (l : List AV) (i : Nat) {x : Nat × AV}, x ∈ initFrA i l → x.1 < i + l.length
  | [], _, _, h => by simp [initFrA] at h
  | y :: l, i, x, h => by
    rcases List.mem_cons.1 h with h | h
    · rw [h]; simp
    · have := initFrA_lt l (i + 1) h
      simp only [List.length_cons]; omega

/-- x is the pointer to object id, or a function value that captures it. -/
def PtrIn (id g : Nat) (x : AV) : Prop := x = .ptr id g 0 0 ∨ ∃ (f : FuncId) (cs : List AV) (j : Nat), x = .fn f cs ∧ cs[j]? = some (.ptr id g 0 0)

theorem PtrIn.two {id g : Nat} {x : AV} (hp : PtrIn id g x) {w w' : World} {H H' : Nat → Prop} {β β' : Nat → Option Nat} {σ σ' : Sto} {ob ob' : Ob} {v : Value} (h0 : VA w H β σ x v) (hs : sget σ id = some ob) (hg : ob.gen = g)
    (h1 : VA w' H' β' σ' x v) (hs' : sget σ' id = some ob') (hg' : ob'.gen = g) : ∃ b, β id = some b ∧ β' id = some b := by
  have one : ∀ {v : Value}, VA w H β σ (.ptr id g 0 0) v → VA w' H' β' σ' (.ptr id g 0 0) v → ∃ b, β id = some b ∧ β' id = some b := by
    intro v h0 h1
    obtain ⟨b0, k1, k2⟩ := h0.ptrB hs hg
    obtain ⟨b1, g1, g2⟩ := h1.ptrB hs' hg'
    rw [k2] at g2
    cases g2
    exact ⟨b0, k1, g1⟩
  rcases hp with rfl | ⟨f, cs, j, rfl, hj⟩
  · exact one h0 h1
  · generalize hv : v = u at h1
    cases h0 with
    | @fn _ _ vs hl hc =>
      cases h1 with
      | @fn _ _ vs1 hl1 hc1 =>
        have e : vs = vs1 := by
          have : vs.toArray = vs1.toArray := by injection hv
          simpa using this
        subst e
        have hlt : j < vs.length := by rw [hl]; exact lt_get hj
        exact one (hc j _ _ hj (List.getElem?_eq_getElem hlt)) (hc1 j _ _ hj (List.getElem?_eq_getElem hlt))

def StaysF (xs : List AV) (ks : List (Nat × AV)) (id : Nat) (ob ob1 : Ob) : Prop :=
  ob1.gen = ob.gen ∧ ob1.k = ob.k ∧ ob1.ty = ob.ty ∧ ob1.els.length = ob.els.length ∧ ∃ i x, xs[i]? = some x ∧ (i, x) ∈ ks ∧ PtrIn id ob.gen x

theorem retKT_of_awj {ts : List (Nat × Tr)} {f : FuncId} {fn : Func} {c : Code} {σ0 σ1 : Sto} {xs : List AV} {r : AV} {ks : List (Nat × AV)} {kp : Nat → Bool} (hf : P.funcs[f]? = some fn) (hb : fn.body = some c)
    (hn : xs.length ≤ fn.ntmps) (hkp : ∀ k, k ∈ ks → kp k.1 = true)
    (h : ∀ F0 w0, AWJ P none kp (JK F0 w0) c ⟨fn.ntmps, initFrA 0 xs ++ tabFr fn.ntmps ts, σ0⟩ () (fun e s _ => (e = .normal ∨ e = .ret) ∧ ∃ rs rs', RVarsA P s fn.results.toList rs ∧ rs'.length = rs.length ∧
      Weak ⟨(rs ++ ks.map fun k => fget s.fr k.1).length, initFrA 0 (rs ++ ks.map fun k => fget s.fr k.1), s.st⟩ ⟨(rs ++ ks.map fun k => fget s.fr k.1).length, initFrA 0 (rs' ++ ks.map Prod.snd), σ1⟩ ∧ packA rs' = r))
    (hks : (ks.all fun k => Nat.blt k.1 fn.ntmps) = true := by rfl) :
    RetKT P f ts σ0 xs σ1 r ks := by
  intro F β w vals hm hT hl hV
  refine (callsIn_wide (n := 0)).1 (callsIn_of_wp (F := Fence.wide) hf hb trivial ?_)
  have h0 : Rel F β ⟨fn.ntmps, initFrA 0 xs ++ tabFr fn.ntmps ts, σ0⟩ { tmps := vals.toArray ++ Array.replicate (fn.ntmps - vals.toArray.size) undef, defers := [] } w := by
    refine ⟨rfl, by simp; omega, fun i => ?_, hm.ob, hm.inj, hm.notF, hm.ltF⟩
    show VA w _ _ _ (fget (initFrA 0 xs ++ tabFr fn.ntmps ts) i) _
    by_cases hi : i < fn.ntmps
    · rw [fget_append_left _ _ _ (fun x hx e => by obtain ⟨g, t, _, rfl⟩ := tabFr_mem ts hx; simp only at e; omega)]
      rw [initFrA_get, if_pos (Nat.zero_le _), Nat.sub_zero]
      cases hx : xs[i]? with
      | none => exact .junk _
      | some x =>
        have hi : i < vals.length := by rw [hl]; exact lt_get hx
        have hg : (vals.toArray ++ Array.replicate (fn.ntmps - vals.toArray.size) undef).getD i undef = vals[i] := by
          simp [hi, Array.getElem?_append]
        rw [vAt_lt (by simp; omega), hg]
        exact hV i x vals[i] hx (List.getElem?_eq_getElem hi)
    · rw [fget_append _ _ _ (fun x hx e => by have := initFrA_lt xs 0 hx; omega)]
      rcases tabFr_get (n := fn.ntmps) ts i with h | ⟨g, t, h1, rfl, h3⟩
      · rw [h]; exact .junk _
      · rw [h3, vAt_glob (by simp; omega)]
        exact .t (hT g t h1)
  have hJ0 : (JK F w).J () (Owned β σ0) F w := ⟨rfl, fun b hb => ⟨hm.ltF b hb, rfl, fun ⟨id, ob, hs, hbe⟩ => hm.notF id ob b hs hbe hb⟩⟩
  refine wpIn_mono (h F w 0 F _ _ w h0 hJ0) ?_
  rintro e a' w' ⟨s', β', g', F', a'', ⟨he, rs, rs', hrs, hlen, hweak, hpk⟩, hr', rfl, ⟨hFF, hFk⟩, hev, hke⟩
  obtain rfl : F' = F := hFF
  obtain ⟨vs, hvs, hvl, hvV⟩ := RVarsA.run hr' _ _ hrs
  have hkv : ∀ (i : Nat) (x : AV) (v : Value), (ks.map fun k => fget s'.fr k.1)[i]? = some x → (ks.map fun k => vals.getD k.1 undef)[i]? = some v → VA w' (G F' β' s'.st) β' s'.st x v := by
    intro i x v hx hv
    rw [List.getElem?_map, Option.map_eq_some_iff] at hx hv
    obtain ⟨k, hk, rfl⟩ := hx
    obtain ⟨k', hk', rfl⟩ := hv
    rw [hk] at hk'; cases hk'
    have h1 := hr'.fr k.1
    have h2 := hke k.1 (hkp k (List.mem_of_getElem? hk))
    have h3 : a''.tmps.getD k.1 undef = vals.getD k.1 undef := by
      rw [Array.getD_eq_getD_getElem?, h2]
      by_cases hlt : k.1 < vals.length
      · simp [hlt, Array.getElem?_append]
      · have : vals.getD k.1 undef = undef := by rw [List.getD_eq_getElem?_getD, List.getElem?_eq_none (by omega)]; rfl
        rw [this]
        by_cases hlt2 : k.1 < (vals.toArray ++ Array.replicate (fn.ntmps - vals.toArray.size) undef).size
        · rw [Array.getElem?_eq_getElem hlt2, Array.getElem_append_right (by simp; omega)]; simp
        · rw [Array.getElem?_eq_none (Nat.le_of_not_lt hlt2)]; rfl
    have hlt4 : k.1 < a''.tmps.size := by
      have h5 := Nat.le_of_ble_eq_true (List.all_eq_true.1 hks k (List.mem_of_getElem? hk))
      have h6 : k.1 < (vals.toArray ++ Array.replicate (fn.ntmps - vals.toArray.size) undef).size := by simp; omega
      rcases Nat.lt_or_ge k.1 a''.tmps.size with h7 | h7
      · exact h7
      · rw [Array.getElem?_eq_none h7, Array.getElem?_eq_getElem h6] at h2; cases h2
    have h4 : vAt a'' k.1 = a''.tmps.getD k.1 undef := vAt_lt hlt4
    rw [← h3, ← h4]; exact h1
  let all := vs ++ ks.map fun k => vals.getD k.1 undef
  have hal : all.length = (rs ++ ks.map fun k => fget s'.fr k.1).length := by simp [all, hvl]
  have hrel1 : Rel F' β' ⟨(rs ++ ks.map fun k => fget s'.fr k.1).length, initFrA 0 (rs ++ ks.map fun k => fget s'.fr k.1), s'.st⟩ { tmps := all.toArray, defers := [] } w' := by
    refine ⟨rfl, by simp [hal], fun i => ?_, hr'.ob, hr'.inj, hr'.notF, hr'.ltF⟩
    show VA w' _ _ _ (fget (initFrA 0 (rs ++ ks.map fun k => fget s'.fr k.1)) i) _
    rw [initFrA_get, if_pos (Nat.zero_le _), Nat.sub_zero]
    cases hx : (rs ++ ks.map fun k => fget s'.fr k.1)[i]? with
    | none => exact .junk _
    | some x =>
      have hi : i < all.length := by rw [hal]; exact lt_get hx
      rw [vAt_lt (by simpa using hi), show (all.toArray).getD i undef = all[i] from by simp [hi]]
      by_cases hlt : i < rs.length
      · rw [List.getElem?_append_left hlt] at hx
        have : all[i] = vs[i]'(by omega) := by simp [all, hvl, hlt]
        rw [this]
        exact hvV i x vs[i] hx (List.getElem?_eq_getElem (by omega))
      · rw [List.getElem?_append_right (by omega)] at hx
        have hge : vs.length ≤ i := by omega
        refine hkv (i - rs.length) x _ hx ?_
        have : all[i]? = some all[i] := List.getElem?_eq_getElem hi
        rw [← this]
        show _ = (vs ++ ks.map fun k => vals.getD k.1 undef)[i]?
        rw [List.getElem?_append_right hge, hvl]
  obtain ⟨β2, hrel2, hown⟩ := hweak F' β' _ w' hrel1
  have hget : ∀ (i : Nat) (x : AV) (v : Value), (rs' ++ ks.map Prod.snd)[i]? = some x → all[i]? = some v → VA w' (G F' β2 σ1) β2 σ1 x v := by
    intro i x v hx hv
    have := hrel2.fr i
    rw [show fget (St.mk (rs ++ ks.map fun k => fget s'.fr k.1).length (initFrA 0 (rs' ++ ks.map Prod.snd)) σ1).fr i = fget (initFrA 0 (rs' ++ ks.map Prod.snd)) i from rfl, initFrA_get, if_pos (Nat.zero_le _), Nat.sub_zero, hx] at this
    rw [vAt_lt (by simpa using lt_get hv), show (all.toArray).getD i undef = v from by
      have hi := lt_get hv
      rw [List.getElem?_eq_getElem hi] at hv
      cases hv
      simp [hi]] at this
    exact this
  have hres : ∃ v, (results fn (shift ((JK F' w).ds g') a'').tmps).run P w' = .ok v w' ∧ VA w' (G F' β2 σ1) β2 σ1 r v := by
    have hmm : (fn.results.mapM (resOf (shift ((JK F' w).ds g') a'').tmps)).run P w' = .ok vs.toArray w' := by
      have hvs2 : (fn.results.toList.mapM (resOf (shift ((JK F' w).ds g') a'').tmps)).run P w' = .ok vs w' := hvs
      rw [Array.mapM_eq_mapM_toList, Sem.run_map, hvs2]; rfl
    refine ⟨if h : vs.toArray.size = 1 then vs.toArray[0] else .tuple vs.toArray, ?_, ?_⟩
    · rw [results_eq, Sem.run_bind, hmm]; rfl
    · rw [← hpk]
      have hl2 : vs.length = rs'.length := by omega
      have hget' : ∀ (i : Nat) (x : AV) (v : Value), rs'[i]? = some x → vs[i]? = some v → VA w' (G F' β2 σ1) β2 σ1 x v := fun i x v hx hv =>
        hget i x v (by rw [List.getElem?_append_left (lt_get hx)]; exact hx) (by show (vs ++ _)[i]? = _; rw [List.getElem?_append_left (lt_get hv)]; exact hv)
      match rs', vs, hl2, hget' with
      | [x], [v], _, hget => exact hget 0 x v rfl rfl
      | [], [], _, hget => exact .tup rfl hget
      | x :: y :: l, u :: v :: m, hl2, hget => exact .tup hl2 hget
  have hev2 : Evo σ0 β w σ1 β2 w' := ⟨hev.os, hev.tape, hev.output, hev.size, fun b hb hno => by
    by_cases hF : F' b
    · exact (hFk b hF).2.1
    · exact hev.keep b hb hF hno, fun b hb => hev.own b (hown b hb), hev.shp trivial⟩
  have hkk : ∀ (i : Nat) (x : AV) (v : Value), (i, x) ∈ ks → vals[i]? = some v → VA w' (G F' β2 σ1) β2 σ1 x v := by
    intro i x v hk hv
    obtain ⟨j, hj, he⟩ := List.mem_iff_getElem.1 hk
    refine hget (rs'.length + j) x v ?_ ?_
    · rw [List.getElem?_append_right (by omega), show rs'.length + j - rs'.length = j by omega, List.getElem?_map, List.getElem?_eq_getElem hj, he]; rfl
    · show (vs ++ _)[rs'.length + j]? = _
      rw [List.getElem?_append_right (by omega), show rs'.length + j - vs.length = j by omega, List.getElem?_map, List.getElem?_eq_getElem hj, he]
      show some (vals.getD i undef) = _
      rw [List.getD_eq_getElem?_getD, hv]; rfl
  obtain ⟨v, hv, hV'⟩ := hres
  have hdf : (shift ((JK F' w).ds g') a'').defers = [] := by simp [shift, hr'.defers, JK]
  rcases he with rfl | rfl <;> exact ⟨hdf, v, hv, v, β2, rfl, hV', hrel2.mem, hev2, hkk⟩

theorem eff_callKT {f : FuncId} {ks : List (Nat × AV)} {x : Operand} {args : Array Operand} {ats : Array TypeId} {σ0 σ1 : Sto} {xs : List AV} {r r' : AV} {ts : List (Nat × Tr)} (hret : RetKT P f ts σ0 xs σ1 r ks) (hf : callOK P f = true) (ren : Nat → Nat)
    (hd : dstOK D.n o.dst = true) (ho : o.op = .call { callee := .value x, args := args, argTypes := ats }) (hx : D.ev x = .t (.fn f [])) (hT : TabIn D ts)
    (hargs : RenL σ0 ren xs (args.toList.map D.ev)) (hr' : RenA σ1 ren r r') (hkeys : keysOK ren σ1 = true)
    (h0 : AllS (fun id ob => sget D.st (ren id) = some ob ∧ selfEls σ0 ren ob ∧ ∃ ob1, sget σ1 id = some ob1 ∧ (ob.gen < ob1.gen ∨ StaysF xs ks id ob ob1)) σ0)
    (h1 : AllS (fun id ob => selfEls σ1 ren ob ∧ ((sget σ0 id).isSome = true ∨ (sget D.st (ren id)).isNone = true)) σ1) :
    Eff P o D ⟨r', upsOf ren σ1⟩ := by
  intro s hs hfresh F β a w hrel next Q hnext
  have hsd := hs.st
  -- the objects that are lent
  have k0 : ∀ id ob, sget σ0 id = some ob → sget s.st (ren id) = some ob ∧ selfEls σ0 ren ob ∧ ∃ ob1, sget σ1 id = some ob1 ∧ (ob.gen < ob1.gen ∨ StaysF xs ks id ob ob1) := fun id ob h => by
    obtain ⟨q1, q2, q3⟩ := h0.get id ob h
    exact ⟨hsd _ _ q1, q2, q3⟩
  have memUps : ∀ (σ : Sto) id ob, (id, some ob) ∈ σ → (ren id, ob) ∈ upsOf ren σ := by
    intro σ
    induction σ with
    | nil => intro id ob h; simp at h
    | cons y l ih =>
      intro id ob h
      obtain ⟨i, q⟩ := y
      simp only [List.mem_cons] at h
      rcases h with h | h
      · cases h; exact List.mem_cons_self
      · cases q with
        | none => exact ih id ob h
        | some q => exact List.mem_cons_of_mem _ (ih id ob h)
  have k1 : ∀ id ob, sget σ1 id = some ob → selfEls σ1 ren ob ∧ ((∃ ob0, sget σ0 id = some ob0) ∨ sget s.st (ren id) = none) := fun id ob h => by
    obtain ⟨q1, q2⟩ := h1.get id ob h
    refine ⟨q1, q2.imp (fun h => Option.isSome_iff_exists.1 h) (fun h2 => ?_)⟩
    exact hfresh (ren id) ob (memUps _ _ _ (sget_mem h)) (Option.isNone_iff_eq_none.1 h2)
  have inj1 : ∀ i j oi oj, sget σ1 i = some oi → sget σ1 j = some oj → ren i = ren j → i = j := fun i j oi oj hi hj e => by
    have := keys_inj hkeys _ _ (sget_mem hi) (sget_mem hj) e
    exact congrArg Prod.fst this
  -- the callee's view
  let lent : Nat → Prop := fun n => ∃ id ob, sget σ0 id = some ob ∧ ren id = n
  let Fc : Nat → Prop := fun b => F b ∨ ∃ n ob, sget s.st n = some ob ∧ β n = some b ∧ ¬ lent n
  let β0 : Nat → Option Nat := fun id => β (ren id)
  have hG0 : ∀ b, G Fc β0 σ0 b ↔ G F β s.st b := by
    intro b
    constructor
    · rintro ((h | ⟨n, ob, hn, hb, _⟩) | ⟨id, ob, hid, hb⟩)
      · exact .inl h
      · exact .inr ⟨n, ob, hn, hb⟩
      · exact .inr ⟨ren id, ob, (k0 id ob hid).1, hb⟩
    · rintro (h | ⟨n, ob, hn, hb⟩)
      · exact .inl (.inl h)
      · by_cases hl : lent n
        · obtain ⟨id, ob', hid, rfl⟩ := hl
          exact .inr ⟨id, ob', hid, hb⟩
        · exact .inl (.inr ⟨n, ob, hn, hb, hl⟩)
  have hto : ∀ id ob, sget σ0 id = some ob → sget s.st (ren id) = some ob ∧ β (ren id) = β0 id := fun id ob h => ⟨(k0 id ob h).1, rfl⟩
  have inj0 : ∀ i j oi oj, sget σ0 i = some oi → sget σ0 j = some oj → ren i = ren j → i = j := fun i j oi oj hi hj e => by
    obtain ⟨_, _, o1, q1, _⟩ := k0 i oi hi
    obtain ⟨_, _, o2, q2, _⟩ := k0 j oj hj
    exact inj1 i j o1 o2 q1 q2 e
  have hmem0 : Mem Fc β0 σ0 w := by
    refine ⟨fun id ob h => ?_, fun i j oi oj b hi hj hbi hbj => ?_, fun i oi b hi hb => ?_, fun b hb => ?_⟩
    · exact ObOK.of (k0 id ob h).2.1 (fun b hb => (hG0 b).1 hb) hto rfl (hrel.ob (ren id) ob (k0 id ob h).1)
    · exact inj0 i j oi oj hi hj (hrel.inj _ _ oi oj b (k0 i oi hi).1 (k0 j oj hj).1 hbi hbj)
    · rintro (h | ⟨n, ob, hn, hbn, hl⟩)
      · exact hrel.notF (ren i) oi b (k0 i oi hi).1 hb h
      · have := hrel.inj (ren i) n oi ob b (k0 i oi hi).1 hn hb hbn
        exact hl ⟨i, oi, hi, this⟩
    · exact hrel.ltG b ((hG0 b).1 (.inl hb))
  have hlen : args.toList.length = xs.length := by rw [hargs.len]; simp
  have hxv := hrel.evT hs hx
  generalize hxe : a.eval x = xv at hxv
  cases hxv with
  | fn f cs vs hl' hcv =>
    have hvs : vs = [] := List.length_eq_zero_iff.1 hl'
    subst hvs
    have hvals : ∀ (i : Nat) (y : AV) (v : Value), xs[i]? = some y → (args.toList.map a.eval)[i]? = some v → VA w (G Fc β0 σ0) β0 σ0 y v := by
      intro i y v hy hv
      rw [List.getElem?_map, Option.map_eq_some_iff] at hv
      obtain ⟨op, hop, rfl⟩ := hv
      have hz : (args.toList.map D.ev)[i]? = some (D.ev op) := by rw [List.getElem?_map, hop]; rfl
      exact (hargs.get _ _ i y _ hy hz).of (fun b hb => (hG0 b).1 hb) hto (hrel.evA hs rfl)
    have := hret Fc β0 w (args.toList.map a.eval) hmem0 (fun g x hg => V.mono (w := w) (w' := w) (Nat.le_refl _) (fun b _ hn => ⟨fun h => hn ((hG0 b).1 h), rfl⟩) (hrel.evT hs (hT.get g x hg))) (by simpa using hlen) hvals
    unfold Oper.wp
    rw [execCall ho hxe hf w, Oper.upon_enter]
    rw [show (args.toList.map a.eval).toArray = args.map a.eval ++ ([] : List Value).toArray from by apply Array.ext'; simp] at this
    refine Calls.mono this ?_
    rintro e w' ⟨v, β1, rfl, hva, hm1, hev, hkept⟩
    -- the caller's view behind the call
    let β2 : Nat → Option Nat := fun n => match σ1.find? (fun y => Nat.beq (ren y.1) n) with
      | some y => β1 y.1
      | none => β n
    have hβhit : ∀ id ob, sget σ1 id = some ob → β2 (ren id) = β1 id := by
      intro id ob h
      show (match σ1.find? (fun y => Nat.beq (ren y.1) (ren id)) with | some y => β1 y.1 | none => β (ren id)) = β1 id
      cases hfd : σ1.find? (fun y => Nat.beq (ren y.1) (ren id)) with
      | none =>
        have := List.find?_eq_none.1 hfd _ (sget_mem h)
        simp at this
      | some y =>
        have hy := List.find?_some hfd
        have hm := List.mem_of_find?_eq_some hfd
        have := keys_inj hkeys _ _ hm (sget_mem h) (Nat.eq_of_beq_eq_true hy)
        rw [this]
    have hβmiss : ∀ n, (∀ id ob, sget σ1 id = some ob → ren id ≠ n) → (∀ y, y ∈ σ1 → ren y.1 ≠ n) → β2 n = β n := by
      intro n _ h
      show (match σ1.find? (fun y => Nat.beq (ren y.1) n) with | some y => β1 y.1 | none => β n) = β n
      rw [List.find?_eq_none.2 (fun y hy he => h y hy (Nat.eq_of_beq_eq_true he))]
    have memSome : ∀ (σ : Sto), keysOK ren σ = true → ∀ y, y ∈ σ → ∃ ob, sget σ y.1 = some ob := by
      intro σ
      induction σ with
      | nil => intro _ y h; simp at h
      | cons z l ih =>
        intro hk y h
        obtain ⟨q1, q2, q3⟩ := keys_head hk
        rw [show z :: l = sput l z.1 z.2 from rfl, sget_sput]
        by_cases e : y.1 = z.1
        · rw [if_pos e]; exact Option.isSome_iff_exists.1 q1
        · rw [if_neg e]
          simp only [List.mem_cons] at h
          rcases h with rfl | h
          · exact absurd rfl e
          · exact ih q3 y h
    have missOf : ∀ n, (∀ id ob, sget σ1 id = some ob → ren id ≠ n) → ∀ y, y ∈ σ1 → ren y.1 ≠ n := fun n h y hy => by
      obtain ⟨ob, hob⟩ := memSome σ1 hkeys y hy
      exact h _ _ hob
    let σ2 : Sto := upAll s.st (upsOf ren σ1)
    have hσhit : ∀ id ob, sget σ1 id = some ob → sget σ2 (ren id) = some ob := fun id ob h => (upAll_ups hkeys s.st (ren id)).1 id ob (sget_mem h) rfl
    have hσmiss : ∀ n, (∀ id ob, sget σ1 id = some ob → ren id ≠ n) → sget σ2 n = sget s.st n := fun n h => (upAll_ups hkeys s.st n).2 (missOf n h)
    have hcase : ∀ n, (∃ id ob, sget σ1 id = some ob ∧ ren id = n) ∨ (∀ id ob, sget σ1 id = some ob → ren id ≠ n) := fun n => by
      by_cases h : ∃ id ob, sget σ1 id = some ob ∧ ren id = n
      · exact .inl h
      · exact .inr fun id ob h1 h2 => h ⟨id, ob, h1, h2⟩
    have hG1 : ∀ b, G F β2 σ2 b ↔ G Fc β1 σ1 b := by
      intro b
      constructor
      · rintro (h | ⟨n, ob, hn, hb⟩)
        · exact .inl (.inl h)
        · rcases hcase n with ⟨id, ob1, hid, rfl⟩ | hmiss
          · exact .inr ⟨id, ob1, hid, by rw [← hβhit id ob1 hid]; exact hb⟩
          · rw [hσmiss n hmiss] at hn
            rw [hβmiss n hmiss (missOf n hmiss)] at hb
            refine .inl (.inr ⟨n, ob, hn, hb, ?_⟩)
            rintro ⟨id, ob0, hid, rfl⟩
            obtain ⟨_, _, o1, q1, _⟩ := k0 id ob0 hid
            exact hmiss id o1 q1 rfl
      · rintro ((h | ⟨n, ob, hn, hb, hl⟩) | ⟨id, ob, hid, hb⟩)
        · exact .inl h
        · have hmiss : ∀ id ob, sget σ1 id = some ob → ren id ≠ n := by
            rintro id ob1 hid rfl
            rcases (k1 id ob1 hid).2 with ⟨ob0, h00⟩ | hnone
            · exact hl ⟨id, ob0, h00, rfl⟩
            · rw [hn] at hnone; cases hnone
          exact .inr ⟨n, ob, by rw [hσmiss n hmiss]; exact hn, by rw [hβmiss n hmiss (missOf n hmiss)]; exact hb⟩
        · exact .inr ⟨ren id, ob, hσhit id ob hid, by rw [hβhit id ob hid]; exact hb⟩
    have hkeepG : ∀ b, b < w.heap.size → ¬ G F β s.st b → ¬ G F β2 σ2 b ∧ w'.heap[b]? = w.heap[b]? := by
      intro b hb hn
      have hn0 : ¬ Owned β0 σ0 b := fun h => hn ((hG0 b).1 (.inr h))
      refine ⟨fun h => ?_, hev.keep b hb hn0⟩
      rcases (hG1 b).1 h with h | h
      · exact hn ((hG0 b).1 (.inl h))
      · rcases hev.own b h with h | h
        · omega
        · exact hn0 h
    have hmissHeap : ∀ n ob b, sget s.st n = some ob → β n = some b → (∀ id ob, sget σ1 id = some ob → ren id ≠ n) → w'.heap[b]? = w.heap[b]? := by
      intro n ob b hn hb hmiss
      refine hev.keep b (hrel.ltG b (.inr ⟨n, ob, hn, hb⟩)) ?_
      rintro ⟨id, ob0, hid, hb0⟩
      have := hrel.inj n (ren id) ob ob0 b hn (k0 id ob0 hid).1 hb hb0
      obtain ⟨_, _, o1, q1, _⟩ := k0 id ob0 hid
      exact hmiss id o1 q1 this.symm
    have hturn : Turns w w' β β2 s.st σ2 := by
      intro n ob hn
      rcases hcase n with ⟨id, ob1, hid, rfl⟩ | hmiss
      · refine ⟨ob1, hσhit id ob1 hid, ?_⟩
        rcases (k1 id ob1 hid).2 with ⟨ob0, h00⟩ | hnone
        · obtain ⟨q1, _, o1, q2, q3⟩ := k0 id ob0 h00
          rw [hid] at q2; cases q2
          rw [hn] at q1; cases q1
          refine q3.imp (fun h => h) ?_
          rintro ⟨e1, e2, e3, e4, i, x, hi, hk, hp⟩
          refine ⟨e1, e2, e3, e4, ?_, fun b c _ hc => hev.shp b c _ hc⟩
          rw [hβhit id ob1 hid]
          have hil : i < (args.toList.map a.eval).length := by have := lt_get hi; rw [List.length_map]; omega
          have hv0 := hvals i _ _ hi (List.getElem?_eq_getElem hil)
          have hv1 := hkept i _ _ hk (List.getElem?_eq_getElem hil)
          obtain ⟨b0, h1, h2⟩ := hp.two hv0 h00 rfl hv1 hid e1
          exact h2.trans h1.symm
        · rw [hn] at hnone; cases hnone
      · refine ⟨ob, by rw [hσmiss n hmiss]; exact hn, .inr ⟨rfl, rfl, rfl, rfl, hβmiss n hmiss (missOf n hmiss), fun b c hb hc => ⟨c, ?_, rfl⟩⟩⟩
        rw [hmissHeap n ob b hn hb hmiss]; exact hc
    have hmono : ∀ {y : AV} {v : Value}, VA w (G F β s.st) β s.st y v → VA w' (G F β2 σ2) β2 σ2 y v := fun hv => VA.mono hev.size hkeepG hturn hv
    have hrel2 : Rel F β2 ⟨s.n, s.fr, σ2⟩ a w' := by
      refine ⟨hrel.defers, hrel.size, fun i => hmono (hrel.fr i), fun n ob hn => ?_, fun i j oi oj b hi hj hbi hbj => ?_, fun i oi b hi hb => ?_, fun b hb => Nat.lt_of_lt_of_le (hrel.ltF b hb) hev.size⟩
      · change sget σ2 n = some ob at hn
        rcases hcase n with ⟨id, ob1, hid, rfl⟩ | hmiss
        · rw [hσhit id ob1 hid] at hn; cases hn
          exact ObOK.to (k1 id _ hid).1 (fun b hb => (hG1 b).1 hb) (fun id ob h => ⟨hσhit id ob h, hβhit id ob h⟩) (hβhit id _ hid) (hm1.ob id _ hid)
        · rw [hσmiss n hmiss] at hn
          rcases hrel.ob n ob hn with ⟨q1, q2⟩ | ⟨b, c, q1, q2, q3, q4, q5⟩
          · exact .inl ⟨(hβmiss n hmiss (missOf n hmiss)).trans q1, q2⟩
          · refine .inr ⟨b, c, (hβmiss n hmiss (missOf n hmiss)).trans q1, by rw [hmissHeap n ob b hn q1 hmiss]; exact q2, q3, q4, fun i x j y hx hy => ?_⟩
            obtain ⟨g1, u, hu, hva⟩ := q5 i x j y hx hy
            exact ⟨g1, u, hu, hmono hva⟩
      · change sget σ2 i = some oi at hi
        change sget σ2 j = some oj at hj
        rcases hcase i with ⟨id, ob1, hid, rfl⟩ | hmi <;> rcases hcase j with ⟨jd, ob2, hjd, rfl⟩ | hmj
        · rw [hβhit id ob1 hid] at hbi
          rw [hβhit jd ob2 hjd] at hbj
          rw [hm1.inj id jd ob1 ob2 b hid hjd hbi hbj]
        · rw [hβhit id ob1 hid] at hbi
          rw [hσmiss j hmj] at hj
          rw [hβmiss j hmj (missOf j hmj)] at hbj
          refine absurd (show Fc b from .inr ⟨j, oj, hj, hbj, ?_⟩) (hm1.notF id ob1 b hid hbi)
          rintro ⟨id', ob0, hid', rfl⟩
          obtain ⟨_, _, o1, q1, _⟩ := k0 id' ob0 hid'
          exact hmj id' o1 q1 rfl
        · rw [hβhit jd ob2 hjd] at hbj
          rw [hσmiss i hmi] at hi
          rw [hβmiss i hmi (missOf i hmi)] at hbi
          refine absurd (show Fc b from .inr ⟨i, oi, hi, hbi, ?_⟩) (hm1.notF jd ob2 b hjd hbj)
          rintro ⟨id', ob0, hid', rfl⟩
          obtain ⟨_, _, o1, q1, _⟩ := k0 id' ob0 hid'
          exact hmi id' o1 q1 rfl
        · rw [hσmiss i hmi] at hi
          rw [hσmiss j hmj] at hj
          rw [hβmiss i hmi (missOf i hmi)] at hbi
          rw [hβmiss j hmj (missOf j hmj)] at hbj
          exact hrel.inj i j oi oj b hi hj hbi hbj
      · change sget σ2 i = some oi at hi
        rcases hcase i with ⟨id, ob1, hid, rfl⟩ | hmi
        · rw [hβhit id ob1 hid] at hb
          exact fun hF => hm1.notF id ob1 b hid hb (.inl hF)
        · rw [hσmiss i hmi] at hi
          rw [hβmiss i hmi (missOf i hmi)] at hb
          exact hrel.notF i oi b hi hb
    have hva2 : VA w' (G F β2 σ2) β2 σ2 r' v := hr'.to (fun b hb => (hG1 b).1 hb) (fun id ob h => ⟨hσhit id ob h, hβhit id ob h⟩) hva
    refine hnext β2 _ _ (hrel2.put (by rw [show (St.mk s.n s.fr σ2).n = s.n from rfl, hs.n]; exact hd) hva2) ⟨hev.os, hev.tape, hev.output, hev.size, fun b hb hn => ?_, fun b hb => ?_, hev.shp⟩
    · refine hev.keep b hb ?_
      rintro ⟨id, ob0, hid, hb0⟩
      exact hn ⟨ren id, ob0, (k0 id ob0 hid).1, hb0⟩
    · obtain ⟨n, ob, hn, hbn⟩ := hb
      change sget σ2 n = some ob at hn
      rcases hcase n with ⟨id, ob1, hid, rfl⟩ | hmiss
      · rw [hβhit id ob1 hid] at hbn
        rcases hev.own b ⟨id, ob1, hid, hbn⟩ with h | ⟨id0, ob0, hid0, hb0⟩
        · exact .inl h
        · exact .inr ⟨ren id0, ob0, (k0 id0 ob0 hid0).1, hb0⟩
      · rw [hσmiss n hmiss] at hn
        rw [hβmiss n hmiss (missOf n hmiss)] at hbn
        exact .inr ⟨n, ob, hn, hbn⟩

end Go.Tv

end
section
namespace Go.Tv
set_option linter.unusedVariables false
variable {P : Program}
section
variable {γ : Type} {X : JP γ} {ro : Option Nat} {all l : List Oper} {o : Oper} {n : Nat} {fr : Fra} {st : Sto} {g : γ} {K : St → γ → Prop}
theorem RJ.new3 {v : AV} {d : Tmp} {i1 i2 i3 : Nat} {o1 o2 o3 : Ob} (hg : o.guard = none) (hd : o.dst = some d) (he : Eff P o ⟨n, fr, st⟩ ⟨v, [(i1, o1), (i2, o2), (i3, o3)]⟩)
    (h : RJ P ro X all l ⟨n, (d, v) :: fr, (i3, some o3) :: (i2, some o2) :: (i1, some o1) :: st⟩ g K) (hnd : noDefer o = true := by rfl) : RJ P ro X all (o :: l) ⟨n, fr, st⟩ g K :=
  ⟨_, Weak.refl _, rfl, .inl ⟨.inl hg, _, effJ_of hnd he, fun e g' ⟨h1, h2⟩ => by subst h1 h2; rw [hd]; exact h⟩⟩
theorem RJ.new4 {v : AV} {d : Tmp} {i1 i2 i3 i4 : Nat} {o1 o2 o3 o4 : Ob} (hg : o.guard = none) (hd : o.dst = some d) (he : Eff P o ⟨n, fr, st⟩ ⟨v, [(i1, o1), (i2, o2), (i3, o3), (i4, o4)]⟩)
    (h : RJ P ro X all l ⟨n, (d, v) :: fr, (i4, some o4) :: (i3, some o3) :: (i2, some o2) :: (i1, some o1) :: st⟩ g K) (hnd : noDefer o = true := by rfl) : RJ P ro X all (o :: l) ⟨n, fr, st⟩ g K :=
  ⟨_, Weak.refl _, rfl, .inl ⟨.inl hg, _, effJ_of hnd he, fun e g' ⟨h1, h2⟩ => by subst h1 h2; rw [hd]; exact h⟩⟩
end
section
variable {all l : List Oper} {o : Oper} {n : Nat} {fr : Fra} {st : Sto} {K : St → Prop}
theorem RW.new4 {v : AV} {d : Tmp} {i1 i2 i3 i4 : Nat} {o1 o2 o3 o4 : Ob} (hg : o.guard = none) (hd : o.dst = some d) (he : Eff P o ⟨n, fr, st⟩ ⟨v, [(i1, o1), (i2, o2), (i3, o3), (i4, o4)]⟩)
    (h : RW P all l ⟨n, (d, v) :: fr, (i4, some o4) :: (i3, some o3) :: (i2, some o2) :: (i1, some o1) :: st⟩ K) : RW P all (o :: l) ⟨n, fr, st⟩ K :=
  ⟨_, Weak.refl _, rfl, .inl ⟨hg, _, he, by rw [hd]; exact h⟩⟩
end
section
variable {D : St} {o : Oper}
theorem eff_structEqlAB {α : Type} [DecidableEq α] {cells : α → List Sc} {t ty : TypeId} {x y : Operand} {ks : List SK} {a b : α} {r : Bool} (hd : dstOK D.n o.dst = true) (ho : o.op = .binOp .eql t x y ty)
    (ht : scCells P 8 t = some ks) (hta : tinf P t = some (ks.length, true)) (hgd : P.eqGuardType P.depth t = false) (hinj : ∀ a b, cells a = cells b → a = b) (hk : ∀ a, (cells a).map Sc.kind = ks)
    (hx : D.ev x = .t (.agg ((cells a).map Sc.tr))) (hy : D.ev y = .t (.agg ((cells b).map Sc.tr))) (hr : decide (a = b) = r) : Eff P o D ⟨.t (.bool r), []⟩ :=
  hr ▸ eff_structEqlA hd ho ht hta hgd hinj hk hx hy
end

/-- An empty slice in an object of one cell, as an owned object of its own. -/
theorem weak_adopt1 {n : Nat} {fr : Fra} {st : Sto} {id0 g0 : Nat} {ty0 : TypeId} (id k : Nat) (ty : TypeId) (h0 : sget st id0 = some ⟨1, ty0, g0, [.t (.sl [] true)]⟩)
    (hid : sget st id = none) : Weak ⟨n, fr, st⟩ ⟨n, fr, (id0, some ⟨1, ty0, g0, [.own id 0 0 0]⟩) :: (id, some ⟨k, ty, 0, []⟩) :: st⟩ := by
  intro F β a w hr
  obtain ⟨β', hr', hown, had⟩ := adopt_core hr id k ty hid
  have hne : id0 ≠ id := fun e => by subst e; rw [h0] at hid; cases hid
  have h0' : sget ((id, some (⟨k, ty, 0, []⟩ : Ob)) :: st) id0 = some ⟨1, ty0, g0, [.t (.sl [] true)]⟩ := by
    rw [show ((id, some (⟨k, ty, 0, []⟩ : Ob)) :: st) = sput st id (some ⟨k, ty, 0, []⟩) from rfl, sget_sput, if_neg hne]; exact h0
  rcases hr'.ob id0 _ h0' with ⟨_, he⟩ | ⟨b, c, q1, q2, q3, q4, q5⟩
  · simp at he
  · obtain ⟨hrel, hev, _⟩ := hr'.upd (g' := g0) (els' := [.own id 0 0 0]) (c' := c) h0' q1 q2 rfl (.inl ⟨rfl, rfl⟩) q3 (fun i x hx => by
        cases i with
        | zero => simp at hx; subst hx; exact ⟨rfl, rfl⟩
        | succ i => simp at hx) (fun i x m y hx hy => by
        cases i with
        | succ i => simp at hx
        | zero =>
          simp at hx; subst hx
          simp only [AV.cells] at hy
          cases m with
          | succ m => simp at hy
          | zero =>
            simp at hy; subst hy
            obtain ⟨_, u, hu, hva⟩ := q5 0 (.t (.sl [] true)) 0 (.t (.sl [] true)) rfl rfl
            exact ⟨rfl, u, hu, had u hva⟩)
    rw [setB_self q2] at hrel
    refine ⟨β', hrel, fun b hb => hown b ?_⟩
    obtain ⟨m, ob, hm, hb⟩ := hb
    by_cases e : m = id0
    · subst e; exact ⟨m, _, h0', hb⟩
    · change sget (sput ((id, some ⟨k, ty, 0, []⟩) :: st) id0 _) m = some ob at hm
      rw [sget_sput, if_neg e] at hm
      exact ⟨m, ob, hm, hb⟩

theorem self_own {σ : Sto} {ren : Nat → Nat} {k g id gn off len : Nat} {ty : TypeId} (h : (sget σ id).isSome = true) (hn : ren id = id) : selfEls σ ren ⟨k, ty, g, [.own id gn off len]⟩ := fun x hx => by
  rw [List.mem_singleton.1 hx]; exact .own id gn off len h hn
theorem self_tree {σ : Sto} {ren : Nat → Nat} {k g : Nat} {ty : TypeId} {xs : List Tr} : selfEls σ ren ⟨k, ty, g, xs.map .t⟩ := fun x hx => by
  obtain ⟨y, _, rfl⟩ := List.mem_map.1 hx; exact .t y
theorem self_one {σ : Sto} {ren : Nat → Nat} {k g : Nat} {ty : TypeId} {x : Tr} : selfEls σ ren ⟨k, ty, g, [.t x]⟩ := fun y hy => by
  rw [List.mem_singleton.1 hy]; exact .t x
theorem gen_own1 {σ σ' : Sto} {id g g' off len : Nat} (h : GenA σ σ' (.own id g off len) (.own id g' off len)) (i : Nat) (x y : AV) (hx : [AV.own id g off len][i]? = some x) (hy : [AV.own id g' off len][i]? = some y) : GenE σ σ' x y := by
  cases i with
  | zero => simp at hx hy; subst hx hy; exact .one h AV.noConfusion rfl rfl
  | succ i => simp at hx
theorem gen_t1 {σ σ' : Sto} {z : Tr} (i : Nat) (x y : AV) (hx : [AV.t z][i]? = some x) (hy : [AV.t z][i]? = some y) : GenE σ σ' x y := by
  cases i with
  | zero => simp at hx hy; subst hx hy; exact .tree z
  | succ i => simp at hx
theorem RenA.fnL {σ : Sto} {ren : Nat → Nat} {f : FuncId} {cs ds : List AV} (h : RenL σ ren cs ds) : RenA σ ren (.fn f cs) (.fn f ds) := .fn _ _ _ h.len h.get
end Go.Tv

end
section
namespace Go.Tv
open Go.Shelf Go.Proofs
variable {P : Program} {ρ : Ren} {α : Type} [Inhabited α]

/-- What slices.SortFunc makes of a list. -/
def sortA (cf : α → α → Int) (l : List α) : List α := (Sort.pdq (ltOf cf) l.toArray 0 l.length (Lib.bitLen l.length) true true).toList

theorem sortA_perm {cf : α → α → Int} (hO : Sort.SWO (ltOf cf)) (l : List α) : (sortA cf l).Perm l := by
  have h := (Sort.pdq_sorts (ltOf cf) hO l.toArray 0 l.length (Lib.bitLen l.length) true true (Nat.zero_le _) (by simp) (Or.inl rfl)).1
  obtain ⟨hs, _, hp⟩ := h
  have h1 : (Sort.pdq (ltOf cf) l.toArray 0 l.length (Lib.bitLen l.length) true true).size = l.length := by simpa using hs
  unfold sortA
  have e1 : ∀ (a : Array α), a.size = l.length → (a.extract 0 l.length) = a := by
    intro a ha; rw [← ha]; simp
  rw [e1 _ h1, e1 l.toArray (by simp)] at hp
  simpa using hp

theorem sortA_length {cf : α → α → Int} (hO : Sort.SWO (ltOf cf)) (l : List α) : (sortA cf l).length = l.length := (sortA_perm hO l).length_eq

theorem sortA_sorted {cf : α → α → Int} (hO : Sort.SWO (ltOf cf)) (l : List α) : (sortA cf l).Pairwise (fun a b => ¬ cf b a < 0) := by
  have h := (Sort.pdq_sorts (ltOf cf) hO l.toArray 0 l.length (Lib.bitLen l.length) true true (Nat.zero_le _) (by simp) (Or.inl rfl))
  obtain ⟨⟨hs, _, _⟩, hsort⟩ := h
  have h1 : (Sort.pdq (ltOf cf) l.toArray 0 l.length (Lib.bitLen l.length) true true).size = l.length := by simpa using hs
  unfold sortA
  rw [List.pairwise_iff_getElem]
  intro i j hi hj hij
  have hi' : i < l.length := by simpa [h1] using hi
  have hj' : j < l.length := by simpa [h1] using hj
  have := hsort i j (Nat.zero_le _) hij hj'
  have hlt : ∀ x y, ltOf cf x y = false → ¬ cf x y < 0 := fun x y h => by unfold ltOf at h; simpa using h
  rw [getElem!_pos _ i (by omega), getElem!_pos _ j (by omega)] at this
  exact hlt _ _ (by simpa using this)

/-- What the row's cells are. -/
def scs (cells : α → List Sc) (x : α) : List Value := (cells x).map Sc.v

theorem cmpLays_of_ret {cells : α → List Sc} {k : Nat} {cf : α → α → Int} {g : FuncId} (hret : ∀ a b, Ret P g [.agg ((cells a).map Sc.tr), .agg ((cells b).map Sc.tr)] (.int .i64 (cf a b))) (blk off size : Nat) (w : World) :
    CmpLays P g #[] (scs cells) k cf blk off size w := by
  intro m os dk _ x y
  generalize sortWorldK (scs cells) k w blk off m dk os = W
  have hV : VL W (fun _ => False) [.agg ((cells x).map Sc.tr), .agg ((cells y).map Sc.tr)] [packS true (cells x), packS true (cells y)] :=
    vl_cons ((solid_scs _).is _ _) (vl_cons ((solid_scs _).is _ _) vl_nil)
  have h := hret x y (fun _ => False) W _ (fun _ h => h.elim) hV
  refine Calls.mono h ?_
  rintro e w' ⟨v, rfl, hv, hb⟩
  cases hv
  refine ⟨rfl, ?_⟩
  obtain ⟨p, hp⟩ := regrown_of_below hb.toBelow
  refine ⟨w'.drawn - W.drawn, w'.heap.extract W.heap.size w'.heap.size, ?_⟩
  have hd := hb.drawn
  obtain ⟨heap', tape', drawn', os', output'⟩ := w'
  have hdr : drawn' = p.d := congrArg World.drawn hp
  have hbel := hb.toBelow
  have e1 : os' = W.os := hbel.os
  have e2 : tape' = W.tape := hbel.tape
  have e3 : output' = W.output := hbel.output
  have hs : W.heap.size ≤ heap'.size := hbel.size
  have hbk : ∀ k, k < W.heap.size → heap'[k]? = W.heap[k]? := hbel.block
  have hd' : W.drawn ≤ drawn' := hd
  have eh : heap' = W.heap ++ heap'.extract W.heap.size heap'.size := by
    apply Array.ext_getElem?
    intro k
    by_cases hk : k < W.heap.size
    · rw [Array.getElem?_append_left hk]; exact hbk k hk
    · rw [Array.getElem?_append_right (by omega), Array.getElem?_extract]
      by_cases hk2 : k < heap'.size
      · rw [if_pos (by omega)]; congr 1; omega
      · rw [if_neg (by omega), Array.getElem?_eq_none (by omega)]
  subst e1 e2 e3
  have e4 : drawn' = W.drawn + (drawn' - W.drawn) := by omega
  show World.mk heap' W.tape drawn' W.os W.output = World.mk (W.heap ++ heap'.extract W.heap.size heap'.size) W.tape (W.drawn + (drawn' - W.drawn)) W.os W.output
  rw [← eh]
  congr 1

def sortEls (cells : α → List Sc) (l : List α) : List AV := l.map fun x => .t (.agg ((cells x).map Sc.tr))

theorem flatK_get {cells : α → List Sc} {k : Nat} (hk : ∀ x, (cells x).length = k) (d : Array α) {i j : Nat} (hi : i < d.size) (hj : j < k) {x : α} {y : Sc} (hx : d[i]? = some x) (hy : (cells x)[j]? = some y) :
    (Sort.flatK (scs cells) k d)[i * k + j]! = y.v := by
  have hk0 : 0 < k := by omega
  have h1 : i * k + j < d.size * k := by
    have : (i + 1) * k ≤ d.size * k := Nat.mul_le_mul_right k hi
    rw [Nat.add_mul] at this; omega
  rw [Sort.get_flatK _ _ _ _ h1]
  have e1 : (i * k + j) / k = i := by
    rw [Nat.mul_comm, Nat.mul_add_div hk0, Nat.div_eq_of_lt hj]; omega
  have e2 : (i * k + j) % k = j := by
    rw [Nat.mul_comm, Nat.mul_add_mod, Nat.mod_eq_of_lt hj]
  rw [e1, e2, getElem!_pos _ i hi]
  have : d[i] = x := by rw [Array.getElem?_eq_getElem hi] at hx; exact Option.some.inj hx
  rw [this]
  unfold scs
  have h2 : ((cells x).map Sc.v)[j]? = some y.v := by rw [List.getElem?_map, hy]; rfl
  rw [getElem!_def, h2]

/-- A call of slices.SortFunc: the object's elements are sorted in place; what points to it stays good. -/
theorem eff_sortFunc {o : Oper} {D : St} (L : SlLaysF0.n6 P ρ) {cells : α → List Sc} {k : Nat} (hk : ∀ x, (cells x).length = k) (hk0 : 0 < k) {cf : α → α → Int} (hO : Sort.SWO (ltOf cf)) {g : FuncId}
    (hret : ∀ a b, Ret P g [.agg ((cells a).map Sc.tr), .agg ((cells b).map Sc.tr)] (.int .i64 (cf a b))) (hg : callOK P g = true) (hti : tinf P (ρ.t 24) = some (k, true)) {id gen : Nat} {ty : TypeId} (l : List α) (hl : l.length < 4611686018427387904)
    {f : FuncId} {x y z : Operand} {ats : Array TypeId} {n0 : Nat} {els els' : List AV} (hfe : ρ.f 6 = f) (hf : callOK P f = true) (hd : dstOK D.n o.dst = true) (ho : o.op = .call { callee := .value x, args := #[y, z], argTypes := ats })
    (hx : D.ev x = .t (.fn f [])) (hy : D.ev y = .own id gen 0 n0) (hz : D.ev z = .t (.fn g [])) (hs : sget D.st id = some ⟨k, ty, gen, els⟩) (he : els = sortEls cells l) (hn0 : n0 = l.length) (he' : sortEls cells (sortA cf l) = els') :
    Eff P o D ⟨.t (.tup []), [(id, ⟨k, ty, gen, els'⟩)]⟩ := by
  subst hfe he hn0 he'
  intro s hs' _ F β a w hr next Q hnext
  have hst := hs'.st _ _ hs
  have hyv := hr.evA hs' hy
  have hzv : a.eval z = .func (.func g) #[] #[] := (solid_fn g).eq _ _ _ (hr.evT hs' hz)
  have hxv : a.eval x = .func (.func (ρ.f 6)) #[] #[] := (solid_fn _).eq _ _ _ (hr.evT hs' hx)
  have elen : (sortEls cells l).length = l.length := by simp [sortEls]
  have hsl : (sortA cf l).length = l.length := sortA_length hO l
  unfold Oper.wp
  rw [execCall (vs := []) ho (by simpa using hxv) hf w, Oper.upon_enter]
  rw [show (#[y, z].map a.eval ++ ([] : List Value).toArray) = #[a.eval y, a.eval z] from by simp, hzv]
  have hempty : l = [] → ∀ p cap, a.eval y = .slice p 0 cap → Calls P (ρ.f 6) #[a.eval y, .func (.func g) #[] #[]] w (fun e w' => ∃ v, e = .returned v ∧ next (a.put o.dst v) w') := by
    intro hnil p cap hv
    rw [hv]
    refine Calls.mono (AnyF.slices_SortFunc_none L p cap (.func (.func g) #[] #[]) w) ?_
    rintro e w' ⟨rfl, rfl⟩
    refine ⟨_, rfl, ?_⟩
    subst hnil
    have hs0 : sortA cf ([] : List α) = [] := List.length_eq_zero_iff.1 hsl
    rw [hs0] at hnext
    have hid : ∀ m, sget (sput s.st id (some ⟨k, ty, gen, sortEls cells ([] : List α)⟩)) m = sget s.st m := fun m => by
      rw [sget_sput]; split
      · rename_i e; rw [e, hst]
      · rfl
    have hrel : Rel F β { n := s.n, fr := s.fr, st := sput s.st id (some ⟨k, ty, gen, sortEls cells ([] : List α)⟩) } a w' := hr.ext rfl (fun _ => rfl) hid
    exact hnext β _ _ (hrel.put (by show dstOK s.n o.dst = true; rw [hs'.n]; exact hd) (.t (.tup [] [] rfl (fun j c v h => by simp at h)))) ((Evo.refl _ _ _).ext hid)
  have hfin : Calls P (ρ.f 6) #[a.eval y, .func (.func g) #[] #[]] w (fun e w' => ∃ v, e = .returned v ∧ next (a.put o.dst v) w') := by
    generalize hv0 : a.eval y = v0 at hyv
    generalize hn : l.length = n0 at hyv
    rw [hv0] at hempty
    cases hyv with
    | ownNil hs2 hg' hb he2 =>
      exact hempty (List.length_eq_zero_iff.1 hn) _ _ rfl
    | ownZ hs2 hg' hb hl' hlt =>
      exact hempty (List.length_eq_zero_iff.1 hn) _ _ rfl
    | ownE hs2 hg' hb he2 =>
      exact hempty (List.length_eq_zero_iff.1 hn) _ _ rfl
    | stale hs2 hg' h1 => rw [hst] at hs2; cases hs2; exact absurd hg' (Nat.lt_irrefl _)
    | @own _ _ _ _ b cap ob c hs2 hg' hb hl' hcap hh hc =>
      rw [hst] at hs2; cases hs2
      subst hn
      rcases hr.ob id _ hst with ⟨h1, _⟩ | ⟨b2, c2, h1, h2, h3, h4, h5⟩
      · rw [hb] at h1; cases h1
      rw [hb] at h1; cases h1
      rw [hh] at h2; cases h2
      have hbs : b < w.heap.size := lt_of_heap hh
      have hsz : (Sort.flatK (scs cells) k l.toArray).size = l.length * k := by simp
      have hc2 : l.length * k ≤ c.size := by rw [← elen]; exact h3
      have hcell : ∀ j, j < l.length * k → c[j]? = some ((Sort.flatK (scs cells) k l.toArray)[j]!) := by
        intro j hj
        have hk' : j / k < l.length := (Nat.div_lt_iff_lt_mul hk0).2 hj
        have hmod : j % k < k := Nat.mod_lt _ hk0
        have hx : l[j / k]? = some l[j / k] := List.getElem?_eq_getElem hk'
        have hyl : j % k < (cells l[j / k]).length := by rw [hk]; exact hmod
        have hy : (cells l[j / k])[j % k]? = some (cells l[j / k])[j % k] := List.getElem?_eq_getElem hyl
        obtain ⟨_, v, hv, hvv⟩ := h5 (j / k) (.t (.agg ((cells l[j / k]).map Sc.tr))) (j % k) (.t ((cells l[j / k])[j % k]).tr) (by show (sortEls cells l)[j / k]? = _; unfold sortEls; rw [List.getElem?_map, hx]; rfl) (by
          show (((cells l[j / k]).map Sc.tr).map AV.t)[j % k]? = _
          rw [List.getElem?_map, List.getElem?_map, hy]; rfl)
        have hjk : j / k * k + j % k = j := by rw [Nat.mul_comm]; exact Nat.div_add_mod j k
        have hv' : c[j]? = some v := by
          have : (Ob.mk k ty gen (sortEls cells l)).k = k := rfl
          rw [this] at hv; rw [← hjk]; exact hv
        rw [hv']
        have hvs : v = ((cells l[j / k])[j % k]).v := by
          cases hvv with
          | t h => exact (Sc.solid _).eq _ _ _ h
        have := flatK_get hk l.toArray (i := j / k) (j := j % k) (by simpa using hk') hmod (x := l[j / k]) (by simpa using hx) hy
        rw [hjk] at this
        rw [hvs, this]
      have hH : Sort.HoldsK (scs cells) k w b 0 l.toArray := by
        intro j hj
        rw [hsz] at hj
        refine ⟨?_, ?_⟩
        · unfold World.cell?
          simp only [hh, Nat.zero_add]
          have := hcell j hj
          simpa using this
        · unfold World.frozen?
          simp [hh]
      have hrun := AnyQ.slices_SortFunc_eq L k (fun w => run_isAgg' w hti) (fun w => run_sizeOf' w hti) (scs cells) (fun x => by simp [scs, hk]) (fun x v hv => by
          obtain ⟨s, _, rfl⟩ := List.mem_map.1 hv
          cases s <;> rfl) cf hO g #[] b 0 cap l.toArray w (fun args w => run_callFunc hg w args) (cmpLays_of_ret hret b 0 _ w) hH hbs (by simpa using hl)
      have hvals : (#[.slice (some ⟨b, 0 * (Ob.mk k ty gen (sortEls cells l)).k, none⟩) l.length cap, .func (.func g) #[] #[]] : Array Value) = #[.slice (some ⟨b, 0, none⟩) l.toArray.size cap, .func (.func g) #[] #[]] := by simp
      rw [hvals]
      refine Calls.mono hrun ?_
      rintro e w' ⟨rfl, n, os, rfl⟩
      refine ⟨_, rfl, ?_⟩
      have hpdq : Sort.pdq (ltOf cf) l.toArray 0 l.toArray.size (Lib.bitLen l.toArray.size) true true = (sortA cf l).toArray := by
        unfold sortA; simp
      rw [hpdq]
      -- the cells behind
      have hpsz : (Sort.putCells _root_.id 0 (Sort.flatK (scs cells) k (sortA cf l).toArray) c).size = c.size := by simp [Sort.putCells]
      have hpc : ∀ (i j : Nat) (x : α) (y : Sc), (sortA cf l)[i]? = some x → (cells x)[j]? = some y → (Sort.putCells _root_.id 0 (Sort.flatK (scs cells) k (sortA cf l).toArray) c)[i * k + j]? = some y.v := by
        intro i j x y hx hy
        have hi : i < (sortA cf l).length := (List.getElem?_eq_some_iff.1 hx).1
        have hj : j < k := by have := (List.getElem?_eq_some_iff.1 hy).1; rw [hk] at this; exact this
        have h6 : i * k + j < l.length * k := by
          have : (i + 1) * k ≤ l.length * k := Nat.mul_le_mul_right k (by omega)
          rw [Nat.add_mul] at this; omega
        have h7 : i * k + j < c.size := by omega
        unfold Sort.putCells
        rw [Array.getElem?_mapIdx, Array.getElem?_eq_getElem h7]
        simp only [Option.map_some, Nat.zero_le, true_and, Nat.zero_add, Nat.sub_zero, Sort.size_flatK, List.size_toArray, _root_.id]
        rw [if_pos (by rw [hsl]; exact h6)]
        have := flatK_get hk (sortA cf l).toArray (i := i) (j := j) (by simpa using hi) hj (x := x) (by simpa using hx) hy
        rw [this]
      obtain ⟨hrel, hev, _⟩ := hr.upd (g' := gen) (els' := sortEls cells (sortA cf l)) (c' := Sort.putCells _root_.id 0 (Sort.flatK (scs cells) k (sortA cf l).toArray) c) hst hb hh hpsz (.inl ⟨rfl, by simp [sortEls, hsl]⟩) (by show (sortEls cells (sortA cf l)).length * k ≤ _; unfold sortEls; rw [List.length_map, hsl]; exact hc2)
        (fun i x hx => by
          unfold sortEls at hx
          rw [List.getElem?_map] at hx
          obtain ⟨z, _, rfl⟩ := Option.map_eq_some_iff.1 hx
          exact ⟨rfl, by show (((cells z).map Sc.tr).map AV.t).length = k; simp [hk]⟩)
        (fun i x j y hx hy => by
          unfold sortEls at hx
          rw [List.getElem?_map] at hx
          obtain ⟨z, hz, rfl⟩ := Option.map_eq_some_iff.1 hx
          change (((cells z).map Sc.tr).map AV.t)[j]? = some y at hy
          rw [List.getElem?_map, List.getElem?_map] at hy
          obtain ⟨u, hu, rfl⟩ := Option.map_eq_some_iff.1 hy
          obtain ⟨s, hs, rfl⟩ := Option.map_eq_some_iff.1 hu
          exact ⟨by cases s <;> rfl, s.v, hpc i j z s hz hs, .t (s.solid.is _ _)⟩)
      have hbel : BelowD (setB w b (.cells (Sort.putCells _root_.id 0 (Sort.flatK (scs cells) k (sortA cf l).toArray) c) ty (0, 0))).heap.size (setB w b (.cells (Sort.putCells _root_.id 0 (Sort.flatK (scs cells) k (sortA cf l).toArray) c) ty (0, 0))) (sortWorldK (scs cells) k w b 0 n (sortA cf l).toArray os) := by
        refine ⟨⟨rfl, rfl, rfl, ?_, fun i hi => ?_⟩, Nat.le_add_right _ _⟩
        · rw [setB_size]
          show _ ≤ ((w.heap.modify b _) ++ os).size
          simp
        · rw [setB_size] at hi
          show ((w.heap.modify b _) ++ os)[i]? = (w.heap.setIfInBounds b _)[i]?
          rw [Array.getElem?_append_left (by simpa using hi), Array.getElem?_modify]
          by_cases e : b = i
          · subst e
            rw [if_pos rfl, hh, Array.getElem?_setIfInBounds_self_of_lt hbs]
            rfl
          · rw [if_neg e, Array.getElem?_setIfInBounds_ne e]
      obtain ⟨hrel2, hev2, _⟩ := hrel.below hbel
      exact hnext β _ _ (hrel2.put (by show dstOK s.n o.dst = true; rw [hs'.n]; exact hd) (.t (.tup [] [] rfl (fun j c v h => by simp at h)))) (hev.trans hev2)
  exact Calls.mono hfin (fun e w' ⟨v, h1, h2⟩ => by subst h1; exact h2)
end Go.Tv

end
section
namespace Go.Tv
set_option linter.unusedVariables false
def GenCs (σ σ' : Sto) : List AV → Prop
  | [] => True
  | x :: l => GenA σ σ' x x ∧ GenCs σ σ' l
theorem GenCs.get {σ σ' : Sto} : ∀ {l : List AV}, GenCs σ σ' l → ∀ x, x ∈ l → GenA σ σ' x x
  | [], _, x, h => by cases h
  | y :: l, ⟨h1, h2⟩, x, h => by
    rcases List.mem_cons.1 h with rfl | h
    · exact h1
    · exact h2.get x h
inductive GenX (σ σ' : Sto) : AV → AV → Prop
  | a {x y : AV} (h : GenA σ σ' x y) : GenX σ σ' x y
  | fn (f : FuncId) (cs : List AV) (h : GenCs σ σ' cs) : GenX σ σ' (.fn f cs) (.fn f cs)
theorem GenX.v {σ σ' : Sto} {x y : AV} (h : GenX σ σ' x y) {w : World} {H H' : Nat → Prop} {β : Nat → Option Nat} (hH : ∀ b, H' b → H b) {v : Value} (hv : VA w H β σ x v) : VA w H' β σ' y v := by
  cases h with
  | a h => exact h.v hH hv
  | fn f cs h =>
    cases hv with
    | fn hl hc => exact .fn hl (fun j c u hj hu => (h.get c (List.mem_of_getElem? hj)).v hH (hc j c u hj hu))
def GenXF (σ σ' : Sto) (fr : Fra) : Fra → Prop
  | [] => True
  | x :: l => GenX σ σ' (fget fr x.1) x.2 ∧ GenXF σ σ' fr l
theorem GenXF.get {σ σ' : Sto} {fr : Fra} : ∀ (l : Fra), GenXF σ σ' fr l → ∀ i, GenX σ σ' (fget fr i) (fget l i)
  | [], _, i => .a (.junk _)
  | x :: l, ⟨h1, h2⟩, i => by
    show GenX σ σ' (fget fr i) (cond (Nat.beq x.1 i) x.2 (fget l i))
    cases h : Nat.beq x.1 i with
    | true => rw [← Nat.eq_of_beq_eq_true h]; exact h1
    | false => exact GenXF.get l h2 i

theorem weak_genX {n : Nat} {fr fr' : Fra} {st st' : Sto} (hf : GenXF st st' fr fr')
    (hs : AllS (fun id ob' => ∃ ob, sget st id = some ob ∧ ob'.k = ob.k ∧ ob'.ty = ob.ty ∧ ob'.els.length = ob.els.length ∧ ∀ (i : Nat) x y, ob.els[i]? = some x → ob'.els[i]? = some y → GenE st st' x y) st') :
    Weak ⟨n, fr, st⟩ ⟨n, fr', st'⟩ := by
  intro F β a w hr
  have hown : ∀ b, Owned β st' b → Owned β st b := by
    rintro b ⟨m, ob, hm, hb⟩
    obtain ⟨ob0, h1, _⟩ := hs.get m ob hm
    exact ⟨m, ob0, h1, hb⟩
  have hG : ∀ b, G F β st' b → G F β st b := fun b h => h.imp (fun h => h) (hown b)
  refine ⟨β, ⟨hr.defers, hr.size, fun i => (hf.get _ i).v hG (hr.fr i), fun m ob' hm => ?_, fun i j oi oj b hi hj hbi hbj => ?_, fun i oi b hi hb => ?_, hr.ltF⟩, hown⟩
  · obtain ⟨ob, h1, hk, ht, hl, he⟩ := hs.get m ob' hm
    rcases hr.ob m ob h1 with ⟨q1, q2⟩ | ⟨b, c, q1, q2, q3, q4, q5⟩
    · exact .inl ⟨q1, List.length_eq_zero_iff.1 (by rw [hl, q2]; rfl)⟩
    · have hx : ∀ (i : Nat) y, ob'.els[i]? = some y → ∃ x, ob.els[i]? = some x ∧ GenE st st' x y := fun i y hy => by
        have hi : i < ob.els.length := by rw [← hl]; exact lt_get hy
        exact ⟨_, List.getElem?_eq_getElem hi, he i _ y (List.getElem?_eq_getElem hi) hy⟩
      refine .inr ⟨b, c, q1, by rw [ht]; exact q2, by rw [hl, hk]; exact q3, fun i y hy => ?_, fun i y j z hy hz => ?_⟩
      · obtain ⟨x, hx1, hge⟩ := hx i y hy
        obtain ⟨g1, g2⟩ := q4 i x hx1
        rw [hk]
        cases hge with
        | one h hn hcx hcy =>
          rw [hcx] at g2
          rw [hcy]
          refine ⟨?_, g2⟩
          cases h with
          | junk => exact absurd rfl hn
          | t x => exact g1
          | own => rfl
          | ptr => rfl
        | tree x => exact ⟨g1, g2⟩
        | agg hl' h => exact ⟨rfl, hl'.symm.trans g2⟩
      · obtain ⟨x, hx1, hge⟩ := hx i y hy
        rw [hk]
        cases hge with
        | one h hn hcx hcy =>
          rw [hcy] at hz
          match j with
          | 0 =>
            simp at hz; subst hz
            obtain ⟨g1, u, hu, hva⟩ := q5 i x 0 x hx1 (by rw [hcx]; rfl)
            exact ⟨by rw [h.one hn]; exact g1, u, hu, h.v hG hva⟩
          | j + 1 => simp at hz
        | tree x =>
          obtain ⟨g1, u, hu, hva⟩ := q5 i _ j z hx1 hz
          refine ⟨g1, u, hu, ?_⟩
          simp only [AV.cells, List.getElem?_map, Option.map_eq_some_iff] at hz
          obtain ⟨t, _, rfl⟩ := hz
          exact (GenA.t t).v hG hva
        | @agg cs ds hl' h =>
          have hj : j < cs.length := by rw [hl']; exact lt_get hz
          obtain ⟨g1, u, hu, hva⟩ := q5 i _ j _ hx1 (List.getElem?_eq_getElem hj)
          obtain ⟨k1, k2⟩ := h j _ z (List.getElem?_eq_getElem hj) hz
          exact ⟨by rw [k1.one k2]; exact g1, u, hu, k1.v hG hva⟩
  · obtain ⟨o1, h1, _⟩ := hs.get i oi hi
    obtain ⟨o2, h2, _⟩ := hs.get j oj hj
    exact hr.inj i j o1 o2 b h1 h2 hbi hbj
  · obtain ⟨o1, h1, _⟩ := hs.get i oi hi
    exact hr.notF i o1 b h1 hb

end Go.Tv

end
section
namespace Go.Tv
set_option linter.unusedVariables false
def WkC : List Tr → List Tr → Prop
  | [], [] => True
  | x :: l, y :: k => (y.one = true ∧ Wk x y) ∧ WkC l k
  | _, _ => False
theorem WkC.len : ∀ {l k : List Tr}, WkC l k → l.length = k.length
  | [], [], _ => rfl
  | _ :: _, _ :: _, ⟨_, h⟩ => by simp [h.len]
  | [], _ :: _, h => h.elim
  | _ :: _, [], h => h.elim
theorem WkC.get : ∀ {l k : List Tr}, WkC l k → ∀ (i : Nat) x y, l[i]? = some x → k[i]? = some y → y.one = true ∧ Wk x y
  | [], [], _, i, x, y, h, _ => by simp at h
  | a :: l, b :: k, ⟨h1, h2⟩, i, x, y, hx, hy => by
    cases i with
    | zero => simp at hx hy; subst hx hy; exact h1
    | succ i => exact h2.get i x y (by simpa using hx) (by simpa using hy)
  | [], _ :: _, h, _, _, _, _, _ => h.elim
  | _ :: _, [], h, _, _, _, _, _ => h.elim
end Go.Tv

end
section
namespace Go.Tv
set_option linter.unusedVariables false
section
variable {P : Program} {all l : List Oper} {o : Oper} {n : Nat} {fr : Fra} {st : Sto} {K : St → Prop}
theorem mvT {x : Operand} {t : Tr} {d : Tmp} (h : RW P all l ⟨n, (d, .t t) :: fr, st⟩ K) (hg : o.guard = none := by exact rfl) (hd : o.dst = some d := by exact rfl) (h1 : dstOK n o.dst = true := by exact rfl) (ho : o.op = .move x := by exact rfl)
    (hx : (St.mk n fr st).ev x = .t t := by exact rfl) : RW P all (o :: l) ⟨n, fr, st⟩ K := RW.op hg hd (eff_move (v := .t t) h1 ho hx) h
theorem asT {x : Operand} {t : Tr} {d : Tmp} (h : RW P all l ⟨n, (d, .t t) :: fr, st⟩ K) (hg : o.guard = none := by exact rfl) (hd : o.dst = some d := by exact rfl) (h1 : dstOK n o.dst = true := by exact rfl) (ho : o.op = .assign x := by exact rfl)
    (hx : (St.mk n fr st).ev x = .t t := by exact rfl) : RW P all (o :: l) ⟨n, fr, st⟩ K := RW.op hg hd (eff_assign (v := .t t) h1 ho hx) h
theorem mvO {x : Operand} {a b c e : Nat} {d : Tmp} (h : RW P all l ⟨n, (d, .own a b c e) :: fr, st⟩ K) (hg : o.guard = none := by exact rfl) (hd : o.dst = some d := by exact rfl) (h1 : dstOK n o.dst = true := by exact rfl) (ho : o.op = .move x := by exact rfl)
    (hx : (St.mk n fr st).ev x = .own a b c e := by exact rfl) : RW P all (o :: l) ⟨n, fr, st⟩ K := RW.op hg hd (eff_move (v := .own a b c e) h1 ho hx) h
theorem asO {x : Operand} {a b c e : Nat} {d : Tmp} (h : RW P all l ⟨n, (d, .own a b c e) :: fr, st⟩ K) (hg : o.guard = none := by exact rfl) (hd : o.dst = some d := by exact rfl) (h1 : dstOK n o.dst = true := by exact rfl) (ho : o.op = .assign x := by exact rfl)
    (hx : (St.mk n fr st).ev x = .own a b c e := by exact rfl) : RW P all (o :: l) ⟨n, fr, st⟩ K := RW.op hg hd (eff_assign (v := .own a b c e) h1 ho hx) h
theorem faT {t : TypeId} {x : Operand} {f off k : Nat} {ag : Bool} {id g i j : Nat} {ob : Ob} {d : Tmp} (hf : fldOf P t f = some (off, k, ag)) (h : RW P all l ⟨n, (d, .ptr id g i (j + off)) :: fr, st⟩ K) (hg : o.guard = none := by exact rfl) (hd : o.dst = some d := by exact rfl)
    (h1 : dstOK n o.dst = true := by exact rfl) (ho : o.op = .fieldAddr t x f := by exact rfl) (hk : k ≠ 0 := by decide) (hx : (St.mk n fr st).ev x = .ptr id g i j := by exact rfl) (hs : sget (St.mk n fr st).st id = some ob := by exact rfl) (hge : ob.gen = g := by exact rfl)
    (hj : j + off ≤ ob.k := by exact (Nat.le_of_ble_eq_true rfl)) : RW P all (o :: l) ⟨n, fr, st⟩ K := RW.op hg hd (eff_fieldAddr h1 ho hf hk hx hs hge hj) h
theorem gkT {d gd : Tmp} {j : Nat} {want b : Bool} {og : Oper} (h : RW P all l ⟨n, (d, .tup []) :: fr, st⟩ K) (hg : o.guard = some (j, want) := by exact rfl) (hd : o.dst = some d := by exact rfl) (hj : all[j]? = some og := by exact rfl) (hgd : og.dst = some gd := by exact rfl)
    (hb : fget fr gd = .t (.bool b) := by exact rfl) (hbw : b ≠ want := by decide) : RW P all (o :: l) ⟨n, fr, st⟩ K := RW.gskip hg hd hj hgd hb hbw h
theorem ioT {op : BinOp} {t ty : TypeId} {x y : Operand} {k : IntKind} {a b : Int} {r : Tr} {d : Tmp} (h : RW P all l ⟨n, (d, .t r) :: fr, st⟩ K) (hg : o.guard = none := by exact rfl) (hd : o.dst = some d := by exact rfl) (h1 : dstOK n o.dst = true := by exact rfl)
    (ho : o.op = .binOp op t x y ty := by exact rfl) (hx : (St.mk n fr st).ev x = .t (.int k a) := by exact rfl) (hy : (St.mk n fr st).ev y = .t (.int k b) := by exact rfl) (hr : iop op k a b = some r := by exact rfl) : RW P all (o :: l) ⟨n, fr, st⟩ K := RW.op hg hd (eff_iop h1 ho hx hy hr) h
theorem pkT {c x y : Operand} {b : Bool} {t : Tr} {d : Tmp} (h : RW P all l ⟨n, (d, .t t) :: fr, st⟩ K) (hg : o.guard = none := by exact rfl) (hd : o.dst = some d := by exact rfl) (h1 : dstOK n o.dst = true := by exact rfl) (ho : o.op = .pick c x y := by exact rfl)
    (hc : (St.mk n fr st).ev c = .t (.bool b) := by exact rfl) (hv : (if b then (St.mk n fr st).ev x else (St.mk n fr st).ev y) = .t t := by exact rfl) : RW P all (o :: l) ⟨n, fr, st⟩ K := RW.op hg hd (eff_pick (v := .t t) h1 ho hc hv) h
theorem l1T {t : TypeId} {x : Operand} {k id g i j : Nat} {y : Tr} {d : Tmp} (ht : tinf P t = some (k, false)) (hg : o.guard = none) (hd : o.dst = some d) (h1 : dstOK n o.dst = true) (ho : o.op = .load t x) (hx : (St.mk n fr st).ev x = .ptr id g i j)
    (hl : LoadA (St.mk n fr st).st id g i j k false (.t y)) (h : RW P all l ⟨n, (d, .t y) :: fr, st⟩ K) : RW P all (o :: l) ⟨n, fr, st⟩ K := RW.op hg hd (eff_load (y := .t y) h1 ho ht hx hl) h
end
section
variable {P : Program} {all l : List Oper} {o : Oper} {n : Nat} {fr : Fra} {st : Sto} {K : St → Prop} {tch : Tch} {cl : List (List Nat)} {i : Nat}
theorem mvD {x : Operand} {t : Tr} {d : Tmp} (h : RD P all tch cl (i + 1) l ⟨n, (d, .t t) :: fr, st⟩ K) (hg : o.guard = none := by exact rfl) (hd : o.dst = some d := by exact rfl) (ht : tch.getD i (none, []) = (some d, []) := by exact rfl)
    (h1 : dstOK (forget (hid tch cl i) ⟨n, fr, st⟩).n o.dst = true := by exact rfl) (ho : o.op = .move x := by exact rfl) (hx : (forget (hid tch cl i) ⟨n, fr, st⟩).ev x = .t t := by exact rfl) : RD P all tch cl i (o :: l) ⟨n, fr, st⟩ K := RD.op hg hd ht (eff_move (v := .t t) h1 ho hx) h
theorem gkD {d gd : Tmp} {j : Nat} {want b : Bool} {og : Oper} (h : RD P all tch cl (i + 1) l ⟨n, (d, .tup []) :: fr, st⟩ K) (hg : o.guard = some (j, want) := by exact rfl) (hd : o.dst = some d := by exact rfl) (ht : tch.getD i (none, []) = (some d, []) := by exact rfl)
    (hj : all[j]? = some og := by exact rfl) (hgd : og.dst = some gd := by exact rfl) (hb : fget (forget (hid tch cl i) ⟨n, fr, st⟩).fr gd = .t (.bool b) := by exact rfl) (hbw : b ≠ want := by decide) : RD P all tch cl i (o :: l) ⟨n, fr, st⟩ K := RD.gskip hg hd ht hj hgd hb hbw h
end
end Go.Tv

end
section
open Go Go.Tv Go.Proofs
namespace Go.Tv.C36
set_option maxRecDepth 20000
theorem ti3 : tinf Tryd.prog 3 = some (1, false) := by kernel_rfl
theorem tu3 : Tryd.prog.underlying 3 = some (.int .i64) := by kernel_rfl
abbrev z3 : Tr := .int .i64 0
theorem tz3 : zeroOf Tryd.prog 3 = some z3 := by kernel_rfl
theorem tb3 : (Tryd.prog.info? 3).map (·.bytes) = some 8 := by kernel_rfl
theorem ti4 : tinf Tryd.prog 4 = some (1, false) := by kernel_rfl
theorem tu4 : Tryd.prog.underlying 4 = some .bool := by kernel_rfl
abbrev z4 : Tr := .bool false
theorem tz4 : zeroOf Tryd.prog 4 = some z4 := by kernel_rfl
theorem ti5 : tinf Tryd.prog 5 = some (1, false) := by kernel_rfl
theorem tu5 : Tryd.prog.underlying 5 = some (.int .u8) := by kernel_rfl
abbrev z5 : Tr := .int .u8 0
theorem tz5 : zeroOf Tryd.prog 5 = some z5 := by kernel_rfl
theorem tb5 : (Tryd.prog.info? 5).map (·.bytes) = some 1 := by kernel_rfl
abbrev z9 : Tr := .str ⟨#[]⟩
abbrev z22 : Tr := .agg [.int .i64 0, .int .i64 0, .int .i64 0, .bool false]
theorem ti23 : tinf Tryd.prog 23 = some (4, true) := by kernel_rfl
theorem tf23_0 : fldOf Tryd.prog 23 0 = some (0, 1, false) := by kernel_rfl
theorem tf23_1 : fldOf Tryd.prog 23 1 = some (1, 1, false) := by kernel_rfl
theorem tf23_2 : fldOf Tryd.prog 23 2 = some (2, 1, false) := by kernel_rfl
theorem tf23_3 : fldOf Tryd.prog 23 3 = some (3, 1, false) := by kernel_rfl
theorem tg23 : fldsOf Tryd.prog 23 = some [(0, 1), (1, 1), (2, 1), (3, 1)] := by kernel_rfl
abbrev z23 : Tr := .agg [.int .i64 0, .int .i64 0, .int .i64 0, .bool false]
theorem tz23 : zeroOf Tryd.prog 23 = some z23 := by kernel_rfl
theorem tb23 : (Tryd.prog.info? 23).map (·.bytes) = some 32 := by kernel_rfl
theorem ti26 : tinf Tryd.prog 26 = some (1, false) := by kernel_rfl
theorem te26 : elemOf Tryd.prog 26 = some (3, 1, false) := by kernel_rfl
abbrev z26 : Tr := .sl [] true
theorem tz26 : zeroOf Tryd.prog 26 = some z26 := by kernel_rfl
theorem ti28 : tinf Tryd.prog 28 = some (4, true) := by kernel_rfl
theorem tf28_0 : fldOf Tryd.prog 28 0 = some (0, 1, false) := by kernel_rfl
theorem tf28_2 : fldOf Tryd.prog 28 2 = some (2, 1, false) := by kernel_rfl
theorem tf28_3 : fldOf Tryd.prog 28 3 = some (3, 1, false) := by kernel_rfl
theorem tg28 : fldsOf Tryd.prog 28 = some [(0, 1), (1, 1), (2, 1), (3, 1)] := by kernel_rfl
abbrev z28 : Tr := .agg [.int .i64 0, .int .i64 0, .int .i64 0, .int .i64 0]
theorem tz28 : zeroOf Tryd.prog 28 = some z28 := by kernel_rfl
theorem tz29 : zeroOf Tryd.prog 29 = some .nilf := by kernel_rfl
theorem ti32 : tinf Tryd.prog 32 = some (1, false) := by kernel_rfl
theorem te32 : elemOf Tryd.prog 32 = some (47, 15, true) := by kernel_rfl
theorem ti33 : tinf Tryd.prog 33 = some (1, false) := by kernel_rfl
theorem te33 : elemOf Tryd.prog 33 = some (23, 4, true) := by kernel_rfl
abbrev z33 : Tr := .sl [] true
theorem tz33 : zeroOf Tryd.prog 33 = some z33 := by kernel_rfl
theorem ti42 : tinf Tryd.prog 42 = some (1, false) := by kernel_rfl
theorem te42 : elemOf Tryd.prog 42 = some (5, 1, false) := by kernel_rfl
theorem ti45 : tinf Tryd.prog 45 = some (5, true) := by kernel_rfl
theorem tf45_0 : fldOf Tryd.prog 45 0 = some (0, 1, false) := by kernel_rfl
theorem tf45_1 : fldOf Tryd.prog 45 1 = some (1, 1, false) := by kernel_rfl
theorem tf45_2 : fldOf Tryd.prog 45 2 = some (2, 1, false) := by kernel_rfl
theorem tf45_3 : fldOf Tryd.prog 45 3 = some (3, 1, false) := by kernel_rfl
theorem tg45 : fldsOf Tryd.prog 45 = some [(0, 1), (1, 1), (2, 1), (3, 1), (4, 1)] := by kernel_rfl
abbrev z45 : Tr := .agg [.int .i64 0, .int .i64 0, .bool false, .sl [] true, .int .u64 0]
theorem tz45 : zeroOf Tryd.prog 45 = some z45 := by kernel_rfl
theorem tb45 : (Tryd.prog.info? 45).map (·.bytes) = some 56 := by kernel_rfl
abbrev z46 : Tr := .agg [.int .i64 0, .int .i64 0, .int .i64 0, .int .i64 0, .bool false, .sl [] true, .int .u64 0, .int .i64 0, .int .i64 0, .int .i64 0, .bool false, .int .i64 0, .int .i64 0, .int .i64 0, .int .i64 0]
theorem ti47 : tinf Tryd.prog 47 = some (15, true) := by kernel_rfl
theorem tf47_0 : fldOf Tryd.prog 47 0 = some (0, 1, false) := by kernel_rfl
theorem tf47_1 : fldOf Tryd.prog 47 1 = some (1, 1, false) := by kernel_rfl
theorem tf47_2 : fldOf Tryd.prog 47 2 = some (2, 5, true) := by kernel_rfl
theorem tf47_3 : fldOf Tryd.prog 47 3 = some (7, 4, true) := by kernel_rfl
theorem tf47_4 : fldOf Tryd.prog 47 4 = some (11, 4, true) := by kernel_rfl
theorem tg47 : fldsOf Tryd.prog 47 = some [(0, 1), (1, 1), (2, 5), (7, 4), (11, 4)] := by kernel_rfl
abbrev z47 : Tr := .agg [.int .i64 0, .int .i64 0, .int .i64 0, .int .i64 0, .bool false, .sl [] true, .int .u64 0, .int .i64 0, .int .i64 0, .int .i64 0, .bool false, .int .i64 0, .int .i64 0, .int .i64 0, .int .i64 0]
theorem tz47 : zeroOf Tryd.prog 47 = some z47 := by kernel_rfl
theorem tb47 : (Tryd.prog.info? 47).map (·.bytes) = some 136 := by kernel_rfl
theorem ti49 : tinf Tryd.prog 49 = some (5, true) := by kernel_rfl
theorem tf49_0 : fldOf Tryd.prog 49 0 = some (0, 1, false) := by kernel_rfl
theorem tf49_1 : fldOf Tryd.prog 49 1 = some (1, 4, true) := by kernel_rfl
theorem tg49 : fldsOf Tryd.prog 49 = some [(0, 1), (1, 4)] := by kernel_rfl
abbrev z49 : Tr := .agg [.bool false, .int .i64 0, .int .i64 0, .int .i64 0, .bool false]
theorem tz49 : zeroOf Tryd.prog 49 = some z49 := by kernel_rfl
theorem te56 : elemOf Tryd.prog 56 = some (64, 2, true) := by kernel_rfl
theorem ti62 : tinf Tryd.prog 62 = some (1, false) := by kernel_rfl
theorem te62 : elemOf Tryd.prog 62 = some (45, 5, true) := by kernel_rfl
theorem ti64 : tinf Tryd.prog 64 = some (2, true) := by kernel_rfl
theorem tf64_0 : fldOf Tryd.prog 64 0 = some (0, 1, false) := by kernel_rfl
theorem tf64_1 : fldOf Tryd.prog 64 1 = some (1, 1, false) := by kernel_rfl
theorem tg64 : fldsOf Tryd.prog 64 = some [(0, 1), (1, 1)] := by kernel_rfl
abbrev z64 : Tr := .agg [.sl [] true, .sl [] true]
theorem tz64 : zeroOf Tryd.prog 64 = some z64 := by kernel_rfl
theorem tb64 : (Tryd.prog.info? 64).map (·.bytes) = some 48 := by kernel_rfl
theorem tu109 : Tryd.prog.underlying 109 = some (.int .u64) := by kernel_rfl
theorem ta26 : AppT Tryd.prog 26 26 3 1 8 := ⟨⟨_, te26⟩, ⟨_, _, _, te26⟩, tb3, z3, tz3, by kernel_rfl⟩
theorem ta32 : AppT Tryd.prog 32 32 47 15 136 := ⟨⟨_, te32⟩, ⟨_, _, _, te32⟩, tb47, z47, tz47, by kernel_rfl⟩
theorem ta33 : AppT Tryd.prog 33 33 23 4 32 := ⟨⟨_, te33⟩, ⟨_, _, _, te33⟩, tb23, z23, tz23, by kernel_rfl⟩
theorem ta42 : AppT Tryd.prog 42 42 5 1 1 := ⟨⟨_, te42⟩, ⟨_, _, _, te42⟩, tb5, z5, tz5, by kernel_rfl⟩
theorem ta56 : AppT Tryd.prog 56 56 64 2 48 := ⟨⟨_, te56⟩, ⟨_, _, _, te56⟩, tb64, z64, tz64, by kernel_rfl⟩
theorem ta62 : AppT Tryd.prog 62 62 45 5 56 := ⟨⟨_, te62⟩, ⟨_, _, _, te62⟩, tb45, z45, tz45, by kernel_rfl⟩
theorem th23 : Program.eqGuardType Tryd.prog (Program.depth Tryd.prog) 23 = false := by kernel_rfl
theorem th28 : Program.eqGuardType Tryd.prog (Program.depth Tryd.prog) 28 = false := by kernel_rfl
theorem th49 : Program.eqGuardType Tryd.prog (Program.depth Tryd.prog) 49 = false := by kernel_rfl
theorem ts23s : scCells Tryd.prog 8 23 = some [.int .i64, .int .i64, .int .i64, .bool] := by kernel_rfl
theorem ts28s : scCells Tryd.prog 8 28 = some [.int .i64, .int .i64, .int .i64, .int .i64] := by kernel_rfl
theorem ts49s : scCells Tryd.prog 8 49 = some [.bool, .int .i64, .int .i64, .int .i64, .bool] := by kernel_rfl
theorem tm : Tryd.prog.follows .mixedOrders = true := by kernel_rfl
theorem co12 : callOK Tryd.prog 12 = true := by kernel_rfl
theorem co13 : callOK Tryd.prog 13 = true := by kernel_rfl
theorem co14 : callOK Tryd.prog 14 = true := by kernel_rfl
theorem co15 : callOK Tryd.prog 15 = true := by kernel_rfl
theorem co16 : callOK Tryd.prog 16 = true := by kernel_rfl
theorem co17 : callOK Tryd.prog 17 = true := by kernel_rfl
theorem co19 : callOK Tryd.prog 19 = true := by kernel_rfl
theorem co21 : callOK Tryd.prog 21 = true := by kernel_rfl
theorem co22 : callOK Tryd.prog 22 = true := by kernel_rfl
theorem co23 : callOK Tryd.prog 23 = true := by kernel_rfl
theorem co24 : callOK Tryd.prog 24 = true := by kernel_rfl
theorem co26 : callOK Tryd.prog 26 = true := by kernel_rfl
theorem co29 : callOK Tryd.prog 29 = true := by kernel_rfl
theorem co32 : callOK Tryd.prog 32 = true := by kernel_rfl
theorem co33 : callOK Tryd.prog 33 = true := by kernel_rfl
theorem co34 : callOK Tryd.prog 34 = true := by kernel_rfl
theorem co35 : callOK Tryd.prog 35 = true := by kernel_rfl
theorem co36 : callOK Tryd.prog 36 = true := by kernel_rfl
theorem co37 : callOK Tryd.prog 37 = true := by kernel_rfl
theorem co38 : callOK Tryd.prog 38 = true := by kernel_rfl
theorem co39 : callOK Tryd.prog 39 = true := by kernel_rfl
theorem co40 : callOK Tryd.prog 40 = true := by kernel_rfl
theorem co41 : callOK Tryd.prog 41 = true := by kernel_rfl
theorem co42 : callOK Tryd.prog 42 = true := by kernel_rfl
theorem co43 : callOK Tryd.prog 43 = true := by kernel_rfl
theorem co44 : callOK Tryd.prog 44 = true := by kernel_rfl
theorem co45 : callOK Tryd.prog 45 = true := by kernel_rfl
theorem co46 : callOK Tryd.prog 46 = true := by kernel_rfl
theorem co51 : callOK Tryd.prog 51 = true := by kernel_rfl
theorem co52 : callOK Tryd.prog 52 = true := by kernel_rfl
theorem co53 : callOK Tryd.prog 53 = true := by kernel_rfl
theorem co54 : callOK Tryd.prog 54 = true := by kernel_rfl
theorem co55 : callOK Tryd.prog 55 = true := by kernel_rfl
theorem co56 : callOK Tryd.prog 56 = true := by kernel_rfl
theorem co57 : callOK Tryd.prog 57 = true := by kernel_rfl
theorem co58 : callOK Tryd.prog 58 = true := by kernel_rfl
theorem co59 : callOK Tryd.prog 59 = true := by kernel_rfl
theorem co60 : callOK Tryd.prog 60 = true := by kernel_rfl
theorem co61 : callOK Tryd.prog 61 = true := by kernel_rfl
theorem co62 : callOK Tryd.prog 62 = true := by kernel_rfl
theorem co63 : callOK Tryd.prog 63 = true := by kernel_rfl
theorem co64 : callOK Tryd.prog 64 = true := by kernel_rfl
theorem co65 : callOK Tryd.prog 65 = true := by kernel_rfl
theorem co66 : callOK Tryd.prog 66 = true := by kernel_rfl
theorem co67 : callOK Tryd.prog 67 = true := by kernel_rfl
theorem co69 : callOK Tryd.prog 69 = true := by kernel_rfl
theorem co70 : callOK Tryd.prog 70 = true := by kernel_rfl
theorem co71 : callOK Tryd.prog 71 = true := by kernel_rfl
theorem co72 : callOK Tryd.prog 72 = true := by kernel_rfl
theorem co73 : callOK Tryd.prog 73 = true := by kernel_rfl
theorem co74 : callOK Tryd.prog 74 = true := by kernel_rfl
theorem co75 : callOK Tryd.prog 75 = true := by kernel_rfl
theorem co76 : callOK Tryd.prog 76 = true := by kernel_rfl
theorem co77 : callOK Tryd.prog 77 = true := by kernel_rfl
theorem co78 : callOK Tryd.prog 78 = true := by kernel_rfl
theorem co79 : callOK Tryd.prog 79 = true := by kernel_rfl
theorem co80 : callOK Tryd.prog 80 = true := by kernel_rfl
theorem co81 : callOK Tryd.prog 81 = true := by kernel_rfl
theorem co82 : callOK Tryd.prog 82 = true := by kernel_rfl
theorem co83 : callOK Tryd.prog 83 = true := by kernel_rfl
theorem co86 : callOK Tryd.prog 86 = true := by kernel_rfl
theorem co87 : callOK Tryd.prog 87 = true := by kernel_rfl
theorem co88 : callOK Tryd.prog 88 = true := by kernel_rfl
theorem co90 : callOK Tryd.prog 90 = true := by kernel_rfl
theorem co101 : callOK Tryd.prog 101 = true := by kernel_rfl
theorem cl : (∀ (p : Prop) [Decidable p], (decide p = true) = p) ∧ (∀ (p : Prop) [Decidable p], (decide p = false) ↔ ¬ p) ∧ (∀ {α : Type} [BEq α] [LawfulBEq α] {a b : α}, (a == b) = true ↔ a = b) ∧
    (∀ {α : Type} [BEq α] [LawfulBEq α] {a b : α}, (a != b) = true ↔ a ≠ b) ∧ (∀ {α : Type} [BEq α] [LawfulBEq α] {a b : α}, (a != b) = false ↔ a = b) ∧ (∀ {α : Type} [BEq α] [LawfulBEq α] {a b : α}, (a == b) = false ↔ a ≠ b) ∧
    (∀ b : Bool, (¬ b = true) = (b = false)) ∧ (∀ b : Bool, (¬ b = false) = (b = true)) ∧ (∀ b : Bool, ((!b) = true) = (b = false)) ∧ (∀ b : Bool, ((!b) = false) = (b = true)) ∧ (∀ {α : Type} (a b : α), (a ≠ b) = ¬ a = b) :=
  ⟨fun p _ => decide_eq_true_eq, fun p _ => decide_eq_false_iff_not, beq_iff_eq, bne_iff_ne, bne_eq_false_iff_eq, beq_eq_false_iff_ne, fun b => Bool.not_eq_true b, fun b => Bool.not_eq_false b, fun b => Bool.not_eq_true' b, fun b => Bool.not_eq_false' b, fun a b => ne_eq a b⟩
end Go.Tv.C36

end
section
open Go Go.Tv Go.Proofs
namespace Go.Tv.C36

/-- A possible state. -/
structure Rep where
  next : Int
  have_ : Int
  key : Int
  locked : Bool
  deriving DecidableEq, Inhabited

structure Frm where
  seq : Int
  key : Int
  unlock : Bool
  body : List Int
  tag : Int
  deriving DecidableEq

structure Twn where
  sent : List Frm
  poss : List Rep
  deriving DecidableEq

def encI (n : Int) : Tr := .int .i64 n
def encBy (n : Int) : Tr := .int .u8 n
def encR (r : Rep) : Tr := .agg [encI r.next, encI r.have_, encI r.key, .bool r.locked]
def encF (f : Frm) : Tr := .agg [encI f.seq, encI f.key, .bool f.unlock, .sl (f.body.map encBy) false, .int .u64 f.tag]
def encT (t : Twn) : Tr := .agg [.sl (t.sent.map encF) false, .sl (t.poss.map encR) false]
def cellsR (r : Rep) : List Sc := [.int .i64 r.next, .int .i64 r.have_, .int .i64 r.key, .bool r.locked]
theorem cellsR_kind (r : Rep) : (cellsR r).map Sc.kind = [.int .i64, .int .i64, .int .i64, .bool] := rfl
theorem cellsR_inj (a b : Rep) (h : cellsR a = cellsR b) : a = b := by
  cases a; cases b
  simp only [cellsR, List.cons.injEq, Sc.int.injEq, Sc.bool.injEq, true_and, and_true] at h
  simp only [Rep.mk.injEq]
  exact h

abbrev zr : Rep := ⟨0, 0, 0, false⟩
abbrev zf : Frm := ⟨0, 0, false, [], 0⟩
abbrev zt : Twn := ⟨[], []⟩
abbrev w64 (n : Int) : Int := IntKind.i64.wrap n
def I64 (n : Int) : Prop := -9223372036854775808 ≤ n ∧ n ≤ 9223372036854775807

theorem take_succ_get {α : Type} {l : List α} {i : Nat} (h : i < l.length) : l.take (i + 1) = l.take i ++ [l[i]] := by
  rw [List.take_add_one, List.getElem?_eq_getElem h]; rfl
theorem mem_take_succ {α : Type} {l : List α} {i : Nat} (h : i < l.length) {x : α} : x ∈ l.take (i + 1) ↔ x ∈ l.take i ∨ x = l[i] := by
  rw [take_succ_get h, List.mem_append, List.mem_singleton]

/-- n modulo m, never negative. -/
def around (n m : Int) : Int := (if n < 0 then -(n + 1) else n) % m
theorem around_range {n m : Int} (hm : 0 < m) : 0 ≤ around n m ∧ around n m < m := by
  unfold around
  exact ⟨Int.emod_nonneg _ (by omega), Int.emod_lt_of_pos _ hm⟩
theorem tmod_pos {a m : Int} (h : 0 ≤ a) : a.tmod m = a % m := Int.tmod_eq_emod_of_nonneg h

def state (next have_ key : Int) (locked : Bool) : Rep := ⟨around next 600, around have_ 32768, around key 10000, locked⟩

/-! ### Apply -/
/-- What the counts of two numbers lie apart, modulo 256. -/
def dist (f : Frm) (s : Rep) : Int := (f.seq - s.next) % 256
/-- How many ones end a number. -/
def trl : Nat → Nat → Nat
  | 0, _ => 0
  | f + 1, h => if h % 2 = 1 then 1 + trl f (h / 2) else 0
def ones (n : Int) : Nat := trl 64 n.toNat

def apply (s : Rep) (f : Frm) : Rep :=
  if f.key < s.key ∨ w64 (s.key + 4096) < f.key then s
  else if f.unlock then ⟨if dist f s < 128 then w64 (s.next + dist f s) else s.next, 0, w64 (f.key + 1), false⟩
  else if s.locked then ⟨s.next, s.have_, w64 (f.key + 1), true⟩
  else if dist f s = 0 then ⟨w64 (s.next + (1 + (ones s.have_ : Nat))), (s.have_.toNat / 2 ^ (1 + ones s.have_) : Nat), w64 (f.key + 1), false⟩
  else if dist f s < 16 then ⟨s.next, (s.have_.toNat ||| 2 ^ (dist f s - 1).toNat : Nat), w64 (f.key + 1), false⟩
  else ⟨s.next, s.have_, w64 (f.key + 1), decide (dist f s < 128)⟩

/-- The numbers of a state that arise. -/
def HP (s : Rep) : Prop := 0 ≤ s.have_ ∧ s.have_ < 32768

/-! ### Order -/
def less (a b : Rep) : Bool :=
  if a.next ≠ b.next then decide (a.next < b.next)
  else if a.have_ ≠ b.have_ then decide (a.have_ < b.have_)
  else if a.key ≠ b.key then decide (a.key < b.key)
  else !a.locked && b.locked
def cmpI (a b : Int) : Int := if a < b then -1 else if b < a then 1 else 0
def orI : List Int → Int
  | [] => 0
  | x :: l => if x ≠ 0 then x else orI l
def flag (b : Bool) : Int := if b then 1 else 0
def cmpR (a b : Rep) : Int := orI [cmpI a.next b.next, cmpI a.have_ b.have_, cmpI a.key b.key, cmpI (flag a.locked) (flag b.locked)]

def put (l : List Rep) (s : Rep) : List Rep := match l with
  | [] => [s]
  | x :: m => if less x s then x :: put m s else if x = s then x :: m else s :: x :: m

/-! ### Maps of states -/
noncomputable def KR : MapK Tryd.prog 23 Rep := MapK.scs Tryd.underlying23 ts23s ti23 cellsR cellsR_kind cellsR_inj
abbrev XU : MapX Unit := MapX.unit
def setL (l : List Rep) : List (Rep × Unit) := l.map fun r => (r, ())
def ins (l : List Rep) (r : Rep) : List Rep := if r ∈ l then l else l ++ [r]
theorem put_set (l : List Rep) (r : Rep) : putA r () (setL l) = setL (ins l r) := by
  induction l with
  | nil => rfl
  | cons a l ih =>
    unfold setL at *
    rw [List.map_cons]
    unfold putA
    by_cases h : r = a
    · subst h; rw [if_pos rfl]; unfold ins; rw [if_pos List.mem_cons_self]; rfl
    · rw [if_neg h, ih]
      unfold ins
      by_cases h2 : r ∈ l
      · rw [if_pos h2, if_pos (List.mem_cons_of_mem _ h2)]; rfl
      · rw [if_neg h2, if_neg (by simp [h, h2])]; rfl
theorem look_set (l : List Rep) (r : Rep) : lookA r (setL l) = if r ∈ l then some () else none := by
  induction l with
  | nil => rfl
  | cons a l ih =>
    unfold setL at *
    rw [List.map_cons]
    unfold lookA
    by_cases h : r = a
    · subst h; rw [if_pos rfl, if_pos List.mem_cons_self]
    · rw [if_neg h, ih]; simp [h]
theorem ins_nodup {l : List Rep} {r : Rep} (h : l.Nodup) : (ins l r).Nodup := by
  unfold ins
  split
  · exact h
  · rename_i hr
    rw [List.nodup_append]
    exact ⟨h, by simp, fun a ha b hb => by simp at hb; subst hb; exact fun e => hr (e ▸ ha)⟩
theorem ins_mem {l : List Rep} {r x : Rep} : x ∈ ins l r ↔ x ∈ l ∨ x = r := by
  unfold ins
  split
  · exact ⟨.inl, fun h => h.elim id (fun e => by rw [e]; assumption)⟩
  · simp

/-- A frozen set of states. -/
noncomputable def mset (l : List Rep) : Tr := .mpd (mapL KR XU (setL l))
end Go.Tv.C36

end
section
open Go Go.Tv Go.Proofs
namespace Go.Tv.C36

theorem w8 (n : Int) : IntKind.u8.wrap n = n % 256 := by simp [IntKind.wrap, IntKind.bits, IntKind.signed]
theorem wu64 (n : Int) : IntKind.u64.wrap n = n % 18446744073709551616 := by simp [IntKind.wrap, IntKind.bits, IntKind.signed]
theorem wi64 (n : Int) : IntKind.i64.wrap n = (n + 9223372036854775808) % 18446744073709551616 - 9223372036854775808 := by
  show (if (true && decide (n % 2 ^ 64 ≥ 2 ^ (64 - 1))) = true then n % 2 ^ 64 - 2 ^ 64 else n % 2 ^ 64) = _
  simp only [Bool.true_and, decide_eq_true_eq, ge_iff_le]
  split <;> omega
theorem w64_w64 (a b : Int) : w64 (w64 a + b) = w64 (a + b) := by unfold w64; simp only [wi64]; omega

theorem dist_range (f : Frm) (s : Rep) : 0 ≤ dist f s ∧ dist f s < 256 := by
  unfold dist
  exact ⟨Int.emod_nonneg _ (by decide), Int.emod_lt_of_pos _ (by decide)⟩
theorem dist_u8 (f : Frm) (s : Rep) : IntKind.u8.wrap (IntKind.u8.wrap f.seq - IntKind.u8.wrap s.next) = dist f s := by
  simp only [w8]; unfold dist; omega
theorem dist_i64 (f : Frm) (s : Rep) : IntKind.i64.wrap (dist f s) = dist f s := by
  have := dist_range f s
  rw [wi64]; omega

theorem ofInt_nat (x : Nat) : BitVec.ofInt 64 (x : Int) = BitVec.ofNat 64 x := by
  apply BitVec.eq_of_toNat_eq
  simp

/-- What ^ gives at uint64. -/
theorem xor_ones {x : Nat} (hx : x < 18446744073709551616) : uop .xor (.int .u64 (x : Int)) = some (.int .u64 ((18446744073709551615 - x : Nat) : Int)) := by
  have h1 : BitVec.ofInt 64 (18446744073709551615 : Int) = BitVec.allOnes 64 := by decide
  have h2 : (BitVec.ofInt 64 (18446744073709551615 : Int) ^^^ BitVec.ofInt 64 (x : Int)).toNat = 18446744073709551615 - x := by
    rw [h1, ofInt_nat, BitVec.allOnes_xor, BitVec.toNat_not, BitVec.toNat_ofNat, Nat.mod_eq_of_lt hx]
  show some (Tr.int .u64 (IntKind.u64.wrap ((BitVec.ofInt 64 (18446744073709551615 : Int) ^^^ BitVec.ofInt 64 (x : Int)).toNat : Int))) = _
  rw [h2, wu64, show ((18446744073709551615 - x : Nat) : Int) % 18446744073709551616 = ((18446744073709551615 - x : Nat) : Int) from by omega]

theorem and_nat {x y : Nat} (hx : x < 18446744073709551616) (hy : y < 18446744073709551616) : iop .and .u64 (x : Int) (y : Int) = some (.int .u64 ((x &&& y : Nat) : Int)) := by
  have h2 : (BitVec.ofInt 64 (x : Int) &&& BitVec.ofInt 64 (y : Int)).toNat = x &&& y := by
    rw [ofInt_nat, ofInt_nat, BitVec.toNat_and, BitVec.toNat_ofNat, BitVec.toNat_ofNat, Nat.mod_eq_of_lt hx, Nat.mod_eq_of_lt hy]
  show some (Tr.int .u64 (IntKind.u64.wrap ((BitVec.ofInt 64 (x : Int) &&& BitVec.ofInt 64 (y : Int)).toNat : Int))) = _
  have h3 : x &&& y ≤ x := Nat.and_le_left
  rw [h2, wu64]
  generalize x &&& y = z at h3 ⊢
  rw [show (z : Int) % 18446744073709551616 = (z : Int) from by omega]

theorem or_nat {x y : Nat} (hx : x < 9223372036854775808) (hy : y < 9223372036854775808) : iop .or .i64 (x : Int) (y : Int) = some (.int .i64 ((x ||| y : Nat) : Int)) := by
  have h3 : x ||| y < 2 ^ 63 := Nat.or_lt_two_pow (by omega) (by omega)
  have h2 : (BitVec.ofInt 64 (x : Int) ||| BitVec.ofInt 64 (y : Int)).toNat = x ||| y := by
    rw [ofInt_nat, ofInt_nat, BitVec.toNat_or, BitVec.toNat_ofNat, BitVec.toNat_ofNat, Nat.mod_eq_of_lt (by omega), Nat.mod_eq_of_lt (by omega)]
  show some (Tr.int .i64 (IntKind.i64.wrap ((BitVec.ofInt 64 (x : Int) ||| BitVec.ofInt 64 (y : Int)).toNat : Int))) = _
  rw [h2, wi64]
  generalize x ||| y = z at h3 ⊢
  rw [show ((z : Int) + 9223372036854775808) % 18446744073709551616 - 9223372036854775808 = (z : Int) from by omega]

theorem neg_nat {x : Nat} (h0 : x ≠ 0) (hx : x < 18446744073709551616) : uop .neg (.int .u64 (x : Int)) = some (.int .u64 ((18446744073709551616 - x : Nat) : Int)) := by
  show some (Tr.int .u64 (IntKind.u64.wrap (0 - (x : Int)))) = _
  rw [wu64, show (0 - (x : Int)) % 18446744073709551616 = ((18446744073709551616 - x : Nat) : Int) from by omega]

/-- The table of math/bits. -/
def deB : List Int := [0, 1, 56, 2, 57, 49, 28, 3, 61, 58, 42, 50, 38, 29, 17, 4, 62, 47, 59, 36, 45, 43, 51, 22, 53, 39, 33, 30, 24, 18, 12, 5,
  63, 55, 48, 27, 60, 41, 37, 16, 46, 35, 44, 21, 52, 32, 23, 11, 54, 26, 40, 15, 34, 20, 31, 10, 25, 14, 19, 9, 13, 8, 7, 6]
def deT : Tr := .ptr (deB.map (Tr.int .u8))
def dix (k : Nat) : Nat := 2 ^ k * 285870213051353865 % 18446744073709551616 / 288230376151711744
theorem dix_lt {k : Nat} (h : k < 64) : dix k < 64 := (Lib.deBruijn64_at k h).1
theorem deB_get {k : Nat} (h : k < 64) : (deB.map (Tr.int .u8))[dix k * 1]? = some (.int .u8 (k : Int)) := by
  have : ∀ k, k < 64 → deB[dix k]? = some (k : Int) := by decide +kernel
  rw [Nat.mul_one, List.getElem?_map, this k h]; rfl

theorem ctzFrom_not : ∀ (f h : Nat), h < 2 ^ f → Lib.ctzFrom f (2 ^ f - 1 - h) = trl f h
  | 0, _, _ => rfl
  | f + 1, h, hh => by
    unfold Lib.ctzFrom trl
    have hp : 2 ^ (f + 1) = 2 * 2 ^ f := by rw [Nat.pow_succ, Nat.mul_comm]
    have hpos : 0 < 2 ^ f := Nat.pos_of_ne_zero (by simp)
    by_cases h1 : h % 2 = 1
    · rw [if_neg (by omega), if_pos h1]
      have e : (2 ^ (f + 1) - 1 - h) / 2 = 2 ^ f - 1 - h / 2 := by omega
      rw [e, ctzFrom_not f (h / 2) (by omega)]
    · rw [if_pos (by omega), if_neg h1]

theorem tz_not {s : Rep} (h : HP s) : (Lib.ctz 64 (18446744073709551615 - s.have_.toNat) : Nat) = ones s.have_ := by
  unfold HP at h
  unfold Lib.ctz ones
  rw [if_neg (by omega)]
  exact ctzFrom_not 64 s.have_.toNat (by omega)

theorem trl_le : ∀ (f h : Nat), trl f h ≤ f
  | 0, _ => Nat.le_refl _
  | f + 1, h => by
    unfold trl
    split
    · have := trl_le f (h / 2); omega
    · omega
theorem ones_le (n : Int) : ones n ≤ 64 := trl_le 64 _

section
variable {P : Program} {o : Oper} {D : St}
theorem eff_shlE {t ty : TypeId} {x y : Operand} {k yk : IntKind} {n m r : Int} (hd : dstOK D.n o.dst = true) (ho : o.op = .binOp .shl t x y ty)
    (hx : D.ev x = .t (.int k n)) (hy : D.ev y = .t (.int yk m)) (hm : 0 ≤ m) (hr : k.wrap (n * 2 ^ (min m.toNat k.bits)) = r) : Eff P o D ⟨.t (.int k r), []⟩ := by
  subst hr; exact eff_shl hd ho hx hy hm
end

theorem shl_one {d : Int} (h : 0 < d) (h2 : d < 16) : IntKind.i64.wrap (1 * 2 ^ (min (d - 1).toNat IntKind.i64.bits)) = ((2 ^ (d - 1).toNat : Nat) : Int) := by
  have e : min (d - 1).toNat IntKind.i64.bits = (d - 1).toNat := Nat.min_eq_left (by show (d - 1).toNat ≤ 64; omega)
  have hp : 2 ^ (d - 1).toNat < 2 ^ 15 := Nat.pow_lt_pow_right (by decide) (by omega)
  have hc : ((2 ^ (d - 1).toNat : Nat) : Int) = (2 : Int) ^ (d - 1).toNat := by simp
  rw [e, Int.one_mul, ← hc, wi64]
  generalize 2 ^ (d - 1).toNat = p at hp ⊢
  omega

theorem shr_have {s : Rep} (h : HP s) (n : Nat) (hn : n ≤ 65) : s.have_.fdiv (2 ^ (min (1 + (n : Int)).toNat IntKind.i64.bits)) = ((s.have_.toNat / 2 ^ (1 + n) : Nat) : Int) := by
  unfold HP at h
  have hs : s.have_ = (s.have_.toNat : Int) := by omega
  have hc : ∀ m : Nat, (2 : Int) ^ m = ((2 ^ m : Nat) : Int) := fun m => by simp
  have hlt : s.have_.toNat < 2 ^ 15 := by omega
  rw [hs, hc, Int.fdiv_eq_ediv_of_nonneg _ (Int.natCast_nonneg _), ← Int.natCast_ediv, Int.toNat_natCast]
  congr 1
  rcases Nat.lt_or_ge (1 + n) 64 with h1 | h1
  · congr 2
    show min _ 64 = _
    omega
  · rw [Nat.div_eq_of_lt, Nat.div_eq_of_lt]
    · exact Nat.lt_of_lt_of_le hlt (Nat.pow_le_pow_right (by decide) (by omega))
    · refine Nat.lt_of_lt_of_le hlt (Nat.pow_le_pow_right (by decide) ?_)
      show 15 ≤ min _ 64
      omega

/-! ### The ways through Apply -/
theorem apply_stay {s : Rep} {f : Frm} (h : f.key < s.key ∨ w64 (s.key + 4096) < f.key) : apply s f = s := by unfold apply; rw [if_pos h]
theorem apply_unl {s : Rep} {f : Frm} {n : Int} (h : ¬ (f.key < s.key ∨ w64 (s.key + 4096) < f.key)) (hu : f.unlock = true) (hn : (if dist f s < 128 then w64 (s.next + dist f s) else s.next) = n) : apply s f = ⟨n, 0, w64 (f.key + 1), false⟩ := by
  unfold apply; rw [if_neg h, if_pos hu, hn]
theorem apply_lock {s : Rep} {f : Frm} (h : ¬ (f.key < s.key ∨ w64 (s.key + 4096) < f.key)) (hu : f.unlock = false) (hl : s.locked = true) : apply s f = ⟨s.next, s.have_, w64 (f.key + 1), s.locked⟩ := by
  unfold apply; rw [if_neg h, if_neg (by rw [hu]; decide), if_pos hl, hl]
theorem apply_zero {s : Rep} {f : Frm} (h : ¬ (f.key < s.key ∨ w64 (s.key + 4096) < f.key)) (hu : f.unlock = false) (hl : s.locked = false) (hd : dist f s = 0) : apply s f = ⟨w64 (s.next + (1 + (ones s.have_ : Nat))), (s.have_.toNat / 2 ^ (1 + ones s.have_) : Nat), w64 (f.key + 1), s.locked⟩ := by
  unfold apply; rw [if_neg h, if_neg (by rw [hu]; decide), if_neg (by rw [hl]; decide), if_pos hd, hl]
theorem apply_near {s : Rep} {f : Frm} (h : ¬ (f.key < s.key ∨ w64 (s.key + 4096) < f.key)) (hu : f.unlock = false) (hl : s.locked = false) (hd : dist f s ≠ 0) (hd2 : dist f s < 16) : apply s f = ⟨s.next, (s.have_.toNat ||| 2 ^ (dist f s - 1).toNat : Nat), w64 (f.key + 1), s.locked⟩ := by
  unfold apply; rw [if_neg h, if_neg (by rw [hu]; decide), if_neg (by rw [hl]; decide), if_neg hd, if_pos hd2, hl]
theorem apply_far {s : Rep} {f : Frm} {b : Bool} (h : ¬ (f.key < s.key ∨ w64 (s.key + 4096) < f.key)) (hu : f.unlock = false) (hl : s.locked = false) (hd2 : ¬ dist f s < 16) (hb : decide (dist f s < 128) = b) : apply s f = ⟨s.next, s.have_, w64 (f.key + 1), b⟩ := by
  unfold apply; rw [if_neg h, if_neg (by rw [hu]; decide), if_neg (by rw [hl]; decide), if_neg (by omega), if_neg hd2, hb]

theorem apply_hp {s : Rep} {f : Frm} (h : HP s) : HP (apply s f) := by
  unfold apply
  split
  · exact h
  · split
    · exact ⟨Int.le_refl _, by show (0 : Int) < 32768; decide⟩
    · split
      · exact h
      · split
        · unfold HP at h ⊢
          have : s.have_.toNat / 2 ^ (1 + ones s.have_) ≤ s.have_.toNat := Nat.div_le_self _ _
          constructor
          · exact Int.natCast_nonneg _
          · show ((s.have_.toNat / 2 ^ (1 + ones s.have_) : Nat) : Int) < 32768
            omega
        · split
          · rename_i hd0 hd
            unfold HP at h ⊢
            have hr := dist_range f s
            have h1 : s.have_.toNat < 2 ^ 15 := by omega
            have h2 : 2 ^ (dist f s - 1).toNat < 2 ^ 15 := Nat.pow_lt_pow_right (by decide) (by omega)
            have h3 := Nat.or_lt_two_pow h1 h2
            constructor
            · exact Int.natCast_nonneg _
            · show ((s.have_.toNat ||| 2 ^ (dist f s - 1).toNat : Nat) : Int) < 32768
              omega
          · exact h

/-! ### Lists -/
/-- Where the first element with a property stands, or -1. -/
def fIx {α : Type} (p : α → Bool) (l : List α) : Int := match l.findIdx? p with
  | some i => (i : Int)
  | none => -1
theorem fIx_hit {α : Type} {p : α → Bool} {l : List α} {i : Nat} (hi : i < l.length) (h : ∀ b, b ∈ l.take i → p b = false) (he : p l[i] = true) : fIx p l = (i : Int) := by
  unfold fIx
  have : l.findIdx? p = some i := by
    rw [List.findIdx?_eq_some_iff_getElem]
    refine ⟨hi, he, fun j hj => ?_⟩
    have := h l[j] (by
      rw [List.mem_iff_getElem]
      exact ⟨j, by simp; omega, by simp⟩)
    simp [this]
  rw [this]
theorem fIx_none {α : Type} {p : α → Bool} {l : List α} (h : ∀ b, b ∈ l → p b = false) : fIx p l = -1 := by
  unfold fIx
  have : l.findIdx? p = none := by
    rw [List.findIdx?_eq_none_iff]
    intro b hb
    exact h b hb
  rw [this]
theorem fIx_neg {α : Type} {p : α → Bool} {l : List α} : fIx p l < 0 ↔ ∀ b, b ∈ l → p b = false := by
  constructor
  · intro h b hb
    cases hp : p b with
    | false => rfl
    | true =>
      exfalso
      unfold fIx at h
      cases hf : l.findIdx? p with
      | none => rw [List.findIdx?_eq_none_iff] at hf; rw [hf b hb] at hp; cases hp
      | some i => rw [hf] at h; simp only at h; omega
  · intro h
    rw [fIx_none h]; decide
theorem fIx_mem {l : List Rep} {r : Rep} : decide (fIx (fun x => decide (r = x)) l ≥ 0) = decide (r ∈ l) := by
  refine decide_eq_decide.2 ⟨fun h => ?_, fun h => ?_⟩
  · refine Classical.byContradiction fun hn => ?_
    have := fIx_neg.2 (fun b hb => (decide_eq_false (fun e => hn (by rw [e]; exact hb)) : decide (r = b) = false))
    omega
  · refine Classical.byContradiction fun hn => ?_
    have := fIx_neg.1 (show fIx (fun x => decide (r = x)) l < 0 by omega) r h
    simp at this

theorem orI_hit : ∀ {l : List Int} {i : Nat} (hi : i < l.length), (∀ y, y ∈ l.take i → y = 0) → l[i] ≠ 0 → orI l = l[i]
  | [], i, hi, _, _ => by simp at hi
  | x :: l, 0, _, _, h => by unfold orI; exact if_pos h
  | x :: l, i + 1, hi, h0, h => by
    unfold orI
    rw [if_neg (by have := h0 x (by simp); omega)]
    exact orI_hit (l := l) (i := i) (by simpa using hi) (fun y hy => h0 y (by simp [hy])) h
theorem orI_none : ∀ {l : List Int}, (∀ y, y ∈ l → y = 0) → orI l = 0
  | [], _ => rfl
  | x :: l, h => by unfold orI; rw [if_neg (by have := h x List.mem_cons_self; omega)]; exact orI_none fun y hy => h y (List.mem_cons_of_mem _ hy)

theorem tmod_range (n : Int) : -256 < n.tmod 256 ∧ n.tmod 256 < 256 := by
  rcases Int.le_total 0 n with h | h
  · rw [Int.tmod_eq_emod_of_nonneg h]; omega
  · have : n.tmod 256 = -((-n).tmod 256) := by rw [Int.neg_tmod, Int.neg_neg]
    rw [this, Int.tmod_eq_emod_of_nonneg (by omega)]; omega
theorem tmod_fix (n : Int) : (if n.tmod 256 < 0 then n.tmod 256 + 256 else n.tmod 256) = n % 256 := by
  rcases Int.le_total 0 n with h | h
  · rw [Int.tmod_eq_emod_of_nonneg h, if_neg (by omega)]
  · have : n.tmod 256 = -((-n).tmod 256) := by rw [Int.neg_tmod, Int.neg_neg]
    rw [this, Int.tmod_eq_emod_of_nonneg (by omega)]
    split <;> omega

theorem twice_pow (k : Nat) (hk : k < 60) : iop .mul .i64 2 ((2 ^ k : Nat) : Int) = some (encI ((2 ^ (k + 1) : Nat) : Int)) := by
  have e : 2 ^ (k + 1) = 2 * 2 ^ k := by rw [Nat.pow_succ, Nat.mul_comm]
  have hp : 2 ^ k < 2 ^ 60 := Nat.pow_lt_pow_right (by decide) hk
  rw [e]
  generalize 2 ^ k = z at hp ⊢
  rw [imul (by omega)]
  unfold encI
  congr 2
theorem mul_u64 (a b : Nat) : iop .mul .u64 (a : Int) (b : Int) = some (.int .u64 ((a * b % 18446744073709551616 : Nat) : Int)) := by
  show some (Tr.int .u64 (IntKind.u64.wrap ((a : Int) * (b : Int)))) = _
  rw [wu64, ← Int.natCast_mul]
  congr 2
theorem shr58 (k : Nat) : ((2 ^ k * 285870213051353865 % 18446744073709551616 : Nat) : Int).fdiv (2 ^ (min (58 : Int).toNat IntKind.u64.bits)) = ((dix k : Nat) : Int) := by
  rw [Int.fdiv_eq_ediv_of_nonneg _ (by decide)]
  have e : (2 : Int) ^ (min (58 : Int).toNat IntKind.u64.bits) = ((288230376151711744 : Nat) : Int) := by decide
  rw [e, ← Int.natCast_ediv]
  rfl

theorem uneg {n : Int} (h : -9223372036854775807 ≤ n ∧ n ≤ 9223372036854775807) : uop .neg (.int .i64 n) = some (.int .i64 (-n)) := by
  show some (Tr.int .i64 (IntKind.i64.wrap (0 - n))) = _
  rw [wrap64 (by omega) (by omega), Int.zero_sub]
def hv (h : Nat) : Nat → Nat
  | 0 => h
  | k + 1 => hv h k / 2
theorem hv_eq (h : Nat) : ∀ k, hv h k = h / 2 ^ k
  | 0 => by simp [hv]
  | k + 1 => by rw [hv, hv_eq h k, Nat.pow_succ, Nat.div_div_eq_div_mul]
theorem hv_le (h : Nat) (k : Nat) : hv h k ≤ h := by rw [hv_eq]; exact Nat.div_le_self _ _
theorem half_hv (h k : Nat) (hh : h < 32768) : IntKind.i64.wrap (((hv h k : Nat) : Int).tdiv 2) = ((hv h (k + 1) : Nat) : Int) := by
  have h1 := hv_le h k
  show _ = ((hv h k / 2 : Nat) : Int)
  generalize hv h k = z at h1 ⊢
  rw [Int.tdiv_eq_ediv_of_nonneg (Int.natCast_nonneg _), wi64]
  omega

theorem weak_raise {n : Nat} {fr : Fra} {st : Sto} {id g k : Nat} {ty : TypeId} {els : List AV} (g' : Nat) (hs : sget st id = some ⟨k, ty, g, els⟩) (hg : g < g') :
    Weak ⟨n, fr, st⟩ ⟨n, fr, (id, some ⟨k, ty, g', els⟩) :: st⟩ := by
  intro F β a w hr
  obtain ⟨q1, _, q3⟩ := hr.bump (g' := g') (ob := ⟨k, ty, g, els⟩) hs hg
  refine ⟨β, ⟨q1.defers, q1.size, fun i => q1.fr i, q1.ob, q1.inj, q1.notF, q1.ltF⟩, fun b hb => ?_⟩
  obtain ⟨m, ob, hm, hb⟩ := hb
  change sget (sput st id (some ⟨k, ty, g', els⟩)) m = some ob at hm
  rw [sget_sput] at hm
  split at hm
  · rename_i e; rw [e] at hb; exact ⟨id, _, hs, hb⟩
  · exact ⟨m, ob, hm, hb⟩

theorem less_next {a b : Rep} (h : a.next ≠ b.next) : less a b = decide (a.next < b.next) := by unfold less; rw [if_pos h]
theorem less_have {a b : Rep} (h : a.next = b.next) (h2 : a.have_ ≠ b.have_) : less a b = decide (a.have_ < b.have_) := by unfold less; rw [if_neg (by omega), if_pos h2]
theorem less_key {a b : Rep} (h : a.next = b.next) (h2 : a.have_ = b.have_) (h3 : a.key ≠ b.key) : less a b = decide (a.key < b.key) := by unfold less; rw [if_neg (by omega), if_neg (by omega), if_pos h3]
theorem less_l1 {a b : Rep} (h : a.next = b.next) (h2 : a.have_ = b.have_) (h3 : a.key = b.key) (h4 : a.locked = false) : less a b = b.locked := by unfold less; rw [if_neg (by omega), if_neg (by omega), if_neg (by omega), h4]; rfl
theorem less_l2 {a b : Rep} (h : a.next = b.next) (h2 : a.have_ = b.have_) (h3 : a.key = b.key) (h4 : a.locked = true) : less a b = false := by unfold less; rw [if_neg (by omega), if_neg (by omega), if_neg (by omega), h4]; rfl
theorem isubN {d : Int} (h : 1 ≤ d) (h2 : d ≤ 256) : iop .sub .i64 d 1 = some (encI (((d - 1).toNat : Nat) : Int)) := by
  rw [isub (by omega), show d - 1 = (((d - 1).toNat : Nat) : Int) from by omega]; rfl
theorem hv_big {h : Nat} (hh : h < 32768) : hv h 15 = 0 := by rw [hv_eq]; exact Nat.div_eq_of_lt hh
theorem trl_odd {f x : Nat} (h : x % 2 = 1) : trl (f + 1) x = 1 + trl f (x / 2) := by rw [trl, if_pos h]
theorem trl_even {f x : Nat} (h : x % 2 ≠ 1) : trl f x = 0 := by
  cases f with
  | zero => rfl
  | succ f => rw [trl, if_neg h]
theorem trl_step {h k : Nat} (hk : k ≤ 15) (ht : trl 64 h = k + trl (64 - k) (hv h k)) (ho : hv h k % 2 = 1) : trl 64 h = (k + 1) + trl (64 - (k + 1)) (hv h (k + 1)) := by
  have e : 64 - k = (64 - (k + 1)) + 1 := by omega
  rw [ht, e, trl_odd ho, hv]; omega
theorem trl_end {h k : Nat} (ht : trl 64 h = k + trl (64 - k) (hv h k)) (ho : hv h k % 2 ≠ 1) : trl 64 h = k := by
  rw [ht, trl_even ho]; rfl

theorem or_set {h i : Nat} (hb : h / 2 ^ i % 2 = 1) : h ||| 2 ^ i = h := by
  apply Nat.eq_of_testBit_eq
  intro j
  rw [Nat.testBit_or, Nat.testBit_two_pow]
  by_cases e : i = j
  · subst e
    have : h.testBit i = true := by rw [Nat.testBit_eq_decide_div_mod_eq]; simpa using hb
    simp [this]
  · simp [e]
theorem or_add {h i : Nat} (hh : h < 32768) (hi : i < 15) (hb : h / 2 ^ i % 2 ≠ 1) : h + 2 ^ i = h ||| 2 ^ i := by
  have hp : 2 ^ i < 2 ^ 15 := Nat.pow_lt_pow_right (by decide) hi
  have h1 : BitVec.ofNat 64 h &&& BitVec.ofNat 64 (2 ^ i) = 0#64 := by
    apply BitVec.eq_of_toNat_eq
    rw [BitVec.toNat_and, BitVec.toNat_ofNat, BitVec.toNat_ofNat, Nat.mod_eq_of_lt (by omega), Nat.mod_eq_of_lt (by omega)]
    apply Nat.eq_of_testBit_eq
    intro j
    rw [Nat.testBit_and, Nat.testBit_two_pow]
    by_cases e : i = j
    · subst e
      have : h.testBit i = false := by rw [Nat.testBit_eq_decide_div_mod_eq]; simpa using hb
      simp [this]
    · simp [e]
  have h2 := BitVec.add_eq_or_of_and_eq_zero _ _ h1
  have h3 := congrArg BitVec.toNat h2
  rw [BitVec.toNat_add, BitVec.toNat_or, BitVec.toNat_ofNat, BitVec.toNat_ofNat, Nat.mod_eq_of_lt (show h < 2 ^ 64 by omega), Nat.mod_eq_of_lt (show 2 ^ i < 2 ^ 64 by omega), Nat.mod_eq_of_lt (by omega)] at h3
  exact h3
theorem addN {a b : Nat} (h : a + b < 1000000) : iop .add .i64 (a : Int) (b : Int) = some (encI ((a + b : Nat) : Int)) := by
  rw [iadd (by omega), ← Int.natCast_add]; rfl
theorem w64_step (n : Int) (k : Nat) : w64 (w64 (n + (1 + (k : Nat))) + 1) = w64 (n + (1 + ((k + 1 : Nat) : Int))) := by
  rw [w64_w64, Int.natCast_add]
  congr 1
  omega

theorem elF {l : List Frm} {i : Nat} (h : i < l.length) : ((l.map encF).map AV.t)[i]? = some (.t (encF l[i])) := by simp [h]
theorem setF_same {l : List Frm} {i : Nat} (h : i < l.length) : ((l.map encF).map AV.t).set i (.t (.agg [encI l[i].seq, encI l[i].key, .bool l[i].unlock, .sl (l[i].body.map encBy) false, .int .u64 l[i].tag])) = (l.map encF).map AV.t := by
  apply List.ext_getElem?
  intro j
  rw [List.getElem?_set]
  split
  · rename_i e; subst e
    rw [elF h]
    simp [h]
    rfl
  · rfl
theorem tz_ones {h : Nat} (hh : h < 32768) : (Lib.ctz 64 (18446744073709551615 - h) : Nat) = ones ((h : Nat) : Int) := tz_not (s := ⟨0, ((h : Nat) : Int), 0, false⟩) ⟨Int.natCast_nonneg _, by show ((h : Nat) : Int) < 32768; omega⟩

/-- A tree in a slot may be weakened. -/
theorem weak_slot {n : Nat} {fr : Fra} {st : Sto} (d : Nat) {x y : Tr} (h : fget fr d = .t x) (hw : Wk x y) : Weak ⟨n, fr, st⟩ ⟨n, (d, .t y) :: fr, st⟩ := by
  intro F β a w hr
  refine ⟨β, ⟨hr.defers, hr.size, fun i => ?_, hr.ob, hr.inj, hr.notF, hr.ltF⟩, fun b hb => hb⟩
  show VA w _ _ _ (fget (fput fr d (.t y)) i) _
  rw [fget_fput]
  split
  · rename_i e
    have hv := hr.fr d
    rw [show fget (St.mk n fr st).fr d = fget fr d from rfl, h] at hv
    rw [e]
    cases hv with
    | t h => exact .t (hw.v h)
  · exact hr.fr i
end Go.Tv.C36

end
section
open Go Go.Tv Go.Proofs
namespace Go.Tv.C36

/-! ### put -/
theorem put_at : ∀ (l : List Rep) (x : Rep) (k : Nat), k ≤ l.length → (∀ y, y ∈ l.take k → less y x = true) → put l x = l.take k ++ put (l.drop k) x
  | l, x, 0, _, _ => by simp
  | [], x, k + 1, h, _ => by simp at h
  | a :: l, x, k + 1, h, ha => by
    rw [List.take_succ_cons, List.drop_succ_cons, List.cons_append, ← put_at l x k (by simpa using h) (fun y hy => ha y (by rw [List.take_succ_cons]; exact List.mem_cons_of_mem _ hy))]
    rw [put, if_pos (ha a (by simp))]
theorem put_same {l : List Rep} {x : Rep} {k : Nat} (hk : k < l.length) (ha : ∀ y, y ∈ l.take k → less y x = true) (hl : less l[k] x = false) (he : l[k] = x) : put l x = l := by
  rw [put_at l x k (by omega) ha, List.drop_eq_getElem_cons hk, put, if_neg (by rw [hl]; decide), if_pos he]
  rw [← List.drop_eq_getElem_cons hk, List.take_append_drop]
theorem put_new {l : List Rep} {x : Rep} {k : Nat} (hk : k < l.length) (ha : ∀ y, y ∈ l.take k → less y x = true) (hl : less l[k] x = false) (he : l[k] ≠ x) : put l x = l.take k ++ x :: l.drop k := by
  rw [put_at l x k (by omega) ha, List.drop_eq_getElem_cons hk, put, if_neg (by rw [hl]; decide), if_neg he]
theorem put_end {l : List Rep} {x : Rep} {k : Nat} (hk : ¬ k < l.length) (hk2 : k ≤ l.length) (ha : ∀ y, y ∈ l.take k → less y x = true) : put l x = l.take k ++ x :: l.drop k := by
  rw [put_at l x k hk2 ha, List.drop_of_length_le (by omega), put]
theorem put_mem {l : List Rep} {x y : Rep} : y ∈ put l x ↔ y ∈ l ∨ y = x := by
  induction l with
  | nil => simp [put]
  | cons a l ih =>
    unfold put
    split
    · simp only [List.mem_cons, ih]
      constructor
      · rintro (h | h | h)
        · exact .inl (.inl h)
        · exact .inl (.inr h)
        · exact .inr h
      · rintro ((h | h) | h)
        · exact .inl h
        · exact .inr (.inl h)
        · exact .inr (.inr h)
    · split
      · rename_i h; subst h; simp only [List.mem_cons]; constructor
        · exact .inl
        · rintro (h | h)
          · exact h
          · exact .inl h
      · simp only [List.mem_cons]
        constructor
        · rintro (h | h | h)
          · exact .inr h
          · exact .inl (.inl h)
          · exact .inl (.inr h)
        · rintro ((h | h) | h)
          · exact .inr (.inl h)
          · exact .inr (.inr h)
          · exact .inl h
theorem put_len (l : List Rep) (x : Rep) : (put l x).length ≤ l.length + 1 := by
  induction l with
  | nil => simp [put]
  | cons a l ih =>
    unfold put
    split
    · simp only [List.length_cons]; omega
    · split <;> simp
theorem put_hp {l : List Rep} {x : Rep} (h : ∀ y, y ∈ l → HP y) (hx : HP x) : ∀ y, y ∈ put l x → HP y := fun y hy => by
  rcases put_mem.1 hy with h1 | rfl
  · exact h y h1
  · exact hx

/-- All states of now, also as f leads on from them, put into out. -/
def stepI (f : Frm) (out now : List Rep) : List Rep := now.foldl (fun o s => put o (apply s f)) out
def stepF (out : List Rep) (f : Frm) : List Rep := stepI f out out
theorem stepI_take {f : Frm} {out now : List Rep} {j : Nat} (h : j < now.length) : stepI f out (now.take (j + 1)) = put (stepI f out (now.take j)) (apply now[j] f) := by
  unfold stepI; rw [take_succ_get h, List.foldl_append]; rfl
theorem stepI_len (f : Frm) (out : List Rep) : ∀ (now : List Rep) (j : Nat), j ≤ now.length → (stepI f out (now.take j)).length ≤ out.length + j
  | now, 0, _ => by simp [stepI]
  | now, j + 1, h => by
    rw [stepI_take (by omega)]
    have := stepI_len f out now j (by omega)
    have := put_len (stepI f out (now.take j)) (apply now[j] f)
    omega
theorem stepI_hp {f : Frm} {out : List Rep} (ho : ∀ y, y ∈ out → HP y) : ∀ (now : List Rep) (_ : ∀ y, y ∈ now → HP y), ∀ y, y ∈ stepI f out now → HP y
  | [], _, y, hy => ho y hy
  | a :: l, hn, y, hy => by
    unfold stepI at hy
    rw [List.foldl_cons] at hy
    exact stepI_hp (put_hp ho (apply_hp (hn a List.mem_cons_self))) l (fun z hz => hn z (List.mem_cons_of_mem _ hz)) y hy
theorem stepI_mem {f : Frm} : ∀ (now out : List Rep) (y : Rep), y ∈ stepI f out now ↔ y ∈ out ∨ ∃ x, x ∈ now ∧ y = apply x f
  | [], out, y => by simp [stepI]
  | a :: l, out, y => by
    unfold stepI
    rw [List.foldl_cons]
    have := stepI_mem (f := f) l (put out (apply a f)) y
    unfold stepI at this
    rw [this, put_mem]
    constructor
    · rintro ((h | h) | ⟨x, hx, h⟩)
      · exact .inl h
      · exact .inr ⟨a, List.mem_cons_self, h⟩
      · exact .inr ⟨x, List.mem_cons_of_mem _ hx, h⟩
    · rintro (h | ⟨x, hx, h⟩)
      · exact .inl (.inl h)
      · rcases List.mem_cons.1 hx with rfl | hx
        · exact .inl (.inr h)
        · exact .inr ⟨x, hx, h⟩
theorem stepF_len (out : List Rep) (f : Frm) : (stepF out f).length ≤ 2 * out.length := by
  have := stepI_len f out out out.length (Nat.le_refl _)
  rw [List.take_length] at this
  unfold stepF; omega
theorem stepF_hp {out : List Rep} {f : Frm} (h : ∀ y, y ∈ out → HP y) : ∀ y, y ∈ stepF out f → HP y := stepI_hp h out h

def reachF (x : Rep) (l : List Frm) : List Rep := l.foldl stepF [x]
theorem reachF_take {x : Rep} {l : List Frm} {i : Nat} (h : i < l.length) : reachF x (l.take (i + 1)) = stepF (reachF x (l.take i)) l[i] := by
  unfold reachF; rw [take_succ_get h, List.foldl_append]; rfl

/-! ### Send and Hear -/
/-- f is not later than what was sent last. -/
def late (l : List Frm) (f : Frm) : Bool := match l.getLast? with
  | some x => decide (x.key ≥ f.key)
  | none => false
def send (t : Twn) (f : Frm) : Twn × Int :=
  if late t.sent f then (zt, 23)
  else if (stepF t.poss f).length > 256 then (zt, 2)
  else (⟨t.sent ++ [f], stepF t.poss f⟩, 0)
/-- The frames that a report leaves open. -/
def open_ (l : List Frm) (r : Rep) : List Frm := l.filter fun f => decide (r.key ≤ f.key)
def left_ (t : Twn) (r : Rep) : List Rep := t.poss.filter fun x => decide (x ∈ reachF r (open_ t.sent r))
def hear (t : Twn) (r : Rep) : Twn × Int := if left_ t r = [] then (zt, 45) else (⟨t.sent, left_ t r⟩, 0)

theorem late_at {l : List Frm} {f : Frm} (h : 0 < l.length) : late l f = decide (f.key ≤ (l[l.length - 1]).key) := by
  unfold late
  rw [List.getLast?_eq_getElem?, List.getElem?_eq_getElem (by omega)]
theorem late_nil {l : List Frm} {f : Frm} (h : ¬ 0 < l.length) : late l f = false := by
  obtain rfl : l = [] := List.length_eq_zero_iff.1 (by omega)
  rfl
theorem send_late {t : Twn} {f : Frm} (h : late t.sent f = true) : send t f = (zt, 23) := by unfold send; rw [if_pos h]
theorem send_many {t : Twn} {f : Frm} (h : late t.sent f = false) (h2 : ((stepF t.poss f).length : Int) > 256) : send t f = (zt, 2) := by unfold send; rw [if_neg (by rw [h]; decide), if_pos (by omega)]
theorem send_ok {t : Twn} {f : Frm} (h : late t.sent f = false) (h2 : ¬ ((stepF t.poss f).length : Int) > 256) : send t f = (⟨t.sent ++ [f], stepF t.poss f⟩, 0) := by unfold send; rw [if_neg (by rw [h]; decide), if_neg (by omega)]
theorem hear_no {t : Twn} {r : Rep} (h : ((left_ t r).length : Int) = 0) : hear t r = (zt, 45) := by unfold hear; rw [if_pos (List.length_eq_zero_iff.1 (by omega))]
theorem hear_ok {t : Twn} {r : Rep} (h : ¬ ((left_ t r).length : Int) = 0) : hear t r = (⟨t.sent, left_ t r⟩, 0) := by unfold hear; rw [if_neg (fun e => h (by rw [e]; rfl))]

theorem filter_take_succ {α : Type} {p : α → Bool} {l : List α} {i : Nat} (h : i < l.length) : (l.take (i + 1)).filter p = (l.take i).filter p ++ if p l[i] then [l[i]] else [] := by
  rw [take_succ_get h, List.filter_append]
  cases hp : p l[i] <;> simp [hp]
theorem pow_le_12 {i : Nat} (h : i ≤ 12) : 2 ^ i ≤ 4096 := Nat.pow_le_pow_right (n := 2) (by decide) h

theorem open_skip {l : List Frm} {r : Rep} {i : Nat} (h : i < l.length) (hk : (l[i]).key < r.key) : open_ (l.take (i + 1)) r = open_ (l.take i) r := by
  unfold open_; rw [filter_take_succ h, if_neg (by simp; omega), List.append_nil]
theorem open_take {l : List Frm} {r : Rep} {i : Nat} (h : i < l.length) (hk : ¬ (l[i]).key < r.key) : open_ (l.take (i + 1)) r = open_ (l.take i) r ++ [l[i]] := by
  unfold open_; rw [filter_take_succ h, if_pos (by simp; omega)]
theorem reach_skip {l : List Frm} {r : Rep} {i : Nat} (h : i < l.length) (hk : (l[i]).key < r.key) : reachF r (open_ (l.take (i + 1)) r) = reachF r (open_ (l.take i) r) := by rw [open_skip h hk]
theorem reach_more {l : List Frm} {r : Rep} {i : Nat} (h : i < l.length) (hk : ¬ (l[i]).key < r.key) : reachF r (open_ (l.take (i + 1)) r) = stepF (reachF r (open_ (l.take i) r)) l[i] := by
  rw [open_take h hk]; unfold reachF; rw [List.foldl_append]; rfl
theorem reachF_hp {x : Rep} (hx : HP x) : ∀ (l : List Frm) (out : List Rep), (∀ y, y ∈ out → HP y) → ∀ y, y ∈ l.foldl stepF out → HP y
  | [], out, h => h
  | f :: l, out, h => reachF_hp hx l (stepF out f) (stepF_hp h)
theorem reach_hp {x : Rep} (hx : HP x) (l : List Frm) : ∀ y, y ∈ reachF x l → HP y := reachF_hp hx l [x] (by intro y hy; rw [List.mem_singleton.1 hy]; exact hx)
theorem reachF_len : ∀ (l : List Frm) (out : List Rep), (l.foldl stepF out).length ≤ out.length * 2 ^ l.length
  | [], out => by simp
  | f :: l, out => by
    have h1 := reachF_len l (stepF out f)
    have h2 := stepF_len out f
    rw [List.foldl_cons, List.length_cons, Nat.pow_succ]
    calc _ ≤ _ := h1
      _ ≤ (2 * out.length) * 2 ^ l.length := Nat.mul_le_mul_right _ h2
      _ = out.length * (2 ^ l.length * 2) := by rw [Nat.mul_comm 2, Nat.mul_assoc, Nat.mul_comm 2]
theorem reach_len (x : Rep) (l : List Frm) (n : Nat) (h : l.length ≤ n) : (reachF x l).length ≤ 2 ^ n := by
  have := reachF_len l [x]
  have h2 := Nat.pow_le_pow_right (n := 2) (by decide) h
  unfold reachF
  simp only [List.length_singleton, Nat.one_mul] at this
  omega
theorem open_len (l : List Frm) (r : Rep) (i : Nat) : (open_ (l.take i) r).length ≤ l.length := by
  unfold open_
  have := List.length_filter_le (fun f : Frm => decide (r.key ≤ f.key)) (l.take i)
  simp at this ⊢
  omega
theorem left_take {t : Twn} {r : Rep} {i : Nat} (h : i < t.poss.length) : (t.poss.take (i + 1)).filter (fun x => decide (x ∈ reachF r (open_ t.sent r))) = (t.poss.take i).filter (fun x => decide (x ∈ reachF r (open_ t.sent r))) ++ if t.poss[i] ∈ reachF r (open_ t.sent r) then [t.poss[i]] else [] := by
  rw [filter_take_succ h]; simp
end Go.Tv.C36

end
section
open Go Go.Tv Go.Proofs
namespace Go.Tv.C36

/-! ### The order -/
theorem less_iff {a b : Rep} : less a b = true ↔ a.next < b.next ∨ (a.next = b.next ∧ (a.have_ < b.have_ ∨ (a.have_ = b.have_ ∧ (a.key < b.key ∨ (a.key = b.key ∧ a.locked = false ∧ b.locked = true))))) := by
  unfold less
  by_cases h1 : a.next ≠ b.next
  · rw [if_pos h1]; simp only [decide_eq_true_eq]; omega
  · rw [if_neg h1]
    by_cases h2 : a.have_ ≠ b.have_
    · rw [if_pos h2]; simp only [decide_eq_true_eq]; omega
    · rw [if_neg h2]
      by_cases h3 : a.key ≠ b.key
      · rw [if_pos h3]; simp only [decide_eq_true_eq]; omega
      · rw [if_neg h3]
        cases a.locked <;> cases b.locked <;> simp <;> omega
theorem less_irrefl (a : Rep) : less a a = false := by
  rw [Bool.eq_false_iff]; intro h; rw [less_iff] at h
  rcases h with h | ⟨_, h | ⟨_, h | ⟨_, h, h2⟩⟩⟩
  · omega
  · omega
  · omega
  · rw [h] at h2; cases h2
theorem less_trans {a b c : Rep} (h : less a b = true) (k : less b c = true) : less a c = true := by
  rw [less_iff] at *
  rcases h with h | ⟨e1, h | ⟨e2, h | ⟨e3, h, h'⟩⟩⟩ <;> rcases k with k | ⟨f1, k | ⟨f2, k | ⟨f3, k, k'⟩⟩⟩
  all_goals first
    | (left; omega)
    | (right; refine ⟨by omega, ?_⟩; left; omega)
    | (right; refine ⟨by omega, ?_⟩; right; refine ⟨by omega, ?_⟩; left; omega)
    | (right; refine ⟨by omega, ?_⟩; right; refine ⟨by omega, ?_⟩; right; exact ⟨by omega, h, k'⟩)
theorem less_total {a b : Rep} (h : a ≠ b) : less a b = true ∨ less b a = true := by
  rw [less_iff, less_iff]
  rcases Int.lt_trichotomy a.next b.next with h1 | h1 | h1
  · exact .inl (.inl h1)
  · rcases Int.lt_trichotomy a.have_ b.have_ with h2 | h2 | h2
    · exact .inl (.inr ⟨h1, .inl h2⟩)
    · rcases Int.lt_trichotomy a.key b.key with h3 | h3 | h3
      · exact .inl (.inr ⟨h1, .inr ⟨h2, .inl h3⟩⟩)
      · obtain ⟨n, v, k, l⟩ := a
        obtain ⟨n', v', k', l'⟩ := b
        simp only at h1 h2 h3
        subst h1 h2 h3
        cases l <;> cases l' <;> simp_all
      · exact .inr (.inr ⟨h1.symm, .inr ⟨h2.symm, .inl h3⟩⟩)
    · exact .inr (.inr ⟨h1.symm, .inl h2⟩)
  · exact .inr (.inl h1)
theorem less_asymm {a b : Rep} (h : less a b = true) : less b a = false := by
  rw [Bool.eq_false_iff]; intro k
  have := less_trans h k
  rw [less_irrefl] at this; cases this

def Srt (l : List Rep) : Prop := l.Pairwise fun a b => less a b = true
theorem srt_nodup {l : List Rep} (h : Srt l) : l.Nodup := List.Pairwise.imp (fun {a b} hab e => by subst e; rw [less_irrefl] at hab; cases hab) h
theorem srt_put {l : List Rep} {x : Rep} (h : Srt l) : Srt (put l x) := by
  induction l with
  | nil => exact List.pairwise_singleton _ _
  | cons a l ih =>
    unfold Srt at h
    rw [List.pairwise_cons] at h
    unfold put
    split
    · rename_i hax
      refine List.pairwise_cons.2 ⟨fun y hy => ?_, ih h.2⟩
      rcases put_mem.1 hy with hy | rfl
      · exact h.1 y hy
      · exact hax
    · rename_i hax
      split
      · exact List.pairwise_cons.2 h
      · rename_i hne
        have hxa : less x a = true := (less_total hne).elim (fun e => absurd e hax) id
        refine List.pairwise_cons.2 ⟨fun y hy => ?_, List.pairwise_cons.2 h⟩
        rcases List.mem_cons.1 hy with rfl | hy
        · exact hxa
        · exact less_trans hxa (h.1 y hy)
theorem srt_stepI {f : Frm} : ∀ (now out : List Rep), Srt out → Srt (stepI f out now)
  | [], _, h => h
  | a :: l, out, h => by
    unfold stepI
    rw [List.foldl_cons]
    exact srt_stepI l _ (srt_put h)
theorem srt_stepF {out : List Rep} {f : Frm} (h : Srt out) : Srt (stepF out f) := srt_stepI out out h
theorem srt_reachF : ∀ (l : List Frm) (out : List Rep), Srt out → Srt (l.foldl stepF out)
  | [], _, h => h
  | f :: l, out, h => srt_reachF l _ (srt_stepF h)
theorem srt_reach (x : Rep) (l : List Frm) : Srt (reachF x l) := srt_reachF l [x] (List.pairwise_singleton _ _)
theorem stepF_mem {out : List Rep} {f : Frm} {y : Rep} : y ∈ stepF out f ↔ y ∈ out ∨ ∃ x, x ∈ out ∧ y = apply x f := stepI_mem out out y

theorem perm_of_mem {l m : List Rep} (hl : l.Nodup) (hm : m.Nodup) (h : ∀ x, x ∈ l ↔ x ∈ m) : l.Perm m := by
  induction l generalizing m with
  | nil =>
    cases m with
    | nil => exact .refl _
    | cons a m => exact absurd ((h a).2 List.mem_cons_self) (by simp)
  | cons a l ih =>
    have ha : a ∈ m := (h a).1 List.mem_cons_self
    obtain ⟨s, t, rfl⟩ := List.append_of_mem ha
    have hm2 : (a :: (s ++ t)).Nodup := (List.perm_middle.nodup_iff).1 hm
    rw [List.nodup_cons] at hl hm2
    refine ((ih hl.2 hm2.2 (fun x => ?_)).cons a).trans List.perm_middle.symm
    have hx := h x
    constructor
    · intro hxl
      have := hx.1 (List.mem_cons_of_mem _ hxl)
      rcases List.mem_append.1 this with h1 | h1
      · exact List.mem_append_left _ h1
      · rcases List.mem_cons.1 h1 with rfl | h1
        · exact absurd hxl hl.1
        · exact List.mem_append_right _ h1
    · intro hxm
      have : x ∈ a :: l := hx.2 (by
        rcases List.mem_append.1 hxm with h1 | h1
        · exact List.mem_append_left _ h1
        · exact List.mem_append_right _ (List.mem_cons_of_mem _ h1))
      rcases List.mem_cons.1 this with rfl | h1
      · exact absurd hxm hm2.1
      · exact h1

/-- Two sorted lists of the same states are one. -/
theorem srt_ext {l m : List Rep} (hl : Srt l) (hm : Srt m) (hp : l.Perm m) : l = m := by
  refine List.Perm.eq_of_pairwise (le := fun a b => less a b = true) ?_ hl hm hp
  intro a b _ _ h1 h2
  exact absurd h2 (by rw [less_asymm h1]; decide)

/-! ### compare -/
theorem cmpR_neg {a b : Rep} : cmpR a b < 0 ↔ less a b = true := by
  rw [less_iff]
  unfold cmpR orI orI orI orI orI cmpI flag
  cases a.locked <;> cases b.locked <;> simp <;> (repeat' split) <;> omega
theorem cmpR_swo : Sort.SWO (ltOf cmpR) where
  irrefl x := by unfold ltOf; rw [decide_eq_false]; rw [cmpR_neg, less_irrefl]; decide
  trans x y z h1 h2 := by
    unfold ltOf at *
    rw [decide_eq_true_eq] at *
    rw [cmpR_neg] at *
    exact less_trans h1 h2
  ntrans x y z h1 h2 := by
    unfold ltOf at *
    rw [decide_eq_false_iff_not] at *
    rw [cmpR_neg] at *
    intro h
    by_cases e : x = y
    · subst e; exact h2 h
    · rcases less_total e with h3 | h3
      · exact h1 h3
      · exact h2 (less_trans h3 h)
theorem sort_srt {l m : List Rep} (hm : Srt m) (hp : l.Perm m) : sortA cmpR l = m := by
  have h1 := sortA_perm cmpR_swo l
  have h2 := sortA_sorted cmpR_swo l
  have hnd : (sortA cmpR l).Nodup := (h1.trans hp).nodup_iff.2 (srt_nodup hm)
  refine srt_ext ?_ hm (h1.trans hp)
  have h3 := h2.and hnd
  refine List.Pairwise.imp (fun {a b} hab => ?_) h3
  obtain ⟨h4, h5⟩ := hab
  rw [cmpR_neg] at h4
  rcases less_total h5 with h | h
  · exact h
  · exact absurd h h4

/-! ### Maps of states -/
theorem setL_len (l : List Rep) : (setL l).length = l.length := by simp [setL]
theorem setL_at {l : List Rep} {i : Nat} (h : i < (setL l).length) : (setL l)[i] = (l[i]'(by rw [setL_len] at h; exact h), ()) := by simp [setL]
theorem setL_nodup {l : List Rep} (h : l.Nodup) : ((setL l).map (·.1)).Nodup := by
  unfold setL; rw [List.map_map, show ((·.1) ∘ fun r : Rep => (r, ())) = id from rfl, List.map_id]; exact h
theorem setL_perm {l m : List Rep} (h : l.Perm m) : (mapL KR XU (setL l)).Perm (mapL KR XU (setL m)) := (h.map _).map _

section
variable {all l : List Oper} {o : Oper} {n : Nat} {fr : Fra} {st : Sto} {g : Gh} {K' : St → Gh → Prop} {F0 : Nat → Prop} {w0 : World}
theorem RJ.sMake {t : TypeId} {d : Tmp} (hg : o.guard = none) (hd : o.dst = some d) (hdn : dstOK n (some d) = true) (ho : o.op = .makeMap t none)
    (h : ∀ r, gget g r = none → RJ Tryd.prog none (JR F0 w0) all l ⟨n, (d, .t (.mp r)) :: fr, st⟩ ((r, mapO KR XU (setL [])) :: g) K') : RJ Tryd.prog none (JR F0 w0) all (o :: l) ⟨n, fr, st⟩ g K' :=
  RJ.rMake hg hd hdn ho h
theorem RJ.sPut {t ety : TypeId} {m k x : Operand} {r : Nat} (a : Rep) (lm : List Rep) (hg : o.guard = none) (hd : o.dst = none) (ho : o.op = .mapUpdate t m k x ∨ o.op = .insert t m k x) (ht : Tryd.prog.underlying t = some (.map 23 ety))
    (hm : (St.mk n fr st).ev m = .t (.mp r)) (hk : (St.mk n fr st).ev k = .t (encR a)) (hx : (St.mk n fr st).ev x = .t (.bool true)) (hgm : gget g r = some (mapO KR XU (setL lm)))
    (h : RJ Tryd.prog none (JR F0 w0) all l ⟨n, fr, st⟩ ((r, mapO KR XU (setL (ins lm a))) :: g) K') : RJ Tryd.prog none (JR F0 w0) all (o :: l) ⟨n, fr, st⟩ g K' :=
  RJ.rPut KR XU (a := a) (b := ()) (lm := setL lm) hg hd ho ht hm hk hx hgm (by rw [put_set]; exact h)
theorem RJ.sRange {t ety : TypeId} {x : Operand} {m : Nat} {lm : List Rep} {d : Tmp} (hg : o.guard = none) (hd : o.dst = some d) (hdn : dstOK n (some d) = true) (ho : o.op = .range t x) (ht : Tryd.prog.underlying t = some (.map 23 ety))
    (hx : (St.mk n fr st).ev x = .t (.mpx m (mapL KR XU (setL lm))))
    (h : ∀ r, gget g r = none → RJ Tryd.prog none (JR F0 w0) all l ⟨n, (d, .t (.adr r 0)) :: fr, st⟩ ((r, itM m lm.length []) :: g) K') : RJ Tryd.prog none (JR F0 w0) all (o :: l) ⟨n, fr, st⟩ g K' :=
  RJ.rRange KR XU hg hd hdn ho ht hx (by rw [setL_len]; exact h)
theorem RJ.sNext (y : Operand) {x : Operand} {r m : Nat} {seen : List Nat} {lm : List Rep} {d : Tmp} (hg : o.guard = none) (hd : o.dst = some d) (hdn : dstOK n (some d) = true) (ho : o.op = .next x false)
    (hx : (St.mk n fr st).ev x = .t (.adr r 0)) (hy : (St.mk n fr st).ev y = .t (.mpx m (mapL KR XU (setL lm)))) (hr0 : gget g r = some (itM m lm.length seen))
    (hf : (∀ i, i < lm.length → i ∈ seen) → RJ Tryd.prog none (JR F0 w0) all l ⟨n, (d, .t (.tup [.bool false])) :: fr, st⟩ g K')
    (h : ∀ (i : Nat) (hi : i < lm.length), i ∉ seen → RJ Tryd.prog none (JR F0 w0) all l ⟨n, (d, .t (.tup [.bool true, encR lm[i], .bool true])) :: fr, st⟩ ((r, itM m lm.length (seen ++ [i])) :: g) K') : RJ Tryd.prog none (JR F0 w0) all (o :: l) ⟨n, fr, st⟩ g K' :=
  RJ.rNext KR XU y hg hd hdn ho hx hy (by rw [setL_len]; exact hr0) (fun hh => hf (fun i hi => hh i (by rw [setL_len]; exact hi))) (fun i hi hs => by
    have e : itM m (setL lm).length (seen ++ [i]) = itM m lm.length (seen ++ [i]) := by rw [setL_len]
    rw [setL_at hi, e]
    exact h i (by rw [setL_len] at hi; exact hi) hs)
theorem RJ.sEntry (y : Operand) {x : Operand} {r m : Nat} {seen : List Nat} {lm : List Rep} {d : Tmp} {i : Nat} (hi : i < lm.length) (hg : o.guard = none) (hd : o.dst = some d) (hdn : dstOK n (some d) = true) (ho : o.op = .entry x)
    (hx : (St.mk n fr st).ev x = .t (.adr r 0)) (hy : (St.mk n fr st).ev y = .t (.mpx m (mapL KR XU (setL lm)))) (hr0 : gget g r = some (itM m lm.length (seen ++ [i])))
    (h : RJ Tryd.prog none (JR F0 w0) all l ⟨n, (d, .t (.tup [encR lm[i], .bool true])) :: fr, st⟩ g K') : RJ Tryd.prog none (JR F0 w0) all (o :: l) ⟨n, fr, st⟩ g K' :=
  RJ.rEntry KR XU y (lm := setL lm) (by rw [setL_len]; exact hi) hg hd hdn ho hx hy (by rw [setL_len]; exact hr0) (by
    rw [setL_at (by rw [setL_len]; exact hi)]
    exact h)
end

theorem awj_openS {γ : Type} {X : JP γ} {ro : Option Nat} {kp : Nat → Bool} {c : Code} {n : Nat} {fr : Fra} {st : Sto} {g : γ} {Q : Exit → St → γ → Prop} (i : Nat) {l : List Rep} (hi : fget fr i = .t (mset l))
    (h : ∀ b l', l'.Perm l → AWJ Tryd.prog ro kp X c ⟨n, (i, .t (.mpx b (mapL KR XU (setL l')))) :: fr, st⟩ g Q) : AWJ Tryd.prog ro kp X c ⟨n, fr, st⟩ g Q :=
  awj_open i (L := mapL KR XU (setL l)) hi (fun b L' hp => by
    obtain ⟨l2, hp2, rfl⟩ := perm_of_map (setL l) hp
    obtain ⟨l3, hp3, rfl⟩ := perm_of_map l hp2
    exact h b l3 hp3)
theorem awj_freezeS {kp : Nat → Bool} {c : Code} {n : Nat} {fr : Fra} {st : Sto} {g : Gh} {Q : Exit → St → Gh → Prop} {F0 : Nat → Prop} {w0 : World} (i : Nat) {r : Nat} {l0 : List Rep} (l : List Rep) (hi : fget fr i = .t (.mp r)) (hg : gget g r = some (mapO KR XU (setL l0))) (hp : l0.Perm l)
    (h : AWJ Tryd.prog none kp (JR F0 w0) c ⟨n, (i, .t (mset l)) :: fr, st⟩ (gdel r g) Q) : AWJ Tryd.prog none kp (JR F0 w0) c ⟨n, fr, st⟩ g Q :=
  awj_freeze i (mapL KR XU (setL l)) hi hg (setL_perm hp) h

/-- What came of a map so far, and f's states of it. -/
def cameF (l : List Rep) (f : Frm) (seen : List Nat) (cur : List Rep) : Prop := cur.Nodup ∧ ∀ y, y ∈ cur ↔ ∃ (i : Nat) (hi : i < l.length), i ∈ seen ∧ (y = l[i] ∨ y = apply l[i] f)
theorem cameF_nil (l : List Rep) (f : Frm) : cameF l f [] [] := ⟨List.nodup_nil, fun y => by simp⟩
theorem cameF_step {l : List Rep} {f : Frm} {seen : List Nat} {cur : List Rep} {i : Nat} (h : cameF l f seen cur) (hi : i < l.length) : cameF l f (seen ++ [i]) (ins (ins cur l[i]) (apply l[i] f)) := by
  obtain ⟨h1, h2⟩ := h
  refine ⟨ins_nodup (ins_nodup h1), fun y => ?_⟩
  rw [ins_mem, ins_mem, h2]
  constructor
  · rintro ((⟨j, hj, hs, hy⟩ | hy) | hy)
    · exact ⟨j, hj, List.mem_append_left _ hs, hy⟩
    · exact ⟨i, hi, by simp, .inl hy⟩
    · exact ⟨i, hi, by simp, .inr hy⟩
  · rintro ⟨j, hj, hs, hy⟩
    rcases List.mem_append.1 hs with hs | hs
    · exact .inl (.inl ⟨j, hj, hs, hy⟩)
    · simp at hs; subst hs
      rcases hy with hy | hy
      · exact .inl (.inr hy)
      · exact .inr hy
theorem cameF_end {l m : List Rep} {f : Frm} {seen : List Nat} {cur : List Rep} (hm : Srt m) (hp : l.Perm m) (h : cameF l f seen cur) (hall : ∀ i, i < l.length → i ∈ seen) : cur.Perm (stepF m f) := by
  refine perm_of_mem h.1 (srt_nodup (srt_stepF hm)) (fun y => ?_)
  rw [h.2, stepF_mem]
  constructor
  · rintro ⟨i, hi, _, hy | hy⟩
    · exact .inl (hp.mem_iff.1 (by rw [hy]; exact List.getElem_mem _))
    · exact .inr ⟨l[i], hp.mem_iff.1 (List.getElem_mem _), hy⟩
  · rintro (hy | ⟨x, hx, hy⟩)
    · obtain ⟨i, hi, e⟩ := List.mem_iff_getElem.1 (hp.mem_iff.2 hy)
      exact ⟨i, hi, hall i hi, .inl e.symm⟩
    · obtain ⟨i, hi, e⟩ := List.mem_iff_getElem.1 (hp.mem_iff.2 hx)
      exact ⟨i, hi, hall i hi, .inr (by rw [e]; exact hy)⟩

theorem nodup_len : ∀ (n : Nat) (s : List Nat), s.Nodup → (∀ j, j ∈ s → j < n) → s.length ≤ n
  | 0, [], _, _ => Nat.le_refl _
  | 0, a :: s, _, h => absurd (h a List.mem_cons_self) (by omega)
  | n + 1, s, hn, h => by
    have h1 := nodup_len n (s.erase n) (hn.erase n) (fun j hj => by
      have h2 := (hn.mem_erase_iff).1 hj
      have h3 := h j h2.2
      have h4 := h2.1
      omega)
    rw [List.length_erase] at h1
    split at h1 <;> omega
theorem seen_lt {n : Nat} {seen : List Nat} {i : Nat} (hn : seen.Nodup) (hb : ∀ j, j ∈ seen → j < n) (hi : i < n) (hs : i ∉ seen) : seen.length < n := by
  have h2 := nodup_len n (i :: seen) (List.nodup_cons.2 ⟨hs, hn⟩) (fun x hx => by
    rcases List.mem_cons.1 hx with rfl | hx
    · exact hi
    · exact hb x hx)
  simp at h2; omega
theorem seen_nodup {seen : List Nat} {i : Nat} (hn : seen.Nodup) (hs : i ∉ seen) : (seen ++ [i]).Nodup := by
  rw [List.nodup_append]
  exact ⟨hn, by simp, fun a ha b hb => by simp at hb; subst hb; exact fun e => hs (e ▸ ha)⟩
theorem seen_bound {n : Nat} {seen : List Nat} {i : Nat} (hb : ∀ j, j ∈ seen → j < n) (hi : i < n) : ∀ j, j ∈ seen ++ [i] → j < n := fun j hj => by
  rcases List.mem_append.1 hj with h | h
  · exact hb j h
  · simp at h; omega

/-- What came of a map so far, in its order. -/
def pick (l : List Rep) (seen : List Nat) : List Rep := seen.filterMap fun i => l[i]?
theorem pick_step {l : List Rep} {seen : List Nat} {i : Nat} (hi : i < l.length) : pick l (seen ++ [i]) = pick l seen ++ [l[i]] := by
  unfold pick; rw [List.filterMap_append]; simp [hi]
theorem pick_len {l : List Rep} {seen : List Nat} (h : ∀ j, j ∈ seen → j < l.length) : (pick l seen).length = seen.length := by
  induction seen with
  | nil => rfl
  | cons a s ih =>
    have ha := h a List.mem_cons_self
    have := ih (fun j hj => h j (List.mem_cons_of_mem _ hj))
    unfold pick at *
    rw [List.filterMap_cons, List.getElem?_eq_getElem ha]
    simp [this]
theorem pick_all {l : List Rep} {seen : List Nat} (hn : seen.Nodup) (hb : ∀ j, j ∈ seen → j < l.length) (hall : ∀ i, i < l.length → i ∈ seen) (hl : l.Nodup) : (pick l seen).Perm l := by
  have h1 : ∀ x, x ∈ pick l seen ↔ x ∈ l := by
    intro x
    unfold pick
    rw [List.mem_filterMap]
    constructor
    · rintro ⟨i, _, hx⟩; exact List.mem_of_getElem? hx
    · intro hx
      obtain ⟨i, hi, e⟩ := List.mem_iff_getElem.1 hx
      exact ⟨i, hall i hi, by rw [List.getElem?_eq_getElem hi, e]⟩
  refine perm_of_mem ?_ hl h1
  unfold pick
  refine List.Pairwise.filterMap _ (fun a a' hne b hb' b' hb'' e => ?_) hn
  subst e
  change l[a]? = some b at hb'
  change l[a']? = some b at hb''
  obtain ⟨ha, e1⟩ := List.getElem?_eq_some_iff.1 hb'
  obtain ⟨ha', e2⟩ := List.getElem?_eq_some_iff.1 hb''
  have hpw := List.pairwise_iff_getElem.1 hl
  rcases Nat.lt_trichotomy a a' with h | h | h
  · exact hpw a a' ha ha' h (e1.trans e2.symm)
  · exact hne h
  · exact hpw a' a ha' ha h (e2.trans e1.symm)

theorem eff_lenS {o : Oper} {D : St} {t kty ety : TypeId} {x : Operand} {l : List Rep} (hd : dstOK D.n o.dst = true) (ho : o.op = .call { callee := .builtin .len, args := #[x], argTypes := #[t] }) (ht : Tryd.prog.underlying t = some (.map kty ety))
    (hx : D.ev x = .t (mset l)) : Eff Tryd.prog o D ⟨.t (encI (l.length : Nat)), []⟩ := by
  have := eff_lenD (P := Tryd.prog) (L := mapL KR XU (setL l)) hd ho ht hx .d
  rwa [show (mapL KR XU (setL l)).length = l.length from by rw [mapL_length, setL_len]] at this
theorem eff_hasS {o : Oper} {D : St} {t ety : TypeId} {m k : Operand} {l : List Rep} (a : Rep) (hl : l.Nodup) (ht : Tryd.prog.underlying t = some (.map 23 ety)) (hz : zeroOf Tryd.prog ety = some (.bool false)) (hd : dstOK D.n o.dst = true) (ho : o.op = .lookup t m k false)
    (hm : D.ev m = .t (mset l)) (hk : D.ev k = .t (encR a)) : Eff Tryd.prog o D ⟨.t (.bool (decide (a ∈ l))), []⟩ :=
  eff_getD (P := Tryd.prog) KR XU (a := a) (l := setL l) (z := .bool false) (zv := .bool false) (ok := false) ht hz (solid_bool _) hd ho hm .d (setL_nodup hl) hk (by
    rw [look_set]
    by_cases h : a ∈ l
    · rw [if_pos h, decide_eq_true h]; rfl
    · rw [if_neg h, decide_eq_false h]; rfl)
theorem ins_take {l : List Rep} {i : Nat} (hn : l.Nodup) (hi : i < l.length) : ins (l.take i) l[i] = l.take (i + 1) := by
  unfold ins
  rw [if_neg, ← take_succ_get hi]
  intro h
  obtain ⟨j, hj, e⟩ := List.mem_iff_getElem.1 h
  rw [List.getElem_take] at e
  have hj2 : j < i := by rw [List.length_take] at hj; omega
  exact List.pairwise_iff_getElem.1 hn j i (by omega) hi hj2 e
theorem sortEls_eq (l : List Rep) : sortEls cellsR l = (l.map encR).map .t := by unfold sortEls; rw [List.map_map]; rfl

/-- An owned slice that is not empty is not nil. -/
theorem eff_ownNotNil {o : Oper} {D : St} {t ty e : TypeId} {k : Nat} {ag : Bool} {x : Operand} {id g off len : Nat} {ob : Ob} (hd : dstOK D.n o.dst = true) (ho : o.op = .binOp .eql t x (.const (.slice none 0 0)) ty) (ht : elemOf Tryd.prog t = some (e, k, ag))
    (hx : D.ev x = .own id g off len) (hs : sget D.st id = some ob) (hg : ob.gen = g) (hl : 0 < len) : Eff Tryd.prog o D ⟨.t (.bool false), []⟩ := by
  intro s hs' hfr F β a w hr next Q hn
  refine effS_nilEq (P := Tryd.prog) (m := len) hd ho ht hx (.inr ⟨id, g, off, ob, rfl, hs, hg⟩) s hs' ?_ F β a w hr next Q ?_
  · rintro e ⟨b, rfl, _⟩ i q hm
    simp at hm
  · rintro e ⟨b, rfl, hb⟩
    cases b with
    | false => exact hn
    | true => have := hb rfl; omega
end Go.Tv.C36

end
section
open Go Go.Tv Go.Proofs
namespace Go.Tv.C36

def frm (x : Int) (i : Nat) (key : Int) : Frm :=
  if around x 1000000 / 7 % 12 = 0 then ⟨imax 0 ((i : Int) - 3) + around x 1000000 % 7, key, true, [], 0⟩
  else if around x 1000000 / 7 % 12 = 1 then ⟨around x 1000000 / 84 % 300, key, false, [], 0⟩
  else ⟨imax 0 ((i : Int) - 3) + around x 1000000 % 7, key, false, [], 0⟩
def nxt (x key : Int) : Int := key + 1 + around x 1000000 / 84 % 40 / 39 * 5000
def keyAt (l : List Int) : Nat → Int
  | 0 => 0
  | j + 1 => nxt (l.getD j 0) (keyAt l j)
def frameAt (l : List Int) (j : Nat) : Frm := frm (l.getD j 0) j (keyAt l j)
def frames (l : List Int) (m : Nat) : List Frm := (List.range (min l.length m)).map (frameAt l)

theorem range_succ {α : Type} (f : Nat → α) (i : Nat) : (List.range (i + 1)).map f = (List.range i).map f ++ [f i] := by rw [List.range_succ, List.map_append]; rfl
theorem getD_get {l : List Int} {i : Nat} (h : i < l.length) : l.getD i 0 = l[i] := by simp [List.getD_eq_getElem?_getD, h]
theorem nxt_range (x key : Int) : key < nxt x key ∧ nxt x key ≤ key + 5001 := by
  unfold nxt
  have := around_range (n := x) (m := 1000000) (by decide)
  omega
theorem keyAt_range (l : List Int) : ∀ j : Nat, 0 ≤ keyAt l j ∧ keyAt l j ≤ 5001 * j
  | 0 => by simp [keyAt]
  | j + 1 => by
    have h1 := keyAt_range l j
    have h2 := nxt_range (l.getD j 0) (keyAt l j)
    show 0 ≤ nxt _ _ ∧ nxt _ _ ≤ _
    omega
theorem keyAt_mono (l : List Int) : ∀ {i j : Nat}, i < j → keyAt l i < keyAt l j
  | i, j + 1, h => by
    have h2 := nxt_range (l.getD j 0) (keyAt l j)
    rcases Nat.lt_or_ge i j with h1 | h1
    · have := keyAt_mono l h1
      show _ < nxt _ _
      omega
    · obtain rfl : i = j := by omega
      exact h2.1
theorem frame_key (l : List Int) (j : Nat) : (frameAt l j).key = keyAt l j := by
  unfold frameAt frm; split
  · rfl
  · split <;> rfl
theorem frame_body (l : List Int) (j : Nat) : (frameAt l j).body = [] := by
  unfold frameAt frm; split
  · rfl
  · split <;> rfl
theorem frames_len (l : List Int) (m : Nat) : (frames l m).length = min l.length m := by simp [frames]
theorem frames_get {l : List Int} {m j : Nat} (h : j < (frames l m).length) : (frames l m)[j] = frameAt l j := by simp [frames]
theorem frames_mem {l : List Int} {m : Nat} {f : Frm} (h : f ∈ frames l m) : ∃ j, j < min l.length m ∧ f = frameAt l j := by
  unfold frames at h
  obtain ⟨j, hj, rfl⟩ := List.mem_map.1 h
  exact ⟨j, List.mem_range.1 hj, rfl⟩
theorem quoN {n d : Int} (h : 0 ≤ n ∧ n ≤ 4000000000000000000) (hd : 0 < d) : IntKind.i64.wrap (n.tdiv d) = n / d := by
  rw [Int.tdiv_eq_ediv_of_nonneg h.1]
  have h1 := Int.ediv_nonneg h.1 (Int.le_of_lt hd)
  have h2 := Int.ediv_le_self d h.1
  rw [wi64]; omega
theorem frm_0 {x key : Int} {i : Nat} (h : around x 1000000 / 7 % 12 = 0) : frm x i key = ⟨imax 0 ((i : Int) - 3) + around x 1000000 % 7, key, true, [], 0⟩ := by unfold frm; rw [if_pos h]
theorem frm_1 {x key : Int} {i : Nat} (h : ¬ around x 1000000 / 7 % 12 = 0) (h2 : around x 1000000 / 7 % 12 = 1) : frm x i key = ⟨around x 1000000 / 84 % 300, key, false, [], 0⟩ := by unfold frm; rw [if_neg h, if_pos h2]
theorem frm_2 {x key : Int} {i : Nat} (h : ¬ around x 1000000 / 7 % 12 = 0) (h2 : ¬ around x 1000000 / 7 % 12 = 1) : frm x i key = ⟨imax 0 ((i : Int) - 3) + around x 1000000 % 7, key, false, [], 0⟩ := by unfold frm; rw [if_neg h, if_neg h2]
end Go.Tv.C36

end
section
open Go Go.Tv Go.Proofs
namespace Go.Tv.C36
abbrev f1 : Frm := ⟨1, 1, false, [], 0⟩
theorem hp0 : ∀ y, y ∈ [zr] → HP y := by intro y hy; rw [List.mem_singleton.1 hy]; exact ⟨by decide, by decide⟩
theorem srt0 : Srt [zr] := List.pairwise_singleton _ _
end Go.Tv.C36

end
section
open Go Go.Tv Go.Proofs
namespace Go.Tv.C36

structure Dec where
  tick : Int
  op : Int
  kind : Int
  seq : Int
  deriving DecidableEq, Inhabited

structure Rcd where
  tick : Int
  kind : Int
  frame : Frm
  rep : Rep
  dec : Dec
  deriving DecidableEq

structure Vrd where
  held : Bool
  wit : Rep
  deriving DecidableEq

abbrev zd : Dec := ⟨0, 0, 0, 0⟩
abbrev zc : Rcd := ⟨0, 0, zf, zr, zd⟩
abbrev zv : Vrd := ⟨false, zr⟩
instance : Inhabited Rcd := ⟨zc⟩

def encD (d : Dec) : Tr := .agg [encI d.tick, encI d.op, encI d.kind, encI d.seq]
def encC (r : Rcd) : Tr := .agg [encI r.tick, encI r.kind, encI r.frame.seq, encI r.frame.key, .bool r.frame.unlock, .sl (r.frame.body.map encBy) false, .int .u64 r.frame.tag,
  encI r.rep.next, encI r.rep.have_, encI r.rep.key, .bool r.rep.locked, encI r.dec.tick, encI r.dec.op, encI r.dec.kind, encI r.dec.seq]
def encV (v : Vrd) : Tr := .agg [.bool v.held, encI v.wit.next, encI v.wit.have_, encI v.wit.key, .bool v.wit.locked]
def cellsD (d : Dec) : List Sc := [.int .i64 d.tick, .int .i64 d.op, .int .i64 d.kind, .int .i64 d.seq]
def cellsV (v : Vrd) : List Sc := [.bool v.held, .int .i64 v.wit.next, .int .i64 v.wit.have_, .int .i64 v.wit.key, .bool v.wit.locked]
theorem cellsD_kind (d : Dec) : (cellsD d).map Sc.kind = [.int .i64, .int .i64, .int .i64, .int .i64] := rfl
theorem cellsV_kind (v : Vrd) : (cellsV v).map Sc.kind = [.bool, .int .i64, .int .i64, .int .i64, .bool] := rfl
theorem cellsD_inj (a b : Dec) (h : cellsD a = cellsD b) : a = b := by
  cases a; cases b
  simp only [cellsD, List.cons.injEq, Sc.int.injEq, true_and, and_true] at h
  simp only [Dec.mk.injEq]
  exact h
theorem cellsV_inj (a b : Vrd) (h : cellsV a = cellsV b) : a = b := by
  obtain ⟨ah, an, av, ak, al⟩ := a
  obtain ⟨bh, bn, bv, bk, bl⟩ := b
  simp only [cellsV, List.cons.injEq, Sc.int.injEq, Sc.bool.injEq, true_and, and_true] at h
  obtain ⟨rfl, rfl, rfl, rfl, rfl⟩ := h
  rfl

/-! ### Records -/
/-- The error of a record apart from twins; p: the tick of the record before it. -/
def formR (p : Int) (r : Rcd) : Int :=
  if r.kind < 1 ∨ 3 < r.kind then 1
  else if r.tick < 0 ∨ 1000000 < r.tick then 5
  else if r.tick < p then 23
  else if r.kind ≠ 3 then 0
  else if r.dec.tick ≠ r.tick ∨ r.dec.kind < 0 ∨ 3 < r.dec.kind ∨ r.dec.seq < 0 ∨ 1000000 < r.dec.seq then 1
  else 0
/-- The tick before record i. -/
def prevT (l : List Rcd) (i : Nat) : Int := if i = 0 then -1 else (l.getD (i - 1) zc).tick
def form (l : List Rcd) (i : Nat) : Int := formR (prevT l i) (l.getD i zc)
/-- The twin after a record. -/
def nextT (T : Twn) (r : Rcd) : Twn × Int := if r.kind = 1 then send T r.frame else if r.kind = 2 then hear T r.rep else (T, 0)
abbrev newT : Twn := ⟨[], [zr]⟩
def stp (l : List Rcd) (i : Nat) (p : Twn × Int) : Twn × Int :=
  if p.2 ≠ 0 then p else if form l i ≠ 0 then (zt, form l i) else if (nextT p.1 (l.getD i zc)).2 ≠ 0 then (zt, (nextT p.1 (l.getD i zc)).2) else ((nextT p.1 (l.getD i zc)).1, 0)
/-- What was known before record i, or the error of an earlier one. -/
def runTo (l : List Rcd) : Nat → Twn × Int
  | 0 => (newT, 0)
  | i + 1 => stp l i (runTo l i)
def allOf (l : List Rcd) : Twn × Int := if l.length > 500 then (zt, 2) else runTo l l.length

theorem getD_at {l : List Rcd} {i : Nat} (h : i < l.length) : l.getD i zc = l[i] := by simp [List.getD_eq_getElem?_getD, h]
theorem runTo_succ (l : List Rcd) (i : Nat) : runTo l (i + 1) = stp l i (runTo l i) := rfl
theorem runTo_err {l : List Rcd} {i : Nat} (h : (runTo l i).2 ≠ 0) : runTo l (i + 1) = runTo l i := by rw [runTo_succ]; unfold stp; rw [if_pos h]
theorem runTo_errs {l : List Rcd} {i : Nat} (h : (runTo l i).2 ≠ 0) : ∀ j, i ≤ j → runTo l j = runTo l i
  | 0, hj => by obtain rfl : i = 0 := by omega
                rfl
  | j + 1, hj => by
    rcases Nat.lt_or_ge j i with h1 | h1
    · obtain rfl : i = j + 1 := by omega
      rfl
    · have := runTo_errs h j h1
      rw [runTo_err (by rw [this]; exact h), this]
theorem runTo_ok {l : List Rcd} {i j : Nat} (h : (runTo l j).2 = 0) (hij : i ≤ j) : (runTo l i).2 = 0 := by
  by_cases h2 : (runTo l i).2 = 0
  · exact h2
  · rw [runTo_errs h2 j hij] at h; exact absurd h h2
theorem runTo_zt {l : List Rcd} : ∀ i, (runTo l i).2 ≠ 0 → (runTo l i).1 = zt
  | 0, h => absurd rfl h
  | i + 1, h => by
    rw [runTo_succ] at h ⊢
    unfold stp at h ⊢
    split
    · rename_i h1; exact runTo_zt i h1
    · rename_i h1
      rw [if_neg h1] at h
      split
      · rfl
      · rename_i h2
        rw [if_neg h2] at h
        split
        · rfl
        · rename_i h3; rw [if_neg h3] at h; exact absurd rfl h
/-- The run's next: the form fails, the twin fails, or it goes on. -/
theorem run_form {l : List Rcd} {i : Nat} (h0 : (runTo l i).2 = 0) (h : form l i ≠ 0) : runTo l (i + 1) = (zt, form l i) := by
  rw [runTo_succ]; unfold stp; rw [if_neg (by rw [h0]; exact fun h => h rfl), if_pos h]
theorem run_bad {l : List Rcd} {i : Nat} (h0 : (runTo l i).2 = 0) (h : form l i = 0) (h2 : (nextT (runTo l i).1 (l.getD i zc)).2 ≠ 0) : runTo l (i + 1) = (zt, (nextT (runTo l i).1 (l.getD i zc)).2) := by
  rw [runTo_succ]; unfold stp; rw [if_neg (by rw [h0]; exact fun h => h rfl), if_neg (by rw [h]; exact fun h => h rfl), if_pos h2]
theorem run_on {l : List Rcd} {i : Nat} (h0 : (runTo l i).2 = 0) (h : form l i = 0) (h2 : (nextT (runTo l i).1 (l.getD i zc)).2 = 0) : runTo l (i + 1) = ((nextT (runTo l i).1 (l.getD i zc)).1, 0) := by
  rw [runTo_succ]; unfold stp; rw [if_neg (by rw [h0]; exact fun h => h rfl), if_neg (by rw [h]; exact fun h => h rfl), if_neg (by rw [h2]; exact fun h => h rfl)]
theorem run_inv {l : List Rcd} {i : Nat} (h : (runTo l (i + 1)).2 = 0) : (runTo l i).2 = 0 ∧ form l i = 0 ∧ (nextT (runTo l i).1 (l.getD i zc)).2 = 0 ∧ runTo l (i + 1) = ((nextT (runTo l i).1 (l.getD i zc)).1, 0) := by
  have h0 := runTo_ok (i := i) h (by omega)
  by_cases h1 : form l i = 0
  · by_cases h2 : (nextT (runTo l i).1 (l.getD i zc)).2 = 0
    · exact ⟨h0, h1, h2, run_on h0 h1 h2⟩
    · rw [run_bad h0 h1 h2] at h; exact absurd h h2
  · rw [run_form h0 h1] at h; exact absurd h h1
/-- The run at a part of the ledger. -/
theorem form_take {l : List Rcd} {i n : Nat} (h : i < n) : form (l.take n) i = form l i := by
  unfold form prevT
  have e : ∀ j, j < n → (l.take n).getD j zc = l.getD j zc := fun j hj => by simp [List.getD_eq_getElem?_getD, List.getElem?_take, hj]
  rw [e i h]
  split
  · rfl
  · rw [e (i - 1) (by omega)]
theorem form_app {l m : List Rcd} {i : Nat} (h : i < l.length) : form (l ++ m) i = form l i := by
  have := form_take (l := l ++ m) (i := i) (n := l.length) h
  rwa [List.take_left', eq_comm] at this
  rfl
/-! ### What is right -/
def has (s : Rep) (q : Int) : Bool := decide (0 ≤ q - s.next - 1) && decide (q - s.next - 1 < 16) && decide (s.have_.toNat / 2 ^ (q - s.next - 1).toNat % 2 = 1)
def rightD (d : Dec) (s : Rep) (n : Int) : Bool :=
  if d.kind = 0 then !s.locked && decide (n ≤ s.next)
  else if d.kind = 1 then decide (d.seq < n) && decide (s.next ≤ d.seq) && !has s d.seq
  else if d.kind = 2 then s.locked
  else if d.kind = 3 then decide (d.seq < s.next)
  else false
def rights (T : Twn) (d : Dec) (n : Int) : List Rep := T.poss.filter fun s => rightD d s n
def sentS (n : Int) (r : Rcd) : Int := if r.kind = 1 ∧ r.frame.unlock = false then imax n (r.frame.seq + 1) else n
def sentN (l : List Rcd) : Int := l.foldl sentS 0

/-- Record i is the decision d. -/
def isD (l : List Rcd) (d : Dec) (i : Nat) : Bool := decide ((l.getD i zc).kind = 3 ∧ (l.getD i zc).dec = d)
def findD (l : List Rcd) (d : Dec) (n : Nat) : Option Nat := (List.range n).find? (isD l d)
def rightsAt (l : List Rcd) (d : Dec) (i : Nat) : List Rep := rights (runTo l i).1 d (sentN (l.take i))
def defence (l : List Rcd) (d : Dec) : List Rep × Int :=
  if (allOf l).2 ≠ 0 then ([], (allOf l).2) else match findD l d l.length with
    | none => ([], 3)
    | some i => (rightsAt l d i, 0)
def vOf (R : List Rep) : Vrd := match R with
  | [] => ⟨true, zr⟩
  | s :: _ => ⟨false, s⟩
def judge (l : List Rcd) (d : Dec) : Vrd × Int := if (defence l d).2 ≠ 0 then (zv, (defence l d).2) else (vOf (defence l d).1, 0)
def confirms (l : List Rcd) (d : Dec) (v : Vrd) : Bool :=
  if (defence l d).2 ≠ 0 ∨ v.held ≠ decide ((defence l d).1 = []) then false
  else if v.held then decide (v.wit = zr) else decide (v.wit ∈ (defence l d).1)
/-- Decision i is held. -/
def heldAt (l : List Rcd) (i : Nat) : Bool := decide ((l.getD i zc).kind = 3) && (rightsAt l (l.getD i zc).dec i).isEmpty
def heldTo (l : List Rcd) (n : Nat) : List Nat := (List.range n).filter (heldAt l)
def held (l : List Rcd) : List Nat × Int := if (allOf l).2 ≠ 0 then ([], (allOf l).2) else (heldTo l l.length, 0)
/-- How many of the records can be started: those to tick t. -/
def upTo (l : List Rcd) (t : Int) : Nat := (l.takeWhile fun r => decide (r.tick ≤ t)).length
def known (l : List Rcd) (t : Int) : Twn × Int := if (allOf l).2 ≠ 0 then (zt, (allOf l).2) else runTo l (upTo l t)

/-! ### What the code's road needs -/
/-- Ledgers that the functions are shown for. -/
structure OKL (l : List Rcd) : Prop where
  len : l.length ≤ 100000
  few : (l.filter fun r => decide (r.kind = 1)).length ≤ 12
  hp : ∀ r, r ∈ l → HP r.rep
  bod : ∀ r, r ∈ l → r.frame.body.length ≤ 1000000
  seq : ∀ r, r ∈ l → 0 ≤ r.frame.seq ∧ r.frame.seq ≤ 1000000
/-- A count that a receiver can have. -/
def NX (m : Int) (s : Rep) : Prop := 0 ≤ s.next ∧ s.next ≤ m
theorem apply_nx {m : Int} {s : Rep} {f : Frm} (h : NX m s) (hm : m ≤ 1000000000) : NX (m + 128) (apply s f) := by
  have hd := dist_range f s
  have ho := ones_le s.have_
  unfold NX at h ⊢
  unfold apply w64
  split
  · omega
  · split
    · split
      · simp only [wi64]; omega
      · show 0 ≤ s.next ∧ s.next ≤ _; omega
    · split
      · show 0 ≤ s.next ∧ s.next ≤ _; omega
      · split
        · simp only [wi64]; omega
        · split
          · show 0 ≤ s.next ∧ s.next ≤ _; omega
          · show 0 ≤ s.next ∧ s.next ≤ _; omega
theorem NX.mono {m n : Int} {s : Rep} (h : NX m s) (hm : m ≤ n) : NX n s := ⟨h.1, Int.le_trans h.2 hm⟩
structure Fit (k : Nat) (T : Twn) : Prop where
  nx : ∀ y, y ∈ T.poss → NX (128 * (k : Int)) y
  srt : Srt T.poss
  hp : ∀ y, y ∈ T.poss → HP y
  len : T.poss.length ≤ 256
  sl : T.sent.length ≤ k
  bod : ∀ x, x ∈ T.sent → x.body.length ≤ 1000000
theorem fit_new : Fit 0 newT where
  nx := by intro y hy; rw [List.mem_singleton.1 hy]; exact ⟨Int.le_refl _, Int.le_refl _⟩
  srt := srt0
  hp := hp0
  len := by decide
  sl := Nat.le_refl _
  bod := by intro x hx; cases hx
theorem fit_send {k T} (h : Fit k T) (hk : k ≤ 1000) {f : Frm} (hf : f.body.length ≤ 1000000) (hs : (send T f).2 = 0) : Fit (k + 1) (send T f).1 := by
  unfold send at hs ⊢
  split
  · rename_i h1; rw [if_pos h1] at hs; simp at hs
  · rename_i h1
    rw [if_neg h1] at hs
    split
    · rename_i h2; rw [if_pos h2] at hs; simp at hs
    · rename_i h2
      refine ⟨?_, srt_stepF h.srt, stepF_hp h.hp, ?_, ?_, ?_⟩
      · intro y hy
        rcases stepF_mem.1 hy with h3 | ⟨x, hx, rfl⟩
        · exact (h.nx y h3).mono (by omega)
        · exact (apply_nx (h.nx x hx) (by omega)).mono (by omega)
      · show (stepF T.poss f).length ≤ 256; omega
      · have := h.sl
        show (T.sent ++ [f]).length ≤ k + 1
        simp; omega
      · intro x hx
        rcases List.mem_append.1 hx with hx | hx
        · exact h.bod x hx
        · rw [List.mem_singleton.1 hx]; exact hf
theorem fit_hear {k T} (h : Fit k T) {r : Rep} (hs : (hear T r).2 = 0) : Fit k (hear T r).1 := by
  unfold hear at hs ⊢
  split
  · rename_i h1; rw [if_pos h1] at hs; simp at hs
  · have hle : (left_ T r).length ≤ T.poss.length := List.length_filter_le _ _
    exact ⟨fun y hy => h.nx y ((List.mem_filter.1 hy).1), h.srt.filter _, fun y hy => h.hp y ((List.mem_filter.1 hy).1), Nat.le_trans hle h.len, h.sl, h.bod⟩
theorem Fit.mono {k m T} (h : Fit k T) (hk : k ≤ m) : Fit m T := ⟨fun y hy => (h.nx y hy).mono (by omega), h.srt, h.hp, h.len, Nat.le_trans h.sl hk, h.bod⟩
def nSent (l : List Rcd) : Nat := (l.filter fun r => decide (r.kind = 1)).length
theorem nSent_succ {l : List Rcd} {i : Nat} (h : i < l.length) : nSent (l.take (i + 1)) = nSent (l.take i) + if (l.getD i zc).kind = 1 then 1 else 0 := by
  unfold nSent
  rw [filter_take_succ h, List.length_append, getD_at h]
  congr 1
  by_cases hk : (l[i]).kind = 1
  · rw [if_pos hk, if_pos (decide_eq_true hk)]; rfl
  · rw [if_neg hk, if_neg (by rw [decide_eq_false hk]; decide)]; rfl
theorem nSent_le (l : List Rcd) (i : Nat) : nSent (l.take i) ≤ nSent l := by
  unfold nSent
  exact (List.Sublist.filter _ (List.take_sublist i l)).length_le
theorem runTo_fit {l : List Rcd} (hl : OKL l) : ∀ i, i ≤ l.length → (runTo l i).2 = 0 → Fit (nSent (l.take i)) (runTo l i).1
  | 0, _, _ => by rw [List.take_zero]; exact fit_new
  | i + 1, hi, h => by
    obtain ⟨h0, h1, h2, h3⟩ := run_inv h
    have ih := runTo_fit hl i (by omega) h0
    rw [h3, nSent_succ (by omega)]
    show Fit _ (nextT _ _).1
    unfold nextT at h2 ⊢
    split
    · rename_i hk
      rw [if_pos hk] at h2
      refine fit_send ih (Nat.le_trans (nSent_le l i) (Nat.le_trans hl.few (by decide))) ?_ h2
      rw [getD_at (by omega)]; exact hl.bod _ (List.getElem_mem _)
    · rename_i hk
      rw [if_neg hk] at h2
      split
      · rename_i hk2; rw [if_pos hk2] at h2; exact fit_hear ih h2
      · exact ih
theorem runTo_fit12 {l : List Rcd} (hl : OKL l) {i : Nat} (hi : i ≤ l.length) (h : (runTo l i).2 = 0) : Fit 12 (runTo l i).1 :=
  (runTo_fit hl i hi h).mono (Nat.le_trans (nSent_le l i) hl.few)
theorem OKL.take {l : List Rcd} (h : OKL l) (n : Nat) : OKL (l.take n) where
  len := by have := h.len; rw [List.length_take]; omega
  few := Nat.le_trans (nSent_le l n) h.few
  hp := fun r hr => h.hp r (List.mem_of_mem_take hr)
  bod := fun r hr => h.bod r (List.mem_of_mem_take hr)
  seq := fun r hr => h.seq r (List.mem_of_mem_take hr)
theorem sentN_take {l : List Rcd} {i : Nat} (h : i < l.length) : sentN (l.take (i + 1)) = sentS (sentN (l.take i)) l[i] := by
  unfold sentN; rw [take_succ_get h, List.foldl_append]; rfl
theorem sentS_range {n : Int} {r : Rcd} (h : 0 ≤ n ∧ n ≤ 1000001) (hr : 0 ≤ r.frame.seq ∧ r.frame.seq ≤ 1000000) : 0 ≤ sentS n r ∧ sentS n r ≤ 1000001 := by
  unfold sentS imax; split
  · split <;> omega
  · exact h
theorem sentN_range {l : List Rcd} (hl : ∀ r, r ∈ l → 0 ≤ r.frame.seq ∧ r.frame.seq ≤ 1000000) : ∀ i, i ≤ l.length → 0 ≤ sentN (l.take i) ∧ sentN (l.take i) ≤ 1000001
  | 0, _ => by rw [List.take_zero]; decide
  | i + 1, h => by
    rw [sentN_take (by omega)]
    exact sentS_range (sentN_range hl i (by omega)) (hl _ (List.getElem_mem _))
theorem form_at {l : List Rcd} {i : Nat} (h : i < l.length) : form l i = formR (prevT l i) l[i] := by unfold form; rw [getD_at h]
theorem prevT_0 (l : List Rcd) : prevT l 0 = -1 := rfl
theorem prevT_pos {l : List Rcd} {i : Nat} (h : i < l.length) (h0 : 0 < i) : prevT l i = (l[i - 1]'(by omega)).tick := by
  unfold prevT; rw [if_neg (by omega), getD_at (by omega)]

/-! ### Frames that a receiver has -/
theorem has_lo {s : Rep} {q : Int} (h : q - s.next - 1 < 0) : has s q = false := by unfold has; rw [decide_eq_false (by omega)]; rfl
theorem has_hi {s : Rep} {q : Int} (h : ¬ q - s.next - 1 < 16) : has s q = false := by unfold has; rw [decide_eq_false h, Bool.and_false]; rfl
theorem has_in {nx ky : Int} {lk : Bool} {h : Nat} {q : Int} (h0 : 0 ≤ q - nx - 1) (h1 : q - nx - 1 < 16) : has ⟨nx, ((h : Nat) : Int), ky, lk⟩ q = (((h / 2 ^ (q - nx - 1).toNat % 2 : Nat) : Int) == 1) := by
  unfold has
  rw [decide_eq_true h0, decide_eq_true h1, Bool.true_and, Bool.true_and, Bool.eq_iff_iff]
  simp only [decide_eq_true_eq, beq_iff_eq, Int.toNat_natCast]
  omega
theorem has_loop {nx ky : Int} {lk : Bool} {h k : Nat} {q : Int} (hh : h < 32768) (hk : k = 0 ∨ nx + (k : Int) < q) (hx : ¬ (nx + 1 + (k : Int) < q ∧ ((hv h k : Nat) : Int) > 0)) (hq : nx < q) : has ⟨nx, ((h : Nat) : Int), ky, lk⟩ q = (((hv h k % 2 : Nat) : Int) == 1) := by
  by_cases h16 : q - nx - 1 < 16
  · rw [has_in (by omega) h16]
    by_cases h1 : nx + 1 + (k : Int) < q
    · have h2 : hv h k = 0 := by omega
      have h3 : h / 2 ^ k = 0 := by rw [← hv_eq]; exact h2
      have h4 : h / 2 ^ (q - nx - 1).toNat = 0 := by
        rw [show (q - nx - 1).toNat = k + ((q - nx - 1).toNat - k) from by omega, Nat.pow_add, ← Nat.div_div_eq_div_mul, h3, Nat.zero_div]
      rw [h4, h2]
    · rw [show (q - nx - 1).toNat = k from by omega, hv_eq]
  · rw [has_hi h16]
    have : hv h k = 0 := by
      by_cases h1 : nx + 1 + (k : Int) < q
      · omega
      · rw [hv_eq]
        exact Nat.div_eq_of_lt (Nat.lt_of_lt_of_le hh (Nat.pow_le_pow_right (n := 2) (by decide) (show 15 ≤ k by omega)))
    rw [this]; rfl
theorem shr_hv (h : Nat) {n : Int} (h0 : 0 ≤ n) (h1 : n < 16) : ((h : Nat) : Int).fdiv (2 ^ (min n.toNat IntKind.i64.bits)) = ((h / 2 ^ n.toNat : Nat) : Int) := by
  have hc : ∀ m : Nat, (2 : Int) ^ m = ((2 ^ m : Nat) : Int) := fun m => by simp
  rw [hc, Int.fdiv_eq_ediv_of_nonneg _ (Int.natCast_nonneg _), ← Int.natCast_ediv]
  congr 3
  show min _ 64 = _
  omega
theorem and_natI {x y : Nat} (hx : x < 9223372036854775808) (hy : y < 9223372036854775808) : iop .and .i64 (x : Int) (y : Int) = some (.int .i64 ((x &&& y : Nat) : Int)) := by
  have h2 : (BitVec.ofInt 64 (x : Int) &&& BitVec.ofInt 64 (y : Int)).toNat = x &&& y := by
    rw [ofInt_nat, ofInt_nat, BitVec.toNat_and, BitVec.toNat_ofNat, BitVec.toNat_ofNat, Nat.mod_eq_of_lt (by omega), Nat.mod_eq_of_lt (by omega)]
  have h3 : x &&& y ≤ x := Nat.and_le_left
  show some (Tr.int .i64 (IntKind.i64.wrap ((BitVec.ofInt 64 (x : Int) &&& BitVec.ofInt 64 (y : Int)).toNat : Int))) = _
  rw [h2, wi64]
  generalize x &&& y = z at h3 ⊢
  rw [show ((z : Int) + 9223372036854775808) % 18446744073709551616 - 9223372036854775808 = (z : Int) from by omega]
theorem and_one {x : Nat} (hx : x < 9223372036854775808) : iop .and .i64 (x : Int) 1 = some (encI ((x % 2 : Nat) : Int)) := by
  have h := and_natI (x := x) (y := 1) hx (by decide)
  rwa [Nat.and_one_is_mod] at h

theorem vOf_hit {T : Twn} {d : Dec} {n : Int} {i : Nat} (hi : i < T.poss.length) (h : ∀ s, s ∈ T.poss.take i → rightD d s n = false) (he : rightD d T.poss[i] n = true) : vOf (rights T d n) = ⟨false, T.poss[i]⟩ := by
  have e : rights T d n = T.poss[i] :: (T.poss.drop (i + 1)).filter (fun s => rightD d s n) := by
    unfold rights
    conv => lhs; rw [← List.take_append_drop i T.poss]
    rw [List.filter_append, List.filter_eq_nil_iff.2 (fun a ha => by rw [h a ha]; decide), List.nil_append, List.drop_eq_getElem_cons hi, List.filter_cons, if_pos he]
  rw [e]; rfl
theorem vOf_none {T : Twn} {d : Dec} {n : Int} (h : ∀ s, s ∈ T.poss → rightD d s n = false) : vOf (rights T d n) = ⟨true, zr⟩ := by
  have e : rights T d n = [] := List.filter_eq_nil_iff.2 (fun a ha => by rw [h a ha]; decide)
  rw [e]; rfl

/-! ### The steps of a replay -/
section
variable {l : List Rcd} {i : Nat} {T : Twn}
theorem run_send (hi : i < l.length) (hT : T = (runTo l i).1) (hok : (runTo l i).2 = 0) (hf : form l i = 0) (hk : (l[i]).kind = 1) (h2 : (send T l[i].frame).2 = 0) : runTo l (i + 1) = ((send T l[i].frame).1, 0) := by
  have e : nextT (runTo l i).1 (l.getD i zc) = send T l[i].frame := by unfold nextT; rw [getD_at hi, if_pos hk, hT]
  rw [run_on hok hf (by rw [e]; exact h2), e]
theorem run_hear (hi : i < l.length) (hT : T = (runTo l i).1) (hok : (runTo l i).2 = 0) (hf : form l i = 0) (hk : (l[i]).kind = 2) (h2 : (hear T l[i].rep).2 = 0) : runTo l (i + 1) = ((hear T l[i].rep).1, 0) := by
  have e : nextT (runTo l i).1 (l.getD i zc) = hear T l[i].rep := by unfold nextT; rw [getD_at hi, if_neg (by omega), if_pos hk, hT]
  rw [run_on hok hf (by rw [e]; exact h2), e]
theorem run_dec (hi : i < l.length) (hT : T = (runTo l i).1) (hok : (runTo l i).2 = 0) (hf : form l i = 0) (hk : ¬ (l[i]).kind = 1) (hk2 : ¬ (l[i]).kind = 2) : runTo l (i + 1) = (T, 0) := by
  have e : nextT (runTo l i).1 (l.getD i zc) = (T, 0) := by unfold nextT; rw [getD_at hi, if_neg hk, if_neg hk2, hT]
  rw [run_on hok hf (by rw [e]), e]
theorem bad_send (hi : i < l.length) (hT : T = (runTo l i).1) (hok : (runTo l i).2 = 0) (hf : form l i = 0) (hk : (l[i]).kind = 1) (h2 : (send T l[i].frame).2 ≠ 0) : runTo l (i + 1) = (zt, (send T l[i].frame).2) := by
  have e : nextT (runTo l i).1 (l.getD i zc) = send T l[i].frame := by unfold nextT; rw [getD_at hi, if_pos hk, hT]
  rw [run_bad hok hf (by rw [e]; exact h2), e]
theorem bad_hear (hi : i < l.length) (hT : T = (runTo l i).1) (hok : (runTo l i).2 = 0) (hf : form l i = 0) (hk : (l[i]).kind = 2) (h2 : (hear T l[i].rep).2 ≠ 0) : runTo l (i + 1) = (zt, (hear T l[i].rep).2) := by
  have e : nextT (runTo l i).1 (l.getD i zc) = hear T l[i].rep := by unfold nextT; rw [getD_at hi, if_neg (by omega), if_pos hk, hT]
  rw [run_bad hok hf (by rw [e]; exact h2), e]
theorem run_next (hi : i < l.length) (hT : T = (runTo l i).1) (hok : (runTo l i).2 = 0) (hf : form l i = 0) (h2 : (nextT T l[i]).2 = 0) : runTo l (i + 1) = ((nextT T l[i]).1, 0) := by
  have e : nextT (runTo l i).1 (l.getD i zc) = nextT T l[i] := by rw [getD_at hi, hT]
  rw [run_on hok hf (by rw [e]; exact h2), e]
theorem bad_next (hi : i < l.length) (hT : T = (runTo l i).1) (hok : (runTo l i).2 = 0) (hf : form l i = 0) (h2 : (nextT T l[i]).2 ≠ 0) : runTo l (i + 1) = (zt, (nextT T l[i]).2) := by
  have e : nextT (runTo l i).1 (l.getD i zc) = nextT T l[i] := by rw [getD_at hi, hT]
  rw [run_bad hok hf (by rw [e]; exact h2), e]
theorem all_bad {e : Int} (hle : ¬ (l.length : Int) > 500) (hi : i < l.length) (h : runTo l (i + 1) = (zt, e)) (he : e ≠ 0) : allOf l = (zt, e) := by
  unfold allOf
  rw [if_neg (by omega), runTo_errs (i := i + 1) (by rw [h]; exact he) l.length (by omega), h]
theorem all_lim (h : (l.length : Int) > 500) : allOf l = (zt, 2) := by unfold allOf; rw [if_pos (by omega)]
theorem all_ok (hle : ¬ (l.length : Int) > 500) (h : (runTo l l.length).2 = 0) : allOf l = ((runTo l l.length).1, 0) := by
  unfold allOf; rw [if_neg (by omega)]; exact Prod.ext rfl h
theorem all_inv (h : (allOf l).2 = 0) : l.length ≤ 500 ∧ (runTo l l.length).2 = 0 := by
  unfold allOf at h
  split at h
  · simp at h
  · exact ⟨by omega, h⟩
theorem all_zt (h : (allOf l).2 ≠ 0) : allOf l = (zt, (allOf l).2) := by
  unfold allOf at h ⊢
  split
  · rfl
  · rename_i hn
    rw [if_neg hn] at h
    exact Prod.ext (runTo_zt _ h) rfl
end

/-- What was known at each record, and after all. -/
def atL (l : List Rcd) (n : Nat) : List Twn := (List.range n).map fun j => (runTo l j).1
def atOf (l : List Rcd) : List Twn × Int := if (allOf l).2 ≠ 0 then ([], (allOf l).2) else (atL l (l.length + 1), 0)
theorem atOf_bad {l : List Rcd} {e : Int} (h : allOf l = (zt, e)) (he : e ≠ 0) : atOf l = ([], e) := by unfold atOf; rw [h, if_pos he]
theorem atOf_ok {l : List Rcd} (h : (allOf l).2 = 0) : atOf l = (atL l (l.length + 1), 0) := by unfold atOf; rw [if_neg (by rw [h]; decide)]
theorem atL_succ (l : List Rcd) (n : Nat) : atL l (n + 1) = atL l n ++ [(runTo l n).1] := range_succ _ n
theorem atL_len (l : List Rcd) (n : Nat) : (atL l n).length = n := by simp [atL]
theorem atL_get {l : List Rcd} {n i : Nat} (h : i < n) : ((atL l n).map encT)[i]? = some (encT (runTo l i).1) := by simp [atL, h]

/-! ### How far a tick leads -/
theorem upTo_eq {l : List Rcd} {t : Int} {n : Nat} (hn : n ≤ l.length) (ha : ∀ r, r ∈ l.take n → r.tick ≤ t) (hs : ∀ h : n < l.length, ¬ (l[n]).tick ≤ t) : upTo l t = n := by
  unfold upTo
  have e : l.takeWhile (fun r => decide (r.tick ≤ t)) = l.take n := by
    conv => lhs; rw [← List.take_append_drop n l]
    rw [List.takeWhile_append_of_pos (fun a ha' => decide_eq_true (ha a ha'))]
    rcases Nat.lt_or_ge n l.length with h | h
    · rw [List.drop_eq_getElem_cons h, List.takeWhile_cons, if_neg (by simp only [decide_eq_true_eq]; exact hs h), List.append_nil]
    · rw [List.drop_of_length_le h, List.takeWhile_nil, List.append_nil]
  rw [e, List.length_take]; omega
theorem upTo_le (l : List Rcd) (t : Int) : upTo l t ≤ l.length := (List.takeWhile_sublist _).length_le
theorem known_bad {l : List Rcd} {t : Int} {e : Int} (h : allOf l = (zt, e)) (he : e ≠ 0) : known l t = (zt, e) := by unfold known; rw [h, if_pos he]
theorem known_ok {l : List Rcd} {t : Int} (h : (allOf l).2 = 0) : known l t = runTo l (upTo l t) := by unfold known; rw [if_neg (by rw [h]; decide)]
theorem run_ok {l : List Rcd} (h : (allOf l).2 = 0) {i : Nat} (hi : i ≤ l.length) : (runTo l i).2 = 0 := runTo_ok (all_inv h).2 hi
/-! ### The first record with a decision -/
theorem findD_hit {l : List Rcd} {d : Dec} {i n : Nat} (hi : i < n) (ha : ∀ j, j < i → isD l d j = false) (he : isD l d i = true) : findD l d n = some i := by
  unfold findD
  rw [List.find?_eq_some_iff_append]
  refine ⟨he, List.range i, (List.range (n - i - 1)).map (· + (i + 1)), ?_, fun a ha' => by rw [ha a (List.mem_range.1 ha')]; rfl⟩
  rw [show n = i + 1 + (n - i - 1) from by omega, List.range_add, List.range_succ, List.append_assoc]
  rw [show i + 1 + (n - i - 1) - i - 1 = n - i - 1 from by omega]
  simp [Nat.add_comm, Function.comp_def]
theorem findD_none {l : List Rcd} {d : Dec} {n : Nat} (ha : ∀ j, j < n → isD l d j = false) : findD l d n = none := by
  unfold findD
  rw [List.find?_eq_none]
  intro x hx
  rw [ha x (List.mem_range.1 hx)]; decide
theorem isD_at {l : List Rcd} {d : Dec} {i : Nat} (h : i < l.length) : isD l d i = decide ((l[i]).kind = 3 ∧ (l[i]).dec = d) := by unfold isD; rw [getD_at h]
theorem form_dec {l : List Rcd} {i : Nat} (hi : i < l.length) (h : form l i = 0) (hk : (l[i]).kind = 3) : 0 ≤ (l[i]).dec.seq ∧ (l[i]).dec.seq ≤ 1000000 := by
  rw [form_at hi] at h
  unfold formR at h
  by_cases h1 : (l[i]).kind < 1 ∨ 3 < (l[i]).kind
  · omega
  · rw [if_neg h1] at h
    by_cases h2 : (l[i]).tick < 0 ∨ 1000000 < (l[i]).tick
    · rw [if_pos h2] at h; omega
    · rw [if_neg h2] at h
      by_cases h3 : (l[i]).tick < prevT l i
      · rw [if_pos h3] at h; omega
      · rw [if_neg h3, if_neg (by omega)] at h
        by_cases h4 : (l[i]).dec.tick ≠ (l[i]).tick ∨ (l[i]).dec.kind < 0 ∨ 3 < (l[i]).dec.kind ∨ (l[i]).dec.seq < 0 ∨ 1000000 < (l[i]).dec.seq
        · rw [if_pos h4] at h; omega
        · omega
theorem run_form0 {l : List Rcd} {i : Nat} (h : (runTo l (i + 1)).2 = 0) : form l i = 0 := (run_inv h).2.1
theorem defence_bad {l : List Rcd} {d : Dec} {e : Int} (h : allOf l = (zt, e)) (he : e ≠ 0) : defence l d = ([], e) := by unfold defence; rw [h, if_pos he]
theorem defence_ok {l : List Rcd} {d : Dec} (h : (allOf l).2 = 0) : defence l d = match findD l d l.length with | none => ([], 3) | some i => (rightsAt l d i, 0) := by unfold defence; rw [if_neg (by rw [h]; decide)]
theorem judge_bad {l : List Rcd} {d : Dec} {e : Int} (h : allOf l = (zt, e)) (he : e ≠ 0) : judge l d = (zv, e) := by unfold judge; rw [defence_bad h he, if_pos he]
theorem judge_hit {l : List Rcd} {d : Dec} {i : Nat} (h : (allOf l).2 = 0) (hf : findD l d l.length = some i) : judge l d = (vOf (rightsAt l d i), 0) := by
  unfold judge; rw [defence_ok h, hf]; rfl
theorem judge_none {l : List Rcd} {d : Dec} (h : (allOf l).2 = 0) (hf : findD l d l.length = none) : judge l d = (zv, 3) := by
  unfold judge; rw [defence_ok h, hf]; rfl
theorem held_bad {l : List Rcd} {e : Int} (h : allOf l = (zt, e)) (he : e ≠ 0) : held l = ([], e) := by unfold held; rw [h, if_pos he]
theorem held_ok {l : List Rcd} (h : (allOf l).2 = 0) : held l = (heldTo l l.length, 0) := by unfold held; rw [if_neg (by rw [h]; decide)]
theorem heldTo_succ (l : List Rcd) (n : Nat) : heldTo l (n + 1) = heldTo l n ++ if heldAt l n then [n] else [] := by
  unfold heldTo; rw [List.range_succ, List.filter_append, List.filter_cons, List.filter_nil]
theorem heldTo_len (l : List Rcd) (n : Nat) : (heldTo l n).length ≤ n := by
  have := List.length_filter_le (heldAt l) (List.range n)
  simpa [heldTo] using this
theorem vOf_held (R : List Rep) : (vOf R).held = R.isEmpty := by cases R <;> rfl
theorem heldAt_at {l : List Rcd} {i : Nat} (h : i < l.length) : heldAt l i = (decide ((l[i]).kind = 3) && (rightsAt l (l[i]).dec i).isEmpty) := by unfold heldAt; rw [getD_at h]

/-! ### What the visits of a replay leave -/
/-- How many records are visited. -/
def seen1 (l : List Rcd) (i : Nat) : Bool := decide ((runTo l i).2 = 0) && decide (form l i = 0)
def nvis (l : List Rcd) : Nat := if l.length > 500 then 0 else ((List.range l.length).takeWhile (seen1 l)).length
theorem seen1_lt {l : List Rcd} {i j : Nat} (h : (runTo l j).2 = 0) (hij : i < j) : seen1 l i = true := by
  unfold seen1
  rw [decide_eq_true (runTo_ok h (by omega)), decide_eq_true (run_form0 (runTo_ok (i := i + 1) h (by omega)))]; rfl
theorem nvis_at {l : List Rcd} {i : Nat} (hle : ¬ (l.length : Int) > 500) (hi : i ≤ l.length) (ha : ∀ j, j < i → seen1 l j = true) (hs : i < l.length → seen1 l i = false) : nvis l = i := by
  unfold nvis
  rw [if_neg (by omega), show l.length = i + (l.length - i) from by omega, List.range_add, List.takeWhile_append_of_pos (fun a ha' => ha a (List.mem_range.1 ha'))]
  rcases Nat.lt_or_ge i l.length with h | h
  · rw [show l.length - i = l.length - i - 1 + 1 from by omega, List.range_succ_eq_map, List.map_cons, List.takeWhile_cons, if_neg (by rw [Nat.add_zero, hs h]; decide), List.append_nil, List.length_range]
  · rw [show l.length - i = 0 from by omega, List.range_zero, List.map_nil, List.takeWhile_nil, List.append_nil, List.length_range]
theorem nvis_lim {l : List Rcd} (h : (l.length : Int) > 500) : nvis l = 0 := by unfold nvis; rw [if_pos (by omega)]
theorem nvis_form {l : List Rcd} {i : Nat} (hle : ¬ (l.length : Int) > 500) (hi : i < l.length) (hok : (runTo l i).2 = 0) (hf : form l i ≠ 0) : nvis l = i :=
  nvis_at hle (by omega) (fun j hj => seen1_lt hok hj) (fun _ => by unfold seen1; rw [decide_eq_false hf, Bool.and_false])
theorem nvis_bad {l : List Rcd} {i : Nat} {e : Int} (hle : ¬ (l.length : Int) > 500) (hi : i < l.length) (hok : (runTo l i).2 = 0) (hf : form l i = 0) (hb : runTo l (i + 1) = (zt, e)) (he : e ≠ 0) : nvis l = i + 1 :=
  nvis_at hle (by omega) (fun j hj => by
    rcases Nat.lt_or_ge j i with h | h
    · exact seen1_lt hok h
    · obtain rfl : j = i := by omega
      unfold seen1; rw [decide_eq_true hok, decide_eq_true hf]; rfl) (fun _ => by unfold seen1; rw [decide_eq_false (by rw [hb]; exact he)]; rfl)
theorem nvis_ok {l : List Rcd} (hle : ¬ (l.length : Int) > 500) (hok : (runTo l l.length).2 = 0) : nvis l = l.length :=
  nvis_at hle (Nat.le_refl _) (fun j hj => seen1_lt hok hj) (fun h => absurd h (Nat.lt_irrefl _))
theorem nvis_all {l : List Rcd} (h : (allOf l).2 = 0) : nvis l = l.length := nvis_ok (by have := (all_inv h).1; omega) (all_inv h).2

theorem findD_succ (l : List Rcd) (d : Dec) (n : Nat) : findD l d (n + 1) = (findD l d n).or (if isD l d n then some n else none) := by
  unfold findD
  rw [List.range_succ, List.find?_append, List.find?_singleton]
def fdN (l : List Rcd) (d : Dec) (n : Nat) : Bool := (findD l d n).isSome
def outN (l : List Rcd) (d : Dec) (n : Nat) : List Rep := match findD l d n with
  | none => []
  | some j => rightsAt l d j
theorem fd_old {l : List Rcd} {d : Dec} {n : Nat} (h : fdN l d n = true) : fdN l d (n + 1) = true ∧ outN l d (n + 1) = outN l d n := by
  unfold fdN outN at *
  rw [findD_succ]
  obtain ⟨j, hj⟩ := Option.isSome_iff_exists.1 h
  rw [hj]; exact ⟨rfl, rfl⟩
theorem fd_no {l : List Rcd} {d : Dec} {n : Nat} (h : fdN l d n = false) (hd : isD l d n = false) : fdN l d (n + 1) = false ∧ outN l d (n + 1) = outN l d n := by
  unfold fdN outN at *
  rw [findD_succ, hd]
  have hj : findD l d n = none := by simpa using h
  rw [hj]; exact ⟨rfl, rfl⟩
theorem fd_yes {l : List Rcd} {d : Dec} {n : Nat} (h : fdN l d n = false) (hd : isD l d n = true) : fdN l d (n + 1) = true ∧ outN l d (n + 1) = rightsAt l d n := by
  unfold fdN outN at *
  rw [findD_succ, hd]
  have hj : findD l d n = none := by simpa using h
  rw [hj]; exact ⟨rfl, rfl⟩
theorem heldTo_yes {l : List Rcd} {n : Nat} (h : heldAt l n = true) : heldTo l (n + 1) = heldTo l n ++ [n] := by rw [heldTo_succ, if_pos h]
theorem heldTo_no {l : List Rcd} {n : Nat} (h : heldAt l n = false) : heldTo l (n + 1) = heldTo l n := by rw [heldTo_succ, if_neg (by rw [h]; decide), List.append_nil]
def encN (n : Nat) : Tr := encI (n : Nat)

theorem defence_none {l : List Rcd} {d : Dec} (h : (allOf l).2 = 0) (hf : fdN l d (nvis l) = false) : defence l d = ([], 3) := by
  rw [nvis_all h] at hf
  unfold fdN at hf
  rw [defence_ok h, show findD l d l.length = none from by simpa using hf]
theorem defence_some {l : List Rcd} {d : Dec} (h : (allOf l).2 = 0) (hf : fdN l d (nvis l) = true) : defence l d = (outN l d (nvis l), 0) := by
  rw [nvis_all h] at hf ⊢
  unfold fdN at hf
  obtain ⟨j, hj⟩ := Option.isSome_iff_exists.1 hf
  rw [defence_ok h]
  unfold outN
  rw [hj]
theorem judge_err {l : List Rcd} {d : Dec} (h : (defence l d).2 ≠ 0) : judge l d = (zv, (defence l d).2) := by unfold judge; rw [if_pos h]
theorem judge_nil {l : List Rcd} {d : Dec} (h : (defence l d).2 = 0) (hl : ((defence l d).1.length : Int) = 0) : judge l d = (⟨true, zr⟩, 0) := by
  unfold judge
  rw [if_neg (by rw [h]; decide), List.length_eq_zero_iff.1 (show (defence l d).1.length = 0 by omega)]; rfl
theorem judge_cons {l : List Rcd} {d : Dec} (h : (defence l d).2 = 0) (hl : 0 < (defence l d).1.length) : judge l d = (⟨false, (defence l d).1[0]⟩, 0) := by
  unfold judge
  rw [if_neg (by rw [h]; decide)]
  generalize (defence l d).1 = R at hl ⊢
  cases R with
  | nil => cases hl
  | cons s R => rfl
theorem outN_len {l : List Rcd} (hl : OKL l) {d : Dec} {n : Nat} (hn : n ≤ l.length) : (outN l d n).length ≤ 256 := by
  unfold outN
  split
  · exact Nat.zero_le _
  · rename_i j hj
    have hj2 : j < n := by
      have := List.mem_of_find?_eq_some hj
      exact List.mem_range.1 this
    unfold rightsAt rights
    refine Nat.le_trans (List.length_filter_le _ _) ?_
    by_cases h : (runTo l j).2 = 0
    · exact (runTo_fit12 hl (by omega) h).len
    · rw [runTo_zt j h]; exact Nat.zero_le _
theorem defence_len {l : List Rcd} (hl : OKL l) (d : Dec) : (defence l d).1.length ≤ 256 := by
  by_cases h : (allOf l).2 = 0
  · cases hf : fdN l d (nvis l) with
    | true => rw [defence_some h hf, nvis_all h]; exact outN_len hl (Nat.le_refl _)
    | false => rw [defence_none h hf]; exact Nat.zero_le _
  · rw [defence_bad (all_zt h) h]; exact Nat.zero_le _
end Go.Tv.C36

end
section
open Go Go.Tv Go.Proofs
namespace Go.Tv.C36
set_option maxRecDepth 20000
set_option maxHeartbeats 2000000
set_option linter.unusedSimpArgs false
set_option linter.unusedVariables false
theorem eff_maxE {P : Program} {D : St} {o : Oper} {t t2 : TypeId} {x y : Operand} {k : IntKind} {n m r : Int} (hd : dstOK D.n o.dst = true)
    (ho : o.op = .call { callee := .builtin .max, args := #[x, y], argTypes := #[t, t2] }) (hx : D.ev x = .t (.int k n)) (hy : D.ev y = .t (.int k m)) (hr : imax n m = r) : Eff P o D ⟨.t (.int k r), []⟩ :=
  hr ▸ eff_max hd ho hx hy
theorem wk_bool {a b : Bool} (h : b = a) : Wk (packT [.bool a]) (.bool b) := h ▸ .refl _
theorem within_ret (n : Int) : Ret Tryd.prog 70 [encI n] (.bool (decide (0 ≤ n ∧ n ≤ 1000000))) := by
  refine ret_of_awp Tryd.func70 rfl (Nat.le_of_ble_eq_true rfl) ?_
  refine awp_seq ?_
  refine awp_rw rfl ?_
  refine asT ?_
  refine RW.nil ?_
  refine awp_seq ?_
  refine awp_rw rfl ?_
  refine mvT ?_
  refine ioT ?_
  refine mvT ?_
  refine RW.split 5 rfl (fun h1 => ?_) (fun h1 => ?_)
  · try simp only [cl] at h1
    refine RW.gop rfl rfl rfl rfl rfl rfl (eff_move (v := .t _) rfl rfl rfl) ?_
    refine RW.gop rfl rfl rfl rfl rfl rfl (eff_iop rfl rfl rfl rfl rfl) ?_
    refine pkT ?_
    refine asT ?_
    refine RW.nil ?_
    refine awp_ret ?_
    (rw [show decide (0 ≤ n ∧ n ≤ 1000000) = decide (n ≤ 1000000) from decide_eq_decide.2 ⟨fun h => h.2, fun h => ⟨by omega, h⟩⟩]; exact ⟨Or.inr rfl, [_], ⟨.tmp (.t _), trivial⟩, .refl _⟩)
  · try simp only [cl] at h1
    refine gkT ?_
    refine gkT ?_
    refine pkT ?_
    refine asT ?_
    refine RW.nil ?_
    refine awp_ret ?_
    (rw [show decide (0 ≤ n ∧ n ≤ 1000000) = false from decide_eq_false (by omega)]; exact ⟨Or.inr rfl, [_], ⟨.tmp (.t _), trivial⟩, .refl _⟩)

theorem form_ret (l : List Rcd) (i : Nat) (hi : i < l.length) (hl : l.length ≤ 1000000) : Ret Tryd.prog 62 [.sl (l.map encC) false, encI (i : Nat)] (encI (form l i)) := by
  refine ret_of_awp Tryd.func62 rfl (Nat.le_of_ble_eq_true rfl) ?_
  refine awp_seq ?_
  refine awp_rw rfl ?_
  refine asT ?_
  refine RW.nil ?_
  refine awp_seq ?_
  refine awp_rw rfl ?_
  refine mvT ?_
  refine mvT ?_
  refine RW.op rfl rfl (eff_indexM (i := i) rfl rfl te32 rfl rfl (by first | rfl | omega) (by first | assumption | exact List.getElem?_eq_getElem (by omega)) rfl (by decide)) ?_
  refine RW.op rfl rfl (eff_loadW rfl rfl ti47 rfl rfl rfl) ?_
  refine RW.new rfl rfl (eff_allocK (k := 15) (id := 5) rfl rfl tz47 rfl rfl) ?_
  refine RW.store rfl rfl (eff_storeW (v := .t _) (els := [_]) (els' := [_]) rfl rfl ti47 rfl rfl rfl rfl rfl rfl rfl rfl rfl) ?_
  refine RW.nil ?_
  refine awp_seq ?_
  refine awp_block ?_
  refine awp_seq ?_
  refine awp_rw rfl ?_
  refine faT tf47_1 ?_
  refine l1T ti3 rfl rfl rfl rfl rfl (.one rfl rfl rfl rfl) ?_
  refine ioT ?_
  refine mvT ?_
  refine RW.split 15 rfl (fun h1 => ?_) (fun h1 => ?_)
  · try simp only [cl] at h1
    refine gkT ?_
    refine gkT ?_
    refine gkT ?_
    refine pkT ?_
    refine asT ?_
    refine RW.nil ?_
    refine awp_cond rfl (fun _ => ?_) (fun h => nomatch h)
    refine awp_seq ?_
    refine awp_rw rfl ?_
    refine asT ?_
    refine RW.nil ?_
    refine awp_ret ?_
    (rw [show form l i = 1 from by rw [form_at hi]; unfold formR; rw [if_pos (by omega)]]; exact ⟨Or.inr rfl, [_], ⟨.tmp (.t _), trivial⟩, .refl _⟩)
  · try simp only [cl] at h1
    refine RW.gop rfl rfl rfl rfl rfl rfl (eff_fieldAddr rfl rfl tf47_1 (by decide) rfl rfl rfl (Nat.le_of_ble_eq_true rfl)) ?_
    refine RW.gop rfl rfl rfl rfl rfl rfl (eff_load (y := .t _) rfl rfl ti3 rfl (.one rfl rfl rfl rfl)) ?_
    refine RW.gop rfl rfl rfl rfl rfl rfl (eff_iop rfl rfl rfl rfl rfl) ?_
    refine pkT ?_
    refine asT ?_
    refine RW.nil ?_
    refine awp_cond rfl (fun h2 => ?_) (fun h2 => ?_)
    · try simp only [cl] at h2
      refine awp_seq ?_
      refine awp_rw rfl ?_
      refine asT ?_
      refine RW.nil ?_
      refine awp_ret ?_
      (rw [show form l i = 1 from by rw [form_at hi]; unfold formR; rw [if_pos (by omega)]]; exact ⟨Or.inr rfl, [_], ⟨.tmp (.t _), trivial⟩, .refl _⟩)
    · try simp only [cl] at h2
      refine awp_seq ?_
      refine awp_rw rfl ?_
      refine faT tf47_0 ?_
      refine l1T ti3 rfl rfl rfl rfl rfl (.one rfl rfl rfl rfl) ?_
      refine RW.op rfl rfl (eff_callT (within_ret _) co70 rfl rfl rfl rfl) ?_
      refine RW.op rfl rfl (eff_unop rfl rfl rfl rfl) ?_
      refine asT ?_
      refine RW.nil ?_
      refine awp_cond rfl (fun h3 => ?_) (fun h3 => ?_)
      · try simp only [cl] at h3
        refine awp_seq ?_
        refine awp_rw rfl ?_
        refine asT ?_
        refine RW.nil ?_
        refine awp_ret ?_
        (rw [show form l i = 5 from by rw [form_at hi]; unfold formR; rw [if_neg (by omega), if_pos (by omega)]]; exact ⟨Or.inr rfl, [_], ⟨.tmp (.t _), trivial⟩, .refl _⟩)
      · try simp only [cl] at h3
        refine awp_seq ?_
        by_cases hc4 : 0 < i
        · refine awp_rd [(some 26, []), (some 27, []), (some 28, []), (some 29, []), (some 30, []), (some 31, []), (some 32, []), (some 33, []), (some 34, []), (some 35, []), (some 36, []), (some 37, []), (some 38, []), (some 25, [])] [[], [0], [0, 1], [0, 1, 2], [0, 1, 2, 3], [0, 1, 2], [0, 1, 2], [0, 1, 2, 6], [0, 1, 2, 5, 6, 7], [0, 1, 2, 5, 6, 7, 8], [0, 1, 2, 5, 6, 7, 8, 9], [0, 1, 2, 3, 4, 5, 6, 7, 8, 9, 10], [0, 1, 2, 3, 4, 5, 6, 7, 8, 9, 10, 11], [0, 1, 2, 3, 4, 5, 6, 7, 8, 9, 10, 11, 12]] tm rfl rfl rfl rfl ?_
          refine mvD ?_
          refine RD.op rfl rfl rfl (eff_iop (r := .bool true) rfl rfl rfl rfl (by simp [iop, hc4])) ?_
          refine mvD ?_
          refine RD.gop rfl rfl rfl rfl rfl rfl rfl (eff_fieldAddr rfl rfl tf47_0 (by decide) rfl rfl rfl (Nat.le_of_ble_eq_true rfl)) ?_
          refine RD.gop rfl rfl rfl rfl rfl rfl rfl (eff_load (y := .t _) rfl rfl ti3 rfl (.one rfl rfl rfl rfl)) ?_
          refine RD.gop rfl rfl rfl rfl rfl rfl rfl (eff_move (v := .t _) rfl rfl rfl) ?_
          refine RD.gop rfl rfl rfl rfl rfl rfl rfl (eff_move (v := .t _) rfl rfl rfl) ?_
          refine RD.gop rfl rfl rfl rfl rfl rfl rfl (eff_iop rfl rfl rfl rfl (isub (by omega))) ?_
          refine RD.gop rfl rfl rfl rfl rfl rfl rfl (eff_indexM (i := i - 1) rfl rfl te32 rfl rfl (by first | rfl | omega) (by exact List.getElem?_eq_getElem (by omega)) rfl (by decide)) ?_
          refine RD.gop rfl rfl rfl rfl rfl rfl rfl (eff_fieldAddrT rfl rfl tf47_0 (by decide) rfl) ?_
          refine RD.gop rfl rfl rfl rfl rfl rfl rfl (eff_loadT1 rfl rfl ti3 rfl rfl) ?_
          refine RD.gop rfl rfl rfl rfl rfl rfl rfl (eff_iop rfl rfl rfl rfl rfl) ?_
          refine RD.op rfl rfl rfl (eff_pick (v := .t _) rfl rfl rfl rfl) ?_
          refine RD.op rfl rfl rfl (eff_assign (v := .t _) rfl rfl rfl) ?_
          refine RD.nil ?_
          refine awp_cond rfl (fun h5 => ?_) (fun h5 => ?_)
          · try simp only [cl] at h5
            refine awp_seq ?_
            refine awp_rw rfl ?_
            refine asT ?_
            refine RW.nil ?_
            refine awp_ret ?_
            (rw [show form l i = 23 from by rw [form_at hi]; unfold formR; rw [if_neg (by omega), if_neg (by omega), if_pos (by first | omega | (rw [prevT_pos hi (by omega)]; omega) | (have hi0 : i = 0 := (by omega); subst hi0; rw [prevT_0]; omega))]]; exact ⟨Or.inr rfl, [_], ⟨.tmp (.t _), trivial⟩, .refl _⟩)
          · try simp only [cl] at h5
            refine awp_seq ?_
            refine awp_rw rfl ?_
            refine faT tf47_1 ?_
            refine l1T ti3 rfl rfl rfl rfl rfl (.one rfl rfl rfl rfl) ?_
            refine ioT ?_
            refine asT ?_
            refine RW.nil ?_
            refine awp_cond rfl (fun h6 => ?_) (fun h6 => ?_)
            · try simp only [cl] at h6
              refine awp_seq ?_
              refine awp_rw rfl ?_
              refine asT ?_
              refine RW.nil ?_
              refine awp_ret ?_
              (rw [show form l i = 0 from by rw [form_at hi]; unfold formR; rw [if_neg (by omega), if_neg (by omega), if_neg (by first | omega | (rw [prevT_pos hi (by omega)]; omega) | (have hi0 : i = 0 := (by omega); subst hi0; rw [prevT_0]; omega)), if_pos (by omega)]]; exact ⟨Or.inr rfl, [_], ⟨.tmp (.t _), trivial⟩, .refl _⟩)
            · try simp only [cl] at h6
              refine awp_skip ?_
              refine awp_seq ?_
              refine awp_seq ?_
              refine awp_rw rfl ?_
              refine faT tf47_4 ?_
              refine RW.op rfl rfl (eff_loadS (ys := [_, _, _, _]) rfl rfl ti28 rfl rfl rfl rfl rfl rfl) ?_
              refine RW.new rfl rfl (eff_allocK (k := 4) (id := 6) rfl rfl tz28 rfl rfl) ?_
              refine RW.store rfl rfl (eff_storeW (v := .t _) (els := [_]) (els' := [_]) rfl rfl ti28 rfl rfl rfl rfl rfl rfl rfl rfl rfl) ?_
              refine RW.nil ?_
              refine awp_seq ?_
              refine awp_rw rfl ?_
              refine faT tf28_0 ?_
              refine l1T ti3 rfl rfl rfl rfl rfl (.one rfl rfl rfl rfl) ?_
              refine faT tf47_0 ?_
              refine l1T ti3 rfl rfl rfl rfl rfl (.one rfl rfl rfl rfl) ?_
              refine ioT ?_
              refine mvT ?_
              refine RW.split 50 rfl (fun h7 => ?_) (fun h7 => ?_)
              · try simp only [cl] at h7
                refine gkT ?_
                refine gkT ?_
                refine gkT ?_
                refine pkT ?_
                refine mvT ?_
                refine gkT ?_
                refine gkT ?_
                refine gkT ?_
                refine pkT ?_
                refine mvT ?_
                refine gkT ?_
                refine gkT ?_
                refine gkT ?_
                refine gkT ?_
                refine pkT ?_
                refine RW.nil ?_
                refine awp_cond rfl (fun _ => ?_) (fun h => nomatch h)
                refine awp_seq ?_
                refine awp_rw rfl ?_
                refine asT ?_
                refine RW.nil ?_
                refine awp_ret ?_
                (rw [show form l i = 1 from by rw [form_at hi]; unfold formR; rw [if_neg (by omega), if_neg (by omega), if_neg (by first | omega | (rw [prevT_pos hi (by omega)]; omega) | (have hi0 : i = 0 := (by omega); subst hi0; rw [prevT_0]; omega)), if_neg (by omega), if_pos (by omega)]]; exact ⟨Or.inr rfl, [_], ⟨.tmp (.t _), trivial⟩, .refl _⟩)
              · try simp only [cl] at h7
                refine RW.gop rfl rfl rfl rfl rfl rfl (eff_fieldAddr rfl rfl tf28_2 (by decide) rfl rfl rfl (Nat.le_of_ble_eq_true rfl)) ?_
                refine RW.gop rfl rfl rfl rfl rfl rfl (eff_load (y := .t _) rfl rfl ti3 rfl (.one rfl rfl rfl rfl)) ?_
                refine RW.gop rfl rfl rfl rfl rfl rfl (eff_iop rfl rfl rfl rfl rfl) ?_
                refine pkT ?_
                refine mvT ?_
                refine RW.split 55 rfl (fun h8 => ?_) (fun h8 => ?_)
                · try simp only [cl] at h8
                  refine gkT ?_
                  refine gkT ?_
                  refine gkT ?_
                  refine pkT ?_
                  refine mvT ?_
                  refine gkT ?_
                  refine gkT ?_
                  refine gkT ?_
                  refine gkT ?_
                  refine pkT ?_
                  refine RW.nil ?_
                  refine awp_cond rfl (fun _ => ?_) (fun h => nomatch h)
                  refine awp_seq ?_
                  refine awp_rw rfl ?_
                  refine asT ?_
                  refine RW.nil ?_
                  refine awp_ret ?_
                  (rw [show form l i = 1 from by rw [form_at hi]; unfold formR; rw [if_neg (by omega), if_neg (by omega), if_neg (by first | omega | (rw [prevT_pos hi (by omega)]; omega) | (have hi0 : i = 0 := (by omega); subst hi0; rw [prevT_0]; omega)), if_neg (by omega), if_pos (by omega)]]; exact ⟨Or.inr rfl, [_], ⟨.tmp (.t _), trivial⟩, .refl _⟩)
                · try simp only [cl] at h8
                  refine RW.gop rfl rfl rfl rfl rfl rfl (eff_fieldAddr rfl rfl tf28_2 (by decide) rfl rfl rfl (Nat.le_of_ble_eq_true rfl)) ?_
                  refine RW.gop rfl rfl rfl rfl rfl rfl (eff_load (y := .t _) rfl rfl ti3 rfl (.one rfl rfl rfl rfl)) ?_
                  refine RW.gop rfl rfl rfl rfl rfl rfl (eff_iop rfl rfl rfl rfl rfl) ?_
                  refine pkT ?_
                  refine mvT ?_
                  refine RW.split 60 rfl (fun h9 => ?_) (fun h9 => ?_)
                  · try simp only [cl] at h9
                    refine gkT ?_
                    refine gkT ?_
                    refine gkT ?_
                    refine gkT ?_
                    refine pkT ?_
                    refine RW.nil ?_
                    refine awp_cond rfl (fun _ => ?_) (fun h => nomatch h)
                    refine awp_seq ?_
                    refine awp_rw rfl ?_
                    refine asT ?_
                    refine RW.nil ?_
                    refine awp_ret ?_
                    (rw [show form l i = 1 from by rw [form_at hi]; unfold formR; rw [if_neg (by omega), if_neg (by omega), if_neg (by first | omega | (rw [prevT_pos hi (by omega)]; omega) | (have hi0 : i = 0 := (by omega); subst hi0; rw [prevT_0]; omega)), if_neg (by omega), if_pos (by omega)]]; exact ⟨Or.inr rfl, [_], ⟨.tmp (.t _), trivial⟩, .refl _⟩)
                  · try simp only [cl] at h9
                    refine RW.gop rfl rfl rfl rfl rfl rfl (eff_fieldAddr rfl rfl tf28_3 (by decide) rfl rfl rfl (Nat.le_of_ble_eq_true rfl)) ?_
                    refine RW.gop rfl rfl rfl rfl rfl rfl (eff_load (y := .t _) rfl rfl ti3 rfl (.one rfl rfl rfl rfl)) ?_
                    refine RW.gop rfl rfl rfl rfl rfl rfl (eff_callT (within_ret _) co70 rfl rfl rfl rfl) ?_
                    refine RW.gop rfl rfl rfl rfl rfl rfl (eff_unop rfl rfl rfl rfl) ?_
                    refine pkT ?_
                    refine RW.nil ?_
                    refine awp_cond rfl (fun h10 => ?_) (fun h10 => ?_)
                    · try simp only [cl] at h10
                      refine awp_seq ?_
                      refine awp_rw rfl ?_
                      refine asT ?_
                      refine RW.nil ?_
                      refine awp_ret ?_
                      (rw [show form l i = 1 from by rw [form_at hi]; unfold formR; rw [if_neg (by omega), if_neg (by omega), if_neg (by first | omega | (rw [prevT_pos hi (by omega)]; omega) | (have hi0 : i = 0 := (by omega); subst hi0; rw [prevT_0]; omega)), if_neg (by omega), if_pos (by omega)]]; exact ⟨Or.inr rfl, [_], ⟨.tmp (.t _), trivial⟩, .refl _⟩)
                    · try simp only [cl] at h10
                      refine awp_skip ?_
                      refine awp_seq ?_
                      refine awp_rw rfl ?_
                      refine asT ?_
                      refine RW.nil ?_
                      refine awp_ret ?_
                      (rw [show form l i = 0 from by rw [form_at hi]; unfold formR; rw [if_neg (by omega), if_neg (by omega), if_neg (by first | omega | (rw [prevT_pos hi (by omega)]; omega) | (have hi0 : i = 0 := (by omega); subst hi0; rw [prevT_0]; omega)), if_neg (by omega), if_neg (by omega)]]; exact ⟨Or.inr rfl, [_], ⟨.tmp (.t _), trivial⟩, .refl _⟩)
        · refine awp_rd [(some 26, []), (some 27, []), (some 28, []), (some 29, []), (some 30, []), (some 31, []), (some 32, []), (some 33, []), (some 34, []), (some 35, []), (some 36, []), (some 37, []), (some 38, []), (some 25, [])] [[], [0], [0, 1], [0, 1, 2], [0, 1, 2, 3], [0, 1, 2], [0, 1, 2], [0, 1, 2, 6], [0, 1, 2, 5, 6, 7], [0, 1, 2, 5, 6, 7, 8], [0, 1, 2, 5, 6, 7, 8, 9], [0, 1, 2, 3, 4, 5, 6, 7, 8, 9, 10], [0, 1, 2, 3, 4, 5, 6, 7, 8, 9, 10, 11], [0, 1, 2, 3, 4, 5, 6, 7, 8, 9, 10, 11, 12]] tm rfl rfl rfl rfl ?_
          refine mvD ?_
          refine RD.op rfl rfl rfl (eff_iop (r := .bool false) rfl rfl rfl rfl (by simp [iop, hc4])) ?_
          refine mvD ?_
          refine gkD ?_
          refine gkD ?_
          refine gkD ?_
          refine gkD ?_
          refine gkD ?_
          refine gkD ?_
          refine gkD ?_
          refine gkD ?_
          refine gkD ?_
          refine RD.op rfl rfl rfl (eff_pick (v := .t _) rfl rfl rfl rfl) ?_
          refine RD.op rfl rfl rfl (eff_assign (v := .t _) rfl rfl rfl) ?_
          refine RD.nil ?_
          refine awp_cond rfl (fun h => nomatch h) (fun _ => ?_)
          refine awp_seq ?_
          refine awp_rw rfl ?_
          refine faT tf47_1 ?_
          refine l1T ti3 rfl rfl rfl rfl rfl (.one rfl rfl rfl rfl) ?_
          refine ioT ?_
          refine asT ?_
          refine RW.nil ?_
          refine awp_cond rfl (fun h11 => ?_) (fun h11 => ?_)
          · try simp only [cl] at h11
            refine awp_seq ?_
            refine awp_rw rfl ?_
            refine asT ?_
            refine RW.nil ?_
            refine awp_ret ?_
            (rw [show form l i = 0 from by rw [form_at hi]; unfold formR; rw [if_neg (by omega), if_neg (by omega), if_neg (by first | omega | (rw [prevT_pos hi (by omega)]; omega) | (have hi0 : i = 0 := (by omega); subst hi0; rw [prevT_0]; omega)), if_pos (by omega)]]; exact ⟨Or.inr rfl, [_], ⟨.tmp (.t _), trivial⟩, .refl _⟩)
          · try simp only [cl] at h11
            refine awp_skip ?_
            refine awp_seq ?_
            refine awp_seq ?_
            refine awp_rw rfl ?_
            refine faT tf47_4 ?_
            refine RW.op rfl rfl (eff_loadS (ys := [_, _, _, _]) rfl rfl ti28 rfl rfl rfl rfl rfl rfl) ?_
            refine RW.new rfl rfl (eff_allocK (k := 4) (id := 6) rfl rfl tz28 rfl rfl) ?_
            refine RW.store rfl rfl (eff_storeW (v := .t _) (els := [_]) (els' := [_]) rfl rfl ti28 rfl rfl rfl rfl rfl rfl rfl rfl rfl) ?_
            refine RW.nil ?_
            refine awp_seq ?_
            refine awp_rw rfl ?_
            refine faT tf28_0 ?_
            refine l1T ti3 rfl rfl rfl rfl rfl (.one rfl rfl rfl rfl) ?_
            refine faT tf47_0 ?_
            refine l1T ti3 rfl rfl rfl rfl rfl (.one rfl rfl rfl rfl) ?_
            refine ioT ?_
            refine mvT ?_
            refine RW.split 50 rfl (fun h12 => ?_) (fun h12 => ?_)
            · try simp only [cl] at h12
              refine gkT ?_
              refine gkT ?_
              refine gkT ?_
              refine pkT ?_
              refine mvT ?_
              refine gkT ?_
              refine gkT ?_
              refine gkT ?_
              refine pkT ?_
              refine mvT ?_
              refine gkT ?_
              refine gkT ?_
              refine gkT ?_
              refine gkT ?_
              refine pkT ?_
              refine RW.nil ?_
              refine awp_cond rfl (fun _ => ?_) (fun h => nomatch h)
              refine awp_seq ?_
              refine awp_rw rfl ?_
              refine asT ?_
              refine RW.nil ?_
              refine awp_ret ?_
              (rw [show form l i = 1 from by rw [form_at hi]; unfold formR; rw [if_neg (by omega), if_neg (by omega), if_neg (by first | omega | (rw [prevT_pos hi (by omega)]; omega) | (have hi0 : i = 0 := (by omega); subst hi0; rw [prevT_0]; omega)), if_neg (by omega), if_pos (by omega)]]; exact ⟨Or.inr rfl, [_], ⟨.tmp (.t _), trivial⟩, .refl _⟩)
            · try simp only [cl] at h12
              refine RW.gop rfl rfl rfl rfl rfl rfl (eff_fieldAddr rfl rfl tf28_2 (by decide) rfl rfl rfl (Nat.le_of_ble_eq_true rfl)) ?_
              refine RW.gop rfl rfl rfl rfl rfl rfl (eff_load (y := .t _) rfl rfl ti3 rfl (.one rfl rfl rfl rfl)) ?_
              refine RW.gop rfl rfl rfl rfl rfl rfl (eff_iop rfl rfl rfl rfl rfl) ?_
              refine pkT ?_
              refine mvT ?_
              refine RW.split 55 rfl (fun h13 => ?_) (fun h13 => ?_)
              · try simp only [cl] at h13
                refine gkT ?_
                refine gkT ?_
                refine gkT ?_
                refine pkT ?_
                refine mvT ?_
                refine gkT ?_
                refine gkT ?_
                refine gkT ?_
                refine gkT ?_
                refine pkT ?_
                refine RW.nil ?_
                refine awp_cond rfl (fun _ => ?_) (fun h => nomatch h)
                refine awp_seq ?_
                refine awp_rw rfl ?_
                refine asT ?_
                refine RW.nil ?_
                refine awp_ret ?_
                (rw [show form l i = 1 from by rw [form_at hi]; unfold formR; rw [if_neg (by omega), if_neg (by omega), if_neg (by first | omega | (rw [prevT_pos hi (by omega)]; omega) | (have hi0 : i = 0 := (by omega); subst hi0; rw [prevT_0]; omega)), if_neg (by omega), if_pos (by omega)]]; exact ⟨Or.inr rfl, [_], ⟨.tmp (.t _), trivial⟩, .refl _⟩)
              · try simp only [cl] at h13
                refine RW.gop rfl rfl rfl rfl rfl rfl (eff_fieldAddr rfl rfl tf28_2 (by decide) rfl rfl rfl (Nat.le_of_ble_eq_true rfl)) ?_
                refine RW.gop rfl rfl rfl rfl rfl rfl (eff_load (y := .t _) rfl rfl ti3 rfl (.one rfl rfl rfl rfl)) ?_
                refine RW.gop rfl rfl rfl rfl rfl rfl (eff_iop rfl rfl rfl rfl rfl) ?_
                refine pkT ?_
                refine mvT ?_
                refine RW.split 60 rfl (fun h14 => ?_) (fun h14 => ?_)
                · try simp only [cl] at h14
                  refine gkT ?_
                  refine gkT ?_
                  refine gkT ?_
                  refine gkT ?_
                  refine pkT ?_
                  refine RW.nil ?_
                  refine awp_cond rfl (fun _ => ?_) (fun h => nomatch h)
                  refine awp_seq ?_
                  refine awp_rw rfl ?_
                  refine asT ?_
                  refine RW.nil ?_
                  refine awp_ret ?_
                  (rw [show form l i = 1 from by rw [form_at hi]; unfold formR; rw [if_neg (by omega), if_neg (by omega), if_neg (by first | omega | (rw [prevT_pos hi (by omega)]; omega) | (have hi0 : i = 0 := (by omega); subst hi0; rw [prevT_0]; omega)), if_neg (by omega), if_pos (by omega)]]; exact ⟨Or.inr rfl, [_], ⟨.tmp (.t _), trivial⟩, .refl _⟩)
                · try simp only [cl] at h14
                  refine RW.gop rfl rfl rfl rfl rfl rfl (eff_fieldAddr rfl rfl tf28_3 (by decide) rfl rfl rfl (Nat.le_of_ble_eq_true rfl)) ?_
                  refine RW.gop rfl rfl rfl rfl rfl rfl (eff_load (y := .t _) rfl rfl ti3 rfl (.one rfl rfl rfl rfl)) ?_
                  refine RW.gop rfl rfl rfl rfl rfl rfl (eff_callT (within_ret _) co70 rfl rfl rfl rfl) ?_
                  refine RW.gop rfl rfl rfl rfl rfl rfl (eff_unop rfl rfl rfl rfl) ?_
                  refine pkT ?_
                  refine RW.nil ?_
                  refine awp_cond rfl (fun h15 => ?_) (fun h15 => ?_)
                  · try simp only [cl] at h15
                    refine awp_seq ?_
                    refine awp_rw rfl ?_
                    refine asT ?_
                    refine RW.nil ?_
                    refine awp_ret ?_
                    (rw [show form l i = 1 from by rw [form_at hi]; unfold formR; rw [if_neg (by omega), if_neg (by omega), if_neg (by first | omega | (rw [prevT_pos hi (by omega)]; omega) | (have hi0 : i = 0 := (by omega); subst hi0; rw [prevT_0]; omega)), if_neg (by omega), if_pos (by omega)]]; exact ⟨Or.inr rfl, [_], ⟨.tmp (.t _), trivial⟩, .refl _⟩)
                  · try simp only [cl] at h15
                    refine awp_skip ?_
                    refine awp_seq ?_
                    refine awp_rw rfl ?_
                    refine asT ?_
                    refine RW.nil ?_
                    refine awp_ret ?_
                    (rw [show form l i = 0 from by rw [form_at hi]; unfold formR; rw [if_neg (by omega), if_neg (by omega), if_neg (by first | omega | (rw [prevT_pos hi (by omega)]; omega) | (have hi0 : i = 0 := (by omega); subst hi0; rw [prevT_0]; omega)), if_neg (by omega), if_neg (by omega)]]; exact ⟨Or.inr rfl, [_], ⟨.tmp (.t _), trivial⟩, .refl _⟩)

theorem rform_ret (l : List Rcd) (i : Nat) (hi : i < l.length) (hl : l.length ≤ 1000000) : Ret Tryd.prog 45 [.sl (l.map encC) false, encI (i : Nat)] (encI (form l i)) := by
  refine ret_of_awp Tryd.func45 rfl (Nat.le_of_ble_eq_true rfl) ?_
  refine awp_seq ?_
  refine awp_rw rfl ?_
  refine asT ?_
  refine RW.nil ?_
  refine awp_seq ?_
  refine awp_rw rfl ?_
  refine mvT ?_
  refine mvT ?_
  refine RW.op rfl rfl (eff_indexM (i := i) rfl rfl te32 rfl rfl (by first | rfl | omega) (by first | assumption | exact List.getElem?_eq_getElem (by omega)) rfl (by decide)) ?_
  refine RW.op rfl rfl (eff_loadW rfl rfl ti47 rfl rfl rfl) ?_
  refine RW.new rfl rfl (eff_allocK (k := 15) (id := 5) rfl rfl tz47 rfl rfl) ?_
  refine RW.store rfl rfl (eff_storeW (v := .t _) (els := [_]) (els' := [_]) rfl rfl ti47 rfl rfl rfl rfl rfl rfl rfl rfl rfl) ?_
  refine RW.nil ?_
  refine awp_seq ?_
  refine awp_seq ?_
  refine awp_rw rfl ?_
  refine faT tf47_1 ?_
  refine l1T ti3 rfl rfl rfl rfl rfl (.one rfl rfl rfl rfl) ?_
  refine ioT ?_
  refine mvT ?_
  refine RW.split 14 rfl (fun h1 => ?_) (fun h1 => ?_)
  · try simp only [cl] at h1
    refine gkT ?_
    refine gkT ?_
    refine gkT ?_
    refine pkT ?_
    refine RW.nil ?_
    refine awp_cond rfl (fun _ => ?_) (fun h => nomatch h)
    refine awp_seq ?_
    refine awp_rw rfl ?_
    refine asT ?_
    refine RW.nil ?_
    refine awp_ret ?_
    (rw [show form l i = 1 from by rw [form_at hi]; unfold formR; rw [if_pos (by omega)]]; exact ⟨Or.inr rfl, [_], ⟨.tmp (.t _), trivial⟩, .refl _⟩)
  · try simp only [cl] at h1
    refine RW.gop rfl rfl rfl rfl rfl rfl (eff_fieldAddr rfl rfl tf47_1 (by decide) rfl rfl rfl (Nat.le_of_ble_eq_true rfl)) ?_
    refine RW.gop rfl rfl rfl rfl rfl rfl (eff_load (y := .t _) rfl rfl ti3 rfl (.one rfl rfl rfl rfl)) ?_
    refine RW.gop rfl rfl rfl rfl rfl rfl (eff_iop rfl rfl rfl rfl rfl) ?_
    refine pkT ?_
    refine RW.nil ?_
    refine awp_cond rfl (fun h2 => ?_) (fun h2 => ?_)
    · try simp only [cl] at h2
      refine awp_seq ?_
      refine awp_rw rfl ?_
      refine asT ?_
      refine RW.nil ?_
      refine awp_ret ?_
      (rw [show form l i = 1 from by rw [form_at hi]; unfold formR; rw [if_pos (by omega)]]; exact ⟨Or.inr rfl, [_], ⟨.tmp (.t _), trivial⟩, .refl _⟩)
    · try simp only [cl] at h2
      refine awp_skip ?_
      refine awp_seq ?_
      refine awp_seq ?_
      refine awp_rw rfl ?_
      refine faT tf47_0 ?_
      refine l1T ti3 rfl rfl rfl rfl rfl (.one rfl rfl rfl rfl) ?_
      refine ioT ?_
      refine mvT ?_
      refine RW.split 22 rfl (fun h3 => ?_) (fun h3 => ?_)
      · try simp only [cl] at h3
        refine gkT ?_
        refine gkT ?_
        refine gkT ?_
        refine pkT ?_
        refine RW.nil ?_
        refine awp_cond rfl (fun _ => ?_) (fun h => nomatch h)
        refine awp_seq ?_
        refine awp_rw rfl ?_
        refine asT ?_
        refine RW.nil ?_
        refine awp_ret ?_
        (rw [show form l i = 5 from by rw [form_at hi]; unfold formR; rw [if_neg (by omega), if_pos (by omega)]]; exact ⟨Or.inr rfl, [_], ⟨.tmp (.t _), trivial⟩, .refl _⟩)
      · try simp only [cl] at h3
        refine RW.gop rfl rfl rfl rfl rfl rfl (eff_fieldAddr rfl rfl tf47_0 (by decide) rfl rfl rfl (Nat.le_of_ble_eq_true rfl)) ?_
        refine RW.gop rfl rfl rfl rfl rfl rfl (eff_load (y := .t _) rfl rfl ti3 rfl (.one rfl rfl rfl rfl)) ?_
        refine RW.gop rfl rfl rfl rfl rfl rfl (eff_iop rfl rfl rfl rfl rfl) ?_
        refine pkT ?_
        refine RW.nil ?_
        refine awp_cond rfl (fun h4 => ?_) (fun h4 => ?_)
        · try simp only [cl] at h4
          refine awp_seq ?_
          refine awp_rw rfl ?_
          refine asT ?_
          refine RW.nil ?_
          refine awp_ret ?_
          (rw [show form l i = 5 from by rw [form_at hi]; unfold formR; rw [if_neg (by omega), if_pos (by omega)]]; exact ⟨Or.inr rfl, [_], ⟨.tmp (.t _), trivial⟩, .refl _⟩)
        · try simp only [cl] at h4
          refine awp_skip ?_
          refine awp_seq ?_
          refine awp_seq ?_
          by_cases hc5 : 0 < i
          · refine awp_rd [(some 27, []), (some 28, []), (some 29, []), (some 30, []), (some 31, []), (some 32, []), (some 33, []), (some 34, []), (some 35, []), (some 36, []), (some 37, []), (some 38, []), (some 39, []), (some 40, [])] [[], [0], [0, 1], [0, 1, 2], [0, 1, 2, 3], [0, 1, 2], [0, 1, 2], [0, 1, 2, 6], [0, 1, 2, 6, 7], [0, 1, 2, 5, 6, 7, 8], [0, 1, 2, 5, 6, 7, 8, 9], [0, 1, 2, 5, 6, 7, 8, 9, 10], [0, 1, 2, 3, 4, 5, 6, 7, 8, 9, 10, 11], [0, 1, 2, 3, 4, 5, 6, 7, 8, 9, 10, 11, 12]] tm rfl rfl rfl rfl ?_
            refine mvD ?_
            refine RD.op rfl rfl rfl (eff_iop (r := .bool true) rfl rfl rfl rfl (by simp [iop, hc5])) ?_
            refine mvD ?_
            refine RD.gop rfl rfl rfl rfl rfl rfl rfl (eff_fieldAddr rfl rfl tf47_0 (by decide) rfl rfl rfl (Nat.le_of_ble_eq_true rfl)) ?_
            refine RD.gop rfl rfl rfl rfl rfl rfl rfl (eff_load (y := .t _) rfl rfl ti3 rfl (.one rfl rfl rfl rfl)) ?_
            refine RD.gop rfl rfl rfl rfl rfl rfl rfl (eff_move (v := .t _) rfl rfl rfl) ?_
            refine RD.gop rfl rfl rfl rfl rfl rfl rfl (eff_move (v := .t _) rfl rfl rfl) ?_
            refine RD.gop rfl rfl rfl rfl rfl rfl rfl (eff_iop rfl rfl rfl rfl (isub (by omega))) ?_
            refine RD.gop rfl rfl rfl rfl rfl rfl rfl (eff_maxE (r := ((i - 1 : Nat) : Int)) rfl rfl rfl rfl (by unfold imax; split <;> omega)) ?_
            refine RD.gop rfl rfl rfl rfl rfl rfl rfl (eff_indexM (i := i - 1) rfl rfl te32 rfl rfl (by first | rfl | omega) (by exact List.getElem?_eq_getElem (by omega)) rfl (by decide)) ?_
            refine RD.gop rfl rfl rfl rfl rfl rfl rfl (eff_fieldAddrT rfl rfl tf47_0 (by decide) rfl) ?_
            refine RD.gop rfl rfl rfl rfl rfl rfl rfl (eff_loadT1 rfl rfl ti3 rfl rfl) ?_
            refine RD.gop rfl rfl rfl rfl rfl rfl rfl (eff_iop rfl rfl rfl rfl rfl) ?_
            refine RD.op rfl rfl rfl (eff_pick (v := .t _) rfl rfl rfl rfl) ?_
            refine RD.nil ?_
            refine awp_cond rfl (fun h6 => ?_) (fun h6 => ?_)
            · try simp only [cl] at h6
              refine awp_seq ?_
              refine awp_rw rfl ?_
              refine asT ?_
              refine RW.nil ?_
              refine awp_ret ?_
              (rw [show form l i = 23 from by rw [form_at hi]; unfold formR; rw [if_neg (by omega), if_neg (by omega), if_pos (by first | omega | (rw [prevT_pos hi (by omega)]; omega) | (have hi0 : i = 0 := (by omega); subst hi0; rw [prevT_0]; omega))]]; exact ⟨Or.inr rfl, [_], ⟨.tmp (.t _), trivial⟩, .refl _⟩)
            · try simp only [cl] at h6
              refine awp_skip ?_
              refine awp_seq ?_
              refine awp_rw rfl ?_
              refine faT tf47_4 ?_
              refine RW.op rfl rfl (eff_loadS (ys := [_, _, _, _]) rfl rfl ti28 rfl rfl rfl rfl rfl rfl) ?_
              refine RW.new rfl rfl (eff_allocK (k := 4) (id := 6) rfl rfl tz28 rfl rfl) ?_
              refine RW.store rfl rfl (eff_storeW (v := .t _) (els := [_]) (els' := [_]) rfl rfl ti28 rfl rfl rfl rfl rfl rfl rfl rfl rfl) ?_
              refine RW.nil ?_
              refine awp_seq ?_
              refine awp_seq ?_
              refine awp_rw rfl ?_
              refine faT tf47_1 ?_
              refine l1T ti3 rfl rfl rfl rfl rfl (.one rfl rfl rfl rfl) ?_
              refine ioT ?_
              refine mvT ?_
              refine RW.split 46 rfl (fun h7 => ?_) (fun h7 => ?_)
              · try simp only [cl] at h7
                refine RW.gop rfl rfl rfl rfl rfl rfl (eff_fieldAddr rfl rfl tf28_0 (by decide) rfl rfl rfl (Nat.le_of_ble_eq_true rfl)) ?_
                refine RW.gop rfl rfl rfl rfl rfl rfl (eff_load (y := .t _) rfl rfl ti3 rfl (.one rfl rfl rfl rfl)) ?_
                refine RW.gop rfl rfl rfl rfl rfl rfl (eff_fieldAddr rfl rfl tf47_0 (by decide) rfl rfl rfl (Nat.le_of_ble_eq_true rfl)) ?_
                refine RW.gop rfl rfl rfl rfl rfl rfl (eff_load (y := .t _) rfl rfl ti3 rfl (.one rfl rfl rfl rfl)) ?_
                refine RW.gop rfl rfl rfl rfl rfl rfl (eff_iop rfl rfl rfl rfl rfl) ?_
                refine RW.gop rfl rfl rfl rfl rfl rfl (eff_move (v := .t _) rfl rfl rfl) ?_
                refine RW.split 52 rfl (fun h8 => ?_) (fun h8 => ?_)
                · try simp only [cl] at h8
                  refine gkT ?_
                  refine gkT ?_
                  refine gkT ?_
                  refine RW.gop rfl rfl rfl rfl rfl rfl (eff_pick (v := .t _) rfl rfl rfl rfl) ?_
                  refine RW.gop rfl rfl rfl rfl rfl rfl (eff_move (v := .t _) rfl rfl rfl) ?_
                  refine gkT ?_
                  refine gkT ?_
                  refine gkT ?_
                  refine RW.gop rfl rfl rfl rfl rfl rfl (eff_pick (v := .t _) rfl rfl rfl rfl) ?_
                  refine RW.gop rfl rfl rfl rfl rfl rfl (eff_move (v := .t _) rfl rfl rfl) ?_
                  refine gkT ?_
                  refine gkT ?_
                  refine gkT ?_
                  refine RW.gop rfl rfl rfl rfl rfl rfl (eff_pick (v := .t _) rfl rfl rfl rfl) ?_
                  refine RW.gop rfl rfl rfl rfl rfl rfl (eff_move (v := .t _) rfl rfl rfl) ?_
                  refine gkT ?_
                  refine gkT ?_
                  refine gkT ?_
                  refine RW.gop rfl rfl rfl rfl rfl rfl (eff_pick (v := .t _) rfl rfl rfl rfl) ?_
                  refine pkT ?_
                  refine RW.nil ?_
                  refine awp_cond rfl (fun _ => ?_) (fun h => nomatch h)
                  refine awp_seq ?_
                  refine awp_rw rfl ?_
                  refine asT ?_
                  refine RW.nil ?_
                  refine awp_ret ?_
                  (rw [show form l i = 1 from by rw [form_at hi]; unfold formR; rw [if_neg (by omega), if_neg (by omega), if_neg (by first | omega | (rw [prevT_pos hi (by omega)]; omega) | (have hi0 : i = 0 := (by omega); subst hi0; rw [prevT_0]; omega)), if_neg (by omega), if_pos (by omega)]]; exact ⟨Or.inr rfl, [_], ⟨.tmp (.t _), trivial⟩, .refl _⟩)
                · try simp only [cl] at h8
                  refine RW.gop rfl rfl rfl rfl rfl rfl (eff_fieldAddr rfl rfl tf28_2 (by decide) rfl rfl rfl (Nat.le_of_ble_eq_true rfl)) ?_
                  refine RW.gop rfl rfl rfl rfl rfl rfl (eff_load (y := .t _) rfl rfl ti3 rfl (.one rfl rfl rfl rfl)) ?_
                  refine RW.gop rfl rfl rfl rfl rfl rfl (eff_iop rfl rfl rfl rfl rfl) ?_
                  refine RW.gop rfl rfl rfl rfl rfl rfl (eff_pick (v := .t _) rfl rfl rfl rfl) ?_
                  refine RW.gop rfl rfl rfl rfl rfl rfl (eff_move (v := .t _) rfl rfl rfl) ?_
                  refine RW.split 57 rfl (fun h9 => ?_) (fun h9 => ?_)
                  · try simp only [cl] at h9
                    refine gkT ?_
                    refine gkT ?_
                    refine gkT ?_
                    refine RW.gop rfl rfl rfl rfl rfl rfl (eff_pick (v := .t _) rfl rfl rfl rfl) ?_
                    refine RW.gop rfl rfl rfl rfl rfl rfl (eff_move (v := .t _) rfl rfl rfl) ?_
                    refine gkT ?_
                    refine gkT ?_
                    refine gkT ?_
                    refine RW.gop rfl rfl rfl rfl rfl rfl (eff_pick (v := .t _) rfl rfl rfl rfl) ?_
                    refine RW.gop rfl rfl rfl rfl rfl rfl (eff_move (v := .t _) rfl rfl rfl) ?_
                    refine gkT ?_
                    refine gkT ?_
                    refine gkT ?_
                    refine RW.gop rfl rfl rfl rfl rfl rfl (eff_pick (v := .t _) rfl rfl rfl rfl) ?_
                    refine pkT ?_
                    refine RW.nil ?_
                    refine awp_cond rfl (fun _ => ?_) (fun h => nomatch h)
                    refine awp_seq ?_
                    refine awp_rw rfl ?_
                    refine asT ?_
                    refine RW.nil ?_
                    refine awp_ret ?_
                    (rw [show form l i = 1 from by rw [form_at hi]; unfold formR; rw [if_neg (by omega), if_neg (by omega), if_neg (by first | omega | (rw [prevT_pos hi (by omega)]; omega) | (have hi0 : i = 0 := (by omega); subst hi0; rw [prevT_0]; omega)), if_neg (by omega), if_pos (by omega)]]; exact ⟨Or.inr rfl, [_], ⟨.tmp (.t _), trivial⟩, .refl _⟩)
                  · try simp only [cl] at h9
                    refine RW.gop rfl rfl rfl rfl rfl rfl (eff_fieldAddr rfl rfl tf28_2 (by decide) rfl rfl rfl (Nat.le_of_ble_eq_true rfl)) ?_
                    refine RW.gop rfl rfl rfl rfl rfl rfl (eff_load (y := .t _) rfl rfl ti3 rfl (.one rfl rfl rfl rfl)) ?_
                    refine RW.gop rfl rfl rfl rfl rfl rfl (eff_iop rfl rfl rfl rfl rfl) ?_
                    refine RW.gop rfl rfl rfl rfl rfl rfl (eff_pick (v := .t _) rfl rfl rfl rfl) ?_
                    refine RW.gop rfl rfl rfl rfl rfl rfl (eff_move (v := .t _) rfl rfl rfl) ?_
                    refine RW.split 62 rfl (fun h10 => ?_) (fun h10 => ?_)
                    · try simp only [cl] at h10
                      refine gkT ?_
                      refine gkT ?_
                      refine gkT ?_
                      refine RW.gop rfl rfl rfl rfl rfl rfl (eff_pick (v := .t _) rfl rfl rfl rfl) ?_
                      refine RW.gop rfl rfl rfl rfl rfl rfl (eff_move (v := .t _) rfl rfl rfl) ?_
                      refine gkT ?_
                      refine gkT ?_
                      refine gkT ?_
                      refine RW.gop rfl rfl rfl rfl rfl rfl (eff_pick (v := .t _) rfl rfl rfl rfl) ?_
                      refine pkT ?_
                      refine RW.nil ?_
                      refine awp_cond rfl (fun _ => ?_) (fun h => nomatch h)
                      refine awp_seq ?_
                      refine awp_rw rfl ?_
                      refine asT ?_
                      refine RW.nil ?_
                      refine awp_ret ?_
                      (rw [show form l i = 1 from by rw [form_at hi]; unfold formR; rw [if_neg (by omega), if_neg (by omega), if_neg (by first | omega | (rw [prevT_pos hi (by omega)]; omega) | (have hi0 : i = 0 := (by omega); subst hi0; rw [prevT_0]; omega)), if_neg (by omega), if_pos (by omega)]]; exact ⟨Or.inr rfl, [_], ⟨.tmp (.t _), trivial⟩, .refl _⟩)
                    · try simp only [cl] at h10
                      refine RW.gop rfl rfl rfl rfl rfl rfl (eff_fieldAddr rfl rfl tf28_3 (by decide) rfl rfl rfl (Nat.le_of_ble_eq_true rfl)) ?_
                      refine RW.gop rfl rfl rfl rfl rfl rfl (eff_load (y := .t _) rfl rfl ti3 rfl (.one rfl rfl rfl rfl)) ?_
                      refine RW.gop rfl rfl rfl rfl rfl rfl (eff_iop rfl rfl rfl rfl rfl) ?_
                      refine RW.gop rfl rfl rfl rfl rfl rfl (eff_pick (v := .t _) rfl rfl rfl rfl) ?_
                      refine RW.gop rfl rfl rfl rfl rfl rfl (eff_move (v := .t _) rfl rfl rfl) ?_
                      refine RW.split 67 rfl (fun h11 => ?_) (fun h11 => ?_)
                      · try simp only [cl] at h11
                        refine gkT ?_
                        refine gkT ?_
                        refine gkT ?_
                        refine RW.gop rfl rfl rfl rfl rfl rfl (eff_pick (v := .t _) rfl rfl rfl rfl) ?_
                        refine pkT ?_
                        refine RW.nil ?_
                        refine awp_cond rfl (fun _ => ?_) (fun h => nomatch h)
                        refine awp_seq ?_
                        refine awp_rw rfl ?_
                        refine asT ?_
                        refine RW.nil ?_
                        refine awp_ret ?_
                        (rw [show form l i = 1 from by rw [form_at hi]; unfold formR; rw [if_neg (by omega), if_neg (by omega), if_neg (by first | omega | (rw [prevT_pos hi (by omega)]; omega) | (have hi0 : i = 0 := (by omega); subst hi0; rw [prevT_0]; omega)), if_neg (by omega), if_pos (by omega)]]; exact ⟨Or.inr rfl, [_], ⟨.tmp (.t _), trivial⟩, .refl _⟩)
                      · try simp only [cl] at h11
                        refine RW.gop rfl rfl rfl rfl rfl rfl (eff_fieldAddr rfl rfl tf28_3 (by decide) rfl rfl rfl (Nat.le_of_ble_eq_true rfl)) ?_
                        refine RW.gop rfl rfl rfl rfl rfl rfl (eff_load (y := .t _) rfl rfl ti3 rfl (.one rfl rfl rfl rfl)) ?_
                        refine RW.gop rfl rfl rfl rfl rfl rfl (eff_iop rfl rfl rfl rfl rfl) ?_
                        refine RW.gop rfl rfl rfl rfl rfl rfl (eff_pick (v := .t _) rfl rfl rfl rfl) ?_
                        refine pkT ?_
                        refine RW.nil ?_
                        refine awp_cond rfl (fun h12 => ?_) (fun h12 => ?_)
                        · try simp only [cl] at h12
                          refine awp_seq ?_
                          refine awp_rw rfl ?_
                          refine asT ?_
                          refine RW.nil ?_
                          refine awp_ret ?_
                          (rw [show form l i = 1 from by rw [form_at hi]; unfold formR; rw [if_neg (by omega), if_neg (by omega), if_neg (by first | omega | (rw [prevT_pos hi (by omega)]; omega) | (have hi0 : i = 0 := (by omega); subst hi0; rw [prevT_0]; omega)), if_neg (by omega), if_pos (by omega)]]; exact ⟨Or.inr rfl, [_], ⟨.tmp (.t _), trivial⟩, .refl _⟩)
                        · try simp only [cl] at h12
                          refine awp_skip ?_
                          refine awp_seq ?_
                          refine awp_rw rfl ?_
                          refine asT ?_
                          refine RW.nil ?_
                          refine awp_ret ?_
                          (rw [show form l i = 0 from by rw [form_at hi]; unfold formR; rw [if_neg (by omega), if_neg (by omega), if_neg (by first | omega | (rw [prevT_pos hi (by omega)]; omega) | (have hi0 : i = 0 := (by omega); subst hi0; rw [prevT_0]; omega)), if_neg (by omega), if_neg (by omega)]]; exact ⟨Or.inr rfl, [_], ⟨.tmp (.t _), trivial⟩, .refl _⟩)
              · try simp only [cl] at h7
                refine gkT ?_
                refine gkT ?_
                refine gkT ?_
                refine gkT ?_
                refine gkT ?_
                refine gkT ?_
                refine RW.gundef rfl rfl rfl rfl rfl ?_
                refine RW.gundef rfl rfl rfl rfl rfl ?_
                refine RW.gundef rfl rfl rfl rfl rfl ?_
                refine gkT ?_
                refine gkT ?_
                refine RW.gundef rfl rfl rfl rfl rfl ?_
                refine RW.gundef rfl rfl rfl rfl rfl ?_
                refine RW.gundef rfl rfl rfl rfl rfl ?_
                refine gkT ?_
                refine gkT ?_
                refine RW.gundef rfl rfl rfl rfl rfl ?_
                refine RW.gundef rfl rfl rfl rfl rfl ?_
                refine RW.gundef rfl rfl rfl rfl rfl ?_
                refine gkT ?_
                refine gkT ?_
                refine RW.gundef rfl rfl rfl rfl rfl ?_
                refine RW.gundef rfl rfl rfl rfl rfl ?_
                refine RW.gundef rfl rfl rfl rfl rfl ?_
                refine gkT ?_
                refine pkT ?_
                refine RW.nil ?_
                refine awp_cond rfl (fun h => nomatch h) (fun _ => ?_)
                refine awp_skip ?_
                refine awp_seq ?_
                refine awp_rw rfl ?_
                refine asT ?_
                refine RW.nil ?_
                refine awp_ret ?_
                (rw [show form l i = 0 from by rw [form_at hi]; unfold formR; rw [if_neg (by omega), if_neg (by omega), if_neg (by first | omega | (rw [prevT_pos hi (by omega)]; omega) | (have hi0 : i = 0 := (by omega); subst hi0; rw [prevT_0]; omega)), if_pos (by omega)]]; exact ⟨Or.inr rfl, [_], ⟨.tmp (.t _), trivial⟩, .refl _⟩)
          · refine awp_rd [(some 27, []), (some 28, []), (some 29, []), (some 30, []), (some 31, []), (some 32, []), (some 33, []), (some 34, []), (some 35, []), (some 36, []), (some 37, []), (some 38, []), (some 39, []), (some 40, [])] [[], [0], [0, 1], [0, 1, 2], [0, 1, 2, 3], [0, 1, 2], [0, 1, 2], [0, 1, 2, 6], [0, 1, 2, 6, 7], [0, 1, 2, 5, 6, 7, 8], [0, 1, 2, 5, 6, 7, 8, 9], [0, 1, 2, 5, 6, 7, 8, 9, 10], [0, 1, 2, 3, 4, 5, 6, 7, 8, 9, 10, 11], [0, 1, 2, 3, 4, 5, 6, 7, 8, 9, 10, 11, 12]] tm rfl rfl rfl rfl ?_
            refine mvD ?_
            refine RD.op rfl rfl rfl (eff_iop (r := .bool false) rfl rfl rfl rfl (by simp [iop, hc5])) ?_
            refine mvD ?_
            refine gkD ?_
            refine gkD ?_
            refine gkD ?_
            refine gkD ?_
            refine gkD ?_
            refine gkD ?_
            refine gkD ?_
            refine gkD ?_
            refine gkD ?_
            refine gkD ?_
            refine RD.op rfl rfl rfl (eff_pick (v := .t _) rfl rfl rfl rfl) ?_
            refine RD.nil ?_
            refine awp_cond rfl (fun h => nomatch h) (fun _ => ?_)
            refine awp_skip ?_
            refine awp_seq ?_
            refine awp_rw rfl ?_
            refine faT tf47_4 ?_
            refine RW.op rfl rfl (eff_loadS (ys := [_, _, _, _]) rfl rfl ti28 rfl rfl rfl rfl rfl rfl) ?_
            refine RW.new rfl rfl (eff_allocK (k := 4) (id := 6) rfl rfl tz28 rfl rfl) ?_
            refine RW.store rfl rfl (eff_storeW (v := .t _) (els := [_]) (els' := [_]) rfl rfl ti28 rfl rfl rfl rfl rfl rfl rfl rfl rfl) ?_
            refine RW.nil ?_
            refine awp_seq ?_
            refine awp_seq ?_
            refine awp_rw rfl ?_
            refine faT tf47_1 ?_
            refine l1T ti3 rfl rfl rfl rfl rfl (.one rfl rfl rfl rfl) ?_
            refine ioT ?_
            refine mvT ?_
            refine RW.split 46 rfl (fun h13 => ?_) (fun h13 => ?_)
            · try simp only [cl] at h13
              refine RW.gop rfl rfl rfl rfl rfl rfl (eff_fieldAddr rfl rfl tf28_0 (by decide) rfl rfl rfl (Nat.le_of_ble_eq_true rfl)) ?_
              refine RW.gop rfl rfl rfl rfl rfl rfl (eff_load (y := .t _) rfl rfl ti3 rfl (.one rfl rfl rfl rfl)) ?_
              refine RW.gop rfl rfl rfl rfl rfl rfl (eff_fieldAddr rfl rfl tf47_0 (by decide) rfl rfl rfl (Nat.le_of_ble_eq_true rfl)) ?_
              refine RW.gop rfl rfl rfl rfl rfl rfl (eff_load (y := .t _) rfl rfl ti3 rfl (.one rfl rfl rfl rfl)) ?_
              refine RW.gop rfl rfl rfl rfl rfl rfl (eff_iop rfl rfl rfl rfl rfl) ?_
              refine RW.gop rfl rfl rfl rfl rfl rfl (eff_move (v := .t _) rfl rfl rfl) ?_
              refine RW.split 52 rfl (fun h14 => ?_) (fun h14 => ?_)
              · try simp only [cl] at h14
                refine gkT ?_
                refine gkT ?_
                refine gkT ?_
                refine RW.gop rfl rfl rfl rfl rfl rfl (eff_pick (v := .t _) rfl rfl rfl rfl) ?_
                refine RW.gop rfl rfl rfl rfl rfl rfl (eff_move (v := .t _) rfl rfl rfl) ?_
                refine gkT ?_
                refine gkT ?_
                refine gkT ?_
                refine RW.gop rfl rfl rfl rfl rfl rfl (eff_pick (v := .t _) rfl rfl rfl rfl) ?_
                refine RW.gop rfl rfl rfl rfl rfl rfl (eff_move (v := .t _) rfl rfl rfl) ?_
                refine gkT ?_
                refine gkT ?_
                refine gkT ?_
                refine RW.gop rfl rfl rfl rfl rfl rfl (eff_pick (v := .t _) rfl rfl rfl rfl) ?_
                refine RW.gop rfl rfl rfl rfl rfl rfl (eff_move (v := .t _) rfl rfl rfl) ?_
                refine gkT ?_
                refine gkT ?_
                refine gkT ?_
                refine RW.gop rfl rfl rfl rfl rfl rfl (eff_pick (v := .t _) rfl rfl rfl rfl) ?_
                refine pkT ?_
                refine RW.nil ?_
                refine awp_cond rfl (fun _ => ?_) (fun h => nomatch h)
                refine awp_seq ?_
                refine awp_rw rfl ?_
                refine asT ?_
                refine RW.nil ?_
                refine awp_ret ?_
                (rw [show form l i = 1 from by rw [form_at hi]; unfold formR; rw [if_neg (by omega), if_neg (by omega), if_neg (by first | omega | (rw [prevT_pos hi (by omega)]; omega) | (have hi0 : i = 0 := (by omega); subst hi0; rw [prevT_0]; omega)), if_neg (by omega), if_pos (by omega)]]; exact ⟨Or.inr rfl, [_], ⟨.tmp (.t _), trivial⟩, .refl _⟩)
              · try simp only [cl] at h14
                refine RW.gop rfl rfl rfl rfl rfl rfl (eff_fieldAddr rfl rfl tf28_2 (by decide) rfl rfl rfl (Nat.le_of_ble_eq_true rfl)) ?_
                refine RW.gop rfl rfl rfl rfl rfl rfl (eff_load (y := .t _) rfl rfl ti3 rfl (.one rfl rfl rfl rfl)) ?_
                refine RW.gop rfl rfl rfl rfl rfl rfl (eff_iop rfl rfl rfl rfl rfl) ?_
                refine RW.gop rfl rfl rfl rfl rfl rfl (eff_pick (v := .t _) rfl rfl rfl rfl) ?_
                refine RW.gop rfl rfl rfl rfl rfl rfl (eff_move (v := .t _) rfl rfl rfl) ?_
                refine RW.split 57 rfl (fun h15 => ?_) (fun h15 => ?_)
                · try simp only [cl] at h15
                  refine gkT ?_
                  refine gkT ?_
                  refine gkT ?_
                  refine RW.gop rfl rfl rfl rfl rfl rfl (eff_pick (v := .t _) rfl rfl rfl rfl) ?_
                  refine RW.gop rfl rfl rfl rfl rfl rfl (eff_move (v := .t _) rfl rfl rfl) ?_
                  refine gkT ?_
                  refine gkT ?_
                  refine gkT ?_
                  refine RW.gop rfl rfl rfl rfl rfl rfl (eff_pick (v := .t _) rfl rfl rfl rfl) ?_
                  refine RW.gop rfl rfl rfl rfl rfl rfl (eff_move (v := .t _) rfl rfl rfl) ?_
                  refine gkT ?_
                  refine gkT ?_
                  refine gkT ?_
                  refine RW.gop rfl rfl rfl rfl rfl rfl (eff_pick (v := .t _) rfl rfl rfl rfl) ?_
                  refine pkT ?_
                  refine RW.nil ?_
                  refine awp_cond rfl (fun _ => ?_) (fun h => nomatch h)
                  refine awp_seq ?_
                  refine awp_rw rfl ?_
                  refine asT ?_
                  refine RW.nil ?_
                  refine awp_ret ?_
                  (rw [show form l i = 1 from by rw [form_at hi]; unfold formR; rw [if_neg (by omega), if_neg (by omega), if_neg (by first | omega | (rw [prevT_pos hi (by omega)]; omega) | (have hi0 : i = 0 := (by omega); subst hi0; rw [prevT_0]; omega)), if_neg (by omega), if_pos (by omega)]]; exact ⟨Or.inr rfl, [_], ⟨.tmp (.t _), trivial⟩, .refl _⟩)
                · try simp only [cl] at h15
                  refine RW.gop rfl rfl rfl rfl rfl rfl (eff_fieldAddr rfl rfl tf28_2 (by decide) rfl rfl rfl (Nat.le_of_ble_eq_true rfl)) ?_
                  refine RW.gop rfl rfl rfl rfl rfl rfl (eff_load (y := .t _) rfl rfl ti3 rfl (.one rfl rfl rfl rfl)) ?_
                  refine RW.gop rfl rfl rfl rfl rfl rfl (eff_iop rfl rfl rfl rfl rfl) ?_
                  refine RW.gop rfl rfl rfl rfl rfl rfl (eff_pick (v := .t _) rfl rfl rfl rfl) ?_
                  refine RW.gop rfl rfl rfl rfl rfl rfl (eff_move (v := .t _) rfl rfl rfl) ?_
                  refine RW.split 62 rfl (fun h16 => ?_) (fun h16 => ?_)
                  · try simp only [cl] at h16
                    refine gkT ?_
                    refine gkT ?_
                    refine gkT ?_
                    refine RW.gop rfl rfl rfl rfl rfl rfl (eff_pick (v := .t _) rfl rfl rfl rfl) ?_
                    refine RW.gop rfl rfl rfl rfl rfl rfl (eff_move (v := .t _) rfl rfl rfl) ?_
                    refine gkT ?_
                    refine gkT ?_
                    refine gkT ?_
                    refine RW.gop rfl rfl rfl rfl rfl rfl (eff_pick (v := .t _) rfl rfl rfl rfl) ?_
                    refine pkT ?_
                    refine RW.nil ?_
                    refine awp_cond rfl (fun _ => ?_) (fun h => nomatch h)
                    refine awp_seq ?_
                    refine awp_rw rfl ?_
                    refine asT ?_
                    refine RW.nil ?_
                    refine awp_ret ?_
                    (rw [show form l i = 1 from by rw [form_at hi]; unfold formR; rw [if_neg (by omega), if_neg (by omega), if_neg (by first | omega | (rw [prevT_pos hi (by omega)]; omega) | (have hi0 : i = 0 := (by omega); subst hi0; rw [prevT_0]; omega)), if_neg (by omega), if_pos (by omega)]]; exact ⟨Or.inr rfl, [_], ⟨.tmp (.t _), trivial⟩, .refl _⟩)
                  · try simp only [cl] at h16
                    refine RW.gop rfl rfl rfl rfl rfl rfl (eff_fieldAddr rfl rfl tf28_3 (by decide) rfl rfl rfl (Nat.le_of_ble_eq_true rfl)) ?_
                    refine RW.gop rfl rfl rfl rfl rfl rfl (eff_load (y := .t _) rfl rfl ti3 rfl (.one rfl rfl rfl rfl)) ?_
                    refine RW.gop rfl rfl rfl rfl rfl rfl (eff_iop rfl rfl rfl rfl rfl) ?_
                    refine RW.gop rfl rfl rfl rfl rfl rfl (eff_pick (v := .t _) rfl rfl rfl rfl) ?_
                    refine RW.gop rfl rfl rfl rfl rfl rfl (eff_move (v := .t _) rfl rfl rfl) ?_
                    refine RW.split 67 rfl (fun h17 => ?_) (fun h17 => ?_)
                    · try simp only [cl] at h17
                      refine gkT ?_
                      refine gkT ?_
                      refine gkT ?_
                      refine RW.gop rfl rfl rfl rfl rfl rfl (eff_pick (v := .t _) rfl rfl rfl rfl) ?_
                      refine pkT ?_
                      refine RW.nil ?_
                      refine awp_cond rfl (fun _ => ?_) (fun h => nomatch h)
                      refine awp_seq ?_
                      refine awp_rw rfl ?_
                      refine asT ?_
                      refine RW.nil ?_
                      refine awp_ret ?_
                      (rw [show form l i = 1 from by rw [form_at hi]; unfold formR; rw [if_neg (by omega), if_neg (by omega), if_neg (by first | omega | (rw [prevT_pos hi (by omega)]; omega) | (have hi0 : i = 0 := (by omega); subst hi0; rw [prevT_0]; omega)), if_neg (by omega), if_pos (by omega)]]; exact ⟨Or.inr rfl, [_], ⟨.tmp (.t _), trivial⟩, .refl _⟩)
                    · try simp only [cl] at h17
                      refine RW.gop rfl rfl rfl rfl rfl rfl (eff_fieldAddr rfl rfl tf28_3 (by decide) rfl rfl rfl (Nat.le_of_ble_eq_true rfl)) ?_
                      refine RW.gop rfl rfl rfl rfl rfl rfl (eff_load (y := .t _) rfl rfl ti3 rfl (.one rfl rfl rfl rfl)) ?_
                      refine RW.gop rfl rfl rfl rfl rfl rfl (eff_iop rfl rfl rfl rfl rfl) ?_
                      refine RW.gop rfl rfl rfl rfl rfl rfl (eff_pick (v := .t _) rfl rfl rfl rfl) ?_
                      refine pkT ?_
                      refine RW.nil ?_
                      refine awp_cond rfl (fun h18 => ?_) (fun h18 => ?_)
                      · try simp only [cl] at h18
                        refine awp_seq ?_
                        refine awp_rw rfl ?_
                        refine asT ?_
                        refine RW.nil ?_
                        refine awp_ret ?_
                        (rw [show form l i = 1 from by rw [form_at hi]; unfold formR; rw [if_neg (by omega), if_neg (by omega), if_neg (by first | omega | (rw [prevT_pos hi (by omega)]; omega) | (have hi0 : i = 0 := (by omega); subst hi0; rw [prevT_0]; omega)), if_neg (by omega), if_pos (by omega)]]; exact ⟨Or.inr rfl, [_], ⟨.tmp (.t _), trivial⟩, .refl _⟩)
                      · try simp only [cl] at h18
                        refine awp_skip ?_
                        refine awp_seq ?_
                        refine awp_rw rfl ?_
                        refine asT ?_
                        refine RW.nil ?_
                        refine awp_ret ?_
                        (rw [show form l i = 0 from by rw [form_at hi]; unfold formR; rw [if_neg (by omega), if_neg (by omega), if_neg (by first | omega | (rw [prevT_pos hi (by omega)]; omega) | (have hi0 : i = 0 := (by omega); subst hi0; rw [prevT_0]; omega)), if_neg (by omega), if_neg (by omega)]]; exact ⟨Or.inr rfl, [_], ⟨.tmp (.t _), trivial⟩, .refl _⟩)
            · try simp only [cl] at h13
              refine gkT ?_
              refine gkT ?_
              refine gkT ?_
              refine gkT ?_
              refine gkT ?_
              refine gkT ?_
              refine RW.gundef rfl rfl rfl rfl rfl ?_
              refine RW.gundef rfl rfl rfl rfl rfl ?_
              refine RW.gundef rfl rfl rfl rfl rfl ?_
              refine gkT ?_
              refine gkT ?_
              refine RW.gundef rfl rfl rfl rfl rfl ?_
              refine RW.gundef rfl rfl rfl rfl rfl ?_
              refine RW.gundef rfl rfl rfl rfl rfl ?_
              refine gkT ?_
              refine gkT ?_
              refine RW.gundef rfl rfl rfl rfl rfl ?_
              refine RW.gundef rfl rfl rfl rfl rfl ?_
              refine RW.gundef rfl rfl rfl rfl rfl ?_
              refine gkT ?_
              refine gkT ?_
              refine RW.gundef rfl rfl rfl rfl rfl ?_
              refine RW.gundef rfl rfl rfl rfl rfl ?_
              refine RW.gundef rfl rfl rfl rfl rfl ?_
              refine gkT ?_
              refine pkT ?_
              refine RW.nil ?_
              refine awp_cond rfl (fun h => nomatch h) (fun _ => ?_)
              refine awp_skip ?_
              refine awp_seq ?_
              refine awp_rw rfl ?_
              refine asT ?_
              refine RW.nil ?_
              refine awp_ret ?_
              (rw [show form l i = 0 from by rw [form_at hi]; unfold formR; rw [if_neg (by omega), if_neg (by omega), if_neg (by first | omega | (rw [prevT_pos hi (by omega)]; omega) | (have hi0 : i = 0 := (by omega); subst hi0; rw [prevT_0]; omega)), if_pos (by omega)]]; exact ⟨Or.inr rfl, [_], ⟨.tmp (.t _), trivial⟩, .refl _⟩)

end Go.Tv.C36

end
