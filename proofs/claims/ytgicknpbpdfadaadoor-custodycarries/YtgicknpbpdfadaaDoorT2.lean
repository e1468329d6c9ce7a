/- Part of the proof that the laws of this seat return true for every input. No condition. -/
import Derived.Test.YtgicknpbpdfadaaDoorT1
import Derived.Test.YtgicknpbpdfadaaDoorProg
section
namespace Go.Tv
variable {P : Program} {o : Oper} {D : St}

/-- The elements name the same objects on both sides. -/
def selfEls (σ : Sto) (ren : Nat → Nat) (ob : Ob) : Prop := ∀ x, x ∈ ob.els → RenA σ ren x x

theorem RenA.cell {σ : Sto} {ren : Nat → Nat} {x : AV} (h : RenA σ ren x x) {j : Nat} {y : AV} (hy : x.cells[j]? = some y) : RenA σ ren y y := by
  have one : ∀ (z : AV), z.cells = [z] → RenA σ ren z z → ∀ (j : Nat) (y : AV), z.cells[j]? = some y → RenA σ ren y y := by
    intro z hz hr j y hy
    rw [hz] at hy
    match j with
    | 0 => simp at hy; subst hy; exact hr
    | j + 1 => simp at hy
  cases x with
  | t x =>
    simp only [AV.cells, List.getElem?_map, Option.map_eq_some_iff] at hy
    obtain ⟨y', _, rfl⟩ := hy
    exact .t _
  | agg cs => cases h with | agg _ _ hl h => exact h j y y hy hy
  | own id g off len => exact one _ rfl h j y hy
  | ptr id g i k => exact one _ rfl h j y hy
  | tup vs => exact one _ rfl h j y hy
  | fn f cs => exact one _ rfl h j y hy
  | junk => exact one _ rfl h j y hy

theorem ObOK.to {w : World} {H H' : Nat → Prop} {β β' : Nat → Option Nat} {σ σ' : Sto} {ren : Nat → Nat} {id n : Nat} {ob : Ob} (ht : selfEls σ ren ob) (hH : ∀ b, H' b → H b)
    (hs : ∀ id ob, sget σ id = some ob → sget σ' (ren id) = some ob ∧ β' (ren id) = β id) (hb : β' n = β id) (h : ObOK w H β σ id ob) : ObOK w H' β' σ' n ob := by
  rcases h with ⟨h1, h2⟩ | ⟨b, c, h1, h2, h3, h4, h5⟩
  · exact .inl ⟨hb.trans h1, h2⟩
  · refine .inr ⟨b, c, hb.trans h1, h2, h3, h4, fun i x j y hx hy => ?_⟩
    obtain ⟨g1, u, hu, hva⟩ := h5 i x j y hx hy
    exact ⟨g1, u, hu, ((ht x (List.mem_of_getElem? hx)).cell hy).to hH hs hva⟩

theorem ObOK.of {w : World} {H H' : Nat → Prop} {β β' : Nat → Option Nat} {σ σ' : Sto} {ren : Nat → Nat} {id n : Nat} {ob : Ob} (ht : selfEls σ ren ob) (hH : ∀ b, H b → H' b)
    (hs : ∀ id ob, sget σ id = some ob → sget σ' (ren id) = some ob ∧ β' (ren id) = β id) (hb : β id = β' n) (h : ObOK w H' β' σ' n ob) : ObOK w H β σ id ob := by
  rcases h with ⟨h1, h2⟩ | ⟨b, c, h1, h2, h3, h4, h5⟩
  · exact .inl ⟨hb.trans h1, h2⟩
  · refine .inr ⟨b, c, hb.trans h1, h2, h3, h4, fun i x j y hx hy => ?_⟩
    obtain ⟨g1, u, hu, hva⟩ := h5 i x j y hx hy
    exact ⟨g1, u, hu, ((ht x (List.mem_of_getElem? hx)).cell hy).of hH hs hva⟩

/-- As eff_callK. -/
theorem eff_callKR {f : FuncId} {ks : List (Nat × AV)} {x : Operand} {args : Array Operand} {ats : Array TypeId} {σ0 σ1 : Sto} {xs : List AV} {r r' : AV} (hret : RetK P f σ0 xs σ1 r ks) (hf : callOK P f = true) (ren : Nat → Nat)
    (hd : dstOK D.n o.dst = true) (ho : o.op = .call { callee := .value x, args := args, argTypes := ats }) (hx : D.ev x = .t (.fn f []))
    (hargs : RenL σ0 ren xs (args.toList.map D.ev)) (hr' : RenA σ1 ren r r') (hkeys : keysOK ren σ1 = true)
    (h0 : AllS (fun id ob => sget D.st (ren id) = some ob ∧ selfEls σ0 ren ob ∧ ∃ ob1, sget σ1 id = some ob1 ∧ (ob.gen < ob1.gen ∨ Stays xs ks id ob ob1)) σ0)
    (h1 : AllS (fun id ob => selfEls σ1 ren ob ∧ ((sget σ0 id).isSome = true ∨ (sget D.st (ren id)).isNone = true)) σ1) :
    Eff P o D ⟨r', upsOf ren σ1⟩ := by
  intro s hs hfresh F β a w hrel next Q hnext
  have hsd := hs.st
  -- the objects that are lent
  have k0 : ∀ id ob, sget σ0 id = some ob → sget s.st (ren id) = some ob ∧ selfEls σ0 ren ob ∧ ∃ ob1, sget σ1 id = some ob1 ∧ (ob.gen < ob1.gen ∨ Stays xs ks id ob ob1) := fun id ob h => by
    obtain ⟨q1, q2, q3⟩ := h0.get id ob h
    exact ⟨hsd _ _ q1, q2, q3⟩
  have memUps : ∀ (σ : Sto) id ob, (id, some ob) ∈ σ → (ren id, ob) ∈ upsOf ren σ := by
    intro σ
    induction σ with
    | nil => intro id ob h; simp at h
    | cons y l ih =>
      intro id ob h
      obtain ⟨i, q⟩ := y
      simp only [List.mem_cons] at h
      rcases h with h | h
      · cases h; exact List.mem_cons_self
      · cases q with
        | none => exact ih id ob h
        | some q => exact List.mem_cons_of_mem _ (ih id ob h)
  have k1 : ∀ id ob, sget σ1 id = some ob → selfEls σ1 ren ob ∧ ((∃ ob0, sget σ0 id = some ob0) ∨ sget s.st (ren id) = none) := fun id ob h => by
    obtain ⟨q1, q2⟩ := h1.get id ob h
    refine ⟨q1, q2.imp (fun h => Option.isSome_iff_exists.1 h) (fun h2 => ?_)⟩
    exact hfresh (ren id) ob (memUps _ _ _ (sget_mem h)) (Option.isNone_iff_eq_none.1 h2)
  have inj1 : ∀ i j oi oj, sget σ1 i = some oi → sget σ1 j = some oj → ren i = ren j → i = j := fun i j oi oj hi hj e => by
    have := keys_inj hkeys _ _ (sget_mem hi) (sget_mem hj) e
    exact congrArg Prod.fst this
  -- the callee's view
  let lent : Nat → Prop := fun n => ∃ id ob, sget σ0 id = some ob ∧ ren id = n
  let Fc : Nat → Prop := fun b => F b ∨ ∃ n ob, sget s.st n = some ob ∧ β n = some b ∧ ¬ lent n
  let β0 : Nat → Option Nat := fun id => β (ren id)
  have hG0 : ∀ b, G Fc β0 σ0 b ↔ G F β s.st b := by
    intro b
    constructor
    · rintro ((h | ⟨n, ob, hn, hb, _⟩) | ⟨id, ob, hid, hb⟩)
      · exact .inl h
      · exact .inr ⟨n, ob, hn, hb⟩
      · exact .inr ⟨ren id, ob, (k0 id ob hid).1, hb⟩
    · rintro (h | ⟨n, ob, hn, hb⟩)
      · exact .inl (.inl h)
      · by_cases hl : lent n
        · obtain ⟨id, ob', hid, rfl⟩ := hl
          exact .inr ⟨id, ob', hid, hb⟩
        · exact .inl (.inr ⟨n, ob, hn, hb, hl⟩)
  have hto : ∀ id ob, sget σ0 id = some ob → sget s.st (ren id) = some ob ∧ β (ren id) = β0 id := fun id ob h => ⟨(k0 id ob h).1, rfl⟩
  have inj0 : ∀ i j oi oj, sget σ0 i = some oi → sget σ0 j = some oj → ren i = ren j → i = j := fun i j oi oj hi hj e => by
    obtain ⟨_, _, o1, q1, _⟩ := k0 i oi hi
    obtain ⟨_, _, o2, q2, _⟩ := k0 j oj hj
    exact inj1 i j o1 o2 q1 q2 e
  have hmem0 : Mem Fc β0 σ0 w := by
    refine ⟨fun id ob h => ?_, fun i j oi oj b hi hj hbi hbj => ?_, fun i oi b hi hb => ?_, fun b hb => ?_⟩
    · exact ObOK.of (k0 id ob h).2.1 (fun b hb => (hG0 b).1 hb) hto rfl (hrel.ob (ren id) ob (k0 id ob h).1)
    · exact inj0 i j oi oj hi hj (hrel.inj _ _ oi oj b (k0 i oi hi).1 (k0 j oj hj).1 hbi hbj)
    · rintro (h | ⟨n, ob, hn, hbn, hl⟩)
      · exact hrel.notF (ren i) oi b (k0 i oi hi).1 hb h
      · have := hrel.inj (ren i) n oi ob b (k0 i oi hi).1 hn hb hbn
        exact hl ⟨i, oi, hi, this⟩
    · exact hrel.ltG b ((hG0 b).1 (.inl hb))
  have hlen : args.toList.length = xs.length := by rw [hargs.len]; simp
  have hxv := hrel.evT hs hx
  generalize hxe : a.eval x = xv at hxv
  cases hxv with
  | fn f cs vs hl' hcv =>
    have hvs : vs = [] := List.length_eq_zero_iff.1 hl'
    subst hvs
    have hvals : ∀ (i : Nat) (y : AV) (v : Value), xs[i]? = some y → (args.toList.map a.eval)[i]? = some v → VA w (G Fc β0 σ0) β0 σ0 y v := by
      intro i y v hy hv
      rw [List.getElem?_map, Option.map_eq_some_iff] at hv
      obtain ⟨op, hop, rfl⟩ := hv
      have hz : (args.toList.map D.ev)[i]? = some (D.ev op) := by rw [List.getElem?_map, hop]; rfl
      exact (hargs.get _ _ i y _ hy hz).of (fun b hb => (hG0 b).1 hb) hto (hrel.evA hs rfl)
    have := hret Fc β0 w (args.toList.map a.eval) hmem0 (by simpa using hlen) hvals
    unfold Oper.wp
    rw [execCall ho hxe hf w, Oper.upon_enter]
    rw [show (args.toList.map a.eval).toArray = args.map a.eval ++ ([] : List Value).toArray from by apply Array.ext'; simp] at this
    refine Calls.mono this ?_
    rintro e w' ⟨v, β1, rfl, hva, hm1, hev, hkept⟩
    -- the caller's view behind the call
    let β2 : Nat → Option Nat := fun n => match σ1.find? (fun y => Nat.beq (ren y.1) n) with
      | some y => β1 y.1
      | none => β n
    have hβhit : ∀ id ob, sget σ1 id = some ob → β2 (ren id) = β1 id := by
      intro id ob h
      show (match σ1.find? (fun y => Nat.beq (ren y.1) (ren id)) with | some y => β1 y.1 | none => β (ren id)) = β1 id
      cases hfd : σ1.find? (fun y => Nat.beq (ren y.1) (ren id)) with
      | none =>
        have := List.find?_eq_none.1 hfd _ (sget_mem h)
        simp at this
      | some y =>
        have hy := List.find?_some hfd
        have hm := List.mem_of_find?_eq_some hfd
        have := keys_inj hkeys _ _ hm (sget_mem h) (Nat.eq_of_beq_eq_true hy)
        rw [this]
    have hβmiss : ∀ n, (∀ id ob, sget σ1 id = some ob → ren id ≠ n) → (∀ y, y ∈ σ1 → ren y.1 ≠ n) → β2 n = β n := by
      intro n _ h
      show (match σ1.find? (fun y => Nat.beq (ren y.1) n) with | some y => β1 y.1 | none => β n) = β n
      rw [List.find?_eq_none.2 (fun y hy he => h y hy (Nat.eq_of_beq_eq_true he))]
    have memSome : ∀ (σ : Sto), keysOK ren σ = true → ∀ y, y ∈ σ → ∃ ob, sget σ y.1 = some ob := by
      intro σ
      induction σ with
      | nil => intro _ y h; simp at h
      | cons z l ih =>
        intro hk y h
        obtain ⟨q1, q2, q3⟩ := keys_head hk
        rw [show z :: l = sput l z.1 z.2 from rfl, sget_sput]
        by_cases e : y.1 = z.1
        · rw [if_pos e]; exact Option.isSome_iff_exists.1 q1
        · rw [if_neg e]
          simp only [List.mem_cons] at h
          rcases h with rfl | h
          · exact absurd rfl e
          · exact ih q3 y h
    have missOf : ∀ n, (∀ id ob, sget σ1 id = some ob → ren id ≠ n) → ∀ y, y ∈ σ1 → ren y.1 ≠ n := fun n h y hy => by
      obtain ⟨ob, hob⟩ := memSome σ1 hkeys y hy
      exact h _ _ hob
    let σ2 : Sto := upAll s.st (upsOf ren σ1)
    have hσhit : ∀ id ob, sget σ1 id = some ob → sget σ2 (ren id) = some ob := fun id ob h => (upAll_ups hkeys s.st (ren id)).1 id ob (sget_mem h) rfl
    have hσmiss : ∀ n, (∀ id ob, sget σ1 id = some ob → ren id ≠ n) → sget σ2 n = sget s.st n := fun n h => (upAll_ups hkeys s.st n).2 (missOf n h)
    have hcase : ∀ n, (∃ id ob, sget σ1 id = some ob ∧ ren id = n) ∨ (∀ id ob, sget σ1 id = some ob → ren id ≠ n) := fun n => by
      by_cases h : ∃ id ob, sget σ1 id = some ob ∧ ren id = n
      · exact .inl h
      · exact .inr fun id ob h1 h2 => h ⟨id, ob, h1, h2⟩
    have hG1 : ∀ b, G F β2 σ2 b ↔ G Fc β1 σ1 b := by
      intro b
      constructor
      · rintro (h | ⟨n, ob, hn, hb⟩)
        · exact .inl (.inl h)
        · rcases hcase n with ⟨id, ob1, hid, rfl⟩ | hmiss
          · exact .inr ⟨id, ob1, hid, by rw [← hβhit id ob1 hid]; exact hb⟩
          · rw [hσmiss n hmiss] at hn
            rw [hβmiss n hmiss (missOf n hmiss)] at hb
            refine .inl (.inr ⟨n, ob, hn, hb, ?_⟩)
            rintro ⟨id, ob0, hid, rfl⟩
            obtain ⟨_, _, o1, q1, _⟩ := k0 id ob0 hid
            exact hmiss id o1 q1 rfl
      · rintro ((h | ⟨n, ob, hn, hb, hl⟩) | ⟨id, ob, hid, hb⟩)
        · exact .inl h
        · have hmiss : ∀ id ob, sget σ1 id = some ob → ren id ≠ n := by
            rintro id ob1 hid rfl
            rcases (k1 id ob1 hid).2 with ⟨ob0, h00⟩ | hnone
            · exact hl ⟨id, ob0, h00, rfl⟩
            · rw [hn] at hnone; cases hnone
          exact .inr ⟨n, ob, by rw [hσmiss n hmiss]; exact hn, by rw [hβmiss n hmiss (missOf n hmiss)]; exact hb⟩
        · exact .inr ⟨ren id, ob, hσhit id ob hid, by rw [hβhit id ob hid]; exact hb⟩
    have hkeepG : ∀ b, b < w.heap.size → ¬ G F β s.st b → ¬ G F β2 σ2 b ∧ w'.heap[b]? = w.heap[b]? := by
      intro b hb hn
      have hn0 : ¬ Owned β0 σ0 b := fun h => hn ((hG0 b).1 (.inr h))
      refine ⟨fun h => ?_, hev.keep b hb hn0⟩
      rcases (hG1 b).1 h with h | h
      · exact hn ((hG0 b).1 (.inl h))
      · rcases hev.own b h with h | h
        · omega
        · exact hn0 h
    have hmissHeap : ∀ n ob b, sget s.st n = some ob → β n = some b → (∀ id ob, sget σ1 id = some ob → ren id ≠ n) → w'.heap[b]? = w.heap[b]? := by
      intro n ob b hn hb hmiss
      refine hev.keep b (hrel.ltG b (.inr ⟨n, ob, hn, hb⟩)) ?_
      rintro ⟨id, ob0, hid, hb0⟩
      have := hrel.inj n (ren id) ob ob0 b hn (k0 id ob0 hid).1 hb hb0
      obtain ⟨_, _, o1, q1, _⟩ := k0 id ob0 hid
      exact hmiss id o1 q1 this.symm
    have hturn : Turns w w' β β2 s.st σ2 := by
      intro n ob hn
      rcases hcase n with ⟨id, ob1, hid, rfl⟩ | hmiss
      · refine ⟨ob1, hσhit id ob1 hid, ?_⟩
        rcases (k1 id ob1 hid).2 with ⟨ob0, h00⟩ | hnone
        · obtain ⟨q1, _, o1, q2, q3⟩ := k0 id ob0 h00
          rw [hid] at q2; cases q2
          rw [hn] at q1; cases q1
          refine q3.imp (fun h => h) ?_
          rintro ⟨e1, e2, e3, e4, i, hi, hk⟩
          refine ⟨e1, e2, e3, e4, ?_, fun b c _ hc => hev.shp b c _ hc⟩
          rw [hβhit id ob1 hid]
          have hil : i < (args.toList.map a.eval).length := by have := lt_get hi; rw [List.length_map]; omega
          have hv0 := hvals i _ _ hi (List.getElem?_eq_getElem hil)
          have hv1 := hkept i _ _ hk (List.getElem?_eq_getElem hil)
          obtain ⟨b0, h1, h2⟩ := hv0.ptrB h00 rfl
          obtain ⟨b1, g1, g2⟩ := hv1.ptrB hid e1
          rw [h2] at g2
          cases g2
          exact g1.trans h1.symm
        · rw [hn] at hnone; cases hnone
      · refine ⟨ob, by rw [hσmiss n hmiss]; exact hn, .inr ⟨rfl, rfl, rfl, rfl, hβmiss n hmiss (missOf n hmiss), fun b c hb hc => ⟨c, ?_, rfl⟩⟩⟩
        rw [hmissHeap n ob b hn hb hmiss]; exact hc
    have hmono : ∀ {y : AV} {v : Value}, VA w (G F β s.st) β s.st y v → VA w' (G F β2 σ2) β2 σ2 y v := fun hv => VA.mono hev.size hkeepG hturn hv
    have hrel2 : Rel F β2 ⟨s.n, s.fr, σ2⟩ a w' := by
      refine ⟨hrel.defers, hrel.size, fun i => hmono (hrel.fr i), fun n ob hn => ?_, fun i j oi oj b hi hj hbi hbj => ?_, fun i oi b hi hb => ?_, fun b hb => Nat.lt_of_lt_of_le (hrel.ltF b hb) hev.size⟩
      · change sget σ2 n = some ob at hn
        rcases hcase n with ⟨id, ob1, hid, rfl⟩ | hmiss
        · rw [hσhit id ob1 hid] at hn; cases hn
          exact ObOK.to (k1 id _ hid).1 (fun b hb => (hG1 b).1 hb) (fun id ob h => ⟨hσhit id ob h, hβhit id ob h⟩) (hβhit id _ hid) (hm1.ob id _ hid)
        · rw [hσmiss n hmiss] at hn
          rcases hrel.ob n ob hn with ⟨q1, q2⟩ | ⟨b, c, q1, q2, q3, q4, q5⟩
          · exact .inl ⟨(hβmiss n hmiss (missOf n hmiss)).trans q1, q2⟩
          · refine .inr ⟨b, c, (hβmiss n hmiss (missOf n hmiss)).trans q1, by rw [hmissHeap n ob b hn q1 hmiss]; exact q2, q3, q4, fun i x j y hx hy => ?_⟩
            obtain ⟨g1, u, hu, hva⟩ := q5 i x j y hx hy
            exact ⟨g1, u, hu, hmono hva⟩
      · change sget σ2 i = some oi at hi
        change sget σ2 j = some oj at hj
        rcases hcase i with ⟨id, ob1, hid, rfl⟩ | hmi <;> rcases hcase j with ⟨jd, ob2, hjd, rfl⟩ | hmj
        · rw [hβhit id ob1 hid] at hbi
          rw [hβhit jd ob2 hjd] at hbj
          rw [hm1.inj id jd ob1 ob2 b hid hjd hbi hbj]
        · rw [hβhit id ob1 hid] at hbi
          rw [hσmiss j hmj] at hj
          rw [hβmiss j hmj (missOf j hmj)] at hbj
          refine absurd (show Fc b from .inr ⟨j, oj, hj, hbj, ?_⟩) (hm1.notF id ob1 b hid hbi)
          rintro ⟨id', ob0, hid', rfl⟩
          obtain ⟨_, _, o1, q1, _⟩ := k0 id' ob0 hid'
          exact hmj id' o1 q1 rfl
        · rw [hβhit jd ob2 hjd] at hbj
          rw [hσmiss i hmi] at hi
          rw [hβmiss i hmi (missOf i hmi)] at hbi
          refine absurd (show Fc b from .inr ⟨i, oi, hi, hbi, ?_⟩) (hm1.notF jd ob2 b hjd hbj)
          rintro ⟨id', ob0, hid', rfl⟩
          obtain ⟨_, _, o1, q1, _⟩ := k0 id' ob0 hid'
          exact hmi id' o1 q1 rfl
        · rw [hσmiss i hmi] at hi
          rw [hσmiss j hmj] at hj
          rw [hβmiss i hmi (missOf i hmi)] at hbi
          rw [hβmiss j hmj (missOf j hmj)] at hbj
          exact hrel.inj i j oi oj b hi hj hbi hbj
      · change sget σ2 i = some oi at hi
        rcases hcase i with ⟨id, ob1, hid, rfl⟩ | hmi
        · rw [hβhit id ob1 hid] at hb
          exact fun hF => hm1.notF id ob1 b hid hb (.inl hF)
        · rw [hσmiss i hmi] at hi
          rw [hβmiss i hmi (missOf i hmi)] at hb
          exact hrel.notF i oi b hi hb
    have hva2 : VA w' (G F β2 σ2) β2 σ2 r' v := hr'.to (fun b hb => (hG1 b).1 hb) (fun id ob h => ⟨hσhit id ob h, hβhit id ob h⟩) hva
    refine hnext β2 _ _ (hrel2.put (by rw [show (St.mk s.n s.fr σ2).n = s.n from rfl, hs.n]; exact hd) hva2) ⟨hev.os, hev.tape, hev.output, hev.size, fun b hb hn => ?_, fun b hb => ?_, hev.shp⟩
    · refine hev.keep b hb ?_
      rintro ⟨id, ob0, hid, hb0⟩
      exact hn ⟨ren id, ob0, (k0 id ob0 hid).1, hb0⟩
    · obtain ⟨n, ob, hn, hbn⟩ := hb
      change sget σ2 n = some ob at hn
      rcases hcase n with ⟨id, ob1, hid, rfl⟩ | hmiss
      · rw [hβhit id ob1 hid] at hbn
        rcases hev.own b ⟨id, ob1, hid, hbn⟩ with h | ⟨id0, ob0, hid0, hb0⟩
        · exact .inl h
        · exact .inr ⟨ren id0, ob0, (k0 id0 ob0 hid0).1, hb0⟩
      · rw [hσmiss n hmiss] at hn
        rw [hβmiss n hmiss (missOf n hmiss)] at hbn
        exact .inr ⟨n, ob, hn, hbn⟩

/-- The entry of a function that reads tables. -/
theorem ofVLT {F : Nat → Prop} {w : World} {ts : List (Nat × Tr)} {xs : List Tr} {vals : List Value} {n : Nat} (hlt : ∀ b, F b → b < w.heap.size) (hT : TabOK w F ts) (hV : VL w F xs vals) (hn : xs.length ≤ n) :
    Rel F (fun _ => none) ⟨n, initFr 0 xs ++ tabFr n ts, []⟩ { tmps := vals.toArray ++ Array.replicate (n - vals.toArray.size) undef, defers := [] } w := by
  obtain ⟨hl, hV⟩ := hV
  have hG : ∀ {x : Tr} {v : Value}, V w F x v → V w (G F (fun _ => none) []) x v := fun hv =>
    V.mono (w := w) (w' := w) (Nat.le_refl _) (fun b _ hn => ⟨fun hG => hG.elim hn (fun ⟨id, ob, ho, _⟩ => by simp [sget] at ho), rfl⟩) hv
  refine ⟨rfl, by simp; omega, fun i => ?_, fun id ob ho => by simp [sget] at ho, fun i j oi oj b ho => by simp [sget] at ho, fun i oi b ho => by simp [sget] at ho, hlt⟩
  show VA w _ _ _ (fget (initFr 0 xs ++ tabFr n ts) i) _
  by_cases hi : i < n
  · rw [fget_append_left _ _ _ (fun x hx e => by obtain ⟨g, t, _, rfl⟩ := tabFr_mem ts hx; simp only at e; omega)]
    rw [initFr_get, if_pos (Nat.zero_le _), Nat.sub_zero]
    cases hx : xs[i]? with
    | none => exact .junk _
    | some x =>
      have hi : i < vals.length := by
        rw [hl]
        rcases Nat.lt_or_ge i xs.length with h | h
        · exact h
        · rw [List.getElem?_eq_none h] at hx; cases hx
      have hg : (vals.toArray ++ Array.replicate (n - vals.toArray.size) undef).getD i undef = vals[i] := by
        simp [hi, Array.getElem?_append]
      rw [vAt_lt (by simp; omega), hg]
      have hv := hV i x vals[i] hx (List.getElem?_eq_getElem hi)
      exact .t (hG hv)
  · rw [fget_append _ _ _ (fun x hx e => by have := initFr_lt xs 0 hx; omega)]
    rcases tabFr_get (n := n) ts i with h | ⟨g, t, h1, rfl, h3⟩
    · rw [h]; exact .junk _
    · rw [h3, vAt_glob (by simp; omega)]
      exact .t (hG (hT g t h1))

/-- As ret_of_awj, with tables. -/
theorem retT_of_awj {f : FuncId} {fn : Func} {c : Code} {ts : List (Nat × Tr)} {xs : List Tr} {r : Tr} (hf : P.funcs[f]? = some fn) (hb : fn.body = some c) (hn : xs.length ≤ fn.ntmps)
    (h : ∀ F0 w0, AWJ P none (fun _ => false) (JC F0 w0) c ⟨fn.ntmps, initFr 0 xs ++ tabFr fn.ntmps ts, []⟩ [] (fun e s _ => (e = .normal ∨ e = .ret) ∧ ∃ rs, RVars P s fn.results.toList rs ∧ Wk (packT rs) r)) : RetT P f ts xs r := by
  intro F w vals hlt hT hV
  refine (callsIn_wide (n := 0)).1 (callsIn_of_wp_marks (F := Fence.wide) hf hb trivial ?_)
  have h0 := ofVLT (n := fn.ntmps) hlt hT hV hn
  have hJ0 : (JC F w).J [] (Owned (fun _ => none) ([] : Sto)) F w := jc_start (fun b hb => ⟨hlt b hb, not_owned_nil⟩)
  refine wpIn_mono (h F w 0 F _ _ w h0 hJ0) ?_
  rintro e a' w' ⟨s', β', Ds, F', a'', ⟨he, rs, hrs, hwk⟩, hr', rfl, ⟨j1, j2, j3, j4, j5⟩, hev, _⟩
  have hds : (shift ((JC F w).ds Ds) a'').defers = Ds.map mark := by simp [shift, hr'.defers, JC]
  have main : LeavesInM Fence.wide 0 P fn (shift ((JC F w).ds Ds) a'').tmps (fun e w'' => ∃ v, e = .returned v ∧ V w'' F r v ∧ RowKit.Below w.heap.size w w'') (shift ((JC F w).ds Ds) a'').defers .returning w' := by
    rw [hds]
    refine leaves_marks Ds w' j4 (fun D hD => (j3 D hD).2.2.2) (fun w'' h1 h2 h3 h4 h5 => ?_)
    have hk : ∀ (b : Nat) c ty fz, w'.heap[b]? = some (.cells c ty fz) → w''.heap[b]? = w'.heap[b]? := fun b c ty fz hb => h5 b (fun hD => by have := (j3 b hD).2.2.2; rw [hb] at this; cases this)
    have hr2 := hr'.others (w' := w'') (by rw [h1]; exact Nat.le_refl _) hk
    obtain ⟨vs, hvs, hvl, hvV⟩ := RVars.run hr2 _ _ hrs
    have hres : ∃ v, (results fn a''.tmps).run P w'' = .ok v w'' ∧ V w'' F' (packT rs) v := by
      have hm : (fn.results.mapM (resOf a''.tmps)).run P w'' = .ok vs.toArray w'' := by
        rw [Array.mapM_eq_mapM_toList, Sem.run_map, hvs]; rfl
      refine ⟨if h : vs.toArray.size = 1 then vs.toArray[0] else .tuple vs.toArray, ?_, ?_⟩
      · rw [results_eq, Sem.run_bind, hm]; rfl
      · match rs, vs, hvl with
        | [], [], _ => exact .tup [] [] rfl (fun j c v h => by simp at h)
        | [x], [v], _ => exact hvV 0 x v rfl rfl
        | x :: y :: rs, v :: u :: vs, hl => exact .tup _ _ hl (fun j c z hc hz => hvV j c z hc hz)
    obtain ⟨v, hv, hVv⟩ := hres
    refine ⟨v, hv, v, rfl, ?_, ?_⟩
    · exact hwk.v (hVv.free (fun b _ hn hF => hn ((j1 b).2 (.inl hF))))
    · refine ⟨h2.trans hev.os, h3.trans hev.tape, h4.trans hev.output, by rw [h1]; exact hev.size, fun b hb => ?_⟩
      have hbD : b ∉ Ds := fun hD => by have := (j3 b hD).2.2.1; omega
      rw [h5 b hbD]
      by_cases hF : F b
      · exact (j2 b hF).2.1
      · exact hev.keep b hb hF not_owned_nil
  rcases he with rfl | rfl <;> exact main

end Go.Tv

end
section
namespace Go.Tv

/-- y is x, where what x names has the generations of σ'. -/
inductive GenA (σ σ' : Sto) : AV → AV → Prop
  | junk (x : AV) : GenA σ σ' x .junk
  | t (x : Tr) : GenA σ σ' (.t x) (.t x)
  | own (id g g' off len : Nat) {ob ob' : Ob} (h : sget σ id = some ob) (h' : sget σ' id = some ob') (hg : ob.gen = g) (hg' : ob'.gen = g') (hk : ob'.k = ob.k) (ht : ob'.ty = ob.ty) (hl : ob'.els.length = ob.els.length) :
      GenA σ σ' (.own id g off len) (.own id g' off len)
  | ptr (id g g' i j : Nat) {ob ob' : Ob} (h : sget σ id = some ob) (h' : sget σ' id = some ob') (hg : ob.gen = g) (hg' : ob'.gen = g') (hk : ob'.k = ob.k) (hl : ob'.els.length = ob.els.length) :
      GenA σ σ' (.ptr id g i j) (.ptr id g' i j)

theorem GenA.one {σ σ' : Sto} {x y : AV} (h : GenA σ σ' x y) (hy : y ≠ .junk) : y.one = x.one := by
  cases h <;> first | rfl | exact absurd rfl hy

theorem GenA.v {σ σ' : Sto} {x y : AV} (h : GenA σ σ' x y) {w : World} {H H' : Nat → Prop} {β : Nat → Option Nat} (hH : ∀ b, H' b → H b) {v : Value} (hv : VA w H β σ x v) : VA w H' β σ' y v := by
  cases h with
  | junk => exact .junk _
  | t x => cases hv with | t hv => exact .t (hv.same hH)
  | own id g g' off len h1 h2 hg hg' hk ht hl =>
    cases hv with
    | own g1 g2 g3 g4 g5 g6 g7 => rw [h1] at g1; cases g1; rw [← hk]; exact .own h2 hg' g3 (by omega) (by omega) (by rw [ht]; exact g6) (by rw [hk]; exact g7)
    | ownNil g1 g2 g3 g4 => rw [h1] at g1; cases g1; exact .ownNil h2 hg' g3 (List.length_eq_zero_iff.1 (by rw [hl, g4]; rfl))
    | ownZ g1 g2 g3 g4 g5 => rw [h1] at g1; cases g1; exact .ownZ h2 hg' g3 (by omega) g5
    | ownE g1 g2 g3 g4 => rw [h1] at g1; cases g1; exact .ownE h2 hg' g3 (List.length_eq_zero_iff.1 (by rw [hl, g4]; rfl))
    | stale g1 g2 g3 => rw [h1] at g1; cases g1; omega
  | ptr id g g' i j h1 h2 hg hg' hk hl =>
    cases hv with
    | ptr g1 g2 g3 g4 g5 => rw [h1] at g1; cases g1; rw [← hk]; exact .ptr h2 hg' g3 (by omega) (by omega)
    | stalep g1 g2 g3 => rw [h1] at g1; cases g1; omega

/-- An element, cell by cell. -/
inductive GenE (σ σ' : Sto) : AV → AV → Prop
  | one {x y : AV} (h : GenA σ σ' x y) (hn : y ≠ .junk) (hx : x.cells = [x]) (hy : y.cells = [y]) : GenE σ σ' x y
  | tree (x : Tr) : GenE σ σ' (.t x) (.t x)
  | agg {cs ds : List AV} (hl : cs.length = ds.length) (h : ∀ (i : Nat) x y, cs[i]? = some x → ds[i]? = some y → GenA σ σ' x y ∧ y ≠ .junk) : GenE σ σ' (.agg cs) (.agg ds)

def GenF (σ σ' : Sto) (fr : Fra) : Fra → Prop
  | [] => True
  | x :: l => GenA σ σ' (fget fr x.1) x.2 ∧ GenF σ σ' fr l

theorem GenF.get {σ σ' : Sto} {fr : Fra} : ∀ (l : Fra), GenF σ σ' fr l → ∀ i, GenA σ σ' (fget fr i) (fget l i)
  | [], _, i => .junk _
  | x :: l, ⟨h1, h2⟩, i => by
    show GenA σ σ' (fget fr i) (cond (Nat.beq x.1 i) x.2 (fget l i))
    cases h : Nat.beq x.1 i with
    | true => rw [← Nat.eq_of_beq_eq_true h]; exact h1
    | false => exact GenF.get l h2 i

theorem weak_gen {n : Nat} {fr fr' : Fra} {st st' : Sto} (hf : GenF st st' fr fr')
    (hs : AllS (fun id ob' => ∃ ob, sget st id = some ob ∧ ob'.k = ob.k ∧ ob'.ty = ob.ty ∧ ob'.els.length = ob.els.length ∧ ∀ (i : Nat) x y, ob.els[i]? = some x → ob'.els[i]? = some y → GenE st st' x y) st') :
    Weak ⟨n, fr, st⟩ ⟨n, fr', st'⟩ := by
  intro F β a w hr
  have hown : ∀ b, Owned β st' b → Owned β st b := by
    rintro b ⟨m, ob, hm, hb⟩
    obtain ⟨ob0, h1, _⟩ := hs.get m ob hm
    exact ⟨m, ob0, h1, hb⟩
  have hG : ∀ b, G F β st' b → G F β st b := fun b h => h.imp (fun h => h) (hown b)
  refine ⟨β, ⟨hr.defers, hr.size, fun i => (hf.get _ i).v hG (hr.fr i), fun m ob' hm => ?_, fun i j oi oj b hi hj hbi hbj => ?_, fun i oi b hi hb => ?_, hr.ltF⟩, hown⟩
  · obtain ⟨ob, h1, hk, ht, hl, he⟩ := hs.get m ob' hm
    rcases hr.ob m ob h1 with ⟨q1, q2⟩ | ⟨b, c, q1, q2, q3, q4, q5⟩
    · exact .inl ⟨q1, List.length_eq_zero_iff.1 (by rw [hl, q2]; rfl)⟩
    · have hx : ∀ (i : Nat) y, ob'.els[i]? = some y → ∃ x, ob.els[i]? = some x ∧ GenE st st' x y := fun i y hy => by
        have hi : i < ob.els.length := by rw [← hl]; exact lt_get hy
        exact ⟨_, List.getElem?_eq_getElem hi, he i _ y (List.getElem?_eq_getElem hi) hy⟩
      refine .inr ⟨b, c, q1, by rw [ht]; exact q2, by rw [hl, hk]; exact q3, fun i y hy => ?_, fun i y j z hy hz => ?_⟩
      · obtain ⟨x, hx1, hge⟩ := hx i y hy
        obtain ⟨g1, g2⟩ := q4 i x hx1
        rw [hk]
        cases hge with
        | one h hn hcx hcy =>
          rw [hcx] at g2
          rw [hcy]
          refine ⟨?_, g2⟩
          cases h with
          | junk => exact absurd rfl hn
          | t x => exact g1
          | own => rfl
          | ptr => rfl
        | tree x => exact ⟨g1, g2⟩
        | agg hl' h => exact ⟨rfl, hl'.symm.trans g2⟩
      · obtain ⟨x, hx1, hge⟩ := hx i y hy
        rw [hk]
        cases hge with
        | one h hn hcx hcy =>
          rw [hcy] at hz
          match j with
          | 0 =>
            simp at hz; subst hz
            obtain ⟨g1, u, hu, hva⟩ := q5 i x 0 x hx1 (by rw [hcx]; rfl)
            exact ⟨by rw [h.one hn]; exact g1, u, hu, h.v hG hva⟩
          | j + 1 => simp at hz
        | tree x =>
          obtain ⟨g1, u, hu, hva⟩ := q5 i _ j z hx1 hz
          refine ⟨g1, u, hu, ?_⟩
          simp only [AV.cells, List.getElem?_map, Option.map_eq_some_iff] at hz
          obtain ⟨t, _, rfl⟩ := hz
          exact (GenA.t t).v hG hva
        | @agg cs ds hl' h =>
          have hj : j < cs.length := by rw [hl']; exact lt_get hz
          obtain ⟨g1, u, hu, hva⟩ := q5 i _ j _ hx1 (List.getElem?_eq_getElem hj)
          obtain ⟨k1, k2⟩ := h j _ z (List.getElem?_eq_getElem hj) hz
          exact ⟨by rw [k1.one k2]; exact g1, u, hu, k1.v hG hva⟩
  · obtain ⟨o1, h1, _⟩ := hs.get i oi hi
    obtain ⟨o2, h2, _⟩ := hs.get j oj hj
    exact hr.inj i j o1 o2 b h1 h2 hbi hbj
  · obtain ⟨o1, h1, _⟩ := hs.get i oi hi
    exact hr.notF i o1 b h1 hb
theorem gen_trees {σ σ' : Sto} {l : List Tr} (i : Nat) (x y : AV) (hx : (l.map AV.t)[i]? = some x) (hy : (l.map AV.t)[i]? = some y) : GenE σ σ' x y := by
  rw [hx] at hy; cases hy
  rw [List.getElem?_map] at hx
  obtain ⟨t, _, rfl⟩ := Option.map_eq_some_iff.1 hx
  exact .tree t

def GenL (σ σ' : Sto) : List AV → List AV → Prop
  | [], [] => True
  | x :: l, y :: k => (GenA σ σ' x y ∧ y ≠ .junk) ∧ GenL σ σ' l k
  | _, _ => False

theorem GenL.len {σ σ' : Sto} : ∀ {l k : List AV}, GenL σ σ' l k → l.length = k.length
  | [], [], _ => rfl
  | _ :: _, _ :: _, ⟨_, h⟩ => by simp [h.len]
  | [], _ :: _, h => h.elim
  | _ :: _, [], h => h.elim

theorem GenL.get {σ σ' : Sto} : ∀ {l k : List AV}, GenL σ σ' l k → ∀ (i : Nat) x y, l[i]? = some x → k[i]? = some y → GenA σ σ' x y ∧ y ≠ .junk
  | [], [], _, i, x, y, h, _ => by simp at h
  | a :: l, b :: k, ⟨h1, h2⟩, i, x, y, hx, hy => by
    cases i with
    | zero => simp at hx hy; subst hx hy; exact h1
    | succ i => exact h2.get i x y (by simpa using hx) (by simpa using hy)
  | [], _ :: _, h, _, _, _, _, _ => h.elim
  | _ :: _, [], h, _, _, _, _, _ => h.elim

theorem gen_agg {σ σ' : Sto} {cs ds : List AV} (h : GenL σ σ' cs ds) (i : Nat) (x y : AV) (hx : [AV.agg cs][i]? = some x) (hy : [AV.agg ds][i]? = some y) : GenE σ σ' x y := by
  cases i with
  | zero => simp at hx hy; subst hx hy; exact .agg h.len h.get
  | succ i => simp at hx

/-! ### Lists of scalars as objects -/
theorem mget {α : Type} {f : α → Tr} {l : List α} {i : Nat} (d : α) (h : i < l.length) : ((l.map f).map AV.t)[i]? = some (.t (f (l.getD i d))) := by
  rw [List.getElem?_map, List.getElem?_map, List.getElem?_eq_getElem h, List.getD_eq_getElem?_getD, List.getElem?_eq_getElem h]; rfl
theorem mset {α : Type} {f : α → Tr} {l : List α} {i : Nat} {v : α} : ((l.map f).map AV.t).set i (.t (f v)) = ((l.set i v).map f).map AV.t := by
  rw [List.map_set, List.map_set]

/-- l, with vs laid over it from place o on. -/
def putL {α : Type} (l : List α) (o : Nat) (vs : List α) : List α := l.take o ++ vs ++ l.drop (o + vs.length)
theorem putL_nil {α : Type} (l : List α) (o : Nat) : putL l o [] = l := by simp [putL]
theorem putL_len {α : Type} {l : List α} {o : Nat} {vs : List α} (h : o + vs.length ≤ l.length) : (putL l o vs).length = l.length := by
  simp [putL]; omega
theorem putL_step {α : Type} {l : List α} {o : Nat} {vs : List α} {v : α} (h : o + vs.length < l.length) : (putL l o vs).set (o + vs.length) v = putL l o (vs ++ [v]) := by
  unfold putL
  have h1 : (l.take o ++ vs).length = o + vs.length := by simp; omega
  rw [List.set_append_right _ _ (by omega), h1, Nat.sub_self, List.drop_eq_getElem_cons h]
  simp [Nat.add_assoc]

/-! ### Cells that turn into trees -/

def WaL (σf σ' : Sto) : List AV → List AV → Prop
  | [], [] => True
  | x :: l, y :: k => (y.one = true ∧ Wa σf σ' x y) ∧ WaL σf σ' l k
  | _, _ => False

theorem WaL.len {σf σ' : Sto} : ∀ {l k : List AV}, WaL σf σ' l k → l.length = k.length
  | [], [], _ => rfl
  | _ :: _, _ :: _, ⟨_, h⟩ => by simp [h.len]
  | [], _ :: _, h => h.elim
  | _ :: _, [], h => h.elim

theorem WaL.get {σf σ' : Sto} : ∀ {l k : List AV}, WaL σf σ' l k → ∀ (i : Nat) x y, l[i]? = some x → k[i]? = some y → y.one = true ∧ Wa σf σ' x y
  | [], [], _, i, x, y, h, _ => by simp at h
  | a :: l, b :: k, ⟨h1, h2⟩, i, x, y, hx, hy => by
    cases i with
    | zero => simp at hx hy; subst hx hy; exact h1
    | succ i => exact h2.get i x y (by simpa using hx) (by simpa using hy)
  | [], _ :: _, h, _, _, _, _, _ => h.elim
  | _ :: _, [], h, _, _, _, _, _ => h.elim

theorem waS_agg {σ σf σ' : Sto} {id k g : Nat} {ty : TypeId} {cs ds : List AV} (hf : sget σf id = none) (hs : sget σ id = some ⟨k, ty, g, [.agg cs]⟩) (h : WaL σf σ' cs ds) :
    sget σf id = none ∧ ∃ ob0, sget σ id = some ob0 ∧ (⟨k, ty, g, [.agg ds]⟩ : Ob).k = ob0.k ∧ (⟨k, ty, g, [.agg ds]⟩ : Ob).ty = ob0.ty ∧ (⟨k, ty, g, [.agg ds]⟩ : Ob).gen = ob0.gen ∧ (⟨k, ty, g, [.agg ds]⟩ : Ob).els.length = ob0.els.length ∧
    ∀ (i : Nat) x y, ob0.els[i]? = some x → (⟨k, ty, g, [.agg ds]⟩ : Ob).els[i]? = some y → y.noTup = true ∧ y.cells.length = x.cells.length ∧ ∀ (j : Nat) c d, x.cells[j]? = some c → y.cells[j]? = some d → d.one = true ∧ Wa σf σ' c d :=
  ⟨hf, _, hs, rfl, rfl, rfl, rfl, fun i x y hx hy => by
    cases i with
    | zero => simp at hx hy; subst hx hy; exact ⟨rfl, h.len.symm, h.get⟩
    | succ i => simp at hx⟩

theorem weak_frzE {n : Nat} {fr fr' : Fra} {st st' : Sto} (σf : Sto) (hfree : AllS (fun id ob => sget st id = some ob) σf) (hf : WaF σf st' fr fr') (hs : WaS st σf st' st') : Weak ⟨n, fr, st⟩ ⟨n, fr', st'⟩ :=
  Weak.of (σf := σf) ⟨rfl, fun id ob h => hfree.get id ob h, WaF.get _ hf, WaS.get _ hs⟩

theorem eff_makeSliceM {P : Program} {o : Oper} {D : St} {t e : TypeId} {x y : Operand} {k id bytes : Nat} {ag : Bool} {kx ky : IntKind} {nl nc : Int} {l : Nat} {z : Tr} {els : List AV} (hd : dstOK D.n o.dst = true) (ho : o.op = .makeSlice t x y)
    (ht : elemOf P t = some (e, k, ag)) (hz : zeroOf P e = some z) (hzk : z.cells.length = k) (hk0 : k ≠ 0) (hb : (P.info? e).map (·.bytes) = some bytes)
    (hx : D.ev x = .t (.int kx nl)) (hy : D.ev y = .t (.int ky nc)) (hl : nl = (l : Int)) (hc : nc = (l : Int)) (hlim : bytes * l ≤ 281474976710656) (hci : l ≤ 4611686018427387904)
    (hid : sget D.st id = none) (he : List.replicate l (.t z) = els) : Eff P o D ⟨.own id 0 0 l, [(id, ⟨k, e, 0, els⟩)]⟩ :=
  he ▸ eff_makeSlice hd ho ht hz hzk hk0 hb hx hy hl hc (Nat.le_refl _) hlim hci hid

theorem rep_map {α : Type} {f : α → Tr} {l : List α} {n : Nat} {v : α} (h : l = List.replicate n v) : List.replicate n (AV.t (f v)) = (l.map f).map .t := by
  subst h; simp
end Go.Tv

end
section
namespace Go.Tv
variable {P : Program} {o : Oper} {D : St}

theorem eff_ptrNil {t ty e : TypeId} {x : Operand} {id g : Nat} {ob : Ob} (hd : dstOK D.n o.dst = true) (ho : o.op = .binOp .eql t x (.const (.pointer none)) ty) (hu : P.underlying t = some (.pointer e))
    (hx : D.ev x = .ptr id g 0 0) (hs : sget D.st id = some ob) (hg : ob.gen = g) : Eff P o D ⟨.t (.bool false), []⟩ :=
  Eff.pure hd fun s hs' F β a w hR => by
    obtain ⟨b, _, hv⟩ := (hR.evA hs' hx).ptrB (hs'.st _ _ hs) hg
    refine ⟨.bool false, ?_, .t (.bool _)⟩
    have h2 : a.eval (.const (.pointer none)) = .pointer none := rfl
    simp only [execOp, ho, hv, h2, Sem.run_bind]
    have hgd : (eqGuard .eql t x (.const (.pointer none)) (.pointer (some ⟨b, 0, none⟩)) (.pointer none)).run P w = .ok () w := by
      unfold eqGuard; rfl
    have he : (Op.equal t (.pointer (some ⟨b, 0, none⟩)) (.pointer none)).run P w = .ok false w := by
      have key : ∀ d, (Op.equalIn (d + 1) t (.pointer (some ⟨b, 0, none⟩)) (.pointer none)).run P w = .ok false w := by
        intro d
        simp only [Op.equalIn, Sem.run_bind, run_underlying' w hu, Result.andThen_ok]
        rfl
      exact key 9999
    simp only [hgd, Result.andThen_ok, binOp, Sem.run_bind, he, Sem.run_pure]

theorem waS_tagg {σ σf σ' : Sto} {id k g : Nat} {ty : TypeId} {ts : List Tr} (hf : sget σf id = none) (hs : sget σ id = some ⟨k, ty, g, [.t (.agg ts)]⟩) (h1 : (ts.all Tr.one) = true) :
    sget σf id = none ∧ ∃ ob0, sget σ id = some ob0 ∧ (⟨k, ty, g, [.agg (ts.map .t)]⟩ : Ob).k = ob0.k ∧ (⟨k, ty, g, [.agg (ts.map .t)]⟩ : Ob).ty = ob0.ty ∧ (⟨k, ty, g, [.agg (ts.map .t)]⟩ : Ob).gen = ob0.gen ∧ (⟨k, ty, g, [.agg (ts.map .t)]⟩ : Ob).els.length = ob0.els.length ∧
    ∀ (i : Nat) x y, ob0.els[i]? = some x → (⟨k, ty, g, [.agg (ts.map .t)]⟩ : Ob).els[i]? = some y → y.noTup = true ∧ y.cells.length = x.cells.length ∧ ∀ (j : Nat) c d, x.cells[j]? = some c → y.cells[j]? = some d → d.one = true ∧ Wa σf σ' c d :=
  ⟨hf, _, hs, rfl, rfl, rfl, rfl, fun i x y hx hy => by
    cases i with
    | zero =>
      simp at hx hy; subst hx hy
      refine ⟨rfl, rfl, fun j c d hc hd => ?_⟩
      have hcd : c = d := by
        have h2 : (AV.t (.agg ts)).cells = (AV.agg (ts.map .t)).cells := rfl
        rw [h2, hd] at hc; exact (Option.some.inj hc).symm
      subst hcd
      change (ts.map AV.t)[j]? = some c at hd
      rw [List.getElem?_map, Option.map_eq_some_iff] at hd
      obtain ⟨t, ht, rfl⟩ := hd
      exact ⟨List.all_eq_true.1 h1 t (List.mem_of_getElem? ht), .t t⟩
    | succ i => simp at hx⟩
end Go.Tv

end
section
open Go Go.Tv Go.Proofs
namespace Go.Tv.D27
set_option maxRecDepth 20000
theorem ti3 : tinf Tryd.prog 3 = some (1, false) := by kernel_rfl
theorem tu3 : Tryd.prog.underlying 3 = some (.int .i64) := by kernel_rfl
abbrev z3 : Tr := .int .i64 0
theorem tz3 : zeroOf Tryd.prog 3 = some z3 := by kernel_rfl
theorem tb3 : (Tryd.prog.info? 3).map (·.bytes) = some 8 := by kernel_rfl
theorem ti4 : tinf Tryd.prog 4 = some (1, false) := by kernel_rfl
abbrev z4 : Tr := .bool false
theorem tz4 : zeroOf Tryd.prog 4 = some z4 := by kernel_rfl
theorem tb4 : (Tryd.prog.info? 4).map (·.bytes) = some 1 := by kernel_rfl
theorem ti5 : tinf Tryd.prog 5 = some (1, false) := by kernel_rfl
theorem tu5 : Tryd.prog.underlying 5 = some (.int .u8) := by kernel_rfl
abbrev z5 : Tr := .int .u8 0
theorem tz5 : zeroOf Tryd.prog 5 = some z5 := by kernel_rfl
theorem tb5 : (Tryd.prog.info? 5).map (·.bytes) = some 1 := by kernel_rfl
theorem ts9 : Tryd.prog.underlying 9 = some .string := by kernel_rfl
theorem ti22 : tinf Tryd.prog 22 = some (1, false) := by kernel_rfl
theorem te22 : elemOf Tryd.prog 22 = some (5, 1, false) := by kernel_rfl
abbrev z22 : Tr := .sl [] true
theorem tz22 : zeroOf Tryd.prog 22 = some z22 := by kernel_rfl
theorem te23 : elemOf Tryd.prog 23 = some (44, 4, true) := by kernel_rfl
theorem te25 : elemOf Tryd.prog 25 = some (38, 5, true) := by kernel_rfl
theorem ti26 : tinf Tryd.prog 26 = some (1, false) := by kernel_rfl
abbrev z26 : Tr := .int .i64 0
theorem tz26 : zeroOf Tryd.prog 26 = some z26 := by kernel_rfl
theorem ti29 : tinf Tryd.prog 29 = some (1, false) := by kernel_rfl
theorem te29 : elemOf Tryd.prog 29 = some (40, 8, true) := by kernel_rfl
theorem ti30 : tinf Tryd.prog 30 = some (1, false) := by kernel_rfl
theorem te30 : elemOf Tryd.prog 30 = some (3, 1, false) := by kernel_rfl
theorem ti32 : tinf Tryd.prog 32 = some (4, true) := by kernel_rfl
theorem tf32_0 : fldOf Tryd.prog 32 0 = some (0, 1, false) := by kernel_rfl
theorem tf32_1 : fldOf Tryd.prog 32 1 = some (1, 1, false) := by kernel_rfl
theorem tf32_2 : fldOf Tryd.prog 32 2 = some (2, 1, false) := by kernel_rfl
theorem tf32_3 : fldOf Tryd.prog 32 3 = some (3, 1, false) := by kernel_rfl
theorem tg32 : fldsOf Tryd.prog 32 = some [(0, 1), (1, 1), (2, 1), (3, 1)] := by kernel_rfl
abbrev z32 : Tr := .agg [.int .i64 0, .sl [] true, .sl [] true, .sl [] true]
theorem tz32 : zeroOf Tryd.prog 32 = some z32 := by kernel_rfl
abbrev z33 : Tr := .agg [.int .i64 0, .sl [] true, .sl [] true, .sl [] true, .int .i64 0, .sl [] true, .sl [] true, .sl [] true, .int .i64 0, .sl [] true, .sl [] true, .sl [] true, .int .i64 0, .sl [] true, .sl [] true, .sl [] true]
theorem tz33 : zeroOf Tryd.prog 33 = some z33 := by kernel_rfl
theorem ti36 : tinf Tryd.prog 36 = some (1, false) := by kernel_rfl
theorem tu36 : Tryd.prog.underlying 36 = some (.int .u32) := by kernel_rfl
theorem ti38 : tinf Tryd.prog 38 = some (5, true) := by kernel_rfl
theorem tf38_0 : fldOf Tryd.prog 38 0 = some (0, 1, false) := by kernel_rfl
theorem tf38_1 : fldOf Tryd.prog 38 1 = some (1, 1, false) := by kernel_rfl
theorem tf38_2 : fldOf Tryd.prog 38 2 = some (2, 1, false) := by kernel_rfl
theorem tf38_3 : fldOf Tryd.prog 38 3 = some (3, 1, false) := by kernel_rfl
theorem tf38_4 : fldOf Tryd.prog 38 4 = some (4, 1, false) := by kernel_rfl
theorem tg38 : fldsOf Tryd.prog 38 = some [(0, 1), (1, 1), (2, 1), (3, 1), (4, 1)] := by kernel_rfl
abbrev z38 : Tr := .agg [.int .i64 0, .int .i64 0, .int .i64 0, .int .u32 0, .sl [] true]
theorem tz38 : zeroOf Tryd.prog 38 = some z38 := by kernel_rfl
theorem tb38 : (Tryd.prog.info? 38).map (·.bytes) = some 56 := by kernel_rfl
theorem ti40 : tinf Tryd.prog 40 = some (8, true) := by kernel_rfl
theorem tf40_0 : fldOf Tryd.prog 40 0 = some (0, 1, false) := by kernel_rfl
theorem tf40_1 : fldOf Tryd.prog 40 1 = some (1, 1, false) := by kernel_rfl
theorem tf40_2 : fldOf Tryd.prog 40 2 = some (2, 1, false) := by kernel_rfl
theorem tf40_3 : fldOf Tryd.prog 40 3 = some (3, 5, true) := by kernel_rfl
theorem tg40 : fldsOf Tryd.prog 40 = some [(0, 1), (1, 1), (2, 1), (3, 5)] := by kernel_rfl
abbrev z40 : Tr := .agg [.int .i64 0, .int .i64 0, .int .i64 0, .int .i64 0, .int .i64 0, .int .i64 0, .int .u32 0, .sl [] true]
theorem tz40 : zeroOf Tryd.prog 40 = some z40 := by kernel_rfl
theorem tb40 : (Tryd.prog.info? 40).map (·.bytes) = some 80 := by kernel_rfl
theorem ti44 : tinf Tryd.prog 44 = some (4, true) := by kernel_rfl
theorem tf44_0 : fldOf Tryd.prog 44 0 = some (0, 1, false) := by kernel_rfl
theorem tf44_1 : fldOf Tryd.prog 44 1 = some (1, 1, false) := by kernel_rfl
theorem tf44_2 : fldOf Tryd.prog 44 2 = some (2, 1, false) := by kernel_rfl
theorem tf44_3 : fldOf Tryd.prog 44 3 = some (3, 1, false) := by kernel_rfl
theorem tg44 : fldsOf Tryd.prog 44 = some [(0, 1), (1, 1), (2, 1), (3, 1)] := by kernel_rfl
abbrev z44 : Tr := .agg [.int .u8 0, .int .u8 0, .int .u8 0, .bool false]
theorem tz44 : zeroOf Tryd.prog 44 = some z44 := by kernel_rfl
theorem ti46 : tinf Tryd.prog 46 = some (1, false) := by kernel_rfl
theorem ti66 : tinf Tryd.prog 66 = some (2, true) := by kernel_rfl
theorem tf66_0 : fldOf Tryd.prog 66 0 = some (0, 1, false) := by kernel_rfl
theorem tf66_1 : fldOf Tryd.prog 66 1 = some (1, 1, false) := by kernel_rfl
theorem tg66 : fldsOf Tryd.prog 66 = some [(0, 1), (1, 1)] := by kernel_rfl
abbrev z66 : Tr := .agg [.int .i64 0, .int .i64 0]
theorem tz66 : zeroOf Tryd.prog 66 = some z66 := by kernel_rfl
theorem te67 : elemOf Tryd.prog 67 = some (66, 2, true) := by kernel_rfl
theorem ti72 : tinf Tryd.prog 72 = some (1, false) := by kernel_rfl
theorem te72 : elemOf Tryd.prog 72 = some (4, 1, false) := by kernel_rfl
theorem tf74_0 : fldOf Tryd.prog 74 0 = some (0, 1, false) := by kernel_rfl
theorem tf74_1 : fldOf Tryd.prog 74 1 = some (1, 1, false) := by kernel_rfl
theorem tf74_2 : fldOf Tryd.prog 74 2 = some (2, 1, false) := by kernel_rfl
theorem tf74_3 : fldOf Tryd.prog 74 3 = some (3, 1, false) := by kernel_rfl
theorem tf74_4 : fldOf Tryd.prog 74 4 = some (4, 1, false) := by kernel_rfl
theorem tg74 : fldsOf Tryd.prog 74 = some [(0, 1), (1, 1), (2, 1), (3, 1), (4, 1)] := by kernel_rfl
abbrev z74 : Tr := .agg [.int .i64 0, .bool false, .int .u32 0, .sl [] true, .sl [] true]
theorem tz74 : zeroOf Tryd.prog 74 = some z74 := by kernel_rfl
theorem ti97 : tinf Tryd.prog 97 = some (1, false) := by kernel_rfl
theorem tz97 : zeroOf Tryd.prog 97 = some .nilf := by kernel_rfl
theorem tu100 : Tryd.prog.underlying 100 = some (.int .u64) := by kernel_rfl
theorem ta22 : AppT Tryd.prog 22 22 5 1 1 := ⟨⟨_, te22⟩, ⟨_, _, _, te22⟩, tb5, z5, tz5, by kernel_rfl⟩
theorem ta25 : AppT Tryd.prog 25 25 38 5 56 := ⟨⟨_, te25⟩, ⟨_, _, _, te25⟩, tb38, z38, tz38, by kernel_rfl⟩
theorem ta29 : AppT Tryd.prog 29 29 40 8 80 := ⟨⟨_, te29⟩, ⟨_, _, _, te29⟩, tb40, z40, tz40, by kernel_rfl⟩
theorem ta30 : AppT Tryd.prog 30 30 3 1 8 := ⟨⟨_, te30⟩, ⟨_, _, _, te30⟩, tb3, z3, tz3, by kernel_rfl⟩
theorem ta72 : AppT Tryd.prog 72 72 4 1 1 := ⟨⟨_, te72⟩, ⟨_, _, _, te72⟩, tb4, z4, tz4, by kernel_rfl⟩
theorem tm : Tryd.prog.follows .mixedOrders = true := by kernel_rfl
theorem co4 : callOK Tryd.prog 4 = true := by kernel_rfl
theorem co5 : callOK Tryd.prog 5 = true := by kernel_rfl
theorem co6 : callOK Tryd.prog 6 = true := by kernel_rfl
theorem co7 : callOK Tryd.prog 7 = true := by kernel_rfl
theorem co8 : callOK Tryd.prog 8 = true := by kernel_rfl
theorem co9 : callOK Tryd.prog 9 = true := by kernel_rfl
theorem co10 : callOK Tryd.prog 10 = true := by kernel_rfl
theorem co11 : callOK Tryd.prog 11 = true := by kernel_rfl
theorem co12 : callOK Tryd.prog 12 = true := by kernel_rfl
theorem co13 : callOK Tryd.prog 13 = true := by kernel_rfl
theorem co14 : callOK Tryd.prog 14 = true := by kernel_rfl
theorem co15 : callOK Tryd.prog 15 = true := by kernel_rfl
theorem co16 : callOK Tryd.prog 16 = true := by kernel_rfl
theorem co17 : callOK Tryd.prog 17 = true := by kernel_rfl
theorem co18 : callOK Tryd.prog 18 = true := by kernel_rfl
theorem co19 : callOK Tryd.prog 19 = true := by kernel_rfl
theorem co20 : callOK Tryd.prog 20 = true := by kernel_rfl
theorem co21 : callOK Tryd.prog 21 = true := by kernel_rfl
theorem co22 : callOK Tryd.prog 22 = true := by kernel_rfl
theorem co23 : callOK Tryd.prog 23 = true := by kernel_rfl
theorem co24 : callOK Tryd.prog 24 = true := by kernel_rfl
theorem co25 : callOK Tryd.prog 25 = true := by kernel_rfl
theorem co26 : callOK Tryd.prog 26 = true := by kernel_rfl
theorem co27 : callOK Tryd.prog 27 = true := by kernel_rfl
theorem co28 : callOK Tryd.prog 28 = true := by kernel_rfl
theorem co29 : callOK Tryd.prog 29 = true := by kernel_rfl
theorem co30 : callOK Tryd.prog 30 = true := by kernel_rfl
theorem co31 : callOK Tryd.prog 31 = true := by kernel_rfl
theorem co32 : callOK Tryd.prog 32 = true := by kernel_rfl
theorem co33 : callOK Tryd.prog 33 = true := by kernel_rfl
theorem co34 : callOK Tryd.prog 34 = true := by kernel_rfl
theorem co35 : callOK Tryd.prog 35 = true := by kernel_rfl
theorem co36 : callOK Tryd.prog 36 = true := by kernel_rfl
theorem co37 : callOK Tryd.prog 37 = true := by kernel_rfl
theorem co38 : callOK Tryd.prog 38 = true := by kernel_rfl
theorem co39 : callOK Tryd.prog 39 = true := by kernel_rfl
theorem co40 : callOK Tryd.prog 40 = true := by kernel_rfl
theorem co41 : callOK Tryd.prog 41 = true := by kernel_rfl
theorem co42 : callOK Tryd.prog 42 = true := by kernel_rfl
theorem co43 : callOK Tryd.prog 43 = true := by kernel_rfl
theorem co44 : callOK Tryd.prog 44 = true := by kernel_rfl
theorem co45 : callOK Tryd.prog 45 = true := by kernel_rfl
theorem co46 : callOK Tryd.prog 46 = true := by kernel_rfl
theorem co47 : callOK Tryd.prog 47 = true := by kernel_rfl
theorem co48 : callOK Tryd.prog 48 = true := by kernel_rfl
theorem co49 : callOK Tryd.prog 49 = true := by kernel_rfl
theorem co50 : callOK Tryd.prog 50 = true := by kernel_rfl
theorem co51 : callOK Tryd.prog 51 = true := by kernel_rfl
theorem co54 : callOK Tryd.prog 54 = true := by kernel_rfl
theorem co55 : callOK Tryd.prog 55 = true := by kernel_rfl
end Go.Tv.D27

end
section
open Go Go.Tv Go.Proofs
namespace Go.Tv.D27

structure Bundle where
  id : Int
  frm : Int
  to : Int
  file : Int
  offset : Int
  total : Int
  sum : Int
  data : List Int
  deriving DecidableEq

structure Store where
  quota : Int
  bundles : List Bundle
  passed : List Int
  seen : List Int

structure Opn where
  kind : Int
  id : Int
  room : Int
  bundle : Bundle

def encBy (n : Int) : Tr := .int .u8 n
def encI (n : Int) : Tr := .int .i64 n
def encIs (l : List Int) : Tr := .sl (l.map encI) false
def encB (b : Bundle) : Tr := .agg [encI b.id, encI b.frm, encI b.to, encI b.file, encI b.offset, encI b.total, .int .u32 b.sum, .sl (b.data.map encBy) false]
def encS (s : Store) : Tr := .agg [encI s.quota, .sl (s.bundles.map encB) false, encIs s.passed, encIs s.seen]
def size (b : Bundle) : Int := (b.data.length : Int) + 16
def used : List Bundle → Int
  | [] => 0
  | b :: l => size b + used l

theorem used_append (l r : List Bundle) : used (l ++ r) = used l + used r := by
  induction l with
  | nil => simp [used]
  | cons b l ih => simp only [List.cons_append, used, ih]; omega

theorem take_succ_get {α : Type} {l : List α} {i : Nat} (h : i < l.length) : l.take (i + 1) = l.take i ++ [l[i]] := by
  rw [List.take_add_one, List.getElem?_eq_getElem h]; rfl

/-- Bounds of a bundle and of a store: far from every limit of the machine. -/
def BOK (b : Bundle) : Prop := b.data.length ≤ 100000
def SOK (s : Store) : Prop := s.bundles.length ≤ 100000 ∧ s.passed.length ≤ 100000 ∧ s.seen.length ≤ 100000 ∧ ∀ b, b ∈ s.bundles → BOK b

theorem used_step {l : List Bundle} {i : Nat} (h : i < l.length) : used (l.take (i + 1)) = used (l.take i) + size l[i] := by
  rw [take_succ_get h, used_append]
  simp [used]

theorem size_bd {b : Bundle} (h : BOK b) : 16 ≤ size b ∧ size b ≤ 100016 := by
  unfold BOK at h; unfold size; omega

def sameB (a b : Bundle) : Bool := decide (a.id = b.id ∧ a.frm = b.frm ∧ a.to = b.to ∧ a.file = b.file ∧ a.offset = b.offset ∧ a.total = b.total ∧ a.sum = b.sum ∧ a.data = b.data)
def findIx (l : List Bundle) (id : Int) : Int :=
  match l.findIdx? (fun b => b.id == id) with
  | some i => (i : Int)
  | none => -1

theorem findIx_hit {l : List Bundle} {id : Int} {i : Nat} (hi : i < l.length) (h : ∀ b, b ∈ l.take i → b.id ≠ id) (he : l[i].id = id) : findIx l id = (i : Int) := by
  unfold findIx
  have : l.findIdx? (fun b => b.id == id) = some i := by
    rw [List.findIdx?_eq_some_iff_getElem]
    refine ⟨hi, by simp [he], fun j hj => ?_⟩
    have := h l[j] (by
      rw [List.mem_iff_getElem]
      exact ⟨j, by simp; omega, by simp⟩)
    simpa using this
  rw [this]

theorem findIx_none {l : List Bundle} {id : Int} (h : ∀ b, b ∈ l → b.id ≠ id) : findIx l id = -1 := by
  unfold findIx
  have : l.findIdx? (fun b => b.id == id) = none := by
    rw [List.findIdx?_eq_none_iff]
    intro b hb
    simpa using h b hb
  rw [this]

theorem mem_take_succ {α : Type} {l : List α} {i : Nat} (h : i < l.length) {x : α} : x ∈ l.take (i + 1) ↔ x ∈ l.take i ∨ x = l[i] := by
  rw [take_succ_get h, List.mem_append, List.mem_singleton]

def ins (x : Int) : List Int → List Int
  | [] => [x]
  | y :: l => if y < x then y :: ins x l else x :: y :: l
def sortl (l : List Int) : List Int := l.foldl (fun o x => ins x o) []

theorem sortl_snoc (l : List Int) (x : Int) : sortl (l ++ [x]) = ins x (sortl l) := by
  unfold sortl; rw [List.foldl_append]; rfl

theorem ins_length (x : Int) : ∀ (l : List Int), (ins x l).length = l.length + 1
  | [] => rfl
  | y :: l => by
    unfold ins
    split
    · simp [ins_length x l]
    · simp

theorem ins_split (x : Int) : ∀ (l : List Int) (k : Nat), k ≤ l.length → (∀ y, y ∈ l.take k → y < x) → (∀ h : k < l.length, ¬ l[k] < x) → ins x l = l.take k ++ [x] ++ l.drop k
  | [], k, hk, _, _ => by simp [ins]
  | y :: l, 0, _, _, h2 => by
    have := h2 (by simp)
    simp only [List.getElem_cons_zero] at this
    simp [ins, this]
  | y :: l, k + 1, hk, h1, h2 => by
    have hy : y < x := h1 y (by simp)
    unfold ins
    rw [if_pos hy, ins_split x l k (by simpa using hk) (fun z hz => h1 z (by simp [hz])) (fun h => by have h3 := h2 (Nat.succ_lt_succ h); rwa [List.getElem_cons_succ] at h3)]
    simp

def zs : Store := ⟨0, [], [], []⟩
def create (s : Store) (b : Bundle) : Store × Int :=
  if 256 < b.data.length then (zs, 2)
  else if b.id ∈ s.seen then (zs, 4)
  else if 64 ≤ s.bundles.length then (zs, 9)
  else if s.quota < used s.bundles + size b then (zs, 42)
  else (⟨s.quota, s.bundles ++ [b], s.passed, sortl (s.seen ++ [b.id])⟩, 0)
def accept (s : Store) (b : Bundle) : Store × Bool × Int :=
  if b.data.length ≤ 256 ∧ b.id ∈ s.seen then (s, true, 0)
  else ((create s b).1, decide ((create s b).2 = 0), (create s b).2)
def pass (s : Store) (n : Int) : Store × Int :=
  if findIx s.bundles n < 0 then (zs, 3)
  else if n ∈ s.passed then (zs, 44)
  else (⟨s.quota, s.bundles, sortl (s.passed ++ [n]), s.seen⟩, 0)
def confirm (s : Store) (n : Int) : Store × Int :=
  if findIx s.bundles n < 0 then (zs, 3)
  else (⟨s.quota, s.bundles.take (findIx s.bundles n).toNat ++ s.bundles.drop ((findIx s.bundles n).toNat + 1), s.passed.filter (· != n), s.seen⟩, 0)
def retry (s : Store) : Store := ⟨s.quota, s.bundles, [], s.seen⟩
def zb : Bundle := ⟨0, 0, 0, 0, 0, 0, 0, []⟩
def fits (s : Store) (room : Int) (b : Bundle) : Bool := decide (b.id ∉ s.passed ∧ size b ≤ room)
def offer (s : Store) (room : Int) : Bundle × Bool :=
  match s.bundles.find? (fits s room) with
  | some b => (b, true)
  | none => (zb, false)
def sameS (a b : Store) : Bool := decide (a.quota = b.quota ∧ a.bundles = b.bundles ∧ a.passed = b.passed ∧ a.seen = b.seen)

theorem findIx_nat {l : List Bundle} {n : Int} (h : ¬ findIx l n < 0) : ∃ i : Nat, i < l.length ∧ findIx l n = (i : Int) := by
  unfold findIx at h ⊢
  cases hf : l.findIdx? (fun b => b.id == n) with
  | none => rw [hf] at h; simp at h
  | some i =>
    rw [List.findIdx?_eq_some_iff_getElem] at hf
    exact ⟨i, hf.1, rfl⟩

theorem used_bd' : ∀ (l : List Bundle), (∀ b, b ∈ l → BOK b) → 0 ≤ used l ∧ used l ≤ 100016 * l.length
  | [], _ => by simp [used]
  | b :: l, h => by
    have h1 := size_bd (h b List.mem_cons_self)
    have h2 := used_bd' l (fun c hc => h c (List.mem_cons_of_mem _ hc))
    simp only [used, List.length_cons]
    omega

theorem used_bd {s : Store} (h : SOK s) : 0 ≤ used s.bundles ∧ used s.bundles ≤ 10001600000 := by
  have h1 := used_bd' s.bundles h.2.2.2
  have h2 := h.1
  omega

theorem sameB_iff {a b : Bundle} : sameB a b = true ↔ a = b := by
  unfold sameB
  rw [decide_eq_true_eq]
  constructor
  · rintro ⟨h1, h2, h3, h4, h5, h6, h7, h8⟩
    cases a; cases b; simp_all
  · rintro rfl; simp

def lowerB (x : Int) (l : List Int) : Nat := (l.takeWhile fun y => decide (y < x)).length

theorem lowerB_eq (x : Int) : ∀ (l : List Int) (k : Nat), k ≤ l.length → (∀ y, y ∈ l.take k → y < x) → (∀ h : k < l.length, ¬ l[k] < x) → lowerB x l = k
  | [], k, hk, _, _ => by simp at hk; subst hk; rfl
  | y :: l, 0, _, _, h2 => by
    have := h2 (by simp)
    simp only [List.getElem_cons_zero] at this
    simp [lowerB, this]
  | y :: l, k + 1, hk, h1, h2 => by
    have hy : y < x := h1 y (by simp)
    have := lowerB_eq x l k (by simpa using hk) (fun z hz => h1 z (by simp [hz])) (fun h => by have h3 := h2 (Nat.succ_lt_succ h); rwa [List.getElem_cons_succ] at h3)
    unfold lowerB at this ⊢
    simp [hy, this]

theorem sorted_le {l : List Int} (hp : l.Pairwise (· < ·)) {i j : Nat} (hij : i ≤ j) (hj : j < l.length) : l[i] ≤ l[j] := by
  by_cases e : i = j
  · subst e; omega
  · have := List.pairwise_iff_getElem.1 hp i j (by omega) hj (by omega)
    omega

theorem take_lt {l : List Int} (hp : l.Pairwise (· < ·)) {x : Int} {m : Nat} (hm : m < l.length) (h : l[m] < x) : ∀ y, y ∈ l.take (m + 1) → y < x := by
  intro y hy
  obtain ⟨j, hj, rfl⟩ := List.mem_iff_getElem.1 hy
  simp only [List.length_take] at hj
  rw [List.getElem_take]
  have := sorted_le hp (show j ≤ m by omega) hm
  omega

theorem not_mem_of {l : List Int} (hp : l.Pairwise (· < ·)) {x : Int} {k : Nat} (h1 : ∀ y, y ∈ l.take k → y < x) (h2 : ∀ h : k < l.length, x < l[k]) : x ∉ l := by
  intro hm
  obtain ⟨j, hj, rfl⟩ := List.mem_iff_getElem.1 hm
  by_cases h : j < k
  · have := h1 l[j] (by rw [List.mem_iff_getElem]; exact ⟨j, by simp; omega, by simp⟩)
    omega
  · have h3 := h2 (by omega)
    have := sorted_le hp (show k ≤ j by omega) hj
    omega

end Go.Tv.D27

end
section
open Go Go.Tv Go.Proofs
namespace Go.Tv.D27
set_option maxRecDepth 20000
set_option linter.unusedSimpArgs false
set_option linter.unusedVariables false
theorem size_ret (b : Bundle) (hb : BOK b) : Ret Tryd.prog 19 [encB b] (encI (size b)) := by
  unfold BOK at hb
  refine ret_of_awp Tryd.func19 rfl (Nat.le_of_ble_eq_true rfl) ?_
  refine awp_seq ?_
  refine awp_rw rfl ?_
  refine RW.new rfl rfl (eff_boxK (v := .t _) (k := 8) (id := 1) rfl rfl rfl rfl rfl rfl) ?_
  refine RW.op rfl rfl (eff_assign (v := .t _) rfl rfl rfl) ?_
  refine RW.nil ?_
  refine awp_seq ?_
  refine awp_rw rfl ?_
  refine RW.op rfl rfl (eff_fieldAddr rfl rfl tf40_3 (by decide) rfl rfl rfl (Nat.le_of_ble_eq_true rfl)) ?_
  refine RW.op rfl rfl (eff_fieldAddr rfl rfl tf38_4 (by decide) rfl rfl rfl (Nat.le_of_ble_eq_true rfl)) ?_
  refine RW.op rfl rfl (eff_load (y := .t _) rfl rfl ti22 rfl (.one rfl rfl rfl rfl)) ?_
  refine RW.op rfl rfl (eff_lenM rfl rfl te22 rfl) ?_
  refine RW.op rfl rfl (eff_iop rfl rfl rfl rfl (iadd (by omega))) ?_
  refine RW.op rfl rfl (eff_assign (v := .t _) rfl rfl rfl) ?_
  refine RW.nil ?_
  refine awp_ret ?_
  first
    | exact ⟨Or.inr rfl, [_], ⟨.tmp (.t _), trivial⟩, .refl _⟩
    | exact ⟨Or.inr rfl, [_], ⟨.tmp (.t _), trivial⟩, (by repeat' first | exact trivial | exact Wk.refl _ | exact Wk.sl _ | refine And.intro ?_ ?_ | refine Wk.tupP ?_ | refine Wk.aggP ?_)⟩
    | exact ⟨Or.inr rfl, [_], ⟨.tmp (Res.ownT rfl rfl rfl rfl), trivial⟩, .refl _⟩
    | exact ⟨Or.inr rfl, [_], ⟨.tmp (Res.ownT rfl rfl rfl rfl), trivial⟩, (by repeat' first | exact trivial | exact Wk.refl _ | exact Wk.sl _ | refine And.intro ?_ ?_ | refine Wk.tupP ?_ | refine Wk.aggP ?_)⟩

theorem used_ret (S : Store) (hS : SOK S) : Ret Tryd.prog 18 [encS S] (encI (used S.bundles)) := by
  refine ret_of_awp Tryd.func18 rfl (Nat.le_of_ble_eq_true rfl) ?_
  refine awp_seq ?_
  refine awp_rw rfl ?_
  refine RW.new rfl rfl (eff_boxK (v := .t _) (k := 4) (id := 1) rfl rfl rfl rfl rfl rfl) ?_
  refine RW.op rfl rfl (eff_assign (v := .t _) rfl rfl rfl) ?_
  refine RW.nil ?_
  refine awp_seq ?_
  refine awp_rw rfl ?_
  refine RW.op rfl rfl (eff_assign (v := .t _) rfl rfl rfl) ?_
  refine RW.nil ?_
  refine awp_seq ?_
  refine awp_seq ?_
  refine awp_rw rfl ?_
  refine RW.op rfl rfl (eff_fieldAddr rfl rfl tf32_1 (by decide) rfl rfl rfl (Nat.le_of_ble_eq_true rfl)) ?_
  refine RW.op rfl rfl (eff_load (y := .t _) rfl rfl ti29 rfl (.one rfl rfl rfl rfl)) ?_
  refine RW.op rfl rfl (eff_lenM rfl rfl te29 rfl) ?_
  refine RW.op rfl rfl (eff_move (v := .t _) rfl rfl rfl) ?_
  refine RW.nil ?_
  refine awp_block ?_
  refine awp_loopW (fun m s => ∃ (i : Nat) (acc : Int), (i ≤ S.bundles.length) ∧ (acc = used (S.bundles.take i)) ∧ (0 ≤ acc) ∧ (acc ≤ 100016 * i) ∧ m = S.bundles.length - i ∧ s = ⟨19, [(3, .t (encI acc)), (7, .t (.sl (S.bundles.map encB) false)), (8, .t (encI S.bundles.length)), (9, .t (encI (i : Nat)))], []⟩) (_) (⟨_, weak_keep (n := 19) (fr' := [(3, .t (encI 0)), (7, .t (.sl (S.bundles.map encB) false)), (8, .t (encI S.bundles.length)), (9, .t (encI (0 : Nat)))]) (st' := []) ⟨rfl, rfl, rfl, rfl, rfl, rfl, rfl, rfl, trivial⟩ trivial, 0, 0, (by omega), (by rfl), (by omega), (by omega), rfl, rfl⟩) ?_
  rintro m s ⟨i, acc, hi, ha, h0, h1, rfl, rfl⟩
  have hL := hS.1
  refine awp_seq ?_
  refine awp_rw rfl ?_
  refine RW.op rfl rfl (eff_iop rfl rfl rfl rfl rfl) ?_
  refine RW.nil ?_
  refine awp_seq ?_
  refine awp_cond rfl (fun h1 => ?_) (fun h1 => ?_)
  · try simp only [decide_eq_true_eq, decide_eq_false_iff_not, beq_iff_eq, bne_iff_ne, bne_eq_false_iff_eq, beq_eq_false_iff_ne, Bool.not_eq_true, Bool.not_eq_false, Bool.not_eq_true', Bool.not_eq_false', ne_eq] at h1
    refine awp_skip ?_
    refine awp_seq ?_
    refine awp_block ?_
    refine awp_seq ?_
    refine awp_rw rfl ?_
    have hb := size_bd (hS.2.2.2 _ (List.getElem_mem (show i < S.bundles.length by omega)))
    refine RW.op rfl rfl (eff_indexM rfl rfl te29 rfl rfl rfl (by first | assumption | exact List.getElem?_eq_getElem (by omega)) rfl (by decide)) ?_
    refine RW.op rfl rfl (eff_loadW rfl rfl ti40 rfl rfl rfl) ?_
    refine RW.new rfl rfl (eff_allocK (k := 8) (id := 5) rfl rfl tz40 rfl rfl) ?_
    refine RW.store rfl rfl (eff_storeW (v := .t _) (els := [_]) (els' := [_]) rfl rfl ti40 rfl rfl rfl rfl rfl rfl rfl rfl rfl) ?_
    refine RW.nil ?_
    refine awp_rw rfl ?_
    refine RW.op rfl rfl (eff_move (v := .t _) rfl rfl rfl) ?_
    refine RW.op rfl rfl (eff_load rfl rfl ti40 rfl (.whole rfl rfl rfl rfl rfl rfl)) ?_
    refine RW.op rfl rfl (eff_callT (size_ret _ (hS.2.2.2 _ (List.getElem_mem _))) co19 rfl rfl rfl rfl) ?_
    refine RW.op rfl rfl (eff_iop rfl rfl rfl rfl (iadd (by omega))) ?_
    refine RW.op rfl rfl (eff_assign (v := .t _) rfl rfl rfl) ?_
    refine RW.nil ?_
    refine awp_rw rfl ?_
    refine RW.op rfl rfl (eff_iop rfl rfl rfl rfl (iadd (by omega))) ?_
    refine RW.op rfl rfl (eff_move (v := .t _) rfl rfl rfl) ?_
    refine RW.nil ?_
    refine ⟨_, ?_, _, weak_keep (n := 19) (fr' := [(3, .t (encI _)), (7, .t (.sl (S.bundles.map encB) false)), (8, .t (encI S.bundles.length)), (9, .t (encI ((i + 1) : Nat)))]) (st' := []) ⟨rfl, rfl, rfl, rfl, rfl, rfl, rfl, rfl, trivial⟩ trivial, i + 1, _, (by omega), (by rw [used_step (by omega), ← ha]), (by omega), (by omega), rfl, rfl⟩
    omega
  · try simp only [decide_eq_true_eq, decide_eq_false_iff_not, beq_iff_eq, bne_iff_ne, bne_eq_false_iff_eq, beq_eq_false_iff_ne, Bool.not_eq_true, Bool.not_eq_false, Bool.not_eq_true', Bool.not_eq_false', ne_eq] at h1
    refine awp_exit ?_
    refine awp_seq ?_
    refine awp_rw rfl ?_
    refine RW.op rfl rfl (eff_move (v := .t _) rfl rfl rfl) ?_
    refine RW.op rfl rfl (eff_assign (v := .t _) rfl rfl rfl) ?_
    refine RW.nil ?_
    refine awp_ret ?_
    have hi2 : i = S.bundles.length := by omega
    subst hi2
    rw [List.take_length] at ha
    subst ha
    exact ⟨Or.inr rfl, [_], ⟨.tmp (.t _), trivial⟩, .refl _⟩

theorem sameInts_ret (a b : List Int) (hl : a.length ≤ 1000000) : Ret Tryd.prog 36 [encIs a, encIs b] (.bool (decide (a = b))) := by
  refine ret_of_awp Tryd.func36 rfl (Nat.le_of_ble_eq_true rfl) ?_
  refine awp_seq ?_
  refine awp_rw rfl ?_
  refine RW.op rfl rfl (eff_assign (v := .t _) rfl rfl rfl) ?_
  refine RW.nil ?_
  refine awp_seq ?_
  refine awp_seq ?_
  refine awp_rw rfl ?_
  refine RW.op rfl rfl (eff_move (v := .t _) rfl rfl rfl) ?_
  refine RW.op rfl rfl (eff_lenM rfl rfl te30 rfl) ?_
  refine RW.op rfl rfl (eff_move (v := .t _) rfl rfl rfl) ?_
  refine RW.op rfl rfl (eff_lenM rfl rfl te30 rfl) ?_
  refine RW.op rfl rfl (eff_iop rfl rfl rfl rfl rfl) ?_
  refine RW.nil ?_
  refine awp_cond rfl (fun h1 => ?_) (fun h1 => ?_)
  · try simp only [decide_eq_true_eq, decide_eq_false_iff_not, beq_iff_eq, bne_iff_ne, bne_eq_false_iff_eq, beq_eq_false_iff_ne, Bool.not_eq_true, Bool.not_eq_false, Bool.not_eq_true', Bool.not_eq_false', ne_eq] at h1
    refine awp_seq ?_
    refine awp_rw rfl ?_
    refine RW.op rfl rfl (eff_assign (v := .t _) rfl rfl rfl) ?_
    refine RW.nil ?_
    refine awp_ret ?_
    rw [show decide (a = b) = false from decide_eq_false (fun e => h1 (by rw [e]))]
    exact ⟨Or.inr rfl, [_], ⟨.tmp (.t _), trivial⟩, .refl _⟩
  · try simp only [decide_eq_true_eq, decide_eq_false_iff_not, beq_iff_eq, bne_iff_ne, bne_eq_false_iff_eq, beq_eq_false_iff_ne, Bool.not_eq_true, Bool.not_eq_false, Bool.not_eq_true', Bool.not_eq_false', ne_eq] at h1
    refine awp_skip ?_
    refine awp_seq ?_
    refine awp_seq ?_
    refine awp_rw rfl ?_
    refine RW.op rfl rfl (eff_assign (v := .t _) rfl rfl rfl) ?_
    refine RW.nil ?_
    refine awp_block ?_
    refine awp_loopW (fun m s => ∃ (i : Nat), (i ≤ a.length) ∧ (a.take i = b.take i) ∧ m = a.length - i ∧ s = ⟨26, [(0, .t (encIs a)), (1, .t (encIs b)), (5, .t (encI (i : Nat)))], []⟩) (_) (⟨_, weak_keep (n := 26) (fr' := [(0, .t (encIs a)), (1, .t (encIs b)), (5, .t (encI (0 : Nat)))]) (st' := []) ⟨rfl, rfl, rfl, rfl, rfl, rfl, trivial⟩ trivial, 0, (by omega), (by simp), rfl, rfl⟩) ?_
    rintro m s ⟨i, hi, ha, rfl, rfl⟩
    refine awp_seq ?_
    refine awp_seq ?_
    refine awp_rw rfl ?_
    refine RW.op rfl rfl (eff_move (v := .t _) rfl rfl rfl) ?_
    refine RW.op rfl rfl (eff_move (v := .t _) rfl rfl rfl) ?_
    refine RW.op rfl rfl (eff_lenM rfl rfl te30 rfl) ?_
    refine RW.op rfl rfl (eff_iop rfl rfl rfl rfl rfl) ?_
    refine RW.nil ?_
    refine awp_cond rfl (fun h2 => ?_) (fun h2 => ?_)
    · try simp only [decide_eq_true_eq, decide_eq_false_iff_not, beq_iff_eq, bne_iff_ne, bne_eq_false_iff_eq, beq_eq_false_iff_ne, Bool.not_eq_true, Bool.not_eq_false, Bool.not_eq_true', Bool.not_eq_false', ne_eq] at h2
      refine awp_skip ?_
      refine awp_seq ?_
      refine awp_block ?_
      refine awp_seq ?_
      refine awp_rd [(some 17, []), (some 18, []), (some 19, []), (some 20, []), (some 21, []), (some 22, []), (some 23, []), (some 24, []), (some 25, [])] [[], [], [0, 1], [0, 1, 2], [], [], [4, 5], [4, 5, 6], [0, 1, 2, 3, 4, 5, 6, 7]] tm rfl rfl rfl rfl ?_
      refine RD.op rfl rfl rfl (eff_move (v := .t _) rfl rfl rfl) ?_
      refine RD.op rfl rfl rfl (eff_move (v := .t _) rfl rfl rfl) ?_
      refine RD.op rfl rfl rfl (eff_indexM rfl rfl te30 rfl rfl rfl (by first | assumption | exact List.getElem?_eq_getElem (by omega)) rfl (by decide)) ?_
      refine RD.op rfl rfl rfl (eff_loadW1 rfl rfl ti3 rfl rfl) ?_
      refine RD.op rfl rfl rfl (eff_move (v := .t _) rfl rfl rfl) ?_
      refine RD.op rfl rfl rfl (eff_move (v := .t _) rfl rfl rfl) ?_
      refine RD.op rfl rfl rfl (eff_indexM rfl rfl te30 rfl rfl rfl (by first | assumption | exact List.getElem?_eq_getElem (by omega)) rfl (by decide)) ?_
      refine RD.op rfl rfl rfl (eff_loadW1 rfl rfl ti3 rfl rfl) ?_
      refine RD.op rfl rfl rfl (eff_iop rfl rfl rfl rfl rfl) ?_
      refine RD.nil ?_
      refine awp_cond rfl (fun h3 => ?_) (fun h3 => ?_)
      · try simp only [decide_eq_true_eq, decide_eq_false_iff_not, beq_iff_eq, bne_iff_ne, bne_eq_false_iff_eq, beq_eq_false_iff_ne, Bool.not_eq_true, Bool.not_eq_false, Bool.not_eq_true', Bool.not_eq_false', ne_eq] at h3
        refine awp_seq ?_
        refine awp_rw rfl ?_
        refine RW.op rfl rfl (eff_assign (v := .t _) rfl rfl rfl) ?_
        refine RW.nil ?_
        refine awp_ret ?_
        rw [show decide (a = b) = false from decide_eq_false (fun e => by subst e; exact h3 rfl)]
        exact ⟨Or.inr rfl, [_], ⟨.tmp (.t _), trivial⟩, .refl _⟩
      · try simp only [decide_eq_true_eq, decide_eq_false_iff_not, beq_iff_eq, bne_iff_ne, bne_eq_false_iff_eq, beq_eq_false_iff_ne, Bool.not_eq_true, Bool.not_eq_false, Bool.not_eq_true', Bool.not_eq_false', ne_eq] at h3
        refine awp_skip ?_
        refine awp_rw rfl ?_
        refine RW.op rfl rfl (eff_move (v := .t _) rfl rfl rfl) ?_
        refine RW.op rfl rfl (eff_iop rfl rfl rfl rfl (iadd (by omega))) ?_
        refine RW.op rfl rfl (eff_assign (v := .t _) rfl rfl rfl) ?_
        refine RW.nil ?_
        refine ⟨_, ?_, _, weak_keep (n := 26) (fr' := [(0, .t (encIs a)), (1, .t (encIs b)), (5, .t (encI ((i + 1) : Nat)))]) (st' := []) ⟨rfl, rfl, rfl, rfl, rfl, rfl, trivial⟩ trivial, i + 1, (by omega), (by rw [take_succ_get (by omega), take_succ_get (by omega), ha, h3]), rfl, rfl⟩
        omega
    · try simp only [decide_eq_true_eq, decide_eq_false_iff_not, beq_iff_eq, bne_iff_ne, bne_eq_false_iff_eq, beq_eq_false_iff_ne, Bool.not_eq_true, Bool.not_eq_false, Bool.not_eq_true', Bool.not_eq_false', ne_eq] at h2
      refine awp_exit ?_
      refine awp_seq ?_
      refine awp_rw rfl ?_
      refine RW.op rfl rfl (eff_assign (v := .t _) rfl rfl rfl) ?_
      refine RW.nil ?_
      refine awp_ret ?_
      rw [List.take_of_length_le (by omega), List.take_of_length_le (by omega)] at ha
      rw [show decide (a = b) = true from decide_eq_true ha]
      exact ⟨Or.inr rfl, [_], ⟨.tmp (.t _), trivial⟩, .refl _⟩

end Go.Tv.D27

end
section
open Go Go.Tv Go.Proofs
namespace Go.Tv.D27
set_option maxRecDepth 20000
set_option linter.unusedSimpArgs false
set_option linter.unusedVariables false
theorem bundle_ret (i : Int) (m : Nat) (hm : m ≤ 1000000) : Ret Tryd.prog 13 [encI i, encI (m : Nat)] (encB ⟨i, 0, 1, 0, 0, 0, 0, List.replicate m 0⟩) := by
  refine ret_of_awp Tryd.func13 rfl (Nat.le_of_ble_eq_true rfl) ?_
  refine awp_seq ?_
  refine awp_rw rfl ?_
  refine RW.new rfl rfl (eff_allocK (k := 8) (id := 4) rfl rfl tz40 rfl rfl) ?_
  refine RW.nil ?_
  refine awp_seq ?_
  refine awp_rw rfl ?_
  refine RW.op rfl rfl (eff_move (v := .t _) rfl rfl rfl) ?_
  refine RW.op rfl rfl (eff_move (v := .t _) rfl rfl rfl) ?_
  refine RW.new rfl rfl (eff_makeSlice (id := 7) (l := m) (c := m) rfl rfl te22 tz5 rfl (by decide) tb5 rfl rfl rfl rfl (Nat.le_refl _) (by omega) (by omega) rfl) ?_
  refine RW.op rfl rfl (eff_buildA (ys := [_, _, _, _, _]) rfl rfl tz38 tg38 rfl rfl) ?_
  refine RW.op rfl rfl (eff_buildA (ys := [_, _, _, _, _, _, _, _]) rfl rfl tz40 tg40 rfl rfl) ?_
  refine RW.store rfl rfl (eff_storeW (v := .agg _) (els := [_]) (els' := [_]) rfl rfl ti40 rfl rfl rfl rfl rfl rfl rfl rfl rfl) ?_
  refine RW.nil ?_
  refine awp_ret ?_
  first
    | exact ⟨Or.inr rfl, [_], ⟨.cell rfl ti40 (.whole rfl rfl rfl rfl rfl rfl) (Res.aggP (xs := [_, _, _, _, _, _, _, _]) ⟨.t _, .t _, .t _, .t _, .t _, .t _, .t _, Res.ownT (xs := (List.replicate m (0 : Int)).map encBy) rfl rfl (by simp [List.map_replicate, encBy]) (by simp), trivial⟩), trivial⟩, .refl _⟩
    | exact ⟨Or.inr rfl, [_], ⟨.cell rfl ti40 (.whole rfl rfl rfl rfl rfl rfl) (Res.aggP (xs := [_, _, _, _, _, _, _, _]) ⟨.t _, .t _, .t _, .t _, .t _, .t _, .t _, Res.ownT (xs := (List.replicate m (0 : Int)).map encBy) rfl rfl (by simp [List.map_replicate, encBy]) (by simp), trivial⟩), trivial⟩, (by repeat' first | exact trivial | exact Wk.refl _ | exact Wk.sl _ | refine And.intro ?_ ?_ | refine Wk.tupP ?_ | refine Wk.aggP ?_)⟩

theorem sameBundle_ret (a b : Bundle) (ha : Bytes a.data) (hb : Bytes b.data) : Ret Tryd.prog 37 [encB a, encB b] (.bool (sameB a b)) := by
  refine ret_of_awp Tryd.func37 rfl (Nat.le_of_ble_eq_true rfl) ?_
  refine awp_seq ?_
  refine awp_rw rfl ?_
  refine RW.new rfl rfl (eff_boxK (v := .t _) (k := 8) (id := 2) rfl rfl rfl rfl rfl rfl) ?_
  refine RW.new rfl rfl (eff_boxK (v := .t _) (k := 8) (id := 3) rfl rfl rfl rfl rfl rfl) ?_
  refine RW.op rfl rfl (eff_assign (v := .t _) rfl rfl rfl) ?_
  refine RW.nil ?_
  refine awp_seq ?_
  refine awp_rd [(some 7, []), (some 8, []), (some 9, []), (some 10, []), (some 5, [5]), (some 6, [6]), (none, [5]), (none, [6])] [[], [0], [], [2], [], [], [0, 1, 4, 5], [0, 1, 2, 3, 4, 5, 6]] tm rfl rfl rfl rfl ?_
  refine RD.op rfl rfl rfl (eff_fieldAddr rfl rfl tf40_3 (by decide) rfl rfl rfl (Nat.le_of_ble_eq_true rfl)) ?_
  refine RD.op rfl rfl rfl (eff_loadS (ys := [_, _, _, _, _]) rfl rfl ti38 rfl rfl rfl rfl rfl rfl) ?_
  refine RD.op rfl rfl rfl (eff_fieldAddr rfl rfl tf40_3 (by decide) rfl rfl rfl (Nat.le_of_ble_eq_true rfl)) ?_
  refine RD.op rfl rfl rfl (eff_loadS (ys := [_, _, _, _, _]) rfl rfl ti38 rfl rfl rfl rfl rfl rfl) ?_
  refine RD.new rfl rfl rfl (eff_allocK (k := 5) (id := 5) rfl rfl tz38 rfl rfl) ?_
  refine RD.new rfl rfl rfl (eff_allocK (k := 5) (id := 6) rfl rfl tz38 rfl rfl) ?_
  refine RD.store rfl rfl rfl (eff_storeW (v := .t _) (els := [_]) (els' := [_]) rfl rfl ti38 rfl rfl rfl rfl rfl rfl rfl rfl rfl) ?_
  refine RD.store rfl rfl rfl (eff_storeW (v := .t _) (els := [_]) (els' := [_]) rfl rfl ti38 rfl rfl rfl rfl rfl rfl rfl rfl rfl) ?_
  refine RD.nil ?_
  refine awp_seq ?_
  refine awp_rw rfl ?_
  refine RW.op rfl rfl (eff_fieldAddr rfl rfl tf40_0 (by decide) rfl rfl rfl (Nat.le_of_ble_eq_true rfl)) ?_
  refine RW.op rfl rfl (eff_load (y := .t _) rfl rfl ti3 rfl (.one rfl rfl rfl rfl)) ?_
  refine RW.op rfl rfl (eff_fieldAddr rfl rfl tf40_0 (by decide) rfl rfl rfl (Nat.le_of_ble_eq_true rfl)) ?_
  refine RW.op rfl rfl (eff_load (y := .t _) rfl rfl ti3 rfl (.one rfl rfl rfl rfl)) ?_
  refine RW.op rfl rfl (eff_iop rfl rfl rfl rfl rfl) ?_
  refine RW.op rfl rfl (eff_move (v := .t _) rfl rfl rfl) ?_
  refine RW.split 16 rfl (fun h1 => ?_) (fun h1 => ?_)
  · try simp only [decide_eq_true_eq, decide_eq_false_iff_not, beq_iff_eq, bne_iff_ne, bne_eq_false_iff_eq, beq_eq_false_iff_ne, Bool.not_eq_true, Bool.not_eq_false, Bool.not_eq_true', Bool.not_eq_false', ne_eq] at h1
    refine RW.gop rfl rfl rfl rfl rfl rfl (eff_fieldAddr rfl rfl tf40_1 (by decide) rfl rfl rfl (Nat.le_of_ble_eq_true rfl)) ?_
    refine RW.gop rfl rfl rfl rfl rfl rfl (eff_load (y := .t _) rfl rfl ti3 rfl (.one rfl rfl rfl rfl)) ?_
    refine RW.gop rfl rfl rfl rfl rfl rfl (eff_fieldAddr rfl rfl tf40_1 (by decide) rfl rfl rfl (Nat.le_of_ble_eq_true rfl)) ?_
    refine RW.gop rfl rfl rfl rfl rfl rfl (eff_load (y := .t _) rfl rfl ti3 rfl (.one rfl rfl rfl rfl)) ?_
    refine RW.gop rfl rfl rfl rfl rfl rfl (eff_iop rfl rfl rfl rfl rfl) ?_
    refine RW.op rfl rfl (eff_pick (v := .t _) rfl rfl rfl rfl) ?_
    refine RW.op rfl rfl (eff_move (v := .t _) rfl rfl rfl) ?_
    refine RW.split 23 rfl (fun h2 => ?_) (fun h2 => ?_)
    · try simp only [decide_eq_true_eq, decide_eq_false_iff_not, beq_iff_eq, bne_iff_ne, bne_eq_false_iff_eq, beq_eq_false_iff_ne, Bool.not_eq_true, Bool.not_eq_false, Bool.not_eq_true', Bool.not_eq_false', ne_eq] at h2
      refine RW.gop rfl rfl rfl rfl rfl rfl (eff_fieldAddr rfl rfl tf40_2 (by decide) rfl rfl rfl (Nat.le_of_ble_eq_true rfl)) ?_
      refine RW.gop rfl rfl rfl rfl rfl rfl (eff_load (y := .t _) rfl rfl ti3 rfl (.one rfl rfl rfl rfl)) ?_
      refine RW.gop rfl rfl rfl rfl rfl rfl (eff_fieldAddr rfl rfl tf40_2 (by decide) rfl rfl rfl (Nat.le_of_ble_eq_true rfl)) ?_
      refine RW.gop rfl rfl rfl rfl rfl rfl (eff_load (y := .t _) rfl rfl ti3 rfl (.one rfl rfl rfl rfl)) ?_
      refine RW.gop rfl rfl rfl rfl rfl rfl (eff_iop rfl rfl rfl rfl rfl) ?_
      refine RW.op rfl rfl (eff_pick (v := .t _) rfl rfl rfl rfl) ?_
      refine RW.op rfl rfl (eff_move (v := .t _) rfl rfl rfl) ?_
      refine RW.split 30 rfl (fun h3 => ?_) (fun h3 => ?_)
      · try simp only [decide_eq_true_eq, decide_eq_false_iff_not, beq_iff_eq, bne_iff_ne, bne_eq_false_iff_eq, beq_eq_false_iff_ne, Bool.not_eq_true, Bool.not_eq_false, Bool.not_eq_true', Bool.not_eq_false', ne_eq] at h3
        refine RW.gop rfl rfl rfl rfl rfl rfl (eff_fieldAddr rfl rfl tf38_0 (by decide) rfl rfl rfl (Nat.le_of_ble_eq_true rfl)) ?_
        refine RW.gop rfl rfl rfl rfl rfl rfl (eff_load (y := .t _) rfl rfl ti3 rfl (.one rfl rfl rfl rfl)) ?_
        refine RW.gop rfl rfl rfl rfl rfl rfl (eff_fieldAddr rfl rfl tf38_0 (by decide) rfl rfl rfl (Nat.le_of_ble_eq_true rfl)) ?_
        refine RW.gop rfl rfl rfl rfl rfl rfl (eff_load (y := .t _) rfl rfl ti3 rfl (.one rfl rfl rfl rfl)) ?_
        refine RW.gop rfl rfl rfl rfl rfl rfl (eff_iop rfl rfl rfl rfl rfl) ?_
        refine RW.op rfl rfl (eff_pick (v := .t _) rfl rfl rfl rfl) ?_
        refine RW.op rfl rfl (eff_move (v := .t _) rfl rfl rfl) ?_
        refine RW.split 37 rfl (fun h4 => ?_) (fun h4 => ?_)
        · try simp only [decide_eq_true_eq, decide_eq_false_iff_not, beq_iff_eq, bne_iff_ne, bne_eq_false_iff_eq, beq_eq_false_iff_ne, Bool.not_eq_true, Bool.not_eq_false, Bool.not_eq_true', Bool.not_eq_false', ne_eq] at h4
          refine RW.gop rfl rfl rfl rfl rfl rfl (eff_fieldAddr rfl rfl tf38_1 (by decide) rfl rfl rfl (Nat.le_of_ble_eq_true rfl)) ?_
          refine RW.gop rfl rfl rfl rfl rfl rfl (eff_load (y := .t _) rfl rfl ti3 rfl (.one rfl rfl rfl rfl)) ?_
          refine RW.gop rfl rfl rfl rfl rfl rfl (eff_fieldAddr rfl rfl tf38_1 (by decide) rfl rfl rfl (Nat.le_of_ble_eq_true rfl)) ?_
          refine RW.gop rfl rfl rfl rfl rfl rfl (eff_load (y := .t _) rfl rfl ti3 rfl (.one rfl rfl rfl rfl)) ?_
          refine RW.gop rfl rfl rfl rfl rfl rfl (eff_iop rfl rfl rfl rfl rfl) ?_
          refine RW.op rfl rfl (eff_pick (v := .t _) rfl rfl rfl rfl) ?_
          refine RW.op rfl rfl (eff_move (v := .t _) rfl rfl rfl) ?_
          refine RW.split 44 rfl (fun h5 => ?_) (fun h5 => ?_)
          · try simp only [decide_eq_true_eq, decide_eq_false_iff_not, beq_iff_eq, bne_iff_ne, bne_eq_false_iff_eq, beq_eq_false_iff_ne, Bool.not_eq_true, Bool.not_eq_false, Bool.not_eq_true', Bool.not_eq_false', ne_eq] at h5
            refine RW.gop rfl rfl rfl rfl rfl rfl (eff_fieldAddr rfl rfl tf38_2 (by decide) rfl rfl rfl (Nat.le_of_ble_eq_true rfl)) ?_
            refine RW.gop rfl rfl rfl rfl rfl rfl (eff_load (y := .t _) rfl rfl ti3 rfl (.one rfl rfl rfl rfl)) ?_
            refine RW.gop rfl rfl rfl rfl rfl rfl (eff_fieldAddr rfl rfl tf38_2 (by decide) rfl rfl rfl (Nat.le_of_ble_eq_true rfl)) ?_
            refine RW.gop rfl rfl rfl rfl rfl rfl (eff_load (y := .t _) rfl rfl ti3 rfl (.one rfl rfl rfl rfl)) ?_
            refine RW.gop rfl rfl rfl rfl rfl rfl (eff_iop rfl rfl rfl rfl rfl) ?_
            refine RW.op rfl rfl (eff_pick (v := .t _) rfl rfl rfl rfl) ?_
            refine RW.op rfl rfl (eff_move (v := .t _) rfl rfl rfl) ?_
            refine RW.split 51 rfl (fun h6 => ?_) (fun h6 => ?_)
            · try simp only [decide_eq_true_eq, decide_eq_false_iff_not, beq_iff_eq, bne_iff_ne, bne_eq_false_iff_eq, beq_eq_false_iff_ne, Bool.not_eq_true, Bool.not_eq_false, Bool.not_eq_true', Bool.not_eq_false', ne_eq] at h6
              refine RW.gop rfl rfl rfl rfl rfl rfl (eff_fieldAddr rfl rfl tf38_3 (by decide) rfl rfl rfl (Nat.le_of_ble_eq_true rfl)) ?_
              refine RW.gop rfl rfl rfl rfl rfl rfl (eff_load (y := .t _) rfl rfl ti36 rfl (.one rfl rfl rfl rfl)) ?_
              refine RW.gop rfl rfl rfl rfl rfl rfl (eff_fieldAddr rfl rfl tf38_3 (by decide) rfl rfl rfl (Nat.le_of_ble_eq_true rfl)) ?_
              refine RW.gop rfl rfl rfl rfl rfl rfl (eff_load (y := .t _) rfl rfl ti36 rfl (.one rfl rfl rfl rfl)) ?_
              refine RW.gop rfl rfl rfl rfl rfl rfl (eff_iop rfl rfl rfl rfl rfl) ?_
              refine RW.op rfl rfl (eff_pick (v := .t _) rfl rfl rfl rfl) ?_
              refine RW.op rfl rfl (eff_move (v := .t _) rfl rfl rfl) ?_
              refine RW.split 58 rfl (fun h7 => ?_) (fun h7 => ?_)
              · try simp only [decide_eq_true_eq, decide_eq_false_iff_not, beq_iff_eq, bne_iff_ne, bne_eq_false_iff_eq, beq_eq_false_iff_ne, Bool.not_eq_true, Bool.not_eq_false, Bool.not_eq_true', Bool.not_eq_false', ne_eq] at h7
                refine RW.gop rfl rfl rfl rfl rfl rfl (eff_fieldAddr rfl rfl tf38_4 (by decide) rfl rfl rfl (Nat.le_of_ble_eq_true rfl)) ?_
                refine RW.gop rfl rfl rfl rfl rfl rfl (eff_load (y := .t _) rfl rfl ti22 rfl (.one rfl rfl rfl rfl)) ?_
                refine RW.gop rfl rfl rfl rfl rfl rfl (eff_convBytes rfl rfl te22 tu5 ts9 rfl) ?_
                refine RW.gop rfl rfl rfl rfl rfl rfl (eff_fieldAddr rfl rfl tf38_4 (by decide) rfl rfl rfl (Nat.le_of_ble_eq_true rfl)) ?_
                refine RW.gop rfl rfl rfl rfl rfl rfl (eff_load (y := .t _) rfl rfl ti22 rfl (.one rfl rfl rfl rfl)) ?_
                refine RW.gop rfl rfl rfl rfl rfl rfl (eff_convBytes rfl rfl te22 tu5 ts9 rfl) ?_
                refine RW.gop rfl rfl rfl rfl rfl rfl (eff_strEq rfl rfl (.inl rfl) rfl rfl rfl) ?_
                refine RW.op rfl rfl (eff_pick (v := .t _) rfl rfl rfl rfl) ?_
                refine RW.op rfl rfl (eff_assign (v := .t _) rfl rfl rfl) ?_
                refine RW.nil ?_
                refine awp_ret ?_
                refine ⟨Or.inr rfl, [_], ⟨.tmp (.t _), trivial⟩, ?_⟩
                first
                  | (rw [show sameB a b = false from decide_eq_false (fun e => by have e2 := e; simp_all)]; exact .refl _)
                  | (rw [show sameB a b = decide (a.data = b.data) from decide_eq_decide.2 (by simp_all), ← bstr_beq ha hb]; exact .refl _)
              · try simp only [decide_eq_true_eq, decide_eq_false_iff_not, beq_iff_eq, bne_iff_ne, bne_eq_false_iff_eq, beq_eq_false_iff_ne, Bool.not_eq_true, Bool.not_eq_false, Bool.not_eq_true', Bool.not_eq_false', ne_eq] at h7
                refine RW.gskip rfl rfl rfl rfl rfl (by decide) ?_
                refine RW.gskip rfl rfl rfl rfl rfl (by decide) ?_
                refine RW.gskip rfl rfl rfl rfl rfl (by decide) ?_
                refine RW.gskip rfl rfl rfl rfl rfl (by decide) ?_
                refine RW.gskip rfl rfl rfl rfl rfl (by decide) ?_
                refine RW.gskip rfl rfl rfl rfl rfl (by decide) ?_
                refine RW.gskip rfl rfl rfl rfl rfl (by decide) ?_
                refine RW.op rfl rfl (eff_pick (v := .t _) rfl rfl rfl rfl) ?_
                refine RW.op rfl rfl (eff_assign (v := .t _) rfl rfl rfl) ?_
                refine RW.nil ?_
                refine awp_ret ?_
                refine ⟨Or.inr rfl, [_], ⟨.tmp (.t _), trivial⟩, ?_⟩
                first
                  | (rw [show sameB a b = false from decide_eq_false (fun e => by have e2 := e; simp_all)]; exact .refl _)
                  | (rw [show sameB a b = decide (a.data = b.data) from decide_eq_decide.2 (by simp_all), ← bstr_beq ha hb]; exact .refl _)
            · try simp only [decide_eq_true_eq, decide_eq_false_iff_not, beq_iff_eq, bne_iff_ne, bne_eq_false_iff_eq, beq_eq_false_iff_ne, Bool.not_eq_true, Bool.not_eq_false, Bool.not_eq_true', Bool.not_eq_false', ne_eq] at h6
              refine RW.gskip rfl rfl rfl rfl rfl (by decide) ?_
              refine RW.gskip rfl rfl rfl rfl rfl (by decide) ?_
              refine RW.gskip rfl rfl rfl rfl rfl (by decide) ?_
              refine RW.gskip rfl rfl rfl rfl rfl (by decide) ?_
              refine RW.gskip rfl rfl rfl rfl rfl (by decide) ?_
              refine RW.op rfl rfl (eff_pick (v := .t _) rfl rfl rfl rfl) ?_
              refine RW.op rfl rfl (eff_move (v := .t _) rfl rfl rfl) ?_
              refine RW.gskip rfl rfl rfl rfl rfl (by decide) ?_
              refine RW.gskip rfl rfl rfl rfl rfl (by decide) ?_
              refine RW.gskip rfl rfl rfl rfl rfl (by decide) ?_
              refine RW.gskip rfl rfl rfl rfl rfl (by decide) ?_
              refine RW.gskip rfl rfl rfl rfl rfl (by decide) ?_
              refine RW.gskip rfl rfl rfl rfl rfl (by decide) ?_
              refine RW.gskip rfl rfl rfl rfl rfl (by decide) ?_
              refine RW.op rfl rfl (eff_pick (v := .t _) rfl rfl rfl rfl) ?_
              refine RW.op rfl rfl (eff_assign (v := .t _) rfl rfl rfl) ?_
              refine RW.nil ?_
              refine awp_ret ?_
              refine ⟨Or.inr rfl, [_], ⟨.tmp (.t _), trivial⟩, ?_⟩
              first
                | (rw [show sameB a b = false from decide_eq_false (fun e => by have e2 := e; simp_all)]; exact .refl _)
                | (rw [show sameB a b = decide (a.data = b.data) from decide_eq_decide.2 (by simp_all), ← bstr_beq ha hb]; exact .refl _)
          · try simp only [decide_eq_true_eq, decide_eq_false_iff_not, beq_iff_eq, bne_iff_ne, bne_eq_false_iff_eq, beq_eq_false_iff_ne, Bool.not_eq_true, Bool.not_eq_false, Bool.not_eq_true', Bool.not_eq_false', ne_eq] at h5
            refine RW.gskip rfl rfl rfl rfl rfl (by decide) ?_
            refine RW.gskip rfl rfl rfl rfl rfl (by decide) ?_
            refine RW.gskip rfl rfl rfl rfl rfl (by decide) ?_
            refine RW.gskip rfl rfl rfl rfl rfl (by decide) ?_
            refine RW.gskip rfl rfl rfl rfl rfl (by decide) ?_
            refine RW.op rfl rfl (eff_pick (v := .t _) rfl rfl rfl rfl) ?_
            refine RW.op rfl rfl (eff_move (v := .t _) rfl rfl rfl) ?_
            refine RW.gskip rfl rfl rfl rfl rfl (by decide) ?_
            refine RW.gskip rfl rfl rfl rfl rfl (by decide) ?_
            refine RW.gskip rfl rfl rfl rfl rfl (by decide) ?_
            refine RW.gskip rfl rfl rfl rfl rfl (by decide) ?_
            refine RW.gskip rfl rfl rfl rfl rfl (by decide) ?_
            refine RW.op rfl rfl (eff_pick (v := .t _) rfl rfl rfl rfl) ?_
            refine RW.op rfl rfl (eff_move (v := .t _) rfl rfl rfl) ?_
            refine RW.gskip rfl rfl rfl rfl rfl (by decide) ?_
            refine RW.gskip rfl rfl rfl rfl rfl (by decide) ?_
            refine RW.gskip rfl rfl rfl rfl rfl (by decide) ?_
            refine RW.gskip rfl rfl rfl rfl rfl (by decide) ?_
            refine RW.gskip rfl rfl rfl rfl rfl (by decide) ?_
            refine RW.gskip rfl rfl rfl rfl rfl (by decide) ?_
            refine RW.gskip rfl rfl rfl rfl rfl (by decide) ?_
            refine RW.op rfl rfl (eff_pick (v := .t _) rfl rfl rfl rfl) ?_
            refine RW.op rfl rfl (eff_assign (v := .t _) rfl rfl rfl) ?_
            refine RW.nil ?_
            refine awp_ret ?_
            refine ⟨Or.inr rfl, [_], ⟨.tmp (.t _), trivial⟩, ?_⟩
            first
              | (rw [show sameB a b = false from decide_eq_false (fun e => by have e2 := e; simp_all)]; exact .refl _)
              | (rw [show sameB a b = decide (a.data = b.data) from decide_eq_decide.2 (by simp_all), ← bstr_beq ha hb]; exact .refl _)
        · try simp only [decide_eq_true_eq, decide_eq_false_iff_not, beq_iff_eq, bne_iff_ne, bne_eq_false_iff_eq, beq_eq_false_iff_ne, Bool.not_eq_true, Bool.not_eq_false, Bool.not_eq_true', Bool.not_eq_false', ne_eq] at h4
          refine RW.gskip rfl rfl rfl rfl rfl (by decide) ?_
          refine RW.gskip rfl rfl rfl rfl rfl (by decide) ?_
          refine RW.gskip rfl rfl rfl rfl rfl (by decide) ?_
          refine RW.gskip rfl rfl rfl rfl rfl (by decide) ?_
          refine RW.gskip rfl rfl rfl rfl rfl (by decide) ?_
          refine RW.op rfl rfl (eff_pick (v := .t _) rfl rfl rfl rfl) ?_
          refine RW.op rfl rfl (eff_move (v := .t _) rfl rfl rfl) ?_
          refine RW.gskip rfl rfl rfl rfl rfl (by decide) ?_
          refine RW.gskip rfl rfl rfl rfl rfl (by decide) ?_
          refine RW.gskip rfl rfl rfl rfl rfl (by decide) ?_
          refine RW.gskip rfl rfl rfl rfl rfl (by decide) ?_
          refine RW.gskip rfl rfl rfl rfl rfl (by decide) ?_
          refine RW.op rfl rfl (eff_pick (v := .t _) rfl rfl rfl rfl) ?_
          refine RW.op rfl rfl (eff_move (v := .t _) rfl rfl rfl) ?_
          refine RW.gskip rfl rfl rfl rfl rfl (by decide) ?_
          refine RW.gskip rfl rfl rfl rfl rfl (by decide) ?_
          refine RW.gskip rfl rfl rfl rfl rfl (by decide) ?_
          refine RW.gskip rfl rfl rfl rfl rfl (by decide) ?_
          refine RW.gskip rfl rfl rfl rfl rfl (by decide) ?_
          refine RW.op rfl rfl (eff_pick (v := .t _) rfl rfl rfl rfl) ?_
          refine RW.op rfl rfl (eff_move (v := .t _) rfl rfl rfl) ?_
          refine RW.gskip rfl rfl rfl rfl rfl (by decide) ?_
          refine RW.gskip rfl rfl rfl rfl rfl (by decide) ?_
          refine RW.gskip rfl rfl rfl rfl rfl (by decide) ?_
          refine RW.gskip rfl rfl rfl rfl rfl (by decide) ?_
          refine RW.gskip rfl rfl rfl rfl rfl (by decide) ?_
          refine RW.gskip rfl rfl rfl rfl rfl (by decide) ?_
          refine RW.gskip rfl rfl rfl rfl rfl (by decide) ?_
          refine RW.op rfl rfl (eff_pick (v := .t _) rfl rfl rfl rfl) ?_
          refine RW.op rfl rfl (eff_assign (v := .t _) rfl rfl rfl) ?_
          refine RW.nil ?_
          refine awp_ret ?_
          refine ⟨Or.inr rfl, [_], ⟨.tmp (.t _), trivial⟩, ?_⟩
          first
            | (rw [show sameB a b = false from decide_eq_false (fun e => by have e2 := e; simp_all)]; exact .refl _)
            | (rw [show sameB a b = decide (a.data = b.data) from decide_eq_decide.2 (by simp_all), ← bstr_beq ha hb]; exact .refl _)
      · try simp only [decide_eq_true_eq, decide_eq_false_iff_not, beq_iff_eq, bne_iff_ne, bne_eq_false_iff_eq, beq_eq_false_iff_ne, Bool.not_eq_true, Bool.not_eq_false, Bool.not_eq_true', Bool.not_eq_false', ne_eq] at h3
        refine RW.gskip rfl rfl rfl rfl rfl (by decide) ?_
        refine RW.gskip rfl rfl rfl rfl rfl (by decide) ?_
        refine RW.gskip rfl rfl rfl rfl rfl (by decide) ?_
        refine RW.gskip rfl rfl rfl rfl rfl (by decide) ?_
        refine RW.gskip rfl rfl rfl rfl rfl (by decide) ?_
        refine RW.op rfl rfl (eff_pick (v := .t _) rfl rfl rfl rfl) ?_
        refine RW.op rfl rfl (eff_move (v := .t _) rfl rfl rfl) ?_
        refine RW.gskip rfl rfl rfl rfl rfl (by decide) ?_
        refine RW.gskip rfl rfl rfl rfl rfl (by decide) ?_
        refine RW.gskip rfl rfl rfl rfl rfl (by decide) ?_
        refine RW.gskip rfl rfl rfl rfl rfl (by decide) ?_
        refine RW.gskip rfl rfl rfl rfl rfl (by decide) ?_
        refine RW.op rfl rfl (eff_pick (v := .t _) rfl rfl rfl rfl) ?_
        refine RW.op rfl rfl (eff_move (v := .t _) rfl rfl rfl) ?_
        refine RW.gskip rfl rfl rfl rfl rfl (by decide) ?_
        refine RW.gskip rfl rfl rfl rfl rfl (by decide) ?_
        refine RW.gskip rfl rfl rfl rfl rfl (by decide) ?_
        refine RW.gskip rfl rfl rfl rfl rfl (by decide) ?_
        refine RW.gskip rfl rfl rfl rfl rfl (by decide) ?_
        refine RW.op rfl rfl (eff_pick (v := .t _) rfl rfl rfl rfl) ?_
        refine RW.op rfl rfl (eff_move (v := .t _) rfl rfl rfl) ?_
        refine RW.gskip rfl rfl rfl rfl rfl (by decide) ?_
        refine RW.gskip rfl rfl rfl rfl rfl (by decide) ?_
        refine RW.gskip rfl rfl rfl rfl rfl (by decide) ?_
        refine RW.gskip rfl rfl rfl rfl rfl (by decide) ?_
        refine RW.gskip rfl rfl rfl rfl rfl (by decide) ?_
        refine RW.op rfl rfl (eff_pick (v := .t _) rfl rfl rfl rfl) ?_
        refine RW.op rfl rfl (eff_move (v := .t _) rfl rfl rfl) ?_
        refine RW.gskip rfl rfl rfl rfl rfl (by decide) ?_
        refine RW.gskip rfl rfl rfl rfl rfl (by decide) ?_
        refine RW.gskip rfl rfl rfl rfl rfl (by decide) ?_
        refine RW.gskip rfl rfl rfl rfl rfl (by decide) ?_
        refine RW.gskip rfl rfl rfl rfl rfl (by decide) ?_
        refine RW.gskip rfl rfl rfl rfl rfl (by decide) ?_
        refine RW.gskip rfl rfl rfl rfl rfl (by decide) ?_
        refine RW.op rfl rfl (eff_pick (v := .t _) rfl rfl rfl rfl) ?_
        refine RW.op rfl rfl (eff_assign (v := .t _) rfl rfl rfl) ?_
        refine RW.nil ?_
        refine awp_ret ?_
        refine ⟨Or.inr rfl, [_], ⟨.tmp (.t _), trivial⟩, ?_⟩
        first
          | (rw [show sameB a b = false from decide_eq_false (fun e => by have e2 := e; simp_all)]; exact .refl _)
          | (rw [show sameB a b = decide (a.data = b.data) from decide_eq_decide.2 (by simp_all), ← bstr_beq ha hb]; exact .refl _)
    · try simp only [decide_eq_true_eq, decide_eq_false_iff_not, beq_iff_eq, bne_iff_ne, bne_eq_false_iff_eq, beq_eq_false_iff_ne, Bool.not_eq_true, Bool.not_eq_false, Bool.not_eq_true', Bool.not_eq_false', ne_eq] at h2
      refine RW.gskip rfl rfl rfl rfl rfl (by decide) ?_
      refine RW.gskip rfl rfl rfl rfl rfl (by decide) ?_
      refine RW.gskip rfl rfl rfl rfl rfl (by decide) ?_
      refine RW.gskip rfl rfl rfl rfl rfl (by decide) ?_
      refine RW.gskip rfl rfl rfl rfl rfl (by decide) ?_
      refine RW.op rfl rfl (eff_pick (v := .t _) rfl rfl rfl rfl) ?_
      refine RW.op rfl rfl (eff_move (v := .t _) rfl rfl rfl) ?_
      refine RW.gskip rfl rfl rfl rfl rfl (by decide) ?_
      refine RW.gskip rfl rfl rfl rfl rfl (by decide) ?_
      refine RW.gskip rfl rfl rfl rfl rfl (by decide) ?_
      refine RW.gskip rfl rfl rfl rfl rfl (by decide) ?_
      refine RW.gskip rfl rfl rfl rfl rfl (by decide) ?_
      refine RW.op rfl rfl (eff_pick (v := .t _) rfl rfl rfl rfl) ?_
      refine RW.op rfl rfl (eff_move (v := .t _) rfl rfl rfl) ?_
      refine RW.gskip rfl rfl rfl rfl rfl (by decide) ?_
      refine RW.gskip rfl rfl rfl rfl rfl (by decide) ?_
      refine RW.gskip rfl rfl rfl rfl rfl (by decide) ?_
      refine RW.gskip rfl rfl rfl rfl rfl (by decide) ?_
      refine RW.gskip rfl rfl rfl rfl rfl (by decide) ?_
      refine RW.op rfl rfl (eff_pick (v := .t _) rfl rfl rfl rfl) ?_
      refine RW.op rfl rfl (eff_move (v := .t _) rfl rfl rfl) ?_
      refine RW.gskip rfl rfl rfl rfl rfl (by decide) ?_
      refine RW.gskip rfl rfl rfl rfl rfl (by decide) ?_
      refine RW.gskip rfl rfl rfl rfl rfl (by decide) ?_
      refine RW.gskip rfl rfl rfl rfl rfl (by decide) ?_
      refine RW.gskip rfl rfl rfl rfl rfl (by decide) ?_
      refine RW.op rfl rfl (eff_pick (v := .t _) rfl rfl rfl rfl) ?_
      refine RW.op rfl rfl (eff_move (v := .t _) rfl rfl rfl) ?_
      refine RW.gskip rfl rfl rfl rfl rfl (by decide) ?_
      refine RW.gskip rfl rfl rfl rfl rfl (by decide) ?_
      refine RW.gskip rfl rfl rfl rfl rfl (by decide) ?_
      refine RW.gskip rfl rfl rfl rfl rfl (by decide) ?_
      refine RW.gskip rfl rfl rfl rfl rfl (by decide) ?_
      refine RW.op rfl rfl (eff_pick (v := .t _) rfl rfl rfl rfl) ?_
      refine RW.op rfl rfl (eff_move (v := .t _) rfl rfl rfl) ?_
      refine RW.gskip rfl rfl rfl rfl rfl (by decide) ?_
      refine RW.gskip rfl rfl rfl rfl rfl (by decide) ?_
      refine RW.gskip rfl rfl rfl rfl rfl (by decide) ?_
      refine RW.gskip rfl rfl rfl rfl rfl (by decide) ?_
      refine RW.gskip rfl rfl rfl rfl rfl (by decide) ?_
      refine RW.gskip rfl rfl rfl rfl rfl (by decide) ?_
      refine RW.gskip rfl rfl rfl rfl rfl (by decide) ?_
      refine RW.op rfl rfl (eff_pick (v := .t _) rfl rfl rfl rfl) ?_
      refine RW.op rfl rfl (eff_assign (v := .t _) rfl rfl rfl) ?_
      refine RW.nil ?_
      refine awp_ret ?_
      refine ⟨Or.inr rfl, [_], ⟨.tmp (.t _), trivial⟩, ?_⟩
      first
        | (rw [show sameB a b = false from decide_eq_false (fun e => by have e2 := e; simp_all)]; exact .refl _)
        | (rw [show sameB a b = decide (a.data = b.data) from decide_eq_decide.2 (by simp_all), ← bstr_beq ha hb]; exact .refl _)
  · try simp only [decide_eq_true_eq, decide_eq_false_iff_not, beq_iff_eq, bne_iff_ne, bne_eq_false_iff_eq, beq_eq_false_iff_ne, Bool.not_eq_true, Bool.not_eq_false, Bool.not_eq_true', Bool.not_eq_false', ne_eq] at h1
    refine RW.gskip rfl rfl rfl rfl rfl (by decide) ?_
    refine RW.gskip rfl rfl rfl rfl rfl (by decide) ?_
    refine RW.gskip rfl rfl rfl rfl rfl (by decide) ?_
    refine RW.gskip rfl rfl rfl rfl rfl (by decide) ?_
    refine RW.gskip rfl rfl rfl rfl rfl (by decide) ?_
    refine RW.op rfl rfl (eff_pick (v := .t _) rfl rfl rfl rfl) ?_
    refine RW.op rfl rfl (eff_move (v := .t _) rfl rfl rfl) ?_
    refine RW.gskip rfl rfl rfl rfl rfl (by decide) ?_
    refine RW.gskip rfl rfl rfl rfl rfl (by decide) ?_
    refine RW.gskip rfl rfl rfl rfl rfl (by decide) ?_
    refine RW.gskip rfl rfl rfl rfl rfl (by decide) ?_
    refine RW.gskip rfl rfl rfl rfl rfl (by decide) ?_
    refine RW.op rfl rfl (eff_pick (v := .t _) rfl rfl rfl rfl) ?_
    refine RW.op rfl rfl (eff_move (v := .t _) rfl rfl rfl) ?_
    refine RW.gskip rfl rfl rfl rfl rfl (by decide) ?_
    refine RW.gskip rfl rfl rfl rfl rfl (by decide) ?_
    refine RW.gskip rfl rfl rfl rfl rfl (by decide) ?_
    refine RW.gskip rfl rfl rfl rfl rfl (by decide) ?_
    refine RW.gskip rfl rfl rfl rfl rfl (by decide) ?_
    refine RW.op rfl rfl (eff_pick (v := .t _) rfl rfl rfl rfl) ?_
    refine RW.op rfl rfl (eff_move (v := .t _) rfl rfl rfl) ?_
    refine RW.gskip rfl rfl rfl rfl rfl (by decide) ?_
    refine RW.gskip rfl rfl rfl rfl rfl (by decide) ?_
    refine RW.gskip rfl rfl rfl rfl rfl (by decide) ?_
    refine RW.gskip rfl rfl rfl rfl rfl (by decide) ?_
    refine RW.gskip rfl rfl rfl rfl rfl (by decide) ?_
    refine RW.op rfl rfl (eff_pick (v := .t _) rfl rfl rfl rfl) ?_
    refine RW.op rfl rfl (eff_move (v := .t _) rfl rfl rfl) ?_
    refine RW.gskip rfl rfl rfl rfl rfl (by decide) ?_
    refine RW.gskip rfl rfl rfl rfl rfl (by decide) ?_
    refine RW.gskip rfl rfl rfl rfl rfl (by decide) ?_
    refine RW.gskip rfl rfl rfl rfl rfl (by decide) ?_
    refine RW.gskip rfl rfl rfl rfl rfl (by decide) ?_
    refine RW.op rfl rfl (eff_pick (v := .t _) rfl rfl rfl rfl) ?_
    refine RW.op rfl rfl (eff_move (v := .t _) rfl rfl rfl) ?_
    refine RW.gskip rfl rfl rfl rfl rfl (by decide) ?_
    refine RW.gskip rfl rfl rfl rfl rfl (by decide) ?_
    refine RW.gskip rfl rfl rfl rfl rfl (by decide) ?_
    refine RW.gskip rfl rfl rfl rfl rfl (by decide) ?_
    refine RW.gskip rfl rfl rfl rfl rfl (by decide) ?_
    refine RW.op rfl rfl (eff_pick (v := .t _) rfl rfl rfl rfl) ?_
    refine RW.op rfl rfl (eff_move (v := .t _) rfl rfl rfl) ?_
    refine RW.gskip rfl rfl rfl rfl rfl (by decide) ?_
    refine RW.gskip rfl rfl rfl rfl rfl (by decide) ?_
    refine RW.gskip rfl rfl rfl rfl rfl (by decide) ?_
    refine RW.gskip rfl rfl rfl rfl rfl (by decide) ?_
    refine RW.gskip rfl rfl rfl rfl rfl (by decide) ?_
    refine RW.gskip rfl rfl rfl rfl rfl (by decide) ?_
    refine RW.gskip rfl rfl rfl rfl rfl (by decide) ?_
    refine RW.op rfl rfl (eff_pick (v := .t _) rfl rfl rfl rfl) ?_
    refine RW.op rfl rfl (eff_assign (v := .t _) rfl rfl rfl) ?_
    refine RW.nil ?_
    refine awp_ret ?_
    refine ⟨Or.inr rfl, [_], ⟨.tmp (.t _), trivial⟩, ?_⟩
    first
      | (rw [show sameB a b = false from decide_eq_false (fun e => by have e2 := e; simp_all)]; exact .refl _)
      | (rw [show sameB a b = decide (a.data = b.data) from decide_eq_decide.2 (by simp_all), ← bstr_beq ha hb]; exact .refl _)

end Go.Tv.D27

end
section
open Go Go.Tv Go.Proofs
namespace Go.Tv.D27
set_option maxRecDepth 20000
set_option linter.unusedSimpArgs false
set_option linter.unusedVariables false
end Go.Tv.D27

end
section
open Go Go.Tv Go.Proofs
namespace Go.Tv.D27
set_option maxRecDepth 20000
set_option linter.unusedSimpArgs false
set_option linter.unusedVariables false
end Go.Tv.D27

end
section
open Go Go.Tv Go.Proofs
namespace Go.Tv.D27
set_option maxRecDepth 20000
set_option linter.unusedSimpArgs false
set_option linter.unusedVariables false
end Go.Tv.D27

end
section
open Go Go.Tv Go.Proofs
namespace Go.Tv.D27
set_option maxRecDepth 20000
set_option linter.unusedSimpArgs false
set_option linter.unusedVariables false
end Go.Tv.D27

end
section
open Go Go.Tv Go.Proofs
namespace Go.Tv.D27
set_option maxRecDepth 20000
set_option linter.unusedSimpArgs false
set_option linter.unusedVariables false
theorem same_ret (A B : Store) (hA : SOK A) (hBA : ∀ b, b ∈ A.bundles → Bytes b.data) (hBB : ∀ b, b ∈ B.bundles → Bytes b.data) : Ret Tryd.prog 20 [encS A, encS B] (.bool (sameS A B)) := by
  refine ret_of_awp Tryd.func20 rfl (Nat.le_of_ble_eq_true rfl) ?_
  refine awp_seq ?_
  refine awp_rw rfl ?_
  refine RW.new rfl rfl (eff_boxK (v := .t _) (k := 4) (id := 2) rfl rfl rfl rfl rfl rfl) ?_
  refine RW.new rfl rfl (eff_boxK (v := .t _) (k := 4) (id := 3) rfl rfl rfl rfl rfl rfl) ?_
  refine RW.op rfl rfl (eff_assign (v := .t _) rfl rfl rfl) ?_
  refine RW.nil ?_
  refine awp_seq ?_
  refine awp_seq ?_
  refine awp_rw rfl ?_
  refine RW.op rfl rfl (eff_fieldAddr rfl rfl tf32_0 (by decide) rfl rfl rfl (Nat.le_of_ble_eq_true rfl)) ?_
  refine RW.op rfl rfl (eff_load (y := .t _) rfl rfl ti3 rfl (.one rfl rfl rfl rfl)) ?_
  refine RW.op rfl rfl (eff_fieldAddr rfl rfl tf32_0 (by decide) rfl rfl rfl (Nat.le_of_ble_eq_true rfl)) ?_
  refine RW.op rfl rfl (eff_load (y := .t _) rfl rfl ti3 rfl (.one rfl rfl rfl rfl)) ?_
  refine RW.op rfl rfl (eff_iop rfl rfl rfl rfl rfl) ?_
  refine RW.op rfl rfl (eff_move (v := .t _) rfl rfl rfl) ?_
  refine RW.split 11 rfl (fun h1 => ?_) (fun h1 => ?_)
  · try simp only [decide_eq_true_eq, decide_eq_false_iff_not, beq_iff_eq, bne_iff_ne, bne_eq_false_iff_eq, beq_eq_false_iff_ne, Bool.not_eq_true, Bool.not_eq_false, Bool.not_eq_true', Bool.not_eq_false', ne_eq] at h1
    refine RW.gskip rfl rfl rfl rfl rfl (by decide) ?_
    refine RW.gskip rfl rfl rfl rfl rfl (by decide) ?_
    refine RW.gskip rfl rfl rfl rfl rfl (by decide) ?_
    refine RW.gskip rfl rfl rfl rfl rfl (by decide) ?_
    refine RW.gskip rfl rfl rfl rfl rfl (by decide) ?_
    refine RW.gskip rfl rfl rfl rfl rfl (by decide) ?_
    refine RW.gskip rfl rfl rfl rfl rfl (by decide) ?_
    refine RW.op rfl rfl (eff_pick (v := .t _) rfl rfl rfl rfl) ?_
    refine RW.op rfl rfl (eff_move (v := .t _) rfl rfl rfl) ?_
    refine RW.gskip rfl rfl rfl rfl rfl (by decide) ?_
    refine RW.gskip rfl rfl rfl rfl rfl (by decide) ?_
    refine RW.gskip rfl rfl rfl rfl rfl (by decide) ?_
    refine RW.gskip rfl rfl rfl rfl rfl (by decide) ?_
    refine RW.gskip rfl rfl rfl rfl rfl (by decide) ?_
    refine RW.gskip rfl rfl rfl rfl rfl (by decide) ?_
    refine RW.op rfl rfl (eff_pick (v := .t _) rfl rfl rfl rfl) ?_
    refine RW.op rfl rfl (eff_move (v := .t _) rfl rfl rfl) ?_
    refine RW.gskip rfl rfl rfl rfl rfl (by decide) ?_
    refine RW.gskip rfl rfl rfl rfl rfl (by decide) ?_
    refine RW.gskip rfl rfl rfl rfl rfl (by decide) ?_
    refine RW.gskip rfl rfl rfl rfl rfl (by decide) ?_
    refine RW.gskip rfl rfl rfl rfl rfl (by decide) ?_
    refine RW.gskip rfl rfl rfl rfl rfl (by decide) ?_
    refine RW.op rfl rfl (eff_pick (v := .t _) rfl rfl rfl rfl) ?_
    refine RW.nil ?_
    refine awp_cond rfl (fun _ => ?_) (fun h => nomatch h)
    refine awp_seq ?_
    refine awp_rw rfl ?_
    refine RW.op rfl rfl (eff_assign (v := .t _) rfl rfl rfl) ?_
    refine RW.nil ?_
    refine awp_ret ?_
    rw [show sameS A B = false from decide_eq_false (fun e => by obtain ⟨e1, e2, e3, e4⟩ := e; exact h1 e1)]
    exact ⟨Or.inr rfl, [_], ⟨.tmp (.t _), trivial⟩, .refl _⟩
  · try simp only [decide_eq_true_eq, decide_eq_false_iff_not, beq_iff_eq, bne_iff_ne, bne_eq_false_iff_eq, beq_eq_false_iff_ne, Bool.not_eq_true, Bool.not_eq_false, Bool.not_eq_true', Bool.not_eq_false', ne_eq] at h1
    refine RW.gop rfl rfl rfl rfl rfl rfl (eff_fieldAddr rfl rfl tf32_1 (by decide) rfl rfl rfl (Nat.le_of_ble_eq_true rfl)) ?_
    refine RW.gop rfl rfl rfl rfl rfl rfl (eff_load (y := .t _) rfl rfl ti29 rfl (.one rfl rfl rfl rfl)) ?_
    refine RW.gop rfl rfl rfl rfl rfl rfl (eff_lenM rfl rfl te29 rfl) ?_
    refine RW.gop rfl rfl rfl rfl rfl rfl (eff_fieldAddr rfl rfl tf32_1 (by decide) rfl rfl rfl (Nat.le_of_ble_eq_true rfl)) ?_
    refine RW.gop rfl rfl rfl rfl rfl rfl (eff_load (y := .t _) rfl rfl ti29 rfl (.one rfl rfl rfl rfl)) ?_
    refine RW.gop rfl rfl rfl rfl rfl rfl (eff_lenM rfl rfl te29 rfl) ?_
    refine RW.gop rfl rfl rfl rfl rfl rfl (eff_iop rfl rfl rfl rfl rfl) ?_
    refine RW.op rfl rfl (eff_pick (v := .t _) rfl rfl rfl rfl) ?_
    refine RW.op rfl rfl (eff_move (v := .t _) rfl rfl rfl) ?_
    refine RW.split 20 rfl (fun h2 => ?_) (fun h2 => ?_)
    · try simp only [decide_eq_true_eq, decide_eq_false_iff_not, beq_iff_eq, bne_iff_ne, bne_eq_false_iff_eq, beq_eq_false_iff_ne, Bool.not_eq_true, Bool.not_eq_false, Bool.not_eq_true', Bool.not_eq_false', ne_eq] at h2
      refine RW.gskip rfl rfl rfl rfl rfl (by decide) ?_
      refine RW.gskip rfl rfl rfl rfl rfl (by decide) ?_
      refine RW.gskip rfl rfl rfl rfl rfl (by decide) ?_
      refine RW.gskip rfl rfl rfl rfl rfl (by decide) ?_
      refine RW.gskip rfl rfl rfl rfl rfl (by decide) ?_
      refine RW.gskip rfl rfl rfl rfl rfl (by decide) ?_
      refine RW.op rfl rfl (eff_pick (v := .t _) rfl rfl rfl rfl) ?_
      refine RW.op rfl rfl (eff_move (v := .t _) rfl rfl rfl) ?_
      refine RW.gskip rfl rfl rfl rfl rfl (by decide) ?_
      refine RW.gskip rfl rfl rfl rfl rfl (by decide) ?_
      refine RW.gskip rfl rfl rfl rfl rfl (by decide) ?_
      refine RW.gskip rfl rfl rfl rfl rfl (by decide) ?_
      refine RW.gskip rfl rfl rfl rfl rfl (by decide) ?_
      refine RW.gskip rfl rfl rfl rfl rfl (by decide) ?_
      refine RW.op rfl rfl (eff_pick (v := .t _) rfl rfl rfl rfl) ?_
      refine RW.nil ?_
      refine awp_cond rfl (fun _ => ?_) (fun h => nomatch h)
      refine awp_seq ?_
      refine awp_rw rfl ?_
      refine RW.op rfl rfl (eff_assign (v := .t _) rfl rfl rfl) ?_
      refine RW.nil ?_
      refine awp_ret ?_
      rw [show sameS A B = false from decide_eq_false (fun e => by obtain ⟨e1, e2, e3, e4⟩ := e; exact h2 (by rw [e2]))]
      exact ⟨Or.inr rfl, [_], ⟨.tmp (.t _), trivial⟩, .refl _⟩
    · try simp only [decide_eq_true_eq, decide_eq_false_iff_not, beq_iff_eq, bne_iff_ne, bne_eq_false_iff_eq, beq_eq_false_iff_ne, Bool.not_eq_true, Bool.not_eq_false, Bool.not_eq_true', Bool.not_eq_false', ne_eq] at h2
      refine RW.gop rfl rfl rfl rfl rfl rfl (eff_fieldAddr rfl rfl tf32_2 (by decide) rfl rfl rfl (Nat.le_of_ble_eq_true rfl)) ?_
      refine RW.gop rfl rfl rfl rfl rfl rfl (eff_load (y := .t _) rfl rfl ti30 rfl (.one rfl rfl rfl rfl)) ?_
      refine RW.gop rfl rfl rfl rfl rfl rfl (eff_fieldAddr rfl rfl tf32_2 (by decide) rfl rfl rfl (Nat.le_of_ble_eq_true rfl)) ?_
      refine RW.gop rfl rfl rfl rfl rfl rfl (eff_load (y := .t _) rfl rfl ti30 rfl (.one rfl rfl rfl rfl)) ?_
      refine RW.gop rfl rfl rfl rfl rfl rfl (eff_callT (sameInts_ret _ _ (by have h1 := hA.2.1; omega)) co36 rfl rfl rfl rfl) ?_
      refine RW.gop rfl rfl rfl rfl rfl rfl (eff_unop rfl rfl rfl rfl) ?_
      refine RW.op rfl rfl (eff_pick (v := .t _) rfl rfl rfl rfl) ?_
      refine RW.op rfl rfl (eff_move (v := .t _) rfl rfl rfl) ?_
      refine RW.split 28 rfl (fun h3 => ?_) (fun h3 => ?_)
      · try simp only [decide_eq_true_eq, decide_eq_false_iff_not, beq_iff_eq, bne_iff_ne, bne_eq_false_iff_eq, beq_eq_false_iff_ne, Bool.not_eq_true, Bool.not_eq_false, Bool.not_eq_true', Bool.not_eq_false', ne_eq] at h3
        refine RW.gskip rfl rfl rfl rfl rfl (by decide) ?_
        refine RW.gskip rfl rfl rfl rfl rfl (by decide) ?_
        refine RW.gskip rfl rfl rfl rfl rfl (by decide) ?_
        refine RW.gskip rfl rfl rfl rfl rfl (by decide) ?_
        refine RW.gskip rfl rfl rfl rfl rfl (by decide) ?_
        refine RW.gskip rfl rfl rfl rfl rfl (by decide) ?_
        refine RW.op rfl rfl (eff_pick (v := .t _) rfl rfl rfl rfl) ?_
        refine RW.nil ?_
        refine awp_cond rfl (fun _ => ?_) (fun h => nomatch h)
        refine awp_seq ?_
        refine awp_rw rfl ?_
        refine RW.op rfl rfl (eff_assign (v := .t _) rfl rfl rfl) ?_
        refine RW.nil ?_
        refine awp_ret ?_
        rw [show sameS A B = false from decide_eq_false (fun e => by obtain ⟨e1, e2, e3, e4⟩ := e; exact h3 e3)]
        exact ⟨Or.inr rfl, [_], ⟨.tmp (.t _), trivial⟩, .refl _⟩
      · try simp only [decide_eq_true_eq, decide_eq_false_iff_not, beq_iff_eq, bne_iff_ne, bne_eq_false_iff_eq, beq_eq_false_iff_ne, Bool.not_eq_true, Bool.not_eq_false, Bool.not_eq_true', Bool.not_eq_false', ne_eq] at h3
        refine RW.gop rfl rfl rfl rfl rfl rfl (eff_fieldAddr rfl rfl tf32_3 (by decide) rfl rfl rfl (Nat.le_of_ble_eq_true rfl)) ?_
        refine RW.gop rfl rfl rfl rfl rfl rfl (eff_load (y := .t _) rfl rfl ti30 rfl (.one rfl rfl rfl rfl)) ?_
        refine RW.gop rfl rfl rfl rfl rfl rfl (eff_fieldAddr rfl rfl tf32_3 (by decide) rfl rfl rfl (Nat.le_of_ble_eq_true rfl)) ?_
        refine RW.gop rfl rfl rfl rfl rfl rfl (eff_load (y := .t _) rfl rfl ti30 rfl (.one rfl rfl rfl rfl)) ?_
        refine RW.gop rfl rfl rfl rfl rfl rfl (eff_callT (sameInts_ret _ _ (by have h1 := hA.2.2.1; omega)) co36 rfl rfl rfl rfl) ?_
        refine RW.gop rfl rfl rfl rfl rfl rfl (eff_unop rfl rfl rfl rfl) ?_
        refine RW.op rfl rfl (eff_pick (v := .t _) rfl rfl rfl rfl) ?_
        refine RW.nil ?_
        refine awp_cond rfl (fun h4 => ?_) (fun h4 => ?_)
        · try simp only [decide_eq_true_eq, decide_eq_false_iff_not, beq_iff_eq, bne_iff_ne, bne_eq_false_iff_eq, beq_eq_false_iff_ne, Bool.not_eq_true, Bool.not_eq_false, Bool.not_eq_true', Bool.not_eq_false', ne_eq] at h4
          refine awp_seq ?_
          refine awp_rw rfl ?_
          refine RW.op rfl rfl (eff_assign (v := .t _) rfl rfl rfl) ?_
          refine RW.nil ?_
          refine awp_ret ?_
          rw [show sameS A B = false from decide_eq_false (fun e => by obtain ⟨e1, e2, e3, e4⟩ := e; exact h4 e4)]
          exact ⟨Or.inr rfl, [_], ⟨.tmp (.t _), trivial⟩, .refl _⟩
        · try simp only [decide_eq_true_eq, decide_eq_false_iff_not, beq_iff_eq, bne_iff_ne, bne_eq_false_iff_eq, beq_eq_false_iff_ne, Bool.not_eq_true, Bool.not_eq_false, Bool.not_eq_true', Bool.not_eq_false', ne_eq] at h4
          refine awp_skip ?_
          refine awp_seq ?_
          refine awp_seq ?_
          refine awp_rw rfl ?_
          refine RW.op rfl rfl (eff_assign (v := .t _) rfl rfl rfl) ?_
          refine RW.nil ?_
          refine awp_block ?_
          refine awp_loopW (fun m s => ∃ (i : Nat), (i ≤ A.bundles.length) ∧ (A.bundles.take i = B.bundles.take i) ∧ m = A.bundles.length - i ∧ s = ⟨55, [(2, .ptr 2 0 0 0), (3, .ptr 3 0 0 0), (5, .t (encI (i : Nat)))], [(2, some ⟨4, 32, 0, [.t (encS A)]⟩), (3, some ⟨4, 32, 0, [.t (encS B)]⟩)]⟩) (_) (⟨_, weak_keep (n := 55) (fr' := [(2, .ptr 2 0 0 0), (3, .ptr 3 0 0 0), (5, .t (encI (0 : Nat)))]) (st' := [(2, some ⟨4, 32, 0, [.t (encS A)]⟩), (3, some ⟨4, 32, 0, [.t (encS B)]⟩)]) ⟨rfl, rfl, rfl, rfl, rfl, rfl, trivial⟩ ⟨rfl, okE_one rfl, rfl, okE_one rfl, trivial⟩, 0, (by omega), (by simp), rfl, rfl⟩) ?_
          rintro m s ⟨i, hi, ha, rfl, rfl⟩
          have hL := hA.1
          refine awp_seq ?_
          refine awp_seq ?_
          refine awp_rw rfl ?_
          refine RW.op rfl rfl (eff_move (v := .t _) rfl rfl rfl) ?_
          refine RW.op rfl rfl (eff_fieldAddr rfl rfl tf32_1 (by decide) rfl rfl rfl (Nat.le_of_ble_eq_true rfl)) ?_
          refine RW.op rfl rfl (eff_load (y := .t _) rfl rfl ti29 rfl (.one rfl rfl rfl rfl)) ?_
          refine RW.op rfl rfl (eff_lenM rfl rfl te29 rfl) ?_
          refine RW.op rfl rfl (eff_iop rfl rfl rfl rfl rfl) ?_
          refine RW.nil ?_
          refine awp_cond rfl (fun h5 => ?_) (fun h5 => ?_)
          · try simp only [decide_eq_true_eq, decide_eq_false_iff_not, beq_iff_eq, bne_iff_ne, bne_eq_false_iff_eq, beq_eq_false_iff_ne, Bool.not_eq_true, Bool.not_eq_false, Bool.not_eq_true', Bool.not_eq_false', ne_eq] at h5
            refine awp_skip ?_
            refine awp_seq ?_
            refine awp_block ?_
            refine awp_seq ?_
            refine awp_rd [(some 43, []), (some 44, []), (some 45, []), (some 46, []), (some 47, []), (some 48, []), (some 49, []), (some 50, []), (some 51, []), (some 52, []), (some 53, []), (some 54, [])] [[], [0], [], [0, 1, 2], [0, 1, 2, 3], [], [5], [], [5, 6, 7], [5, 6, 7, 8], [0, 1, 2, 3, 4, 5, 6, 7, 8, 9], [0, 1, 2, 3, 4, 5, 6, 7, 8, 9, 10]] tm rfl rfl rfl rfl ?_
            refine RD.op rfl rfl rfl (eff_fieldAddr rfl rfl tf32_1 (by decide) rfl rfl rfl (Nat.le_of_ble_eq_true rfl)) ?_
            refine RD.op rfl rfl rfl (eff_load (y := .t _) rfl rfl ti29 rfl (.one rfl rfl rfl rfl)) ?_
            refine RD.op rfl rfl rfl (eff_move (v := .t _) rfl rfl rfl) ?_
            refine RD.op rfl rfl rfl (eff_indexM rfl rfl te29 rfl rfl rfl (by first | assumption | exact List.getElem?_eq_getElem (by omega)) rfl (by decide)) ?_
            refine RD.op rfl rfl rfl (eff_loadW rfl rfl ti40 rfl rfl rfl) ?_
            refine RD.op rfl rfl rfl (eff_fieldAddr rfl rfl tf32_1 (by decide) rfl rfl rfl (Nat.le_of_ble_eq_true rfl)) ?_
            refine RD.op rfl rfl rfl (eff_load (y := .t _) rfl rfl ti29 rfl (.one rfl rfl rfl rfl)) ?_
            refine RD.op rfl rfl rfl (eff_move (v := .t _) rfl rfl rfl) ?_
            refine RD.op rfl rfl rfl (eff_indexM rfl rfl te29 rfl rfl rfl (by first | assumption | exact List.getElem?_eq_getElem (by omega)) rfl (by decide)) ?_
            refine RD.op rfl rfl rfl (eff_loadW rfl rfl ti40 rfl rfl rfl) ?_
            refine RD.op rfl rfl rfl (eff_callT (sameBundle_ret _ _ (hBA _ (List.getElem_mem _)) (hBB _ (List.getElem_mem _))) co37 rfl rfl rfl rfl) ?_
            refine RD.op rfl rfl rfl (eff_unop rfl rfl rfl rfl) ?_
            refine RD.nil ?_
            refine awp_cond rfl (fun h6 => ?_) (fun h6 => ?_)
            · try simp only [decide_eq_true_eq, decide_eq_false_iff_not, beq_iff_eq, bne_iff_ne, bne_eq_false_iff_eq, beq_eq_false_iff_ne, Bool.not_eq_true, Bool.not_eq_false, Bool.not_eq_true', Bool.not_eq_false', ne_eq] at h6
              refine awp_seq ?_
              refine awp_rw rfl ?_
              refine RW.op rfl rfl (eff_assign (v := .t _) rfl rfl rfl) ?_
              refine RW.nil ?_
              refine awp_ret ?_
              rw [show sameS A B = false from decide_eq_false (fun e => by obtain ⟨e1, e2, e3, e4⟩ := e; rw [Bool.eq_false_iff] at h6; exact h6 (sameB_iff.2 (by simp [e2])))]
              exact ⟨Or.inr rfl, [_], ⟨.tmp (.t _), trivial⟩, .refl _⟩
            · try simp only [decide_eq_true_eq, decide_eq_false_iff_not, beq_iff_eq, bne_iff_ne, bne_eq_false_iff_eq, beq_eq_false_iff_ne, Bool.not_eq_true, Bool.not_eq_false, Bool.not_eq_true', Bool.not_eq_false', ne_eq] at h6
              refine awp_skip ?_
              refine awp_rw rfl ?_
              refine RW.op rfl rfl (eff_move (v := .t _) rfl rfl rfl) ?_
              refine RW.op rfl rfl (eff_iop rfl rfl rfl rfl (iadd (by omega))) ?_
              refine RW.op rfl rfl (eff_assign (v := .t _) rfl rfl rfl) ?_
              refine RW.nil ?_
              refine ⟨_, ?_, _, weak_keep (n := 55) (fr' := [(2, .ptr 2 0 0 0), (3, .ptr 3 0 0 0), (5, .t (encI ((i + 1) : Nat)))]) (st' := [(2, some ⟨4, 32, 0, [.t (encS A)]⟩), (3, some ⟨4, 32, 0, [.t (encS B)]⟩)]) ⟨rfl, rfl, rfl, rfl, rfl, rfl, trivial⟩ ⟨rfl, okE_one rfl, rfl, okE_one rfl, trivial⟩, i + 1, (by omega), (by rw [take_succ_get (by omega), take_succ_get (by omega), ha, sameB_iff.1 h6]), rfl, rfl⟩
              omega
          · try simp only [decide_eq_true_eq, decide_eq_false_iff_not, beq_iff_eq, bne_iff_ne, bne_eq_false_iff_eq, beq_eq_false_iff_ne, Bool.not_eq_true, Bool.not_eq_false, Bool.not_eq_true', Bool.not_eq_false', ne_eq] at h5
            refine awp_exit ?_
            refine awp_seq ?_
            refine awp_rw rfl ?_
            refine RW.op rfl rfl (eff_assign (v := .t _) rfl rfl rfl) ?_
            refine RW.nil ?_
            refine awp_ret ?_
            rw [List.take_of_length_le (by omega), List.take_of_length_le (by omega)] at ha
            rw [show sameS A B = true from decide_eq_true ⟨h1, ha, h3, h4⟩]
            exact ⟨Or.inr rfl, [_], ⟨.tmp (.t _), trivial⟩, .refl _⟩

end Go.Tv.D27

end
section
open Go Go.Tv Go.Proofs
namespace Go.Tv.D27
set_option maxRecDepth 20000
set_option linter.unusedSimpArgs false
set_option linter.unusedVariables false
theorem clone55_retG (l : List Int) (hl : l.length ≤ 1000000) : RetG Tryd.prog 40 [] [.t (.sl (l.map encI) false)] [(5, some ⟨1, 3, 1, (l.map encI).map .t⟩)] (.own 5 1 0 l.length) := by
  refine retG_of_awp Tryd.func40 rfl (Nat.le_of_ble_eq_true rfl) ?_
  refine awp_seq ?_
  refine awp_rw rfl ?_
  refine RW.op rfl rfl (eff_assign (v := .t _) rfl rfl rfl) ?_
  refine RW.nil ?_
  refine awp_seq ?_
  refine awp_seq ?_
  refine awp_rw rfl ?_
  refine RW.op rfl rfl (eff_move (v := .t _) rfl rfl rfl) ?_
  refine RW.nilEq rfl rfl rfl rfl te30 rfl (fun b1 hb1 => ?_)
  refine RW.nil ?_
  refine awp_cond rfl (fun h2 => ?_) (fun h2 => ?_)
  · try simp only [decide_eq_true_eq, decide_eq_false_iff_not, beq_iff_eq, bne_iff_ne, bne_eq_false_iff_eq, beq_eq_false_iff_ne, Bool.not_eq_true, Bool.not_eq_false, Bool.not_eq_true', Bool.not_eq_false', ne_eq] at h2
    refine awp_seq ?_
    refine awp_rw rfl ?_
    refine RW.op rfl rfl (eff_assign (v := .t _) rfl rfl rfl) ?_
    refine RW.nil ?_
    show AWP _ _ _ _
    refine awp_weak (weak_adopt (d := 2) (id := 5) (k := 1) (ty := 3) rfl rfl) ?_
    refine awp_weak (weak_bumpS (d := 2) (id := 5) (off := 0) (len := 0) 1 rfl rfl (by decide)) ?_
    refine awp_ret ?_
    have hl0 : l = [] := by simpa using hb1 h2
    subst hl0
    exact ⟨Or.inr rfl, [_], [.own 5 1 0 0], ⟨.tmp rfl, trivial⟩, rfl, weak_keep ⟨rfl, rfl, trivial⟩ ⟨rfl, okE_nil, trivial⟩, rfl⟩
  · try simp only [decide_eq_true_eq, decide_eq_false_iff_not, beq_iff_eq, bne_iff_ne, bne_eq_false_iff_eq, beq_eq_false_iff_ne, Bool.not_eq_true, Bool.not_eq_false, Bool.not_eq_true', Bool.not_eq_false', ne_eq] at h2
    refine awp_skip ?_
    refine awp_seq ?_
    refine awp_rw rfl ?_
    refine RW.new rfl rfl (eff_buildSlice1 (id := 5) (els := []) rfl rfl te30 tz3 rfl (by decide) rfl rfl rfl rfl) ?_
    refine RW.op rfl rfl (eff_move (v := .t _) rfl rfl rfl) ?_
    refine RW.new rfl rfl (eff_appendAny (id := 5) rfl rfl ta30 rfl rfl rfl rfl rfl rfl (srcM rfl (fun _ => rfl)) (by simp; omega) (by simp; omega)) ?_
    refine RW.op rfl rfl (eff_assign (v := .own _ _ _ _) rfl rfl rfl) ?_
    refine RW.nil ?_
    refine awp_ret ?_
    exact ⟨Or.inr rfl, [_], [.own 5 1 0 l.length], ⟨.tmp rfl, trivial⟩, rfl, weak_keep ⟨(by show AV.own 5 _ 0 _ = AV.own 5 1 0 l.length; congr 1; simp), rfl, trivial⟩ ⟨rfl, okE_t, trivial⟩, rfl⟩

theorem clone54_retG (l : List Int) (hl : l.length ≤ 1000000) : RetG Tryd.prog 31 [] [.t (.sl (l.map encBy) false)] [(5, some ⟨1, 5, 1, (l.map encBy).map .t⟩)] (.own 5 1 0 l.length) := by
  refine retG_of_awp Tryd.func31 rfl (Nat.le_of_ble_eq_true rfl) ?_
  refine awp_seq ?_
  refine awp_rw rfl ?_
  refine RW.op rfl rfl (eff_assign (v := .t _) rfl rfl rfl) ?_
  refine RW.nil ?_
  refine awp_seq ?_
  refine awp_seq ?_
  refine awp_rw rfl ?_
  refine RW.op rfl rfl (eff_move (v := .t _) rfl rfl rfl) ?_
  refine RW.nilEq rfl rfl rfl rfl te22 rfl (fun b1 hb1 => ?_)
  refine RW.nil ?_
  refine awp_cond rfl (fun h2 => ?_) (fun h2 => ?_)
  · try simp only [decide_eq_true_eq, decide_eq_false_iff_not, beq_iff_eq, bne_iff_ne, bne_eq_false_iff_eq, beq_eq_false_iff_ne, Bool.not_eq_true, Bool.not_eq_false, Bool.not_eq_true', Bool.not_eq_false', ne_eq] at h2
    refine awp_seq ?_
    refine awp_rw rfl ?_
    refine RW.op rfl rfl (eff_assign (v := .t _) rfl rfl rfl) ?_
    refine RW.nil ?_
    show AWP _ _ _ _
    refine awp_weak (weak_adopt (d := 2) (id := 5) (k := 1) (ty := 5) rfl rfl) ?_
    refine awp_weak (weak_bumpS (d := 2) (id := 5) (off := 0) (len := 0) 1 rfl rfl (by decide)) ?_
    refine awp_ret ?_
    have hl0 : l = [] := by simpa using hb1 h2
    subst hl0
    exact ⟨Or.inr rfl, [_], [.own 5 1 0 0], ⟨.tmp rfl, trivial⟩, rfl, weak_keep ⟨rfl, rfl, trivial⟩ ⟨rfl, okE_nil, trivial⟩, rfl⟩
  · try simp only [decide_eq_true_eq, decide_eq_false_iff_not, beq_iff_eq, bne_iff_ne, bne_eq_false_iff_eq, beq_eq_false_iff_ne, Bool.not_eq_true, Bool.not_eq_false, Bool.not_eq_true', Bool.not_eq_false', ne_eq] at h2
    refine awp_skip ?_
    refine awp_seq ?_
    refine awp_rw rfl ?_
    refine RW.new rfl rfl (eff_buildSlice1 (id := 5) (els := []) rfl rfl te22 tz5 rfl (by decide) rfl rfl rfl rfl) ?_
    refine RW.op rfl rfl (eff_move (v := .t _) rfl rfl rfl) ?_
    refine RW.new rfl rfl (eff_appendAny (id := 5) rfl rfl ta22 rfl rfl rfl rfl rfl rfl (srcM rfl (fun _ => rfl)) (by simp; omega) (by simp; omega)) ?_
    refine RW.op rfl rfl (eff_assign (v := .own _ _ _ _) rfl rfl rfl) ?_
    refine RW.nil ?_
    refine awp_ret ?_
    exact ⟨Or.inr rfl, [_], [.own 5 1 0 l.length], ⟨.tmp rfl, trivial⟩, rfl, weak_keep ⟨(by show AV.own 5 _ 0 _ = AV.own 5 1 0 l.length; congr 1; simp), rfl, trivial⟩ ⟨rfl, okE_t, trivial⟩, rfl⟩

theorem clone39_ret (b : Bundle) (hb : BOK b) : Ret Tryd.prog 26 [encB b] (encB b) := by
  unfold BOK at hb
  refine ret_of_awp Tryd.func26 rfl (Nat.le_of_ble_eq_true rfl) ?_
  refine awp_seq ?_
  refine awp_rw rfl ?_
  refine RW.new rfl rfl (eff_boxK (v := .t _) (k := 8) (id := 1) rfl rfl rfl rfl rfl rfl) ?_
  refine RW.new rfl rfl (eff_allocK (k := 8) (id := 2) rfl rfl tz40 rfl rfl) ?_
  refine RW.nil ?_
  refine awp_seq ?_
  refine awp_rw rfl ?_
  refine RW.op rfl rfl (eff_fieldAddr rfl rfl tf40_3 (by decide) rfl rfl rfl (Nat.le_of_ble_eq_true rfl)) ?_
  refine RW.op rfl rfl (eff_fieldAddr rfl rfl tf38_4 (by decide) rfl rfl rfl (Nat.le_of_ble_eq_true rfl)) ?_
  refine RW.op rfl rfl (eff_load (y := .t _) rfl rfl ti22 rfl (.one rfl rfl rfl rfl)) ?_
  refine RW.new rfl rfl (eff_callG (clone54_retG b.data (by omega)) co31 (fun id => id + 1000) rfl rfl rfl ⟨.t _, trivial⟩ (.own _ _ _ _ rfl rfl) rfl trivial ⟨⟨treeEls_t, .inr rfl⟩, trivial⟩) ?_
  refine RW.op rfl rfl (eff_fieldAddr rfl rfl tf40_3 (by decide) rfl rfl rfl (Nat.le_of_ble_eq_true rfl)) ?_
  refine RW.op rfl rfl (eff_fieldAddr rfl rfl tf38_4 (by decide) rfl rfl rfl (Nat.le_of_ble_eq_true rfl)) ?_
  refine RW.store rfl rfl (eff_storeA (v := .own _ _ _ _) (ys := [_, _, _, _, _, _, _, _]) (els := [_]) (els' := [_]) rfl rfl ti22 rfl rfl rfl rfl rfl rfl rfl (Nat.le_of_ble_eq_true rfl) rfl rfl rfl) ?_
  refine RW.nil ?_
  refine awp_seq ?_
  refine awp_rw rfl ?_
  refine RW.op rfl rfl (eff_load rfl rfl ti40 rfl (.whole rfl rfl rfl rfl rfl rfl)) ?_
  refine RW.store rfl rfl (eff_storeW (v := .agg _) (els := [_]) (els' := [_]) rfl rfl ti40 rfl rfl rfl rfl rfl rfl rfl rfl rfl) ?_
  refine RW.nil ?_
  refine awp_ret ?_
  first
    | exact ⟨Or.inr rfl, [_], ⟨.cell rfl ti40 (.whole rfl rfl rfl rfl rfl rfl) (Res.aggP (xs := [_, _, _, _, _, _, _, _]) ⟨.t _, .t _, .t _, .t _, .t _, .t _, .t _, Res.ownM (xs := b.data.map encBy) rfl (by simp), trivial⟩), trivial⟩, .refl _⟩
    | exact ⟨Or.inr rfl, [_], ⟨.cell rfl ti40 (.whole rfl rfl rfl rfl rfl rfl) (Res.aggP (xs := [_, _, _, _, _, _, _, _]) ⟨.t _, .t _, .t _, .t _, .t _, .t _, .t _, Res.ownM (xs := b.data.map encBy) rfl (by simp), trivial⟩), trivial⟩, (by repeat' first | exact trivial | exact Wk.refl _ | exact Wk.sl _ | refine And.intro ?_ ?_ | refine Wk.tupP ?_ | refine Wk.aggP ?_)⟩

theorem copied_retG (S : Store) (hS : SOK S) : RetG Tryd.prog 25 [] [.t (encS S)] [(27, some ⟨8, 40, S.bundles.length, (S.bundles.map encB).map .t⟩), (1005, some ⟨1, 3, 1, (S.passed.map encI).map .t⟩), (2005, some ⟨1, 3, 1, (S.seen.map encI).map .t⟩)] (.agg [.t (encI S.quota), .own 27 S.bundles.length 0 S.bundles.length, .own 1005 1 0 S.passed.length, .own 2005 1 0 S.seen.length]) := by
  refine retG_of_awp Tryd.func25 rfl (Nat.le_of_ble_eq_true rfl) ?_
  refine awp_seq ?_
  refine awp_rw rfl ?_
  refine RW.new rfl rfl (eff_boxK (v := .t _) (k := 4) (id := 1) rfl rfl rfl rfl rfl rfl) ?_
  refine RW.new rfl rfl (eff_allocK (k := 4) (id := 2) rfl rfl tz32 rfl rfl) ?_
  refine RW.nil ?_
  refine awp_seq ?_
  refine awp_rd [(some 6, []), (some 7, []), (some 8, []), (some 9, []), (some 10, [1005]), (some 11, []), (some 12, []), (some 13, [2005]), (some 14, []), (some 3, [3]), (none, [3])] [[], [0], [], [2], [2, 3], [], [5], [2, 3, 4, 5, 6], [0, 1, 2, 3, 4, 5, 6, 7], [], [0, 1, 2, 3, 4, 5, 6, 7, 8, 9]] tm rfl rfl rfl rfl ?_
  refine RD.op rfl rfl rfl (eff_fieldAddr rfl rfl tf32_0 (by decide) rfl rfl rfl (Nat.le_of_ble_eq_true rfl)) ?_
  refine RD.op rfl rfl rfl (eff_load (y := .t _) rfl rfl ti3 rfl (.one rfl rfl rfl rfl)) ?_
  refine RD.op rfl rfl rfl (eff_fieldAddr rfl rfl tf32_2 (by decide) rfl rfl rfl (Nat.le_of_ble_eq_true rfl)) ?_
  refine RD.op rfl rfl rfl (eff_load (y := .t _) rfl rfl ti30 rfl (.one rfl rfl rfl rfl)) ?_
  refine RD.new rfl rfl rfl (eff_callG (clone55_retG S.passed (by have h := hS.2.1; omega)) co40 (fun id => id + 1000) rfl rfl rfl ⟨.t _, trivial⟩ (.own _ _ _ _ rfl rfl) rfl trivial ⟨⟨treeEls_t, .inr rfl⟩, trivial⟩) ?_
  refine RD.op rfl rfl rfl (eff_fieldAddr rfl rfl tf32_3 (by decide) rfl rfl rfl (Nat.le_of_ble_eq_true rfl)) ?_
  refine RD.op rfl rfl rfl (eff_load (y := .t _) rfl rfl ti30 rfl (.one rfl rfl rfl rfl)) ?_
  refine RD.new rfl rfl rfl (eff_callG (clone55_retG S.seen (by have h := hS.2.2.1; omega)) co40 (fun id => id + 2000) rfl rfl rfl ⟨.t _, trivial⟩ (.own _ _ _ _ rfl rfl) rfl trivial ⟨⟨treeEls_t, .inr rfl⟩, trivial⟩) ?_
  refine RD.op rfl rfl rfl (eff_buildA (ys := [.t _, .t _, .own 1005 _ 0 _, .own 2005 _ 0 _]) rfl rfl tz32 tg32 rfl rfl) ?_
  refine RD.new rfl rfl rfl (eff_allocK (k := 4) (id := 3) rfl rfl tz32 rfl rfl) ?_
  refine RD.store rfl rfl rfl (eff_storeW (v := .agg _) (els := [_]) (els' := [_]) rfl rfl ti32 rfl rfl rfl rfl rfl rfl rfl rfl rfl) ?_
  refine RD.nil ?_
  show AWP _ _ _ _
  refine awp_weak (weak_adoptC (id0 := 3) (cs := [_, _, _, _]) (cs' := [_, .own 27 0 0 0, _, _]) 27 8 40 1 rfl rfl rfl rfl) ?_
  refine awp_seq ?_
  refine awp_seq ?_
  refine awp_rw rfl ?_
  refine RW.op rfl rfl (eff_fieldAddr rfl rfl tf32_1 (by decide) rfl rfl rfl (Nat.le_of_ble_eq_true rfl)) ?_
  refine RW.op rfl rfl (eff_load (y := .t _) rfl rfl ti29 rfl (.one rfl rfl rfl rfl)) ?_
  refine RW.op rfl rfl (eff_lenM rfl rfl te29 rfl) ?_
  refine RW.op rfl rfl (eff_move (v := .t _) rfl rfl rfl) ?_
  refine RW.nil ?_
  refine awp_block ?_
  refine awp_loopW (fun m s => ∃ (i : Nat) (els : List AV), (i ≤ S.bundles.length) ∧ (els = ((S.bundles.take i).map encB).map .t) ∧ m = S.bundles.length - i ∧ s = ⟨31, [(1, .ptr 1 0 0 0), (2, .ptr 2 0 0 0), (3, .ptr 3 0 0 0), (16, .t (.sl (S.bundles.map encB) false)), (17, .t (encI S.bundles.length)), (18, .t (encI (i : Nat)))], [(1, some ⟨4, 32, 0, [.t (encS S)]⟩), (2, some ⟨4, 32, 0, [.t z32]⟩), (3, some ⟨4, 32, 0, [.agg [.t (encI S.quota), .own 27 i 0 i, .own 1005 1 0 S.passed.length, .own 2005 1 0 S.seen.length]]⟩), (27, some ⟨8, 40, i, els⟩), (1005, some ⟨1, 3, 1, (S.passed.map encI).map .t⟩), (2005, some ⟨1, 3, 1, (S.seen.map encI).map .t⟩)]⟩) (_) (⟨_, weak_keep (n := 31) (fr' := [(1, .ptr 1 0 0 0), (2, .ptr 2 0 0 0), (3, .ptr 3 0 0 0), (16, .t (.sl (S.bundles.map encB) false)), (17, .t (encI S.bundles.length)), (18, .t (encI (0 : Nat)))]) (st' := [(1, some ⟨4, 32, 0, [.t (encS S)]⟩), (2, some ⟨4, 32, 0, [.t z32]⟩), (3, some ⟨4, 32, 0, [.agg [.t (encI S.quota), .own 27 0 0 0, .own 1005 1 0 S.passed.length, .own 2005 1 0 S.seen.length]]⟩), (27, some ⟨8, 40, 0, ([])⟩), (1005, some ⟨1, 3, 1, (S.passed.map encI).map .t⟩), (2005, some ⟨1, 3, 1, (S.seen.map encI).map .t⟩)]) ⟨rfl, rfl, rfl, rfl, rfl, rfl, rfl, rfl, rfl, rfl, rfl, rfl, trivial⟩ ⟨rfl, okE_one rfl, rfl, okE_one rfl, rfl, okE_one rfl, rfl, (by first | exact okE_nil | (rw [he]; intro x hx; simp only [List.mem_append, List.mem_map, List.mem_singleton] at hx; rcases hx with ⟨y, _, rfl⟩ | rfl <;> rfl)), rfl, okE_t, rfl, okE_t, trivial⟩, 0, [], (by omega), (by rfl), rfl, rfl⟩) ?_
  rintro m s ⟨i, els, hi, he, rfl, rfl⟩
  have hL := hS.1
  refine awp_seq ?_
  refine awp_rw rfl ?_
  refine RW.op rfl rfl (eff_iop rfl rfl rfl rfl rfl) ?_
  refine RW.nil ?_
  refine awp_seq ?_
  refine awp_cond rfl (fun h1 => ?_) (fun h1 => ?_)
  · try simp only [decide_eq_true_eq, decide_eq_false_iff_not, beq_iff_eq, bne_iff_ne, bne_eq_false_iff_eq, beq_eq_false_iff_ne, Bool.not_eq_true, Bool.not_eq_false, Bool.not_eq_true', Bool.not_eq_false', ne_eq] at h1
    refine awp_skip ?_
    refine awp_seq ?_
    refine awp_block ?_
    refine awp_seq ?_
    refine awp_rw rfl ?_
    refine RW.op rfl rfl (eff_indexM rfl rfl te29 rfl rfl rfl (by first | assumption | exact List.getElem?_eq_getElem (by omega)) rfl (by decide)) ?_
    refine RW.op rfl rfl (eff_loadW rfl rfl ti40 rfl rfl rfl) ?_
    refine RW.new rfl rfl (eff_allocK (k := 8) (id := 5) rfl rfl tz40 rfl rfl) ?_
    refine RW.store rfl rfl (eff_storeW (v := .t _) (els := [_]) (els' := [_]) rfl rfl ti40 rfl rfl rfl rfl rfl rfl rfl rfl rfl) ?_
    refine RW.nil ?_
    refine awp_rd [(some 22, []), (some 23, []), (some 24, []), (some 25, []), (some 26, [26]), (some 27, [27]), (some 28, []), (none, [3])] [[], [0], [], [2], [2, 3], [0, 1, 2, 3, 4], [0, 1, 2, 3, 4, 5], [0, 1, 2, 3, 4, 5, 6]] tm rfl rfl rfl rfl ?_
    refine RD.op rfl rfl rfl (eff_fieldAddr rfl rfl tf32_1 (by decide) rfl rfl rfl (Nat.le_of_ble_eq_true rfl)) ?_
    refine RD.op rfl rfl rfl (eff_load (y := .own _ _ _ _) rfl rfl ti29 rfl (.one rfl rfl rfl rfl)) ?_
    refine RD.op rfl rfl rfl (eff_load rfl rfl ti40 rfl (.whole rfl rfl rfl rfl rfl rfl)) ?_
    refine RD.op rfl rfl rfl (eff_callT (clone39_ret _ (hS.2.2.2 _ (List.getElem_mem _))) co26 rfl rfl rfl rfl) ?_
    refine RD.new rfl rfl rfl (eff_buildSliceL (id := 26) (els := [.t (.agg [_, _, _, _, _, _, _, _])]) rfl rfl te29 tz40 rfl (by decide) (by decide) rfl rfl rfl rfl) ?_
    refine RD.new rfl rfl rfl (eff_append (id := 27) (ys := [_]) rfl rfl ta29 rfl rfl rfl (by rw [he]; simp; omega) rfl rfl (srcOwn rfl rfl rfl rfl rfl rfl) (by simp) (by simp; omega) (by simp; omega)) ?_
    refine RD.op rfl rfl rfl (eff_fieldAddr rfl rfl tf32_1 (by decide) rfl rfl rfl (Nat.le_of_ble_eq_true rfl)) ?_
    refine RD.store rfl rfl rfl (eff_storeA (v := .own _ _ _ _) (ys := [_, _, _, _]) (els := [_]) (els' := [_]) rfl rfl ti29 rfl rfl rfl rfl rfl rfl rfl (Nat.le_of_ble_eq_true rfl) rfl rfl rfl) ?_
    refine RD.nil ?_
    refine awp_rw rfl ?_
    refine RW.op rfl rfl (eff_iop rfl rfl rfl rfl (iadd (by omega))) ?_
    refine RW.op rfl rfl (eff_move (v := .t _) rfl rfl rfl) ?_
    refine RW.nil ?_
    refine ⟨_, ?_, _, weak_keep (n := 31) (fr' := [(1, .ptr 1 0 0 0), (2, .ptr 2 0 0 0), (3, .ptr 3 0 0 0), (16, .t (.sl (S.bundles.map encB) false)), (17, .t (encI S.bundles.length)), (18, .t (encI ((i + 1) : Nat)))]) (st' := [(1, some ⟨4, 32, 0, [.t (encS S)]⟩), (2, some ⟨4, 32, 0, [.t z32]⟩), (3, some ⟨4, 32, 0, [.agg [.t (encI S.quota), .own 27 (i + 1) 0 (i + 1), .own 1005 1 0 S.passed.length, .own 2005 1 0 S.seen.length]]⟩), (27, some ⟨8, 40, (i + 1), _⟩), (1005, some ⟨1, 3, 1, (S.passed.map encI).map .t⟩), (2005, some ⟨1, 3, 1, (S.seen.map encI).map .t⟩)]) ⟨rfl, rfl, rfl, rfl, rfl, rfl, rfl, rfl, rfl, rfl, rfl, rfl, trivial⟩ ⟨rfl, okE_one rfl, rfl, okE_one rfl, rfl, okE_one rfl, rfl, (by first | exact okE_nil | (rw [he]; intro x hx; simp only [List.mem_append, List.mem_map, List.mem_singleton] at hx; rcases hx with ⟨y, _, rfl⟩ | rfl <;> rfl)), rfl, okE_t, rfl, okE_t, trivial⟩, i + 1, _, (by omega), (by rw [he, take_succ_get (by omega), List.map_append, List.map_append]; rfl), rfl, rfl⟩
    omega
  · try simp only [decide_eq_true_eq, decide_eq_false_iff_not, beq_iff_eq, bne_iff_ne, bne_eq_false_iff_eq, beq_eq_false_iff_ne, Bool.not_eq_true, Bool.not_eq_false, Bool.not_eq_true', Bool.not_eq_false', ne_eq] at h1
    refine awp_exit ?_
    refine awp_seq ?_
    refine awp_rw rfl ?_
    refine RW.op rfl rfl (eff_load rfl rfl ti32 rfl (.whole rfl rfl rfl rfl rfl rfl)) ?_
    refine RW.store rfl rfl (eff_storeW (v := .agg _) (els := [_]) (els' := [_]) rfl rfl ti32 rfl rfl rfl rfl rfl rfl rfl rfl rfl) ?_
    refine RW.nil ?_
    refine awp_ret ?_
    have hi2 : i = S.bundles.length := by omega
    subst hi2
    rw [List.take_length] at he
    subst he
    exact ⟨Or.inr rfl, [_], [.agg [.t (encI S.quota), .own 27 S.bundles.length 0 S.bundles.length, .own 1005 1 0 S.passed.length, .own 2005 1 0 S.seen.length]], ⟨.cell rfl ti32 (.whole rfl rfl rfl rfl rfl rfl), trivial⟩, rfl, weak_keep ⟨rfl, rfl, trivial⟩ ⟨rfl, okE_t, rfl, okE_t, rfl, okE_t, trivial⟩, rfl⟩

end Go.Tv.D27

end
section
open Go Go.Tv Go.Proofs
namespace Go.Tv.D27
set_option maxRecDepth 20000
set_option linter.unusedSimpArgs false
set_option linter.unusedVariables false
theorem isNaN62_ret (n : Int) : Ret Tryd.prog 51 [encI n] (.bool false) := by
  refine ret_of_awp Tryd.func51 rfl (Nat.le_of_ble_eq_true rfl) ?_
  refine awp_seq ?_
  refine awp_rw rfl ?_
  refine RW.op rfl rfl (eff_assign (v := .t _) rfl rfl rfl) ?_
  refine RW.nil ?_
  refine awp_seq ?_
  refine awp_rw rfl ?_
  refine RW.op rfl rfl (eff_move (v := .t _) rfl rfl rfl) ?_
  refine RW.op rfl rfl (eff_move (v := .t _) rfl rfl rfl) ?_
  refine RW.op rfl rfl (eff_iop (r := .bool false) rfl rfl rfl rfl (by simp [iop])) ?_
  refine RW.op rfl rfl (eff_assign (v := .t _) rfl rfl rfl) ?_
  refine RW.nil ?_
  refine awp_ret ?_
  first
    | exact ⟨Or.inr rfl, [_], ⟨.tmp (.t _), trivial⟩, .refl _⟩
    | exact ⟨Or.inr rfl, [_], ⟨.tmp (.t _), trivial⟩, (by repeat' first | exact trivial | exact Wk.refl _ | exact Wk.sl _ | refine And.intro ?_ ?_ | refine Wk.tupP ?_ | refine Wk.aggP ?_)⟩
    | exact ⟨Or.inr rfl, [_], ⟨.tmp (Res.ownT rfl rfl rfl rfl), trivial⟩, .refl _⟩
    | exact ⟨Or.inr rfl, [_], ⟨.tmp (Res.ownT rfl rfl rfl rfl), trivial⟩, (by repeat' first | exact trivial | exact Wk.refl _ | exact Wk.sl _ | refine And.intro ?_ ?_ | refine Wk.tupP ?_ | refine Wk.aggP ?_)⟩

theorem isNaN65_ret (n : Int) : Ret Tryd.prog 55 [encI n] (.bool false) := by
  refine ret_of_awp Tryd.func55 rfl (Nat.le_of_ble_eq_true rfl) ?_
  refine awp_seq ?_
  refine awp_rw rfl ?_
  refine RW.op rfl rfl (eff_assign (v := .t _) rfl rfl rfl) ?_
  refine RW.nil ?_
  refine awp_seq ?_
  refine awp_rw rfl ?_
  refine RW.op rfl rfl (eff_move (v := .t _) rfl rfl rfl) ?_
  refine RW.op rfl rfl (eff_move (v := .t _) rfl rfl rfl) ?_
  refine RW.op rfl rfl (eff_iop (r := .bool false) rfl rfl rfl rfl (by simp [iop])) ?_
  refine RW.op rfl rfl (eff_assign (v := .t _) rfl rfl rfl) ?_
  refine RW.nil ?_
  refine awp_ret ?_
  first
    | exact ⟨Or.inr rfl, [_], ⟨.tmp (.t _), trivial⟩, .refl _⟩
    | exact ⟨Or.inr rfl, [_], ⟨.tmp (.t _), trivial⟩, (by repeat' first | exact trivial | exact Wk.refl _ | exact Wk.sl _ | refine And.intro ?_ ?_ | refine Wk.tupP ?_ | refine Wk.aggP ?_)⟩
    | exact ⟨Or.inr rfl, [_], ⟨.tmp (Res.ownT rfl rfl rfl rfl), trivial⟩, .refl _⟩
    | exact ⟨Or.inr rfl, [_], ⟨.tmp (Res.ownT rfl rfl rfl rfl), trivial⟩, (by repeat' first | exact trivial | exact Wk.refl _ | exact Wk.sl _ | refine And.intro ?_ ?_ | refine Wk.tupP ?_ | refine Wk.aggP ?_)⟩

theorem less_ret (a b : Int) : Ret Tryd.prog 50 [encI a, encI b] (.bool (decide (a < b))) := by
  refine ret_of_awp Tryd.func50 rfl (Nat.le_of_ble_eq_true rfl) ?_
  refine awp_seq ?_
  refine awp_rw rfl ?_
  refine RW.op rfl rfl (eff_assign (v := .t _) rfl rfl rfl) ?_
  refine RW.nil ?_
  refine awp_seq ?_
  refine awp_rw rfl ?_
  refine RW.op rfl rfl (eff_move (v := .t _) rfl rfl rfl) ?_
  refine RW.op rfl rfl (eff_callT (isNaN65_ret _) co55 rfl rfl rfl rfl) ?_
  refine RW.op rfl rfl (eff_move (v := .t _) rfl rfl rfl) ?_
  refine RW.gskip rfl rfl rfl rfl rfl (by decide) ?_
  refine RW.gskip rfl rfl rfl rfl rfl (by decide) ?_
  refine RW.gskip rfl rfl rfl rfl rfl (by decide) ?_
  refine RW.op rfl rfl (eff_pick (v := .t _) rfl rfl rfl rfl) ?_
  refine RW.op rfl rfl (eff_move (v := .t _) rfl rfl rfl) ?_
  refine RW.gop rfl rfl rfl rfl rfl rfl (eff_move (v := .t _) rfl rfl rfl) ?_
  refine RW.gop rfl rfl rfl rfl rfl rfl (eff_move (v := .t _) rfl rfl rfl) ?_
  refine RW.gop rfl rfl rfl rfl rfl rfl (eff_iop rfl rfl rfl rfl rfl) ?_
  refine RW.op rfl rfl (eff_pick (v := .t _) rfl rfl rfl rfl) ?_
  refine RW.op rfl rfl (eff_assign (v := .t _) rfl rfl rfl) ?_
  refine RW.nil ?_
  refine awp_ret ?_
  first
    | exact ⟨Or.inr rfl, [_], ⟨.tmp (.t _), trivial⟩, .refl _⟩
    | exact ⟨Or.inr rfl, [_], ⟨.tmp (.t _), trivial⟩, (by repeat' first | exact trivial | exact Wk.refl _ | exact Wk.sl _ | refine And.intro ?_ ?_ | refine Wk.tupP ?_ | refine Wk.aggP ?_)⟩
    | exact ⟨Or.inr rfl, [_], ⟨.tmp (Res.ownT rfl rfl rfl rfl), trivial⟩, .refl _⟩
    | exact ⟨Or.inr rfl, [_], ⟨.tmp (Res.ownT rfl rfl rfl rfl), trivial⟩, (by repeat' first | exact trivial | exact Wk.refl _ | exact Wk.sl _ | refine And.intro ?_ ?_ | refine Wk.tupP ?_ | refine Wk.aggP ?_)⟩

theorem search_ret (l : List Int) (x : Int) (hl : l.length ≤ 1000000) (hp : l.Pairwise (· < ·)) : Ret Tryd.prog 39 [encIs l, encI x] (.tup [encI (lowerB x l : Nat), .bool (decide (x ∈ l))]) := by
  refine ret_of_awp Tryd.func39 rfl (Nat.le_of_ble_eq_true rfl) ?_
  refine awp_seq ?_
  refine awp_rw rfl ?_
  refine RW.op rfl rfl (eff_assign (v := .t _) rfl rfl rfl) ?_
  refine RW.op rfl rfl (eff_assign (v := .t _) rfl rfl rfl) ?_
  refine RW.nil ?_
  refine awp_seq ?_
  refine awp_rw rfl ?_
  refine RW.op rfl rfl (eff_move (v := .t _) rfl rfl rfl) ?_
  refine RW.op rfl rfl (eff_lenM rfl rfl te30 rfl) ?_
  refine RW.op rfl rfl (eff_assign (v := .t _) rfl rfl rfl) ?_
  refine RW.nil ?_
  refine awp_seq ?_
  refine awp_rw rfl ?_
  refine RW.op rfl rfl (eff_move (v := .t _) rfl rfl rfl) ?_
  refine RW.op rfl rfl (eff_assign (v := .t _) rfl rfl rfl) ?_
  refine RW.op rfl rfl (eff_assign (v := .t _) rfl rfl rfl) ?_
  refine RW.nil ?_
  refine awp_seq ?_
  refine awp_block ?_
  refine awp_loopW (fun m s => ∃ (lo : Nat) (hi : Nat), (lo ≤ hi) ∧ (hi ≤ l.length) ∧ (∀ y, y ∈ l.take lo → y < x) ∧ (∀ h : hi < l.length, ¬ l[hi] < x) ∧ m = hi - lo ∧ s = ⟨54, [(0, .t (encIs l)), (1, .t (encI x)), (6, .t (encI l.length)), (7, .t (encI (lo : Nat))), (8, .t (encI (hi : Nat)))], []⟩) (_) (⟨_, weak_keep (n := 54) (fr' := [(0, .t (encIs l)), (1, .t (encI x)), (6, .t (encI l.length)), (7, .t (encI (0 : Nat))), (8, .t (encI ((l.length) : Nat)))]) (st' := []) ⟨rfl, rfl, rfl, rfl, rfl, rfl, rfl, rfl, rfl, rfl, trivial⟩ trivial, 0, l.length, (by omega), (by omega), (by simp), (by intro h; omega), rfl, rfl⟩) ?_
  rintro m s ⟨lo, hi, hlh, hhi, hy, hz, rfl, rfl⟩
  refine awp_seq ?_
  refine awp_seq ?_
  refine awp_rw rfl ?_
  refine RW.op rfl rfl (eff_move (v := .t _) rfl rfl rfl) ?_
  refine RW.op rfl rfl (eff_move (v := .t _) rfl rfl rfl) ?_
  refine RW.op rfl rfl (eff_iop rfl rfl rfl rfl rfl) ?_
  refine RW.nil ?_
  refine awp_cond rfl (fun h1 => ?_) (fun h1 => ?_)
  · try simp only [decide_eq_true_eq, decide_eq_false_iff_not, beq_iff_eq, bne_iff_ne, bne_eq_false_iff_eq, beq_eq_false_iff_ne, Bool.not_eq_true, Bool.not_eq_false, Bool.not_eq_true', Bool.not_eq_false', ne_eq] at h1
    refine awp_skip ?_
    refine awp_block ?_
    refine awp_seq ?_
    refine awp_rw rfl ?_
    refine RW.op rfl rfl (eff_move (v := .t _) rfl rfl rfl) ?_
    refine RW.op rfl rfl (eff_move (v := .t _) rfl rfl rfl) ?_
    refine RW.op rfl rfl (eff_iop rfl rfl rfl rfl (iadd (by omega))) ?_
    refine RW.op rfl rfl (eff_convIntE (m := ((lo + hi : Nat) : Int)) rfl rfl (by rw [tu3]; rfl) tu100 rfl (wrapU64 (by omega) (by omega))) ?_
    refine RW.op rfl rfl (eff_shrE (r := ((((lo + hi) / 2) : Nat) : Int)) rfl rfl rfl rfl (by decide) (shr1 _)) ?_
    refine RW.op rfl rfl (eff_convIntE (m := ((((lo + hi) / 2) : Nat) : Int)) rfl rfl (by rw [tu100]; rfl) tu3 rfl (wrap64 (by omega) (by omega))) ?_
    refine RW.op rfl rfl (eff_assign (v := .t _) rfl rfl rfl) ?_
    refine RW.nil ?_
    refine awp_seq ?_
    refine awp_rw rfl ?_
    refine RW.op rfl rfl (eff_move (v := .t _) rfl rfl rfl) ?_
    refine RW.op rfl rfl (eff_move (v := .t _) rfl rfl rfl) ?_
    refine RW.op rfl rfl (eff_indexM rfl rfl te30 rfl rfl rfl (by first | assumption | exact List.getElem?_eq_getElem (by omega)) rfl (by decide)) ?_
    refine RW.op rfl rfl (eff_loadW1 rfl rfl ti3 rfl rfl) ?_
    refine RW.op rfl rfl (eff_move (v := .t _) rfl rfl rfl) ?_
    refine RW.op rfl rfl (eff_callT (less_ret _ _) co50 rfl rfl rfl rfl) ?_
    refine RW.nil ?_
    refine awp_cond rfl (fun h2 => ?_) (fun h2 => ?_)
    · try simp only [decide_eq_true_eq, decide_eq_false_iff_not, beq_iff_eq, bne_iff_ne, bne_eq_false_iff_eq, beq_eq_false_iff_ne, Bool.not_eq_true, Bool.not_eq_false, Bool.not_eq_true', Bool.not_eq_false', ne_eq] at h2
      refine awp_rw rfl ?_
      refine RW.op rfl rfl (eff_move (v := .t _) rfl rfl rfl) ?_
      refine RW.op rfl rfl (eff_iop rfl rfl rfl rfl (iadd (by omega))) ?_
      refine RW.op rfl rfl (eff_assign (v := .t _) rfl rfl rfl) ?_
      refine RW.nil ?_
      first
        | exact ⟨_, (by omega : hi - (((lo + hi) / 2) + 1) < hi - lo), _, weak_keep (n := 54) (fr' := [(0, .t (encIs l)), (1, .t (encI x)), (6, .t (encI l.length)), (7, .t (encI (((((lo + hi) / 2) + 1) : Nat) : Int))), (8, .t (encI ((hi : Nat) : Int)))]) (st' := []) ⟨rfl, rfl, rfl, rfl, rfl, rfl, rfl, rfl, rfl, rfl, trivial⟩ trivial, (((lo + hi) / 2) + 1), hi, by omega, by omega, take_lt hp (by omega) h2, hz, rfl, rfl⟩
        | exact ⟨_, (by omega : ((lo + hi) / 2) - lo < hi - lo), _, weak_keep (n := 54) (fr' := [(0, .t (encIs l)), (1, .t (encI x)), (6, .t (encI l.length)), (7, .t (encI ((lo : Nat) : Int))), (8, .t (encI ((((lo + hi) / 2) : Nat) : Int)))]) (st' := []) ⟨rfl, rfl, rfl, rfl, rfl, rfl, rfl, rfl, rfl, rfl, trivial⟩ trivial, lo, ((lo + hi) / 2), by omega, by omega, hy, (fun _ => h2), rfl, rfl⟩
    · try simp only [decide_eq_true_eq, decide_eq_false_iff_not, beq_iff_eq, bne_iff_ne, bne_eq_false_iff_eq, beq_eq_false_iff_ne, Bool.not_eq_true, Bool.not_eq_false, Bool.not_eq_true', Bool.not_eq_false', ne_eq] at h2
      refine awp_rw rfl ?_
      refine RW.op rfl rfl (eff_move (v := .t _) rfl rfl rfl) ?_
      refine RW.op rfl rfl (eff_assign (v := .t _) rfl rfl rfl) ?_
      refine RW.nil ?_
      first
        | exact ⟨_, (by omega : hi - (((lo + hi) / 2) + 1) < hi - lo), _, weak_keep (n := 54) (fr' := [(0, .t (encIs l)), (1, .t (encI x)), (6, .t (encI l.length)), (7, .t (encI (((((lo + hi) / 2) + 1) : Nat) : Int))), (8, .t (encI ((hi : Nat) : Int)))]) (st' := []) ⟨rfl, rfl, rfl, rfl, rfl, rfl, rfl, rfl, rfl, rfl, trivial⟩ trivial, (((lo + hi) / 2) + 1), hi, by omega, by omega, take_lt hp (by omega) h2, hz, rfl, rfl⟩
        | exact ⟨_, (by omega : ((lo + hi) / 2) - lo < hi - lo), _, weak_keep (n := 54) (fr' := [(0, .t (encIs l)), (1, .t (encI x)), (6, .t (encI l.length)), (7, .t (encI ((lo : Nat) : Int))), (8, .t (encI ((((lo + hi) / 2) : Nat) : Int)))]) (st' := []) ⟨rfl, rfl, rfl, rfl, rfl, rfl, rfl, rfl, rfl, rfl, trivial⟩ trivial, lo, ((lo + hi) / 2), by omega, by omega, hy, (fun _ => h2), rfl, rfl⟩
  · try simp only [decide_eq_true_eq, decide_eq_false_iff_not, beq_iff_eq, bne_iff_ne, bne_eq_false_iff_eq, beq_eq_false_iff_ne, Bool.not_eq_true, Bool.not_eq_false, Bool.not_eq_true', Bool.not_eq_false', ne_eq] at h1
    refine awp_exit ?_
    refine awp_seq ?_
    refine awp_rw rfl ?_
    refine RW.op rfl rfl (eff_move (v := .t _) rfl rfl rfl) ?_
    refine RW.op rfl rfl (eff_move (v := .t _) rfl rfl rfl) ?_
    refine RW.op rfl rfl (eff_move (v := .t _) rfl rfl rfl) ?_
    refine RW.op rfl rfl (eff_iop rfl rfl rfl rfl rfl) ?_
    refine RW.op rfl rfl (eff_move (v := .t _) rfl rfl rfl) ?_
    refine RW.split 35 rfl (fun h3 => ?_) (fun h3 => ?_)
    · try simp only [decide_eq_true_eq, decide_eq_false_iff_not, beq_iff_eq, bne_iff_ne, bne_eq_false_iff_eq, beq_eq_false_iff_ne, Bool.not_eq_true, Bool.not_eq_false, Bool.not_eq_true', Bool.not_eq_false', ne_eq] at h3
      refine RW.gop rfl rfl rfl rfl rfl rfl (eff_move (v := .t _) rfl rfl rfl) ?_
      refine RW.gop rfl rfl rfl rfl rfl rfl (eff_move (v := .t _) rfl rfl rfl) ?_
      refine RW.gop rfl rfl rfl rfl rfl rfl (eff_indexM rfl rfl te30 rfl rfl rfl (by first | assumption | exact List.getElem?_eq_getElem (by omega)) rfl (by decide)) ?_
      refine RW.gop rfl rfl rfl rfl rfl rfl (eff_loadW1 rfl rfl ti3 rfl rfl) ?_
      refine RW.gop rfl rfl rfl rfl rfl rfl (eff_move (v := .t _) rfl rfl rfl) ?_
      refine RW.gop rfl rfl rfl rfl rfl rfl (eff_iop rfl rfl rfl rfl rfl) ?_
      refine RW.gop rfl rfl rfl rfl rfl rfl (eff_move (v := .t _) rfl rfl rfl) ?_
      refine RW.split 42 rfl (fun h4 => ?_) (fun h4 => ?_)
      · try simp only [decide_eq_true_eq, decide_eq_false_iff_not, beq_iff_eq, bne_iff_ne, bne_eq_false_iff_eq, beq_eq_false_iff_ne, Bool.not_eq_true, Bool.not_eq_false, Bool.not_eq_true', Bool.not_eq_false', ne_eq] at h4
        refine RW.gskip rfl rfl rfl rfl rfl (by decide) ?_
        refine RW.gskip rfl rfl rfl rfl rfl (by decide) ?_
        refine RW.gskip rfl rfl rfl rfl rfl (by decide) ?_
        refine RW.gskip rfl rfl rfl rfl rfl (by decide) ?_
        refine RW.gskip rfl rfl rfl rfl rfl (by decide) ?_
        refine RW.gskip rfl rfl rfl rfl rfl (by decide) ?_
        refine RW.gundef rfl rfl rfl rfl rfl ?_
        refine RW.gundef rfl rfl rfl rfl rfl ?_
        refine RW.gskip rfl rfl rfl rfl rfl (by decide) ?_
        refine RW.gop rfl rfl rfl rfl rfl rfl (eff_pick (v := .t _) rfl rfl rfl rfl) ?_
        refine RW.op rfl rfl (eff_pick (v := .t _) rfl rfl rfl rfl) ?_
        refine RW.op rfl rfl (eff_assign (v := .t _) rfl rfl rfl) ?_
        refine RW.op rfl rfl (eff_assign (v := .t _) rfl rfl rfl) ?_
        refine RW.nil ?_
        refine awp_ret ?_
        have h4p : lo = hi → ∀ h : lo < l.length, ¬ l[lo] < x := fun e => by subst e; exact hz
        rw [lowerB_eq x l lo (by omega) hy (fun h => h4p (by omega) h)]
        rw [show decide (x ∈ l) = true from decide_eq_true (h4 ▸ List.getElem_mem _)]
        exact ⟨Or.inr rfl, [_, _], ⟨.tmp (.t _), .tmp (.t _), trivial⟩, .refl _⟩
      · try simp only [decide_eq_true_eq, decide_eq_false_iff_not, beq_iff_eq, bne_iff_ne, bne_eq_false_iff_eq, beq_eq_false_iff_ne, Bool.not_eq_true, Bool.not_eq_false, Bool.not_eq_true', Bool.not_eq_false', ne_eq] at h4
        refine RW.gop rfl rfl rfl rfl rfl rfl (eff_move (v := .t _) rfl rfl rfl) ?_
        refine RW.gop rfl rfl rfl rfl rfl rfl (eff_move (v := .t _) rfl rfl rfl) ?_
        refine RW.gop rfl rfl rfl rfl rfl rfl (eff_indexM rfl rfl te30 rfl rfl rfl (by first | assumption | exact List.getElem?_eq_getElem (by omega)) rfl (by decide)) ?_
        refine RW.gop rfl rfl rfl rfl rfl rfl (eff_loadW1 rfl rfl ti3 rfl rfl) ?_
        refine RW.gop rfl rfl rfl rfl rfl rfl (eff_callT (isNaN62_ret _) co51 rfl rfl rfl rfl) ?_
        refine RW.gop rfl rfl rfl rfl rfl rfl (eff_move (v := .t _) rfl rfl rfl) ?_
        refine RW.gskip rfl rfl rfl rfl rfl (by decide) ?_
        refine RW.gskip rfl rfl rfl rfl rfl (by decide) ?_
        refine RW.gop rfl rfl rfl rfl rfl rfl (eff_pick (v := .t _) rfl rfl rfl rfl) ?_
        refine RW.gop rfl rfl rfl rfl rfl rfl (eff_pick (v := .t _) rfl rfl rfl rfl) ?_
        refine RW.op rfl rfl (eff_pick (v := .t _) rfl rfl rfl rfl) ?_
        refine RW.op rfl rfl (eff_assign (v := .t _) rfl rfl rfl) ?_
        refine RW.op rfl rfl (eff_assign (v := .t _) rfl rfl rfl) ?_
        refine RW.nil ?_
        refine awp_ret ?_
        have h4p : lo = hi → ∀ h : lo < l.length, ¬ l[lo] < x := fun e => by subst e; exact hz
        rw [lowerB_eq x l lo (by omega) hy (fun h => h4p (by omega) h)]
        rw [show decide (x ∈ l) = false from decide_eq_false (not_mem_of hp hy (fun h => by have := h4p (by omega) h; omega))]
        exact ⟨Or.inr rfl, [_, _], ⟨.tmp (.t _), .tmp (.t _), trivial⟩, .refl _⟩
    · try simp only [decide_eq_true_eq, decide_eq_false_iff_not, beq_iff_eq, bne_iff_ne, bne_eq_false_iff_eq, beq_eq_false_iff_ne, Bool.not_eq_true, Bool.not_eq_false, Bool.not_eq_true', Bool.not_eq_false', ne_eq] at h3
      refine RW.gskip rfl rfl rfl rfl rfl (by decide) ?_
      refine RW.gskip rfl rfl rfl rfl rfl (by decide) ?_
      refine RW.gskip rfl rfl rfl rfl rfl (by decide) ?_
      refine RW.gskip rfl rfl rfl rfl rfl (by decide) ?_
      refine RW.gskip rfl rfl rfl rfl rfl (by decide) ?_
      refine RW.gskip rfl rfl rfl rfl rfl (by decide) ?_
      refine RW.gskip rfl rfl rfl rfl rfl (by decide) ?_
      refine RW.gundef rfl rfl rfl rfl rfl ?_
      refine RW.gundef rfl rfl rfl rfl rfl ?_
      refine RW.gundef rfl rfl rfl rfl rfl ?_
      refine RW.gundef rfl rfl rfl rfl rfl ?_
      refine RW.gundef rfl rfl rfl rfl rfl ?_
      refine RW.gundef rfl rfl rfl rfl rfl ?_
      refine RW.gundef rfl rfl rfl rfl rfl ?_
      refine RW.gundef rfl rfl rfl rfl rfl ?_
      refine RW.gundef rfl rfl rfl rfl rfl ?_
      refine RW.gskip rfl rfl rfl rfl rfl (by decide) ?_
      refine RW.op rfl rfl (eff_pick (v := .t _) rfl rfl rfl rfl) ?_
      refine RW.op rfl rfl (eff_assign (v := .t _) rfl rfl rfl) ?_
      refine RW.op rfl rfl (eff_assign (v := .t _) rfl rfl rfl) ?_
      refine RW.nil ?_
      refine awp_ret ?_
      have h4p : lo = hi → ∀ h : lo < l.length, ¬ l[lo] < x := fun e => by subst e; exact hz
      rw [lowerB_eq x l lo (by omega) hy (fun h => h4p (by omega) h)]
      rw [show decide (x ∈ l) = false from decide_eq_false (not_mem_of hp hy (fun h => by omega))]
      exact ⟨Or.inr rfl, [_, _], ⟨.tmp (.t _), .tmp (.t _), trivial⟩, .refl _⟩

end Go.Tv.D27

end
section
open Go Go.Tv Go.Proofs
namespace Go.Tv.D27
set_option maxRecDepth 20000
set_option linter.unusedSimpArgs false
set_option linter.unusedVariables false
theorem has48_ret (l : List Int) (x : Int) (hl : l.length ≤ 1000000) (hp : l.Pairwise (· < ·)) : Ret Tryd.prog 24 [encIs l, encI x] (.bool (decide (x ∈ l))) := by
  refine ret_of_awp Tryd.func24 rfl (Nat.le_of_ble_eq_true rfl) ?_
  refine awp_seq ?_
  refine awp_rw rfl ?_
  refine RW.op rfl rfl (eff_assign (v := .t _) rfl rfl rfl) ?_
  refine RW.nil ?_
  refine awp_seq ?_
  refine awp_rw rfl ?_
  refine RW.op rfl rfl (eff_move (v := .t _) rfl rfl rfl) ?_
  refine RW.op rfl rfl (eff_move (v := .t _) rfl rfl rfl) ?_
  refine RW.op rfl rfl (eff_callT (search_ret l x hl hp) co39 rfl rfl rfl rfl) ?_
  refine RW.op rfl rfl (eff_move (v := .t _) rfl rfl rfl) ?_
  refine RW.op rfl rfl (eff_extract rfl rfl rfl rfl) ?_
  refine RW.op rfl rfl (eff_extract rfl rfl rfl rfl) ?_
  refine RW.op rfl rfl (eff_assign (v := .t _) rfl rfl rfl) ?_
  refine RW.op rfl rfl (eff_assign (v := .t _) rfl rfl rfl) ?_
  refine RW.nil ?_
  refine awp_seq ?_
  refine awp_rw rfl ?_
  refine RW.op rfl rfl (eff_move (v := .t _) rfl rfl rfl) ?_
  refine RW.op rfl rfl (eff_assign (v := .t _) rfl rfl rfl) ?_
  refine RW.nil ?_
  refine awp_ret ?_
  first
    | exact ⟨Or.inr rfl, [_], ⟨.tmp (.t _), trivial⟩, .refl _⟩
    | exact ⟨Or.inr rfl, [_], ⟨.tmp (.t _), trivial⟩, (by repeat' first | exact trivial | exact Wk.refl _ | exact Wk.sl _ | refine And.intro ?_ ?_ | refine Wk.tupP ?_ | refine Wk.aggP ?_)⟩
    | exact ⟨Or.inr rfl, [_], ⟨.tmp (Res.ownT rfl rfl rfl rfl), trivial⟩, .refl _⟩
    | exact ⟨Or.inr rfl, [_], ⟨.tmp (Res.ownT rfl rfl rfl rfl), trivial⟩, (by repeat' first | exact trivial | exact Wk.refl _ | exact Wk.sl _ | refine And.intro ?_ ?_ | refine Wk.tupP ?_ | refine Wk.aggP ?_)⟩

theorem closure57_ret (b : Bundle) (n : Int) : Ret Tryd.prog 48 [encB b, .ptr [encI n]] (.bool (b.id == n)) := by
  refine ret_of_awp Tryd.func48 rfl (Nat.le_of_ble_eq_true rfl) ?_
  refine awp_seq ?_
  refine awp_rw rfl ?_
  refine RW.new rfl rfl (eff_boxK (v := .t _) (k := 8) (id := 2) rfl rfl rfl rfl rfl rfl) ?_
  refine RW.op rfl rfl (eff_assign (v := .t _) rfl rfl rfl) ?_
  refine RW.nil ?_
  refine awp_seq ?_
  refine awp_rw rfl ?_
  refine RW.op rfl rfl (eff_fieldAddr rfl rfl tf40_0 (by decide) rfl rfl rfl (Nat.le_of_ble_eq_true rfl)) ?_
  refine RW.op rfl rfl (eff_load (y := .t _) rfl rfl ti3 rfl (.one rfl rfl rfl rfl)) ?_
  refine RW.op rfl rfl (eff_loadT1 rfl rfl ti3 rfl rfl) ?_
  refine RW.op rfl rfl (eff_iop rfl rfl rfl rfl rfl) ?_
  refine RW.op rfl rfl (eff_assign (v := .t _) rfl rfl rfl) ?_
  refine RW.nil ?_
  refine awp_ret ?_
  first
    | exact ⟨Or.inr rfl, [_], ⟨.tmp (.t _), trivial⟩, .refl _⟩
    | exact ⟨Or.inr rfl, [_], ⟨.tmp (.t _), trivial⟩, (by repeat' first | exact trivial | exact Wk.refl _ | exact Wk.sl _ | refine And.intro ?_ ?_ | refine Wk.tupP ?_ | refine Wk.aggP ?_)⟩
    | exact ⟨Or.inr rfl, [_], ⟨.tmp (Res.ownT rfl rfl rfl rfl), trivial⟩, .refl _⟩
    | exact ⟨Or.inr rfl, [_], ⟨.tmp (Res.ownT rfl rfl rfl rfl), trivial⟩, (by repeat' first | exact trivial | exact Wk.refl _ | exact Wk.sl _ | refine And.intro ?_ ?_ | refine Wk.tupP ?_ | refine Wk.aggP ?_)⟩

theorem indexFunc_ret (l : List Bundle) (n : Int) (hl : l.length ≤ 1000000) : Ret Tryd.prog 47 [.sl (l.map encB) false, .fn 48 [.ptr [encI n]]] (encI (findIx l n)) := by
  refine ret_of_awp Tryd.func47 rfl (Nat.le_of_ble_eq_true rfl) ?_
  refine awp_seq ?_
  refine awp_rw rfl ?_
  refine RW.op rfl rfl (eff_assign (v := .t _) rfl rfl rfl) ?_
  refine RW.nil ?_
  refine awp_seq ?_
  refine awp_seq ?_
  refine awp_rw rfl ?_
  refine RW.op rfl rfl (eff_move (v := .t _) rfl rfl rfl) ?_
  refine RW.op rfl rfl (eff_lenM rfl rfl te29 rfl) ?_
  refine RW.op rfl rfl (eff_move (v := .t _) rfl rfl rfl) ?_
  refine RW.nil ?_
  refine awp_block ?_
  refine awp_loopW (fun m s => ∃ (i : Nat), (i ≤ l.length) ∧ (∀ b, b ∈ l.take i → b.id ≠ n) ∧ m = l.length - i ∧ s = ⟨19, [(0, .t (.sl (l.map encB) false)), (1, .t (.fn 48 [.ptr [encI n]])), (7, .t (encI l.length)), (8, .t (encI (i : Nat)))], []⟩) (_) (⟨_, weak_keep (n := 19) (fr' := [(0, .t (.sl (l.map encB) false)), (1, .t (.fn 48 [.ptr [encI n]])), (7, .t (encI l.length)), (8, .t (encI (0 : Nat)))]) (st' := []) ⟨rfl, rfl, rfl, rfl, rfl, rfl, rfl, rfl, trivial⟩ trivial, 0, (by omega), (by simp), rfl, rfl⟩) ?_
  rintro m s ⟨i, hi, ha, rfl, rfl⟩
  refine awp_seq ?_
  refine awp_rw rfl ?_
  refine RW.op rfl rfl (eff_iop rfl rfl rfl rfl rfl) ?_
  refine RW.nil ?_
  refine awp_seq ?_
  refine awp_cond rfl (fun h1 => ?_) (fun h1 => ?_)
  · try simp only [decide_eq_true_eq, decide_eq_false_iff_not, beq_iff_eq, bne_iff_ne, bne_eq_false_iff_eq, beq_eq_false_iff_ne, Bool.not_eq_true, Bool.not_eq_false, Bool.not_eq_true', Bool.not_eq_false', ne_eq] at h1
    refine awp_skip ?_
    refine awp_seq ?_
    refine awp_block ?_
    refine awp_seq ?_
    refine awp_rw rfl ?_
    refine RW.op rfl rfl (eff_move (v := .t _) rfl rfl rfl) ?_
    refine RW.op rfl rfl (eff_assign (v := .t _) rfl rfl rfl) ?_
    refine RW.nil ?_
    refine awp_seq ?_
    refine awp_rw rfl ?_
    refine RW.op rfl rfl (eff_move (v := .t _) rfl rfl rfl) ?_
    refine RW.op rfl rfl (eff_move (v := .t _) rfl rfl rfl) ?_
    refine RW.op rfl rfl (eff_move (v := .t _) rfl rfl rfl) ?_
    refine RW.op rfl rfl (eff_indexM rfl rfl te29 rfl rfl rfl (by first | assumption | exact List.getElem?_eq_getElem (by omega)) rfl (by decide)) ?_
    refine RW.op rfl rfl (eff_loadW rfl rfl ti40 rfl rfl rfl) ?_
    refine RW.op rfl rfl (eff_call (f := 48) (xs := [_]) (ys := [_]) (caps := [.ptr [encI n]]) rfl rfl rfl co48 rfl (WkL.cons (.refl _) .nil) (closure57_ret _ _)) ?_
    refine RW.nil ?_
    refine awp_cond rfl (fun h2 => ?_) (fun h2 => ?_)
    · try simp only [decide_eq_true_eq, decide_eq_false_iff_not, beq_iff_eq, bne_iff_ne, bne_eq_false_iff_eq, beq_eq_false_iff_ne, Bool.not_eq_true, Bool.not_eq_false, Bool.not_eq_true', Bool.not_eq_false', ne_eq] at h2
      refine awp_seq ?_
      refine awp_rw rfl ?_
      refine RW.op rfl rfl (eff_move (v := .t _) rfl rfl rfl) ?_
      refine RW.op rfl rfl (eff_assign (v := .t _) rfl rfl rfl) ?_
      refine RW.nil ?_
      refine awp_ret ?_
      rw [findIx_hit (by omega) ha h2]
      exact ⟨Or.inr rfl, [_], ⟨.tmp (.t _), trivial⟩, .refl _⟩
    · try simp only [decide_eq_true_eq, decide_eq_false_iff_not, beq_iff_eq, bne_iff_ne, bne_eq_false_iff_eq, beq_eq_false_iff_ne, Bool.not_eq_true, Bool.not_eq_false, Bool.not_eq_true', Bool.not_eq_false', ne_eq] at h2
      refine awp_skip ?_
      refine awp_rw rfl ?_
      refine RW.op rfl rfl (eff_iop rfl rfl rfl rfl (iadd (by omega))) ?_
      refine RW.op rfl rfl (eff_move (v := .t _) rfl rfl rfl) ?_
      refine RW.nil ?_
      refine ⟨_, ?_, _, weak_keep (n := 19) (fr' := [(0, .t (.sl (l.map encB) false)), (1, .t (.fn 48 [.ptr [encI n]])), (7, .t (encI l.length)), (8, .t (encI ((i + 1) : Nat)))]) (st' := []) ⟨rfl, rfl, rfl, rfl, rfl, rfl, rfl, rfl, trivial⟩ trivial, i + 1, (by omega), (by intro b hb; rcases (mem_take_succ (by omega)).1 hb with h | h; exact ha b h; rw [h]; exact h2), rfl, rfl⟩
      omega
  · try simp only [decide_eq_true_eq, decide_eq_false_iff_not, beq_iff_eq, bne_iff_ne, bne_eq_false_iff_eq, beq_eq_false_iff_ne, Bool.not_eq_true, Bool.not_eq_false, Bool.not_eq_true', Bool.not_eq_false', ne_eq] at h1
    refine awp_exit ?_
    refine awp_seq ?_
    refine awp_rw rfl ?_
    refine RW.op rfl rfl (eff_assign (v := .t _) rfl rfl rfl) ?_
    refine RW.nil ?_
    refine awp_ret ?_
    have hi2 : i = l.length := by omega
    subst hi2
    rw [List.take_length] at ha
    rw [findIx_none ha]
    exact ⟨Or.inr rfl, [_], ⟨.tmp (.t _), trivial⟩, .refl _⟩

theorem find44_ret (S : Store) (n : Int) (hS : SOK S) : Ret Tryd.prog 33 [encS S, encI n] (encI (findIx S.bundles n)) := by
  refine ret_of_awp Tryd.func33 rfl (Nat.le_of_ble_eq_true rfl) ?_
  refine awp_seq ?_
  refine awp_rw rfl ?_
  refine RW.new rfl rfl (eff_boxK (v := .t _) (k := 4) (id := 2) rfl rfl rfl rfl rfl rfl) ?_
  refine RW.new rfl rfl (eff_boxK (v := .t _) (k := 1) (id := 3) rfl rfl rfl rfl rfl rfl) ?_
  refine RW.op rfl rfl (eff_assign (v := .t _) rfl rfl rfl) ?_
  refine RW.nil ?_
  refine awp_seq ?_
  refine awp_rw rfl ?_
  refine RW.op rfl rfl (eff_fieldAddr rfl rfl tf32_1 (by decide) rfl rfl rfl (Nat.le_of_ble_eq_true rfl)) ?_
  refine RW.op rfl rfl (eff_load (y := .t _) rfl rfl ti29 rfl (.one rfl rfl rfl rfl)) ?_
  refine RW.op rfl rfl (eff_makeFunc rfl rfl rfl rfl) ?_
  refine RW.op rfl rfl (eff_callB (ys := [_, _]) (caps := []) rfl rfl rfl (.t _) co47 (ResL.cons (.t _) (.refl _) (ResL.cons (.fn 48 [_] [.ptr [encI n]] rfl (ResP.get _ _ ⟨.ptr 3 0 0 0 _ _ [encI n] rfl rfl rfl (Nat.le_refl _) (fun m e x h1 h2 => by cases m with | zero => (simp at h2; subst h2; cases h1; exact .t _) | succ m => simp at h2), trivial⟩)) (.refl _) .nil)) (by rw [List.append_nil]; exact indexFunc_ret S.bundles n (by have := hS.1; omega)) rfl) ?_
  refine RW.op rfl rfl (eff_assign (v := .t _) rfl rfl rfl) ?_
  refine RW.nil ?_
  refine awp_ret ?_
  first
    | exact ⟨Or.inr rfl, [_], ⟨.tmp (.t _), trivial⟩, .refl _⟩
    | exact ⟨Or.inr rfl, [_], ⟨.tmp (.t _), trivial⟩, (by repeat' first | exact trivial | exact Wk.refl _ | exact Wk.sl _ | refine And.intro ?_ ?_ | refine Wk.tupP ?_ | refine Wk.aggP ?_)⟩
    | exact ⟨Or.inr rfl, [_], ⟨.tmp (Res.ownT rfl rfl rfl rfl), trivial⟩, .refl _⟩
    | exact ⟨Or.inr rfl, [_], ⟨.tmp (Res.ownT rfl rfl rfl rfl), trivial⟩, (by repeat' first | exact trivial | exact Wk.refl _ | exact Wk.sl _ | refine And.intro ?_ ?_ | refine Wk.tupP ?_ | refine Wk.aggP ?_)⟩

end Go.Tv.D27

end
section
open Go Go.Tv Go.Proofs
namespace Go.Tv.D27
set_option maxRecDepth 20000
set_option linter.unusedSimpArgs false
set_option linter.unusedVariables false
theorem del_els (L : List Tr) (z : Tr) (i : Nat) (hi : i < L.length) :
    (((L.map AV.t).take i ++ (L.drop (i + 1)).map AV.t ++ (L.map AV.t).drop (i + ((L.drop (i + 1)).map AV.t).length)).take (0 + (L.length - 1)) ++ List.replicate (L.length - (L.length - 1)) (AV.t z) ++
      ((L.map AV.t).take i ++ (L.drop (i + 1)).map AV.t ++ (L.map AV.t).drop (i + ((L.drop (i + 1)).map AV.t).length)).drop (0 + (L.length - 1) + (L.length - (L.length - 1)))) = (L.take i ++ L.drop (i + 1) ++ [z]).map AV.t := by
  have e1 : L.length - (L.length - 1) = 1 := by omega
  have hA : ((L.map AV.t).take i ++ (L.drop (i + 1)).map AV.t).length = L.length - 1 := by simp; omega
  have hB : ((L.map AV.t).take i ++ (L.drop (i + 1)).map AV.t ++ (L.map AV.t).drop (i + ((L.drop (i + 1)).map AV.t).length)).length = L.length := by simp; omega
  have t1 : ((L.map AV.t).take i ++ (L.drop (i + 1)).map AV.t ++ (L.map AV.t).drop (i + ((L.drop (i + 1)).map AV.t).length)).take (0 + (L.length - 1)) = (L.map AV.t).take i ++ (L.drop (i + 1)).map AV.t := by
    rw [Nat.zero_add, ← hA]; exact List.take_left
  have t2 : ((L.map AV.t).take i ++ (L.drop (i + 1)).map AV.t ++ (L.map AV.t).drop (i + ((L.drop (i + 1)).map AV.t).length)).drop (0 + (L.length - 1) + (L.length - (L.length - 1))) = [] := List.drop_eq_nil_of_le (by rw [hB]; omega)
  rw [t1, t2, e1]
  simp [List.map_take]

theorem delete59_retG (L : List Tr) (g i : Nat) (hl : L.length ≤ 1000000) (hi : i < L.length) : RetG Tryd.prog 49 [(0, some ⟨1, 3, g, L.map .t⟩)] [.own 0 g 0 L.length, .t (.int .i64 (i : Nat)), .t (.int .i64 ((i + 1 : Nat) : Int))] [(0, some ⟨1, 3, g + 1, (L.take i ++ L.drop (i + 1) ++ [z3]).map AV.t⟩)] (.own 0 (g + 1) 0 (L.length - 1)) := by
  refine retG_of_awp Tryd.func49 rfl (Nat.le_of_ble_eq_true rfl) ?_
  refine awp_seq ?_
  refine awp_rw rfl ?_
  refine RW.op rfl rfl (eff_assign (v := .t _) rfl rfl rfl) ?_
  refine RW.nil ?_
  refine awp_seq ?_
  refine awp_rw rfl ?_
  refine RW.op rfl rfl (eff_move (v := .own _ _ _ _) rfl rfl rfl) ?_
  refine RW.op rfl rfl (eff_move (v := .t _) rfl rfl rfl) ?_
  refine RW.op rfl rfl (eff_move (v := .t _) rfl rfl rfl) ?_
  refine RW.op rfl rfl (eff_move (v := .own _ _ _ _) rfl rfl rfl) ?_
  refine RW.op rfl rfl (eff_len rfl rfl te30 rfl rfl rfl) ?_
  refine RW.op rfl rfl (eff_slice3 (l := some i) (h := i + 1) (m := L.length) rfl rfl te30 rfl rfl rfl rfl (.yes rfl rfl) (.yes rfl rfl) (.yes rfl rfl) (Nat.le_succ _) (by omega) (by simp)) ?_
  refine RW.nil ?_
  refine awp_seq ?_
  refine awp_seq ?_
  refine awp_rw rfl ?_
  refine RW.op rfl rfl (eff_move (v := .t _) rfl rfl rfl) ?_
  refine RW.op rfl rfl (eff_move (v := .t _) rfl rfl rfl) ?_
  refine RW.op rfl rfl (eff_iop (r := .bool false) rfl rfl rfl rfl (by simp [iop]; omega)) ?_
  refine RW.nil ?_
  refine awp_cond rfl (fun h => nomatch h) (fun _ => ?_)
  refine awp_skip ?_
  refine awp_seq ?_
  refine awp_rw rfl ?_
  refine RW.op rfl rfl (eff_move (v := .own _ _ _ _) rfl rfl rfl) ?_
  refine RW.op rfl rfl (eff_len rfl rfl te30 rfl rfl rfl) ?_
  refine RW.op rfl rfl (eff_assign (v := .t _) rfl rfl rfl) ?_
  refine RW.nil ?_
  refine awp_seq ?_
  refine awp_rd [(some 20, []), (some 21, []), (some 22, []), (some 23, []), (some 24, []), (some 25, []), (some 26, [0]), (some 0, [])] [[], [], [0, 1], [], [], [3, 4], [0, 1, 2, 3, 4, 5], [0, 1, 2, 3, 4, 5, 6]] tm rfl rfl rfl rfl ?_
  refine RD.op rfl rfl rfl (eff_move (v := .own _ _ _ _) rfl rfl rfl) ?_
  refine RD.op rfl rfl rfl (eff_move (v := .t _) rfl rfl rfl) ?_
  refine RD.op rfl rfl rfl (eff_slice (l := none) (h := some i) rfl rfl te30 rfl rfl rfl rfl .no (.yes rfl rfl) (Nat.zero_le _) (by simp; omega)) ?_
  refine RD.op rfl rfl rfl (eff_move (v := .own _ _ _ _) rfl rfl rfl) ?_
  refine RD.op rfl rfl rfl (eff_move (v := .t _) rfl rfl rfl) ?_
  refine RD.op rfl rfl rfl (eff_slice (l := some (i + 1)) (h := none) rfl rfl te30 rfl rfl rfl rfl (.yes rfl rfl) .no (by simp; omega) (by simp)) ?_
  refine RD.new rfl rfl rfl (eff_appendIn (id := 0) (g := g) (i := i) (ys := (L.drop (i + 1)).map AV.t) rfl rfl ta30 rfl rfl rfl rfl (srcOwn' rfl rfl rfl rfl (by simp; omega) (by rw [List.take_of_length_le (by simp)]; simp [List.map_drop])) (by simp; omega) (by simp; omega) (by simp; omega)) ?_
  refine RD.op rfl rfl rfl (eff_assign (v := .own _ _ _ _) rfl rfl rfl) ?_
  refine RD.nil ?_
  refine awp_seq ?_
  refine awp_rw rfl ?_
  refine RW.op rfl rfl (eff_move (v := .own _ _ _ _) rfl rfl rfl) ?_
  refine RW.op rfl rfl (eff_move (v := .own _ _ _ _) rfl rfl rfl) ?_
  refine RW.op rfl rfl (eff_len rfl rfl te30 rfl rfl rfl) ?_
  refine RW.op rfl rfl (eff_move (v := .t _) rfl rfl rfl) ?_
  refine RW.op rfl rfl (eff_slice (l := some (L.length - 1)) (h := some L.length) rfl rfl te30 rfl rfl rfl rfl (.yes rfl (by simp; omega)) (.yes rfl rfl) (by simp) (by simp; omega)) ?_
  refine RW.store rfl rfl (eff_clear (id := 0) rfl rfl te30 tz3 rfl (by decide) rfl rfl rfl rfl (by simp; omega)) ?_
  refine RW.nil ?_
  refine awp_seq ?_
  refine awp_rw rfl ?_
  refine RW.op rfl rfl (eff_move (v := .own _ _ _ _) rfl rfl rfl) ?_
  refine RW.op rfl rfl (eff_assign (v := .own _ _ _ _) rfl rfl rfl) ?_
  refine RW.nil ?_
  refine awp_ret ?_
  refine ⟨Or.inr rfl, [_], [.own 0 (g + 1) 0 (L.length - 1)], ⟨.tmp rfl, trivial⟩, rfl, Weak.trans (s1 := ⟨1, [(0, .own 0 g 0 (L.length - 1))], [(0, some ⟨1, 3, g, (L.take i ++ L.drop (i + 1) ++ [z3]).map AV.t⟩)]⟩) ?_ weak_bump, rfl⟩
  exact weak_keep ⟨(by show AV.own 0 g 0 _ = AV.own 0 g 0 (L.length - 1); congr 1; simp; omega), rfl, trivial⟩ ⟨congrArg (fun e => some (Ob.mk 1 3 g e)) (del_els L z3 i hi), okE_t, trivial⟩

theorem delete45_retG (L : List Tr) (g i : Nat) (hl : L.length ≤ 1000000) (hi : i < L.length) : RetG Tryd.prog 34 [(0, some ⟨8, 40, g, L.map .t⟩)] [.own 0 g 0 L.length, .t (.int .i64 (i : Nat)), .t (.int .i64 ((i + 1 : Nat) : Int))] [(0, some ⟨8, 40, g + 1, (L.take i ++ L.drop (i + 1) ++ [z40]).map AV.t⟩)] (.own 0 (g + 1) 0 (L.length - 1)) := by
  refine retG_of_awp Tryd.func34 rfl (Nat.le_of_ble_eq_true rfl) ?_
  refine awp_seq ?_
  refine awp_rw rfl ?_
  refine RW.op rfl rfl (eff_assign (v := .t _) rfl rfl rfl) ?_
  refine RW.nil ?_
  refine awp_seq ?_
  refine awp_rw rfl ?_
  refine RW.op rfl rfl (eff_move (v := .own _ _ _ _) rfl rfl rfl) ?_
  refine RW.op rfl rfl (eff_move (v := .t _) rfl rfl rfl) ?_
  refine RW.op rfl rfl (eff_move (v := .t _) rfl rfl rfl) ?_
  refine RW.op rfl rfl (eff_move (v := .own _ _ _ _) rfl rfl rfl) ?_
  refine RW.op rfl rfl (eff_len rfl rfl te29 rfl rfl rfl) ?_
  refine RW.op rfl rfl (eff_slice3 (l := some i) (h := i + 1) (m := L.length) rfl rfl te29 rfl rfl rfl rfl (.yes rfl rfl) (.yes rfl rfl) (.yes rfl rfl) (Nat.le_succ _) (by omega) (by simp)) ?_
  refine RW.nil ?_
  refine awp_seq ?_
  refine awp_seq ?_
  refine awp_rw rfl ?_
  refine RW.op rfl rfl (eff_move (v := .t _) rfl rfl rfl) ?_
  refine RW.op rfl rfl (eff_move (v := .t _) rfl rfl rfl) ?_
  refine RW.op rfl rfl (eff_iop (r := .bool false) rfl rfl rfl rfl (by simp [iop]; omega)) ?_
  refine RW.nil ?_
  refine awp_cond rfl (fun h => nomatch h) (fun _ => ?_)
  refine awp_skip ?_
  refine awp_seq ?_
  refine awp_rw rfl ?_
  refine RW.op rfl rfl (eff_move (v := .own _ _ _ _) rfl rfl rfl) ?_
  refine RW.op rfl rfl (eff_len rfl rfl te29 rfl rfl rfl) ?_
  refine RW.op rfl rfl (eff_assign (v := .t _) rfl rfl rfl) ?_
  refine RW.nil ?_
  refine awp_seq ?_
  refine awp_rd [(some 20, []), (some 21, []), (some 22, []), (some 23, []), (some 24, []), (some 25, []), (some 26, [0]), (some 0, [])] [[], [], [0, 1], [], [], [3, 4], [0, 1, 2, 3, 4, 5], [0, 1, 2, 3, 4, 5, 6]] tm rfl rfl rfl rfl ?_
  refine RD.op rfl rfl rfl (eff_move (v := .own _ _ _ _) rfl rfl rfl) ?_
  refine RD.op rfl rfl rfl (eff_move (v := .t _) rfl rfl rfl) ?_
  refine RD.op rfl rfl rfl (eff_slice (l := none) (h := some i) rfl rfl te29 rfl rfl rfl rfl .no (.yes rfl rfl) (Nat.zero_le _) (by simp; omega)) ?_
  refine RD.op rfl rfl rfl (eff_move (v := .own _ _ _ _) rfl rfl rfl) ?_
  refine RD.op rfl rfl rfl (eff_move (v := .t _) rfl rfl rfl) ?_
  refine RD.op rfl rfl rfl (eff_slice (l := some (i + 1)) (h := none) rfl rfl te29 rfl rfl rfl rfl (.yes rfl rfl) .no (by simp; omega) (by simp)) ?_
  refine RD.new rfl rfl rfl (eff_appendIn (id := 0) (g := g) (i := i) (ys := (L.drop (i + 1)).map AV.t) rfl rfl ta29 rfl rfl rfl rfl (srcOwn' rfl rfl rfl rfl (by simp; omega) (by rw [List.take_of_length_le (by simp)]; simp [List.map_drop])) (by simp; omega) (by simp; omega) (by simp; omega)) ?_
  refine RD.op rfl rfl rfl (eff_assign (v := .own _ _ _ _) rfl rfl rfl) ?_
  refine RD.nil ?_
  refine awp_seq ?_
  refine awp_rw rfl ?_
  refine RW.op rfl rfl (eff_move (v := .own _ _ _ _) rfl rfl rfl) ?_
  refine RW.op rfl rfl (eff_move (v := .own _ _ _ _) rfl rfl rfl) ?_
  refine RW.op rfl rfl (eff_len rfl rfl te29 rfl rfl rfl) ?_
  refine RW.op rfl rfl (eff_move (v := .t _) rfl rfl rfl) ?_
  refine RW.op rfl rfl (eff_slice (l := some (L.length - 1)) (h := some L.length) rfl rfl te29 rfl rfl rfl rfl (.yes rfl (by simp; omega)) (.yes rfl rfl) (by simp) (by simp; omega)) ?_
  refine RW.store rfl rfl (eff_clear (id := 0) rfl rfl te29 tz40 rfl (by decide) rfl rfl rfl rfl (by simp; omega)) ?_
  refine RW.nil ?_
  refine awp_seq ?_
  refine awp_rw rfl ?_
  refine RW.op rfl rfl (eff_move (v := .own _ _ _ _) rfl rfl rfl) ?_
  refine RW.op rfl rfl (eff_assign (v := .own _ _ _ _) rfl rfl rfl) ?_
  refine RW.nil ?_
  refine awp_ret ?_
  refine ⟨Or.inr rfl, [_], [.own 0 (g + 1) 0 (L.length - 1)], ⟨.tmp rfl, trivial⟩, rfl, Weak.trans (s1 := ⟨1, [(0, .own 0 g 0 (L.length - 1))], [(0, some ⟨8, 40, g, (L.take i ++ L.drop (i + 1) ++ [z40]).map AV.t⟩)]⟩) ?_ weak_bump, rfl⟩
  exact weak_keep ⟨(by show AV.own 0 g 0 _ = AV.own 0 g 0 (L.length - 1); congr 1; simp; omega), rfl, trivial⟩ ⟨congrArg (fun e => some (Ob.mk 8 40 g e)) (del_els L z40 i hi), okE_t, trivial⟩

end Go.Tv.D27

end
section
open Go Go.Tv Go.Proofs
namespace Go.Tv.D27
set_option maxRecDepth 20000
set_option linter.unusedSimpArgs false
set_option linter.unusedVariables false
theorem retry27_ret (S : Store) (hS : SOK S) : Ret Tryd.prog 21 [encS S] (encS (retry S)) := by
  refine ret_of_awp Tryd.func21 rfl (Nat.le_of_ble_eq_true rfl) ?_
  refine awp_seq ?_
  refine awp_rw rfl ?_
  refine RW.new rfl rfl (eff_boxK (v := .t _) (k := 4) (id := 1) rfl rfl rfl rfl rfl rfl) ?_
  refine RW.new rfl rfl (eff_allocK (k := 4) (id := 2) rfl rfl tz32 rfl rfl) ?_
  refine RW.nil ?_
  refine awp_seq ?_
  refine awp_rw rfl ?_
  refine RW.op rfl rfl (eff_load rfl rfl ti32 rfl (.whole rfl rfl rfl rfl rfl rfl)) ?_
  refine RW.new3 rfl rfl (eff_callG (copied_retG S hS) co25 (fun id => id + 10000) rfl rfl rfl ⟨.t _, trivial⟩ (RenA.aggL (ds := [_, _, _, _]) ⟨.t _, .own _ _ _ _ rfl rfl, .own _ _ _ _ rfl rfl, .own _ _ _ _ rfl rfl, trivial⟩) rfl trivial ⟨⟨treeEls_t, .inr rfl⟩, ⟨treeEls_t, .inr rfl⟩, ⟨treeEls_t, .inr rfl⟩, trivial⟩) ?_
  refine RW.new rfl rfl (eff_allocK (k := 4) (id := 3) rfl rfl tz32 rfl rfl) ?_
  refine RW.store rfl rfl (eff_storeW (v := .agg _) (els := [_]) (els' := [_]) rfl rfl ti32 rfl rfl rfl rfl rfl rfl rfl rfl rfl) ?_
  refine RW.nil ?_
  refine awp_seq ?_
  refine awp_rw rfl ?_
  refine RW.op rfl rfl (eff_fieldAddr rfl rfl tf32_2 (by decide) rfl rfl rfl (Nat.le_of_ble_eq_true rfl)) ?_
  refine RW.store rfl rfl (eff_storeA (v := .t _) (ys := [_, _, _, _]) (els := [_]) (els' := [_]) rfl rfl ti30 rfl rfl rfl rfl rfl rfl rfl (Nat.le_of_ble_eq_true rfl) rfl rfl rfl) ?_
  refine RW.nil ?_
  refine awp_seq ?_
  refine awp_rw rfl ?_
  refine RW.op rfl rfl (eff_load rfl rfl ti32 rfl (.whole rfl rfl rfl rfl rfl rfl)) ?_
  refine RW.store rfl rfl (eff_storeW (v := .agg _) (els := [_]) (els' := [_]) rfl rfl ti32 rfl rfl rfl rfl rfl rfl rfl rfl rfl) ?_
  refine RW.nil ?_
  refine awp_ret ?_
  exact ⟨Or.inr rfl, [_], ⟨.cell rfl ti32 (.whole rfl rfl rfl rfl rfl rfl) (Res.aggP (xs := [_, _, _, _]) ⟨.t _, Res.ownT (xs := S.bundles.map encB) rfl rfl rfl (by simp), .t _, Res.ownT (xs := S.seen.map encI) rfl rfl rfl (by simp), trivial⟩), trivial⟩, (by repeat' first | exact trivial | exact Wk.refl _ | exact Wk.sl _ | refine And.intro ?_ ?_ | refine Wk.tupP ?_ | refine Wk.aggP ?_)⟩

theorem lowerB_mem (x : Int) : ∀ (l : List Int), l.Pairwise (· < ·) → x ∈ l → lowerB x l < l.length ∧ l.filter (· != x) = l.take (lowerB x l) ++ l.drop (lowerB x l + 1)
  | [], _, h => by simp at h
  | y :: l, hp, h => by
    rw [List.pairwise_cons] at hp
    by_cases hy : y < x
    · have hm : x ∈ l := by
        rcases List.mem_cons.1 h with e | e
        · omega
        · exact e
      obtain ⟨h1, h2⟩ := lowerB_mem x l hp.2 hm
      have e : lowerB x (y :: l) = lowerB x l + 1 := by unfold lowerB; simp [hy]
      rw [e]
      refine ⟨by simpa using h1, ?_⟩
      have hne : (y != x) = true := by simp; omega
      rw [List.filter_cons_of_pos (by simpa using hne), h2]
      simp
    · have hxy : x = y := by
        rcases List.mem_cons.1 h with e | e
        · exact e
        · have := hp.1 x e; omega
      subst hxy
      have e : lowerB x (x :: l) = 0 := by unfold lowerB; simp
      rw [e]
      refine ⟨by simp, ?_⟩
      have hf : l.filter (· != x) = l := by
        rw [List.filter_eq_self]
        intro z hz
        have := hp.1 z hz
        simp; omega
      simp [hf]

theorem delete59M (l : List Int) (g i : Nat) (hl : l.length ≤ 1000000) (hi : i < l.length) : RetG Tryd.prog 49 [(0, some ⟨1, 3, g, (l.map encI).map .t⟩)]
    [.own 0 g 0 l.length, .t (.int .i64 (i : Nat)), .t (.int .i64 ((i + 1 : Nat) : Int))] [(0, some ⟨1, 3, g + 1, ((l.map encI).take i ++ (l.map encI).drop (i + 1) ++ [z3]).map .t⟩)] (.own 0 (g + 1) 0 (l.length - 1)) := by
  have h := delete59_retG (l.map encI) g i (by simpa using hl) (by simpa using hi)
  rw [List.length_map] at h
  exact h

theorem delete45M (l : List Bundle) (g i : Nat) (hl : l.length ≤ 1000000) (hi : i < l.length) : RetG Tryd.prog 34 [(0, some ⟨8, 40, g, (l.map encB).map .t⟩)]
    [.own 0 g 0 l.length, .t (.int .i64 (i : Nat)), .t (.int .i64 ((i + 1 : Nat) : Int))] [(0, some ⟨8, 40, g + 1, ((l.map encB).take i ++ (l.map encB).drop (i + 1) ++ [z40]).map .t⟩)] (.own 0 (g + 1) 0 (l.length - 1)) := by
  have h := delete45_retG (l.map encB) g i (by simpa using hl) (by simpa using hi)
  rw [List.length_map] at h
  exact h

theorem remove46_retG (l : List Int) (x : Int) (g : Nat) (hl : l.length ≤ 1000000) (hp : l.Pairwise (· < ·)) : RetG Tryd.prog 35 [(0, some ⟨1, 3, g, (l.map encI).map .t⟩)] [.own 0 g 0 l.length, .t (encI x)] [(0, some ⟨1, 3, g + 1, ((if x ∈ l then l.filter (· != x) ++ [0] else l).map encI).map AV.t⟩)] (.own 0 (g + 1) 0 (l.filter (· != x)).length) := by
  refine retG_of_awp Tryd.func35 rfl (Nat.le_of_ble_eq_true rfl) ?_
  refine awp_seq ?_
  refine awp_rw rfl ?_
  refine RW.op rfl rfl (eff_assign (v := .t _) rfl rfl rfl) ?_
  refine RW.nil ?_
  refine awp_seq ?_
  refine awp_seq ?_
  refine awp_rw rfl ?_
  refine RW.op rfl rfl (eff_move (v := .own _ _ _ _) rfl rfl rfl) ?_
  refine RW.op rfl rfl (eff_move (v := .t _) rfl rfl rfl) ?_
  refine RW.op rfl rfl (eff_callB (ys := [encIs l, encI x]) (caps := []) rfl rfl rfl (.t _) co39 (ResL.cons (Res.ownM (xs := l.map encI) rfl (by simp)) (.refl _) (ResL.cons (.t _) (.refl _) .nil)) (by rw [List.append_nil]; exact search_ret l x hl hp) rfl) ?_
  refine RW.op rfl rfl (eff_move (v := .t _) rfl rfl rfl) ?_
  refine RW.op rfl rfl (eff_extract rfl rfl rfl rfl) ?_
  refine RW.op rfl rfl (eff_extract rfl rfl rfl rfl) ?_
  refine RW.op rfl rfl (eff_assign (v := .t _) rfl rfl rfl) ?_
  refine RW.op rfl rfl (eff_assign (v := .t _) rfl rfl rfl) ?_
  refine RW.nil ?_
  refine awp_seq ?_
  refine awp_rw rfl ?_
  refine RW.op rfl rfl (eff_move (v := .t _) rfl rfl rfl) ?_
  refine RW.nil ?_
  refine awp_cond rfl (fun h1 => ?_) (fun h1 => ?_)
  · try simp only [decide_eq_true_eq, decide_eq_false_iff_not, beq_iff_eq, bne_iff_ne, bne_eq_false_iff_eq, beq_eq_false_iff_ne, Bool.not_eq_true, Bool.not_eq_false, Bool.not_eq_true', Bool.not_eq_false', ne_eq] at h1
    refine awp_seq ?_
    refine awp_rw rfl ?_
    obtain ⟨hk, hflt⟩ := lowerB_mem x l hp h1
    refine RW.op rfl rfl (eff_move (v := .own _ _ _ _) rfl rfl rfl) ?_
    refine RW.op rfl rfl (eff_move (v := .t _) rfl rfl rfl) ?_
    refine RW.op rfl rfl (eff_move (v := .t _) rfl rfl rfl) ?_
    refine RW.op rfl rfl (eff_iop rfl rfl rfl rfl (iadd (by omega))) ?_
    refine RW.new rfl rfl (eff_callG (delete59M l g (lowerB x l) hl hk) co49 (fun id => id) rfl rfl rfl ⟨.own 0 _ _ _ rfl rfl, .t _, .t _, trivial⟩ (.own _ _ _ _ rfl rfl) rfl ⟨⟨rfl, treeEls_t, ⟨_, rfl, Nat.lt_succ_self _⟩⟩, trivial⟩ ⟨⟨treeEls_t, .inl rfl⟩, trivial⟩) ?_
    refine RW.op rfl rfl (eff_assign (v := .own _ _ _ _) rfl rfl rfl) ?_
    refine RW.nil ?_
    refine awp_ret ?_
    have hel : ((l.map encI).take (lowerB x l) ++ (l.map encI).drop (lowerB x l + 1) ++ [z3]).map AV.t = ((if x ∈ l then l.filter (· != x) ++ [0] else l).map encI).map AV.t := by rw [if_pos h1, hflt]; simp [List.map_take, List.map_drop, encI]
    have hln : l.length - 1 = (l.filter (· != x)).length := by rw [hflt]; simp; omega
    exact ⟨Or.inr rfl, [_], [.own 0 (g + 1) 0 (l.filter (· != x)).length], ⟨.tmp rfl, trivial⟩, rfl, weak_keep ⟨(congrArg (AV.own 0 (g + 1) 0) hln), rfl, trivial⟩ ⟨congrArg (fun e => some (Ob.mk 1 3 (g + 1) e)) hel, okE_t, trivial⟩, rfl⟩
  · try simp only [decide_eq_true_eq, decide_eq_false_iff_not, beq_iff_eq, bne_iff_ne, bne_eq_false_iff_eq, beq_eq_false_iff_ne, Bool.not_eq_true, Bool.not_eq_false, Bool.not_eq_true', Bool.not_eq_false', ne_eq] at h1
    refine awp_skip ?_
    refine awp_seq ?_
    refine awp_rw rfl ?_
    refine RW.op rfl rfl (eff_move (v := .own _ _ _ _) rfl rfl rfl) ?_
    refine RW.op rfl rfl (eff_assign (v := .own _ _ _ _) rfl rfl rfl) ?_
    refine RW.nil ?_
    refine awp_ret ?_
    have hfl : l.filter (· != x) = l := by
      rw [List.filter_eq_self]
      intro z hz
      have : z ≠ x := fun e => h1 (e ▸ hz)
      simpa using this
    refine ⟨Or.inr rfl, [_], [.own 0 (g + 1) 0 (l.filter (· != x)).length], ⟨.tmp rfl, trivial⟩, rfl, Weak.trans (s1 := ⟨1, [(0, .own 0 g 0 (l.filter (· != x)).length)], [(0, some ⟨1, 3, g, ((if x ∈ l then l.filter (· != x) ++ [0] else l).map encI).map AV.t⟩)]⟩) ?_ weak_bump, rfl⟩
    rw [hfl, if_neg h1]
    exact weak_keep ⟨rfl, rfl, trivial⟩ ⟨rfl, okE_t, trivial⟩

end Go.Tv.D27

end
section
open Go Go.Tv Go.Proofs
namespace Go.Tv.D27
set_option maxRecDepth 20000
set_option linter.unusedSimpArgs false
set_option linter.unusedVariables false
theorem confirm24_ret (S : Store) (n : Int) (hS : SOK S) (hp : S.passed.Pairwise (· < ·)) : Ret Tryd.prog 17 [encS S, encI n] (.tup [encS (confirm S n).1, encI (confirm S n).2]) := by
  refine ret_of_awp Tryd.func17 rfl (Nat.le_of_ble_eq_true rfl) ?_
  refine awp_seq ?_
  refine awp_rw rfl ?_
  refine RW.new rfl rfl (eff_boxK (v := .t _) (k := 4) (id := 2) rfl rfl rfl rfl rfl rfl) ?_
  refine RW.new rfl rfl (eff_allocK (k := 4) (id := 4) rfl rfl tz32 rfl rfl) ?_
  refine RW.op rfl rfl (eff_assign (v := .t _) rfl rfl rfl) ?_
  refine RW.nil ?_
  refine awp_seq ?_
  refine awp_rw rfl ?_
  refine RW.op rfl rfl (eff_load rfl rfl ti32 rfl (.whole rfl rfl rfl rfl rfl rfl)) ?_
  refine RW.op rfl rfl (eff_move (v := .t _) rfl rfl rfl) ?_
  refine RW.op rfl rfl (eff_callT (find44_ret S n hS) co33 rfl rfl rfl rfl) ?_
  refine RW.op rfl rfl (eff_assign (v := .t _) rfl rfl rfl) ?_
  refine RW.nil ?_
  refine awp_seq ?_
  refine awp_seq ?_
  refine awp_rw rfl ?_
  refine RW.op rfl rfl (eff_move (v := .t _) rfl rfl rfl) ?_
  refine RW.op rfl rfl (eff_iop rfl rfl rfl rfl rfl) ?_
  refine RW.nil ?_
  refine awp_cond rfl (fun h1 => ?_) (fun h1 => ?_)
  · try simp only [decide_eq_true_eq, decide_eq_false_iff_not, beq_iff_eq, bne_iff_ne, bne_eq_false_iff_eq, beq_eq_false_iff_ne, Bool.not_eq_true, Bool.not_eq_false, Bool.not_eq_true', Bool.not_eq_false', ne_eq] at h1
    refine awp_seq ?_
    refine awp_rw rfl ?_
    refine RW.op rfl rfl (eff_buildT (ys := [_, _, _, _]) rfl rfl tz32 tg32 rfl) ?_
    refine RW.store rfl rfl (eff_storeW (v := .t _) (els := [_]) (els' := [_]) rfl rfl ti32 rfl rfl rfl rfl rfl rfl rfl rfl rfl) ?_
    refine RW.op rfl rfl (eff_assign (v := .t _) rfl rfl rfl) ?_
    refine RW.nil ?_
    refine awp_ret ?_
    rw [show confirm S n = (zs, 3) from by unfold confirm; rw [if_pos h1]]
    exact ⟨Or.inr rfl, [_, _], ⟨.cell rfl ti32 (.whole rfl rfl rfl rfl rfl rfl) (.t _), .tmp (.t _), trivial⟩, (by repeat' first | exact trivial | exact Wk.refl _ | exact Wk.sl _ | refine And.intro ?_ ?_ | refine Wk.tupP ?_ | refine Wk.aggP ?_)⟩
  · try simp only [decide_eq_true_eq, decide_eq_false_iff_not, beq_iff_eq, bne_iff_ne, bne_eq_false_iff_eq, beq_eq_false_iff_ne, Bool.not_eq_true, Bool.not_eq_false, Bool.not_eq_true', Bool.not_eq_false', ne_eq] at h1
    refine awp_skip ?_
    refine awp_seq ?_
    refine awp_rw rfl ?_
    obtain ⟨ix, hix, hfx⟩ := findIx_nat h1
    have hL := hS.1
    have hfx2 : confirm S n = (⟨S.quota, (S.bundles.take ix ++ S.bundles.drop (ix + 1)), S.passed.filter (· != n), S.seen⟩, 0) := by unfold confirm; rw [if_neg h1, hfx]; rfl
    rw [hfx]
    refine RW.op rfl rfl (eff_load rfl rfl ti32 rfl (.whole rfl rfl rfl rfl rfl rfl)) ?_
    refine RW.new3 rfl rfl (eff_callG (copied_retG S hS) co25 (fun id => id + 10000) rfl rfl rfl ⟨.t _, trivial⟩ (RenA.aggL (ds := [_, _, _, _]) ⟨.t _, .own _ _ _ _ rfl rfl, .own _ _ _ _ rfl rfl, .own _ _ _ _ rfl rfl, trivial⟩) rfl trivial ⟨⟨treeEls_t, .inr rfl⟩, ⟨treeEls_t, .inr rfl⟩, ⟨treeEls_t, .inr rfl⟩, trivial⟩) ?_
    refine RW.new rfl rfl (eff_allocK (k := 4) (id := 7) rfl rfl tz32 rfl rfl) ?_
    refine RW.store rfl rfl (eff_storeW (v := .agg _) (els := [_]) (els' := [_]) rfl rfl ti32 rfl rfl rfl rfl rfl rfl rfl rfl rfl) ?_
    refine RW.nil ?_
    refine awp_seq ?_
    refine awp_rw rfl ?_
    refine RW.op rfl rfl (eff_fieldAddr rfl rfl tf32_1 (by decide) rfl rfl rfl (Nat.le_of_ble_eq_true rfl)) ?_
    refine RW.op rfl rfl (eff_load (y := .own _ _ _ _) rfl rfl ti29 rfl (.one rfl rfl rfl rfl)) ?_
    refine RW.op rfl rfl (eff_move (v := .t _) rfl rfl rfl) ?_
    refine RW.op rfl rfl (eff_move (v := .t _) rfl rfl rfl) ?_
    refine RW.op rfl rfl (eff_iop rfl rfl rfl rfl (iadd (by omega))) ?_
    refine RW.new rfl rfl (eff_callG (delete45M S.bundles S.bundles.length ix (by omega) hix) co34 (fun id => id + 10027) rfl rfl rfl ⟨.own 0 _ _ _ rfl rfl, .t _, .t _, trivial⟩ (.own _ _ _ _ rfl rfl) rfl ⟨⟨rfl, treeEls_t, ⟨_, rfl, Nat.lt_succ_self _⟩⟩, trivial⟩ ⟨⟨treeEls_t, .inl rfl⟩, trivial⟩) ?_
    refine RW.op rfl rfl (eff_fieldAddr rfl rfl tf32_1 (by decide) rfl rfl rfl (Nat.le_of_ble_eq_true rfl)) ?_
    refine RW.store rfl rfl (eff_storeA (v := .own _ _ _ _) (ys := [_, _, _, _]) (els := [_]) (els' := [_]) rfl rfl ti29 rfl rfl rfl rfl rfl rfl rfl (Nat.le_of_ble_eq_true rfl) rfl rfl rfl) ?_
    refine RW.nil ?_
    refine awp_seq ?_
    refine awp_rw rfl ?_
    refine RW.op rfl rfl (eff_fieldAddr rfl rfl tf32_2 (by decide) rfl rfl rfl (Nat.le_of_ble_eq_true rfl)) ?_
    refine RW.op rfl rfl (eff_load (y := .own _ _ _ _) rfl rfl ti30 rfl (.one rfl rfl rfl rfl)) ?_
    refine RW.op rfl rfl (eff_move (v := .t _) rfl rfl rfl) ?_
    refine RW.new rfl rfl (eff_callG (remove46_retG S.passed n 1 (by have h := hS.2.1; omega) hp) co35 (fun id => id + 11005) rfl rfl rfl ⟨.own 0 _ _ _ rfl rfl, .t _, trivial⟩ (.own _ _ _ _ rfl rfl) rfl ⟨⟨rfl, treeEls_t, ⟨_, rfl, Nat.lt_succ_self _⟩⟩, trivial⟩ ⟨⟨treeEls_t, .inl rfl⟩, trivial⟩) ?_
    refine RW.op rfl rfl (eff_fieldAddr rfl rfl tf32_2 (by decide) rfl rfl rfl (Nat.le_of_ble_eq_true rfl)) ?_
    refine RW.store rfl rfl (eff_storeA (v := .own _ _ _ _) (ys := [_, _, _, _]) (els := [_]) (els' := [_]) rfl rfl ti30 rfl rfl rfl rfl rfl rfl rfl (Nat.le_of_ble_eq_true rfl) rfl rfl rfl) ?_
    refine RW.nil ?_
    refine awp_seq ?_
    refine awp_rw rfl ?_
    refine RW.op rfl rfl (eff_load rfl rfl ti32 rfl (.whole rfl rfl rfl rfl rfl rfl)) ?_
    refine RW.store rfl rfl (eff_storeW (v := .agg _) (els := [_]) (els' := [_]) rfl rfl ti32 rfl rfl rfl rfl rfl rfl rfl rfl rfl) ?_
    refine RW.op rfl rfl (eff_assign (v := .t _) rfl rfl rfl) ?_
    refine RW.nil ?_
    refine awp_ret ?_
    have he1 : ((S.bundles.map encB).take ix ++ (S.bundles.map encB).drop (ix + 1) ++ [z40]).map AV.t = ((S.bundles.take ix ++ S.bundles.drop (ix + 1)).map encB).map AV.t ++ [AV.t z40] := by simp [List.map_take, List.map_drop]
    have he2 : ∃ rest, ((if n ∈ S.passed then S.passed.filter (· != n) ++ [0] else S.passed).map encI).map AV.t = ((S.passed.filter (· != n)).map encI).map AV.t ++ rest := by
      by_cases h : n ∈ S.passed
      · rw [if_pos h]; exact ⟨[.t (encI 0)], by simp⟩
      · rw [if_neg h]
        refine ⟨[], ?_⟩
        rw [show S.passed.filter (· != n) = S.passed from by
          rw [List.filter_eq_self]
          intro z hz
          have : z ≠ n := fun e => h (e ▸ hz)
          simpa using this]
        simp
    obtain ⟨rest, he2⟩ := he2
    rw [hfx2]
    exact ⟨Or.inr rfl, [_, _], ⟨.cell rfl ti32 (.whole rfl rfl rfl rfl rfl rfl) (Res.aggP (xs := [_, _, _, _]) ⟨.t _, Res.ownPre (xs := (S.bundles.take ix ++ S.bundles.drop (ix + 1)).map encB) [AV.t z40] rfl rfl he1 (by simp; omega), Res.ownPre (xs := (S.passed.filter (· != n)).map encI) rest rfl rfl he2 (by simp), Res.ownT (xs := S.seen.map encI) rfl rfl rfl (by simp), trivial⟩), .tmp (.t _), trivial⟩, (by repeat' first | exact trivial | exact Wk.refl _ | exact Wk.sl _ | refine And.intro ?_ ?_ | refine Wk.tupP ?_ | refine Wk.aggP ?_)⟩

end Go.Tv.D27

end
section
open Go Go.Tv Go.Proofs
namespace Go.Tv.D27
set_option maxRecDepth 20000
set_option linter.unusedSimpArgs false
set_option linter.unusedVariables false
/-- The contract of slices.Insert at one new element (not proved yet: a hypothesis of what follows). -/
def InsC : Prop := ∀ (l : List Int) (g i : Nat) (x : Int), l.length ≤ 1000000 → i ≤ l.length → RetG Tryd.prog 41 [(0, some ⟨1, 3, g, (l.map encI).map .t⟩), (1, some ⟨1, 3, 0, [.t (encI x)]⟩)]
    [.own 0 g 0 l.length, .t (.int .i64 (i : Nat)), .own 1 0 0 1] [(0, some ⟨1, 3, g + 1, ((l.take i ++ [x] ++ l.drop i).map encI).map .t⟩), (1, some ⟨1, 3, 1, [.t (encI x)]⟩)] (.own 0 (g + 1) 0 (l.length + 1))

theorem lowerB_spec (x : Int) : ∀ (l : List Int), lowerB x l ≤ l.length ∧ (∀ y, y ∈ l.take (lowerB x l) → y < x) ∧ ∀ h : lowerB x l < l.length, ¬ l[lowerB x l] < x
  | [] => ⟨Nat.le_refl _, fun y h => by simp at h, fun h => by simp at h⟩
  | y :: l => by
    obtain ⟨h1, h2, h3⟩ := lowerB_spec x l
    by_cases hy : y < x
    · have e : lowerB x (y :: l) = lowerB x l + 1 := by unfold lowerB; simp [hy]
      refine ⟨by rw [e]; simpa using h1, fun z hz => ?_, fun h => ?_⟩
      · rw [e, List.take_succ_cons] at hz
        rcases List.mem_cons.1 hz with rfl | hz
        · exact hy
        · exact h2 z hz
      · have h4 := h3 (by rw [e] at h; simpa using h)
        simpa [e] using h4
    · have e : lowerB x (y :: l) = 0 := by unfold lowerB; simp [hy]
      refine ⟨by rw [e]; exact Nat.zero_le _, fun z hz => by rw [e] at hz; simp at hz, fun h => by simpa [e] using hy⟩

theorem ins_lowerB (x : Int) (l : List Int) : ins x l = l.take (lowerB x l) ++ [x] ++ l.drop (lowerB x l) := by
  obtain ⟨h1, h2, h3⟩ := lowerB_spec x l
  exact ins_split x l _ h1 h2 h3

theorem insert47_retG (hI : InsC) (l : List Int) (x : Int) (g : Nat) (hl : l.length ≤ 1000000) (hp : l.Pairwise (· < ·)) : RetG Tryd.prog 27 [(0, some ⟨1, 3, g, (l.map encI).map .t⟩)] [.own 0 g 0 l.length, .t (encI x)] [(0, some ⟨1, 3, g + 1, ((if x ∈ l then l else ins x l).map encI).map AV.t⟩)] (.tup [.own 0 (g + 1) 0 (if x ∈ l then l else ins x l).length, .t (.bool (decide (x ∉ l)))]) := by
  refine retG_of_awp Tryd.func27 rfl (Nat.le_of_ble_eq_true rfl) ?_
  refine awp_seq ?_
  refine awp_rw rfl ?_
  refine RW.op rfl rfl (eff_assign (v := .t _) rfl rfl rfl) ?_
  refine RW.op rfl rfl (eff_assign (v := .t _) rfl rfl rfl) ?_
  refine RW.nil ?_
  refine awp_seq ?_
  refine awp_rw rfl ?_
  refine RW.op rfl rfl (eff_move (v := .own _ _ _ _) rfl rfl rfl) ?_
  refine RW.op rfl rfl (eff_move (v := .t _) rfl rfl rfl) ?_
  refine RW.op rfl rfl (eff_callB (ys := [encIs l, encI x]) (caps := []) rfl rfl rfl (.t _) co39 (ResL.cons (Res.ownM (xs := l.map encI) rfl (by simp)) (.refl _) (ResL.cons (.t _) (.refl _) .nil)) (by rw [List.append_nil]; exact search_ret l x hl hp) rfl) ?_
  refine RW.op rfl rfl (eff_move (v := .t _) rfl rfl rfl) ?_
  refine RW.op rfl rfl (eff_extract rfl rfl rfl rfl) ?_
  refine RW.op rfl rfl (eff_extract rfl rfl rfl rfl) ?_
  refine RW.op rfl rfl (eff_assign (v := .t _) rfl rfl rfl) ?_
  refine RW.op rfl rfl (eff_assign (v := .t _) rfl rfl rfl) ?_
  refine RW.nil ?_
  refine awp_seq ?_
  refine awp_seq ?_
  refine awp_rw rfl ?_
  refine RW.op rfl rfl (eff_move (v := .t _) rfl rfl rfl) ?_
  refine RW.nil ?_
  refine awp_cond rfl (fun h1 => ?_) (fun h1 => ?_)
  · try simp only [decide_eq_true_eq, decide_eq_false_iff_not, beq_iff_eq, bne_iff_ne, bne_eq_false_iff_eq, beq_eq_false_iff_ne, Bool.not_eq_true, Bool.not_eq_false, Bool.not_eq_true', Bool.not_eq_false', ne_eq] at h1
    refine awp_seq ?_
    refine awp_rw rfl ?_
    refine RW.op rfl rfl (eff_move (v := .own _ _ _ _) rfl rfl rfl) ?_
    refine RW.op rfl rfl (eff_assign (v := .own _ _ _ _) rfl rfl rfl) ?_
    refine RW.op rfl rfl (eff_assign (v := .t _) rfl rfl rfl) ?_
    refine RW.nil ?_
    refine awp_ret ?_
    rw [if_pos h1, show decide (x ∉ l) = false from by simp [h1]]
    refine ⟨Or.inr rfl, [_, _], [.own 0 (g + 1) 0 l.length, .t (.bool false)], ⟨.tmp rfl, .tmp rfl, trivial⟩, rfl, ?_, rfl⟩
    exact ((weak_keep (fr' := [(0, .own 0 g 0 l.length), (1, .t (.bool false))]) (st' := [(0, some ⟨1, 3, g, (l.map encI).map .t⟩)]) ⟨rfl, rfl, rfl, rfl, trivial⟩ ⟨rfl, okE_t, trivial⟩).trans (weak_bumpS (d := 0) (g + 1) rfl rfl (Nat.lt_succ_self _))).trans (weak_keep ⟨rfl, rfl, rfl, rfl, trivial⟩ ⟨rfl, okE_t, trivial⟩)
  · try simp only [decide_eq_true_eq, decide_eq_false_iff_not, beq_iff_eq, bne_iff_ne, bne_eq_false_iff_eq, beq_eq_false_iff_ne, Bool.not_eq_true, Bool.not_eq_false, Bool.not_eq_true', Bool.not_eq_false', ne_eq] at h1
    refine awp_skip ?_
    refine awp_seq ?_
    refine awp_rw rfl ?_
    refine RW.op rfl rfl (eff_move (v := .own _ _ _ _) rfl rfl rfl) ?_
    refine RW.op rfl rfl (eff_move (v := .t _) rfl rfl rfl) ?_
    refine RW.op rfl rfl (eff_move (v := .t _) rfl rfl rfl) ?_
    refine RW.new rfl rfl (eff_buildSlice1 (id := 19) (els := [_]) rfl rfl te30 tz3 rfl (by decide) rfl rfl rfl rfl) ?_
    refine RW.new2 rfl rfl (eff_callG (hI l g (lowerB x l) x hl (lowerB_spec x l).1) co41 (fun id => id * 19) rfl rfl rfl ⟨.own 0 _ _ _ rfl rfl, .t _, .own 1 _ _ _ rfl rfl, trivial⟩ (.own _ _ _ _ rfl rfl) rfl ⟨⟨rfl, treeEls_t, ⟨_, rfl, Nat.lt_succ_self _⟩⟩, ⟨rfl, treeEls_t (xs := [encI x]), ⟨_, rfl, Nat.lt_succ_self _⟩⟩, trivial⟩ ⟨⟨treeEls_t, .inl rfl⟩, ⟨treeEls_t (xs := [encI x]), .inl rfl⟩, trivial⟩) ?_
    refine RW.op rfl rfl (eff_assign (v := .own _ _ _ _) rfl rfl rfl) ?_
    refine RW.op rfl rfl (eff_assign (v := .t _) rfl rfl rfl) ?_
    refine RW.nil ?_
    refine awp_ret ?_
    rw [if_neg h1, show decide (x ∉ l) = true from by simp [h1], ins_lowerB]
    refine ⟨Or.inr rfl, [_, _], [.own 0 (g + 1) 0 (l.take (lowerB x l) ++ [x] ++ l.drop (lowerB x l)).length, .t (.bool true)], ⟨.tmp rfl, .tmp rfl, trivial⟩, rfl, ?_, rfl⟩
    exact weak_keep ⟨congrArg (AV.own 0 (g + 1) 0) (by have := (lowerB_spec x l).1; simp; omega), rfl, rfl, rfl, trivial⟩ ⟨rfl, okE_t, trivial⟩

end Go.Tv.D27

end
section
open Go Go.Tv Go.Proofs
namespace Go.Tv.D27
set_option maxRecDepth 20000
set_option linter.unusedSimpArgs false
set_option linter.unusedVariables false
theorem ins_last (x : Int) : ∀ (o : List Int), (∀ y, y ∈ o → y < x) → ins x o = o ++ [x]
  | [], _ => rfl
  | y :: o, h => by
    unfold ins
    rw [if_pos (h y List.mem_cons_self), ins_last x o (fun z hz => h z (List.mem_cons_of_mem _ hz))]
    rfl

theorem foldl_ins : ∀ (l o : List Int), (o ++ l).Pairwise (· < ·) → l.foldl (fun o x => ins x o) o = o ++ l
  | [], o, _ => by simp
  | x :: l, o, h => by
    have h2 := (List.pairwise_append.1 h).2.2
    rw [List.foldl_cons, ins_last x o (fun y hy => h2 y hy x List.mem_cons_self), foldl_ins l (o ++ [x]) (by simpa using h)]
    simp

theorem sortl_id {l : List Int} (h : l.Pairwise (· < ·)) : sortl l = l := by
  unfold sortl
  rw [foldl_ins l [] (by simpa using h)]; rfl

theorem sortl_ins {l : List Int} {x : Int} (h : l.Pairwise (· < ·)) : sortl (l ++ [x]) = ins x l := by
  rw [sortl_snoc, sortl_id h]

theorem create28_ret (hI : InsC) (S : Store) (b : Bundle) (hS : SOK S) (hb : BOK b) (hsn : S.seen.Pairwise (· < ·)) : Ret Tryd.prog 6 [encS S, encB b] (.tup [encS (create S b).1, encI (create S b).2]) := by
  refine ret_of_awp Tryd.func6 rfl (Nat.le_of_ble_eq_true rfl) ?_
  refine awp_seq ?_
  refine awp_rw rfl ?_
  refine RW.new rfl rfl (eff_boxK (v := .t _) (k := 4) (id := 2) rfl rfl rfl rfl rfl rfl) ?_
  refine RW.new rfl rfl (eff_boxK (v := .t _) (k := 8) (id := 3) rfl rfl rfl rfl rfl rfl) ?_
  refine RW.new rfl rfl (eff_allocK (k := 4) (id := 4) rfl rfl tz32 rfl rfl) ?_
  refine RW.op rfl rfl (eff_assign (v := .t _) rfl rfl rfl) ?_
  refine RW.nil ?_
  refine awp_seq ?_
  refine awp_block ?_
  refine awp_seq ?_
  refine awp_rw rfl ?_
  refine RW.op rfl rfl (eff_fieldAddr rfl rfl tf40_3 (by decide) rfl rfl rfl (Nat.le_of_ble_eq_true rfl)) ?_
  refine RW.op rfl rfl (eff_fieldAddr rfl rfl tf38_4 (by decide) rfl rfl rfl (Nat.le_of_ble_eq_true rfl)) ?_
  refine RW.op rfl rfl (eff_load (y := .t _) rfl rfl ti22 rfl (.one rfl rfl rfl rfl)) ?_
  refine RW.op rfl rfl (eff_lenM rfl rfl te22 rfl) ?_
  refine RW.op rfl rfl (eff_iop rfl rfl rfl rfl rfl) ?_
  refine RW.op rfl rfl (eff_assign (v := .t _) rfl rfl rfl) ?_
  refine RW.nil ?_
  refine awp_cond rfl (fun h1 => ?_) (fun h1 => ?_)
  · try simp only [decide_eq_true_eq, decide_eq_false_iff_not, beq_iff_eq, bne_iff_ne, bne_eq_false_iff_eq, beq_eq_false_iff_ne, Bool.not_eq_true, Bool.not_eq_false, Bool.not_eq_true', Bool.not_eq_false', ne_eq] at h1
    refine awp_seq ?_
    refine awp_rw rfl ?_
    refine RW.op rfl rfl (eff_buildT (ys := [_, _, _, _]) rfl rfl tz32 tg32 rfl) ?_
    refine RW.store rfl rfl (eff_storeW (v := .t _) (els := [_]) (els' := [_]) rfl rfl ti32 rfl rfl rfl rfl rfl rfl rfl rfl rfl) ?_
    refine RW.op rfl rfl (eff_assign (v := .t _) rfl rfl rfl) ?_
    refine RW.nil ?_
    refine awp_ret ?_
    rw [show create S b = (zs, 2) from by unfold create; rw [if_pos (by omega)]]
    exact ⟨Or.inr rfl, [_, _], ⟨.cell rfl ti32 (.whole rfl rfl rfl rfl rfl rfl) (.t _), .tmp (.t _), trivial⟩, (by repeat' first | exact trivial | exact Wk.refl _ | exact Wk.sl _ | refine And.intro ?_ ?_ | refine Wk.tupP ?_ | refine Wk.aggP ?_)⟩
  · try simp only [decide_eq_true_eq, decide_eq_false_iff_not, beq_iff_eq, bne_iff_ne, bne_eq_false_iff_eq, beq_eq_false_iff_ne, Bool.not_eq_true, Bool.not_eq_false, Bool.not_eq_true', Bool.not_eq_false', ne_eq] at h1
    refine awp_seq ?_
    refine awp_rw rfl ?_
    refine RW.op rfl rfl (eff_fieldAddr rfl rfl tf32_3 (by decide) rfl rfl rfl (Nat.le_of_ble_eq_true rfl)) ?_
    refine RW.op rfl rfl (eff_load (y := .t _) rfl rfl ti30 rfl (.one rfl rfl rfl rfl)) ?_
    refine RW.op rfl rfl (eff_fieldAddr rfl rfl tf40_0 (by decide) rfl rfl rfl (Nat.le_of_ble_eq_true rfl)) ?_
    refine RW.op rfl rfl (eff_load (y := .t _) rfl rfl ti3 rfl (.one rfl rfl rfl rfl)) ?_
    refine RW.op rfl rfl (eff_callT (has48_ret S.seen b.id (by have h2 := hS.2.2.1; omega) hsn) co24 rfl rfl rfl rfl) ?_
    refine RW.op rfl rfl (eff_assign (v := .t _) rfl rfl rfl) ?_
    refine RW.nil ?_
    refine awp_cond rfl (fun h2 => ?_) (fun h2 => ?_)
    · try simp only [decide_eq_true_eq, decide_eq_false_iff_not, beq_iff_eq, bne_iff_ne, bne_eq_false_iff_eq, beq_eq_false_iff_ne, Bool.not_eq_true, Bool.not_eq_false, Bool.not_eq_true', Bool.not_eq_false', ne_eq] at h2
      refine awp_seq ?_
      refine awp_rw rfl ?_
      refine RW.op rfl rfl (eff_buildT (ys := [_, _, _, _]) rfl rfl tz32 tg32 rfl) ?_
      refine RW.store rfl rfl (eff_storeW (v := .t _) (els := [_]) (els' := [_]) rfl rfl ti32 rfl rfl rfl rfl rfl rfl rfl rfl rfl) ?_
      refine RW.op rfl rfl (eff_assign (v := .t _) rfl rfl rfl) ?_
      refine RW.nil ?_
      refine awp_ret ?_
      rw [show create S b = (zs, 4) from by unfold create; rw [if_neg (by omega), if_pos h2]]
      exact ⟨Or.inr rfl, [_, _], ⟨.cell rfl ti32 (.whole rfl rfl rfl rfl rfl rfl) (.t _), .tmp (.t _), trivial⟩, (by repeat' first | exact trivial | exact Wk.refl _ | exact Wk.sl _ | refine And.intro ?_ ?_ | refine Wk.tupP ?_ | refine Wk.aggP ?_)⟩
    · try simp only [decide_eq_true_eq, decide_eq_false_iff_not, beq_iff_eq, bne_iff_ne, bne_eq_false_iff_eq, beq_eq_false_iff_ne, Bool.not_eq_true, Bool.not_eq_false, Bool.not_eq_true', Bool.not_eq_false', ne_eq] at h2
      refine awp_seq ?_
      refine awp_rw rfl ?_
      refine RW.op rfl rfl (eff_fieldAddr rfl rfl tf32_1 (by decide) rfl rfl rfl (Nat.le_of_ble_eq_true rfl)) ?_
      refine RW.op rfl rfl (eff_load (y := .t _) rfl rfl ti29 rfl (.one rfl rfl rfl rfl)) ?_
      refine RW.op rfl rfl (eff_lenM rfl rfl te29 rfl) ?_
      refine RW.op rfl rfl (eff_iop rfl rfl rfl rfl rfl) ?_
      refine RW.op rfl rfl (eff_assign (v := .t _) rfl rfl rfl) ?_
      refine RW.nil ?_
      refine awp_cond rfl (fun h3 => ?_) (fun h3 => ?_)
      · try simp only [decide_eq_true_eq, decide_eq_false_iff_not, beq_iff_eq, bne_iff_ne, bne_eq_false_iff_eq, beq_eq_false_iff_ne, Bool.not_eq_true, Bool.not_eq_false, Bool.not_eq_true', Bool.not_eq_false', ne_eq] at h3
        refine awp_seq ?_
        refine awp_rw rfl ?_
        refine RW.op rfl rfl (eff_buildT (ys := [_, _, _, _]) rfl rfl tz32 tg32 rfl) ?_
        refine RW.store rfl rfl (eff_storeW (v := .t _) (els := [_]) (els' := [_]) rfl rfl ti32 rfl rfl rfl rfl rfl rfl rfl rfl rfl) ?_
        refine RW.op rfl rfl (eff_assign (v := .t _) rfl rfl rfl) ?_
        refine RW.nil ?_
        refine awp_ret ?_
        rw [show create S b = (zs, 9) from by unfold create; rw [if_neg (by omega), if_neg h2, if_pos (by omega)]]
        exact ⟨Or.inr rfl, [_, _], ⟨.cell rfl ti32 (.whole rfl rfl rfl rfl rfl rfl) (.t _), .tmp (.t _), trivial⟩, (by repeat' first | exact trivial | exact Wk.refl _ | exact Wk.sl _ | refine And.intro ?_ ?_ | refine Wk.tupP ?_ | refine Wk.aggP ?_)⟩
      · try simp only [decide_eq_true_eq, decide_eq_false_iff_not, beq_iff_eq, bne_iff_ne, bne_eq_false_iff_eq, beq_eq_false_iff_ne, Bool.not_eq_true, Bool.not_eq_false, Bool.not_eq_true', Bool.not_eq_false', ne_eq] at h3
        refine awp_seq ?_
        have hu := used_bd hS
        have hsz := size_bd hb
        refine awp_rd [(some 28, []), (some 29, []), (some 30, []), (some 31, []), (some 32, []), (some 33, []), (some 34, []), (some 35, []), (some 27, [])] [[], [0], [], [0, 1, 2], [0, 1, 2, 3], [], [5], [0, 1, 2, 3, 4, 5, 6], [0, 1, 2, 3, 4, 5, 6, 7]] tm rfl rfl rfl rfl ?_
        refine RD.op rfl rfl rfl (eff_load rfl rfl ti32 rfl (.whole rfl rfl rfl rfl rfl rfl)) ?_
        refine RD.op rfl rfl rfl (eff_callT (used_ret S hS) co18 rfl rfl rfl rfl) ?_
        refine RD.op rfl rfl rfl (eff_load rfl rfl ti40 rfl (.whole rfl rfl rfl rfl rfl rfl)) ?_
        refine RD.op rfl rfl rfl (eff_callT (size_ret b hb) co19 rfl rfl rfl rfl) ?_
        refine RD.op rfl rfl rfl (eff_iop rfl rfl rfl rfl (iadd (by omega))) ?_
        refine RD.op rfl rfl rfl (eff_fieldAddr rfl rfl tf32_0 (by decide) rfl rfl rfl (Nat.le_of_ble_eq_true rfl)) ?_
        refine RD.op rfl rfl rfl (eff_load (y := .t _) rfl rfl ti3 rfl (.one rfl rfl rfl rfl)) ?_
        refine RD.op rfl rfl rfl (eff_iop rfl rfl rfl rfl rfl) ?_
        refine RD.op rfl rfl rfl (eff_assign (v := .t _) rfl rfl rfl) ?_
        refine RD.nil ?_
        refine awp_cond rfl (fun h4 => ?_) (fun h4 => ?_)
        · try simp only [decide_eq_true_eq, decide_eq_false_iff_not, beq_iff_eq, bne_iff_ne, bne_eq_false_iff_eq, beq_eq_false_iff_ne, Bool.not_eq_true, Bool.not_eq_false, Bool.not_eq_true', Bool.not_eq_false', ne_eq] at h4
          refine awp_seq ?_
          refine awp_rw rfl ?_
          refine RW.op rfl rfl (eff_buildT (ys := [_, _, _, _]) rfl rfl tz32 tg32 rfl) ?_
          refine RW.store rfl rfl (eff_storeW (v := .t _) (els := [_]) (els' := [_]) rfl rfl ti32 rfl rfl rfl rfl rfl rfl rfl rfl rfl) ?_
          refine RW.op rfl rfl (eff_assign (v := .t _) rfl rfl rfl) ?_
          refine RW.nil ?_
          refine awp_ret ?_
          rw [show create S b = (zs, 42) from by unfold create; rw [if_neg (by omega), if_neg h2, if_neg (by omega), if_pos (by omega)]]
          exact ⟨Or.inr rfl, [_, _], ⟨.cell rfl ti32 (.whole rfl rfl rfl rfl rfl rfl) (.t _), .tmp (.t _), trivial⟩, (by repeat' first | exact trivial | exact Wk.refl _ | exact Wk.sl _ | refine And.intro ?_ ?_ | refine Wk.tupP ?_ | refine Wk.aggP ?_)⟩
        · try simp only [decide_eq_true_eq, decide_eq_false_iff_not, beq_iff_eq, bne_iff_ne, bne_eq_false_iff_eq, beq_eq_false_iff_ne, Bool.not_eq_true, Bool.not_eq_false, Bool.not_eq_true', Bool.not_eq_false', ne_eq] at h4
          refine awp_skip ?_
          refine awp_seq ?_
          refine awp_rw rfl ?_
          refine RW.op rfl rfl (eff_load rfl rfl ti32 rfl (.whole rfl rfl rfl rfl rfl rfl)) ?_
          refine RW.new3 rfl rfl (eff_callG (copied_retG S hS) co25 (fun id => id + 10000) rfl rfl rfl ⟨.t _, trivial⟩ (RenA.aggL (ds := [_, _, _, _]) ⟨.t _, .own _ _ _ _ rfl rfl, .own _ _ _ _ rfl rfl, .own _ _ _ _ rfl rfl, trivial⟩) rfl trivial ⟨⟨treeEls_t, .inr rfl⟩, ⟨treeEls_t, .inr rfl⟩, ⟨treeEls_t, .inr rfl⟩, trivial⟩) ?_
          refine RW.new rfl rfl (eff_allocK (k := 4) (id := 6) rfl rfl tz32 rfl rfl) ?_
          refine RW.store rfl rfl (eff_storeW (v := .agg _) (els := [_]) (els' := [_]) rfl rfl ti32 rfl rfl rfl rfl rfl rfl rfl rfl rfl) ?_
          refine RW.nil ?_
          refine awp_seq ?_
          refine awp_rd [(some 39, []), (some 40, []), (some 41, []), (some 42, []), (some 43, [43]), (some 44, [10027]), (some 45, []), (none, [6])] [[], [0], [], [2], [2, 3], [0, 1, 2, 3, 4], [0, 1, 2, 3, 4, 5], [0, 1, 2, 3, 4, 5, 6]] tm rfl rfl rfl rfl ?_
          refine RD.op rfl rfl rfl (eff_fieldAddr rfl rfl tf32_1 (by decide) rfl rfl rfl (Nat.le_of_ble_eq_true rfl)) ?_
          refine RD.op rfl rfl rfl (eff_load (y := .own _ _ _ _) rfl rfl ti29 rfl (.one rfl rfl rfl rfl)) ?_
          refine RD.op rfl rfl rfl (eff_load rfl rfl ti40 rfl (.whole rfl rfl rfl rfl rfl rfl)) ?_
          refine RD.op rfl rfl rfl (eff_callT (clone39_ret b hb) co26 rfl rfl rfl rfl) ?_
          refine RD.new rfl rfl rfl (eff_buildSliceL (id := 43) (els := [.t (.agg [_, _, _, _, _, _, _, _])]) rfl rfl te29 tz40 rfl (by decide) (by decide) rfl rfl rfl rfl) ?_
          refine RD.new rfl rfl rfl (eff_append (id := 10027) (ys := [_]) rfl rfl ta29 rfl rfl rfl (by simp) rfl rfl (srcOwn rfl rfl rfl rfl rfl rfl) (by simp) (by have h1 := hS.1; have h2 := hS.2.1; have h3 := hS.2.2.1; simp; omega) (by have h1 := hS.1; have h2 := hS.2.1; have h3 := hS.2.2.1; simp; omega)) ?_
          refine RD.op rfl rfl rfl (eff_fieldAddr rfl rfl tf32_1 (by decide) rfl rfl rfl (Nat.le_of_ble_eq_true rfl)) ?_
          refine RD.store rfl rfl rfl (eff_storeA (v := .own _ _ _ _) (ys := [_, _, _, _]) (els := [_]) (els' := [_]) rfl rfl ti29 rfl rfl rfl rfl rfl rfl rfl (Nat.le_of_ble_eq_true rfl) rfl rfl rfl) ?_
          refine RD.nil ?_
          refine awp_seq ?_
          refine awp_rw rfl ?_
          refine RW.op rfl rfl (eff_fieldAddr rfl rfl tf32_3 (by decide) rfl rfl rfl (Nat.le_of_ble_eq_true rfl)) ?_
          refine RW.op rfl rfl (eff_load (y := .own _ _ _ _) rfl rfl ti30 rfl (.one rfl rfl rfl rfl)) ?_
          refine RW.op rfl rfl (eff_fieldAddr rfl rfl tf40_0 (by decide) rfl rfl rfl (Nat.le_of_ble_eq_true rfl)) ?_
          refine RW.op rfl rfl (eff_load (y := .t _) rfl rfl ti3 rfl (.one rfl rfl rfl rfl)) ?_
          refine RW.new rfl rfl (eff_callG (insert47_retG hI S.seen b.id 1 (by have h1 := hS.2.1; have h2 := hS.2.2.1; omega) hsn) co27 (fun id => id + 12005) rfl rfl rfl ⟨.own 0 _ _ _ rfl rfl, .t _, trivial⟩ (RenA.tupL (ds := [_, _]) ⟨.own _ _ _ _ rfl rfl, .t _, trivial⟩) rfl ⟨⟨rfl, treeEls_t, ⟨_, rfl, Nat.lt_succ_self _⟩⟩, trivial⟩ ⟨⟨treeEls_t, .inl rfl⟩, trivial⟩) ?_
          refine RW.op rfl rfl (eff_move (v := .tup _) rfl rfl rfl) ?_
          refine RW.op rfl rfl (eff_extractA rfl rfl rfl rfl) ?_
          refine RW.op rfl rfl (eff_extractA rfl rfl rfl rfl) ?_
          refine RW.op rfl rfl (eff_fieldAddr rfl rfl tf32_3 (by decide) rfl rfl rfl (Nat.le_of_ble_eq_true rfl)) ?_
          refine RW.store rfl rfl (eff_storeA (v := .own _ _ _ _) (ys := [_, _, _, _]) (els := [_]) (els' := [_]) rfl rfl ti30 rfl rfl rfl rfl rfl rfl rfl (Nat.le_of_ble_eq_true rfl) rfl rfl rfl) ?_
          refine RW.nil ?_
          refine awp_seq ?_
          refine awp_rw rfl ?_
          refine RW.op rfl rfl (eff_load rfl rfl ti32 rfl (.whole rfl rfl rfl rfl rfl rfl)) ?_
          refine RW.store rfl rfl (eff_storeW (v := .agg _) (els := [_]) (els' := [_]) rfl rfl ti32 rfl rfl rfl rfl rfl rfl rfl rfl rfl) ?_
          refine RW.op rfl rfl (eff_assign (v := .t _) rfl rfl rfl) ?_
          refine RW.nil ?_
          refine awp_ret ?_
          rw [show create S b = (⟨S.quota, S.bundles ++ [b], S.passed, sortl (S.seen ++ [b.id])⟩, 0) from by unfold create; rw [if_neg (by omega), if_neg h2, if_neg (by omega), if_neg (by omega)]]
          exact ⟨Or.inr rfl, [_, _], ⟨.cell rfl ti32 (.whole rfl rfl rfl rfl rfl rfl) (Res.aggP (xs := [_, _, _, _]) ⟨.t _, Res.ownT (xs := (S.bundles ++ [b]).map encB) rfl rfl (by simp <;> rfl) (by simp), Res.ownT (xs := S.passed.map encI) rfl rfl rfl (by simp), Res.ownT (xs := (sortl (S.seen ++ [b.id])).map encI) rfl rfl (by show List.map AV.t (List.map encI _) = _; rw [if_neg h2, sortl_ins hsn]) (by rw [if_neg h2, sortl_ins hsn]; simp), trivial⟩), .tmp (.t _), trivial⟩, (by repeat' first | exact trivial | exact Wk.refl _ | exact Wk.sl _ | refine And.intro ?_ ?_ | refine Wk.tupP ?_ | refine Wk.aggP ?_)⟩

end Go.Tv.D27

end
section
open Go Go.Tv Go.Proofs
namespace Go.Tv.D27
set_option maxRecDepth 20000
set_option linter.unusedSimpArgs false
set_option linter.unusedVariables false
theorem create_dup {s : Store} {b : Bundle} : (create s b).2 = 4 ↔ b.data.length ≤ 256 ∧ b.id ∈ s.seen := by
  unfold create
  by_cases h1 : 256 < b.data.length
  · rw [if_pos h1]; constructor
    · intro h; simp at h
    · intro h; omega
  · rw [if_neg h1]
    by_cases h2 : b.id ∈ s.seen
    · rw [if_pos h2]; exact ⟨fun _ => ⟨by omega, h2⟩, fun _ => rfl⟩
    · rw [if_neg h2]
      constructor
      · intro h
        split at h
        · simp at h
        · split at h <;> simp at h
      · intro h; exact absurd h.2 h2

theorem accept23_ret (hI : InsC) (S : Store) (b : Bundle) (hS : SOK S) (hb : BOK b) (hsn : S.seen.Pairwise (· < ·)) : Ret Tryd.prog 14 [encS S, encB b] (.tup [encS (accept S b).1, .bool (accept S b).2.1, encI (accept S b).2.2]) := by
  refine ret_of_awp Tryd.func14 rfl (Nat.le_of_ble_eq_true rfl) ?_
  refine awp_seq ?_
  refine awp_rw rfl ?_
  refine RW.new rfl rfl (eff_boxK (v := .t _) (k := 4) (id := 2) rfl rfl rfl rfl rfl rfl) ?_
  refine RW.new rfl rfl (eff_boxK (v := .t _) (k := 8) (id := 3) rfl rfl rfl rfl rfl rfl) ?_
  refine RW.new rfl rfl (eff_allocK (k := 4) (id := 4) rfl rfl tz32 rfl rfl) ?_
  refine RW.op rfl rfl (eff_assign (v := .t _) rfl rfl rfl) ?_
  refine RW.op rfl rfl (eff_assign (v := .t _) rfl rfl rfl) ?_
  refine RW.nil ?_
  refine awp_seq ?_
  refine awp_rw rfl ?_
  refine RW.op rfl rfl (eff_load rfl rfl ti32 rfl (.whole rfl rfl rfl rfl rfl rfl)) ?_
  refine RW.op rfl rfl (eff_load rfl rfl ti40 rfl (.whole rfl rfl rfl rfl rfl rfl)) ?_
  refine RW.op rfl rfl (eff_callT (create28_ret hI S b hS hb hsn) co6 rfl rfl rfl rfl) ?_
  refine RW.op rfl rfl (eff_move (v := .t _) rfl rfl rfl) ?_
  refine RW.op rfl rfl (eff_extract rfl rfl rfl rfl) ?_
  refine RW.op rfl rfl (eff_extract rfl rfl rfl rfl) ?_
  refine RW.new rfl rfl (eff_allocK (k := 4) (id := 7) rfl rfl tz32 rfl rfl) ?_
  refine RW.store rfl rfl (eff_storeW (v := .t _) (els := [_]) (els' := [_]) rfl rfl ti32 rfl rfl rfl rfl rfl rfl rfl rfl rfl) ?_
  refine RW.op rfl rfl (eff_assign (v := .t _) rfl rfl rfl) ?_
  refine RW.nil ?_
  refine awp_seq ?_
  refine awp_seq ?_
  refine awp_rw rfl ?_
  refine RW.op rfl rfl (eff_move (v := .t _) rfl rfl rfl) ?_
  refine RW.op rfl rfl (eff_iop rfl rfl rfl rfl rfl) ?_
  refine RW.nil ?_
  refine awp_cond rfl (fun h1 => ?_) (fun h1 => ?_)
  · try simp only [decide_eq_true_eq, decide_eq_false_iff_not, beq_iff_eq, bne_iff_ne, bne_eq_false_iff_eq, beq_eq_false_iff_ne, Bool.not_eq_true, Bool.not_eq_false, Bool.not_eq_true', Bool.not_eq_false', ne_eq] at h1
    refine awp_seq ?_
    refine awp_rw rfl ?_
    refine RW.op rfl rfl (eff_load rfl rfl ti32 rfl (.whole rfl rfl rfl rfl rfl rfl)) ?_
    refine RW.new3 rfl rfl (eff_callG (copied_retG S hS) co25 (fun id => id + 10000) rfl rfl rfl ⟨.t _, trivial⟩ (RenA.aggL (ds := [_, _, _, _]) ⟨.t _, .own _ _ _ _ rfl rfl, .own _ _ _ _ rfl rfl, .own _ _ _ _ rfl rfl, trivial⟩) rfl trivial ⟨⟨treeEls_t, .inr rfl⟩, ⟨treeEls_t, .inr rfl⟩, ⟨treeEls_t, .inr rfl⟩, trivial⟩) ?_
    refine RW.store rfl rfl (eff_storeW (v := .agg _) (els := [_]) (els' := [_]) rfl rfl ti32 rfl rfl rfl rfl rfl rfl rfl rfl rfl) ?_
    refine RW.op rfl rfl (eff_assign (v := .t _) rfl rfl rfl) ?_
    refine RW.op rfl rfl (eff_assign (v := .t _) rfl rfl rfl) ?_
    refine RW.nil ?_
    refine awp_ret ?_
    rw [show accept S b = (S, true, 0) from by unfold accept; rw [if_pos (create_dup.1 h1)]]
    exact ⟨Or.inr rfl, [_, _, _], ⟨.cell rfl ti32 (.whole rfl rfl rfl rfl rfl rfl) (Res.aggP (xs := [_, _, _, _]) ⟨.t _, Res.ownT (xs := S.bundles.map encB) rfl rfl rfl (by simp), Res.ownT (xs := S.passed.map encI) rfl rfl rfl (by simp), Res.ownT (xs := S.seen.map encI) rfl rfl rfl (by simp), trivial⟩), .tmp (.t _), .tmp (.t _), trivial⟩, (by repeat' first | exact trivial | exact Wk.refl _ | exact Wk.sl _ | refine And.intro ?_ ?_ | refine Wk.tupP ?_ | refine Wk.aggP ?_)⟩
  · try simp only [decide_eq_true_eq, decide_eq_false_iff_not, beq_iff_eq, bne_iff_ne, bne_eq_false_iff_eq, beq_eq_false_iff_ne, Bool.not_eq_true, Bool.not_eq_false, Bool.not_eq_true', Bool.not_eq_false', ne_eq] at h1
    refine awp_skip ?_
    refine awp_seq ?_
    refine awp_rw rfl ?_
    refine RW.op rfl rfl (eff_load rfl rfl ti32 rfl (.whole rfl rfl rfl rfl rfl rfl)) ?_
    refine RW.op rfl rfl (eff_move (v := .t _) rfl rfl rfl) ?_
    refine RW.op rfl rfl (eff_iop rfl rfl rfl rfl rfl) ?_
    refine RW.op rfl rfl (eff_move (v := .t _) rfl rfl rfl) ?_
    refine RW.store rfl rfl (eff_storeW (v := .t _) (els := [_]) (els' := [_]) rfl rfl ti32 rfl rfl rfl rfl rfl rfl rfl rfl rfl) ?_
    refine RW.op rfl rfl (eff_assign (v := .t _) rfl rfl rfl) ?_
    refine RW.op rfl rfl (eff_assign (v := .t _) rfl rfl rfl) ?_
    refine RW.nil ?_
    refine awp_ret ?_
    rw [show accept S b = ((create S b).1, decide ((create S b).2 = 0), (create S b).2) from by unfold accept; rw [if_neg (fun h => h1 (create_dup.2 h))]]
    exact ⟨Or.inr rfl, [_, _, _], ⟨.cell rfl ti32 (.whole rfl rfl rfl rfl rfl rfl) (.t _), .tmp (.t _), .tmp (.t _), trivial⟩, (by repeat' first | exact trivial | exact Wk.refl _ | exact Wk.sl _ | refine And.intro ?_ ?_ | refine Wk.tupP ?_ | refine Wk.aggP ?_)⟩

theorem pass26_ret (hI : InsC) (S : Store) (n : Int) (hS : SOK S) (hp : S.passed.Pairwise (· < ·)) : Ret Tryd.prog 16 [encS S, encI n] (.tup [encS (pass S n).1, encI (pass S n).2]) := by
  refine ret_of_awp Tryd.func16 rfl (Nat.le_of_ble_eq_true rfl) ?_
  refine awp_seq ?_
  refine awp_rw rfl ?_
  refine RW.new rfl rfl (eff_boxK (v := .t _) (k := 4) (id := 2) rfl rfl rfl rfl rfl rfl) ?_
  refine RW.new rfl rfl (eff_allocK (k := 4) (id := 4) rfl rfl tz32 rfl rfl) ?_
  refine RW.op rfl rfl (eff_assign (v := .t _) rfl rfl rfl) ?_
  refine RW.nil ?_
  refine awp_seq ?_
  refine awp_seq ?_
  refine awp_rw rfl ?_
  refine RW.op rfl rfl (eff_load rfl rfl ti32 rfl (.whole rfl rfl rfl rfl rfl rfl)) ?_
  refine RW.op rfl rfl (eff_move (v := .t _) rfl rfl rfl) ?_
  refine RW.op rfl rfl (eff_callT (find44_ret S n hS) co33 rfl rfl rfl rfl) ?_
  refine RW.op rfl rfl (eff_iop rfl rfl rfl rfl rfl) ?_
  refine RW.nil ?_
  refine awp_cond rfl (fun h1 => ?_) (fun h1 => ?_)
  · try simp only [decide_eq_true_eq, decide_eq_false_iff_not, beq_iff_eq, bne_iff_ne, bne_eq_false_iff_eq, beq_eq_false_iff_ne, Bool.not_eq_true, Bool.not_eq_false, Bool.not_eq_true', Bool.not_eq_false', ne_eq] at h1
    refine awp_seq ?_
    refine awp_rw rfl ?_
    refine RW.op rfl rfl (eff_buildT (ys := [_, _, _, _]) rfl rfl tz32 tg32 rfl) ?_
    refine RW.store rfl rfl (eff_storeW (v := .t _) (els := [_]) (els' := [_]) rfl rfl ti32 rfl rfl rfl rfl rfl rfl rfl rfl rfl) ?_
    refine RW.op rfl rfl (eff_assign (v := .t _) rfl rfl rfl) ?_
    refine RW.nil ?_
    refine awp_ret ?_
    rw [show pass S n = (zs, 3) from by unfold pass; rw [if_pos h1]]
    exact ⟨Or.inr rfl, [_, _], ⟨.cell rfl ti32 (.whole rfl rfl rfl rfl rfl rfl) (.t _), .tmp (.t _), trivial⟩, (by repeat' first | exact trivial | exact Wk.refl _ | exact Wk.sl _ | refine And.intro ?_ ?_ | refine Wk.tupP ?_ | refine Wk.aggP ?_)⟩
  · try simp only [decide_eq_true_eq, decide_eq_false_iff_not, beq_iff_eq, bne_iff_ne, bne_eq_false_iff_eq, beq_eq_false_iff_ne, Bool.not_eq_true, Bool.not_eq_false, Bool.not_eq_true', Bool.not_eq_false', ne_eq] at h1
    refine awp_skip ?_
    refine awp_seq ?_
    refine awp_rw rfl ?_
    refine RW.op rfl rfl (eff_load rfl rfl ti32 rfl (.whole rfl rfl rfl rfl rfl rfl)) ?_
    refine RW.new3 rfl rfl (eff_callG (copied_retG S hS) co25 (fun id => id + 10000) rfl rfl rfl ⟨.t _, trivial⟩ (RenA.aggL (ds := [_, _, _, _]) ⟨.t _, .own _ _ _ _ rfl rfl, .own _ _ _ _ rfl rfl, .own _ _ _ _ rfl rfl, trivial⟩) rfl trivial ⟨⟨treeEls_t, .inr rfl⟩, ⟨treeEls_t, .inr rfl⟩, ⟨treeEls_t, .inr rfl⟩, trivial⟩) ?_
    refine RW.new rfl rfl (eff_allocK (k := 4) (id := 6) rfl rfl tz32 rfl rfl) ?_
    refine RW.store rfl rfl (eff_storeW (v := .agg _) (els := [_]) (els' := [_]) rfl rfl ti32 rfl rfl rfl rfl rfl rfl rfl rfl rfl) ?_
    refine RW.nil ?_
    refine awp_seq ?_
    refine awp_rw rfl ?_
    refine RW.op rfl rfl (eff_assign (v := .t _) rfl rfl rfl) ?_
    refine RW.nil ?_
    refine awp_seq ?_
    refine awp_seq ?_
    refine awp_rw rfl ?_
    refine RW.op rfl rfl (eff_fieldAddr rfl rfl tf32_2 (by decide) rfl rfl rfl (Nat.le_of_ble_eq_true rfl)) ?_
    refine RW.op rfl rfl (eff_load (y := .own _ _ _ _) rfl rfl ti30 rfl (.one rfl rfl rfl rfl)) ?_
    refine RW.op rfl rfl (eff_move (v := .t _) rfl rfl rfl) ?_
    refine RW.new rfl rfl (eff_callG (insert47_retG hI S.passed n 1 (by have h1 := hS.2.1; have h2 := hS.2.2.1; omega) hp) co27 (fun id => id + 11005) rfl rfl rfl ⟨.own 0 _ _ _ rfl rfl, .t _, trivial⟩ (RenA.tupL (ds := [_, _]) ⟨.own _ _ _ _ rfl rfl, .t _, trivial⟩) rfl ⟨⟨rfl, treeEls_t, ⟨_, rfl, Nat.lt_succ_self _⟩⟩, trivial⟩ ⟨⟨treeEls_t, .inl rfl⟩, trivial⟩) ?_
    refine RW.op rfl rfl (eff_move (v := .tup _) rfl rfl rfl) ?_
    refine RW.op rfl rfl (eff_extractA rfl rfl rfl rfl) ?_
    refine RW.op rfl rfl (eff_extractA rfl rfl rfl rfl) ?_
    refine RW.op rfl rfl (eff_fieldAddr rfl rfl tf32_2 (by decide) rfl rfl rfl (Nat.le_of_ble_eq_true rfl)) ?_
    refine RW.store rfl rfl (eff_storeA (v := .own _ _ _ _) (ys := [_, _, _, _]) (els := [_]) (els' := [_]) rfl rfl ti30 rfl rfl rfl rfl rfl rfl rfl (Nat.le_of_ble_eq_true rfl) rfl rfl rfl) ?_
    refine RW.op rfl rfl (eff_assign (v := .t _) rfl rfl rfl) ?_
    refine RW.nil ?_
    refine awp_seq ?_
    refine awp_rw rfl ?_
    refine RW.op rfl rfl (eff_move (v := .t _) rfl rfl rfl) ?_
    refine RW.op rfl rfl (eff_unop rfl rfl rfl rfl) ?_
    refine RW.nil ?_
    refine awp_cond rfl (fun h2 => ?_) (fun h2 => ?_)
    · try simp only [decide_eq_true_eq, decide_eq_false_iff_not, beq_iff_eq, bne_iff_ne, bne_eq_false_iff_eq, beq_eq_false_iff_ne, Bool.not_eq_true, Bool.not_eq_false, Bool.not_eq_true', Bool.not_eq_false', ne_eq] at h2
      refine awp_seq ?_
      refine awp_rw rfl ?_
      refine RW.op rfl rfl (eff_buildT (ys := [_, _, _, _]) rfl rfl tz32 tg32 rfl) ?_
      refine RW.store rfl rfl (eff_storeW (v := .t _) (els := [_]) (els' := [_]) rfl rfl ti32 rfl rfl rfl rfl rfl rfl rfl rfl rfl) ?_
      refine RW.op rfl rfl (eff_assign (v := .t _) rfl rfl rfl) ?_
      refine RW.nil ?_
      refine awp_ret ?_
      rw [show pass S n = (zs, 44) from by unfold pass; rw [if_neg h1, if_pos (by simpa using h2)]]
      exact ⟨Or.inr rfl, [_, _], ⟨.cell rfl ti32 (.whole rfl rfl rfl rfl rfl rfl) (.t _), .tmp (.t _), trivial⟩, (by repeat' first | exact trivial | exact Wk.refl _ | exact Wk.sl _ | refine And.intro ?_ ?_ | refine Wk.tupP ?_ | refine Wk.aggP ?_)⟩
    · try simp only [decide_eq_true_eq, decide_eq_false_iff_not, beq_iff_eq, bne_iff_ne, bne_eq_false_iff_eq, beq_eq_false_iff_ne, Bool.not_eq_true, Bool.not_eq_false, Bool.not_eq_true', Bool.not_eq_false', ne_eq] at h2
      refine awp_skip ?_
      refine awp_seq ?_
      refine awp_rw rfl ?_
      refine RW.op rfl rfl (eff_load rfl rfl ti32 rfl (.whole rfl rfl rfl rfl rfl rfl)) ?_
      refine RW.store rfl rfl (eff_storeW (v := .agg _) (els := [_]) (els' := [_]) rfl rfl ti32 rfl rfl rfl rfl rfl rfl rfl rfl rfl) ?_
      refine RW.op rfl rfl (eff_assign (v := .t _) rfl rfl rfl) ?_
      refine RW.nil ?_
      refine awp_ret ?_
      have hx : n ∉ S.passed := by simpa using h2
      rw [show pass S n = (⟨S.quota, S.bundles, sortl (S.passed ++ [n]), S.seen⟩, 0) from by unfold pass; rw [if_neg h1, if_neg hx]]
      exact ⟨Or.inr rfl, [_, _], ⟨.cell rfl ti32 (.whole rfl rfl rfl rfl rfl rfl) (Res.aggP (xs := [_, _, _, _]) ⟨.t _, Res.ownT (xs := S.bundles.map encB) rfl rfl rfl (by simp), Res.ownT (xs := (sortl (S.passed ++ [n])).map encI) rfl rfl (by show List.map AV.t (List.map encI _) = _; rw [if_neg hx, sortl_ins hp]) (by rw [if_neg hx, sortl_ins hp]; simp), Res.ownT (xs := S.seen.map encI) rfl rfl rfl (by simp), trivial⟩), .tmp (.t _), trivial⟩, (by repeat' first | exact trivial | exact Wk.refl _ | exact Wk.sl _ | refine And.intro ?_ ?_ | refine Wk.tupP ?_ | refine Wk.aggP ?_)⟩

end Go.Tv.D27

end
section
open Go Go.Tv Go.Proofs
namespace Go.Tv.D27
set_option linter.unusedSimpArgs false
set_option linter.unusedVariables false

set_option maxHeartbeats 4000000 in
set_option maxRecDepth 100000 in
theorem ins_shift (b n c i vb vc : Nat) (ca cv : Array Value) (vs : List Value) (w : World) (hi : i < n) (hroom : n + 1 ≤ c) (hn63 : n + 1 ≤ 9223372036854775807) (hvb : vb ≠ b)
    (hB : w.heap[b]? = some (.cells ca 3 (0, 0))) (hV : w.heap[vb]? = some (.cells cv 3 (0, 0))) (hcs : c * 1 ≤ ca.size) (hvl : vs.length = 1)
    (hvs : ∀ (j : Nat) v, vs[j]? = some v → w.cell? ⟨vb, 0 + j, none⟩ = some v)
    (h1c : ∀ (j : Nat) v, j < n * 1 → ca[j]? = some v → v.oneCell' = true) (h1v : ∀ v, v ∈ vs → v.oneCell' = true) :
    Calls Tryd.prog 41 #[.slice (some ⟨b, 0, none⟩) n c, .int .i64 i, .slice (some ⟨vb, 0, none⟩) 1 vc] w fun e w' =>
      e = .returned (.slice (some ⟨b, 0, none⟩) (n + 1) c) ∧
      w' = setB w.drew b (.cells (writeAt (writeAt ca ((i + 1) * 1) ((ca.toList.drop (i * 1)).take ((n - i) * 1))) (i * 1) vs) 3 (0, 0)) := by
  have hk : elemOf Tryd.prog 30 = some (3, 1, false) := te30
  have hz1 : ¬ ((i : Int) = (n : Int)) := by omega
  have hzz : ¬ (n = i) := by omega
  have hov : ∀ lb cb, (callFunc 52 #[.slice (some ⟨vb, 0, none⟩) 1 vc, .slice (some ⟨b, (i + 1), none⟩) lb cb]).run Tryd.prog w = .ok (.value (.bool false)) w := fun lb cb => by
    rw [run_callFunc_extern (f := 52) (fn := Tryd.f52) (by kernel_rfl) (by kernel_rfl) (by kernel_rfl) (by kernel_rfl) (e := Extern.SlicesOverlaps.overlaps #[30, 30] #[4]) (by kernel_rfl),
      Lib.run_overlaps_apart w 30 4 3 Tryd.underlying30 1 Tryd.sizeOf3 ⟨vb, 0, none⟩ ⟨b, (i + 1), none⟩ 1 vc lb cb hvb 3 3 cv.size ca.size (by simp [World.shape?, hV]) (by simp [World.shape?, hB]) (by omega) (by simp [World.frozen?, hV]) (by simp [World.frozen?, hV])]
    rfl
  have mixed : Tryd.prog.follows .mixedOrders = true := tm
  have hw1 : IntKind.i64.wrap ((i : Int) + 1) = (i : Int) + 1 := by rw [IntKind.wrap_i64]; omega
  have hb1 : (0 : Int) ≤ (i : Int) + 1 := by omega
  have hin : i ≤ n := by omega
  have htn : ((i : Int) + 1).toNat = i + 1 := by omega
  have hb2 : ¬ (c = i + 1) := by omega
  have hb3 : (i : Int) ≤ (n : Int) + 1 := by omega
  have hb4 : ¬ (c = i) := by omega
  have hd1 : w.drew.heap[b]? = some (.cells ca 3 (0, 0)) := hB
  obtain ⟨vs1, hvs1⟩ : ∃ vs1, vs1 = (ca.toList.drop (i * 1)).take ((n - i) * 1) := ⟨_, rfl⟩
  have hl1 : vs1.length = (n - i) * 1 := by rw [hvs1, List.length_take, List.length_drop, Array.length_toList]; omega
  have hg1 : ∀ (j : Nat) v, vs1[j]? = some v → ca[i * 1 + j]? = some v ∧ j < (n - i) * 1 := by
    intro j v hj
    have hjl : j < (n - i) * 1 := by rw [← hl1]; exact (List.getElem?_eq_some_iff.1 hj).1
    rw [hvs1, List.getElem?_take, if_pos hjl, List.getElem?_drop, Array.getElem?_toList] at hj
    exact ⟨hj, hjl⟩
  have hcp1 : ∀ ty dc sc, (Builtin.copy_ #[30, 30] ty #[.slice (some ⟨b, (i + 1), none⟩) (n - i) dc, .slice (some ⟨b, i, none⟩) (n + 1 - i) sc]).run Tryd.prog w.drew =
      .ok (goInt (n - i : Nat)) (setB w.drew b (.cells (writeAt ca ((i + 1)) vs1) 3 (0, 0))) := fun ty dc sc =>
    run_copyK hk hd1 vs1 (by simp only [Nat.min_def]; split <;> omega) hl1
      (fun j v hj => by rw [cell_of_heap hd1]; have h := (hg1 j v hj).1; simpa using h) (fun v hv => by
        obtain ⟨j, hj⟩ := List.mem_iff_getElem?.1 hv
        obtain ⟨h1, h2⟩ := hg1 j v hj
        exact h1c _ v (by omega) h1) (by rw [hl1]; omega)
  obtain ⟨W1, hW1⟩ : ∃ W1, W1 = setB w.drew b (.cells (writeAt ca ((i + 1)) vs1) 3 (0, 0)) := ⟨_, rfl⟩
  have hH1 : W1.heap[b]? = some (.cells (writeAt ca ((i + 1)) vs1) 3 (0, 0)) := by rw [hW1]; exact setB_same _ (lt_of_heap hd1)
  have hcp2 : ∀ ty dc, (Builtin.copy_ #[30, 30] ty #[.slice (some ⟨b, i, none⟩) (n + 1 - i) dc, .slice (some ⟨vb, 0, none⟩) 1 vc]).run Tryd.prog W1 =
      .ok (goInt (1 : Nat)) (setB W1 b (.cells (writeAt (writeAt ca ((i + 1)) vs1) (i) vs) 3 (0, 0))) := fun ty dc =>
    run_copyK hk hH1 vs (by simp only [Nat.min_def]; split <;> omega) (by rw [hvl])
      (fun j v hj => by
        have h := hvs j v hj
        rw [cell_of_heap hV] at h
        rw [cell_of_heap (w := W1) (c := cv) (ty := 3) (fz := (0, 0)) (by rw [hW1, setB_ne _ hvb]; exact hV)]
        exact h)
      h1v (by rw [writeAt_size, hvl]; omega)
  rw [hW1] at hcp2
  have hfin : setB W1 b (.cells (writeAt (writeAt ca ((i + 1)) vs1) (i) vs) 3 (0, 0)) = setB w.drew b (.cells (writeAt (writeAt ca ((i + 1) * 1) ((ca.toList.drop (i * 1)).take ((n - i) * 1))) (i * 1) vs) 3 (0, 0)) := by
    rw [hW1, setB_setB, hvs1]
    simp only [Nat.mul_one]
  rw [← hfin]
  rw [hW1]
  clear hW1 hfin hvs1 hl1 hg1 hd1 hH1 hk hB hV hvs h1c h1v
  go_enter Tryd.func41, Tryd.ntmps41
  go_wp2_with (simp only [hov])
  go_region_law_o (refine step_copy_runI rfl _ _ 30 30 rfl _ _ (by simp [Act.eval, Act.put]) (by simp [Act.eval, Act.put]) (hcp1 _ _ _) ?_)
  go_wp2_with (at_builtin; refine wpList_copy_runI _ rfl _ _ 30 30 rfl _ _ rfl rfl (hcp2 _ _) ?_)
  go_ret
  exact ⟨rfl, rfl⟩
set_option maxHeartbeats 4000000 in
set_option maxRecDepth 100000 in
theorem ins_grow (b n c i vb vc : Nat) (ca cv : Array Value) (vs : List Value) (w : World) (hi : i < n) (hnc : n ≤ c) (hroom : c < n + 1) (hvb : vb ≠ b) (hbig : (n + 1) * 8 ≤ 140737488355328)
    (hB : w.heap[b]? = some (.cells ca 3 (0, 0))) (hV : w.heap[vb]? = some (.cells cv 3 (0, 0))) (hcs : n * 1 ≤ ca.size) (hvl : vs.length = 1)
    (hvs : ∀ (j : Nat) v, vs[j]? = some v → w.cell? ⟨vb, 0 + j, none⟩ = some v)
    (h1c : ∀ (j : Nat) v, j < n * 1 → ca[j]? = some v → v.oneCell' = true) (h1v : ∀ v, v ∈ vs → v.oneCell' = true) :
    Calls Tryd.prog 41 #[.slice (some ⟨b, 0, none⟩) n c, .int .i64 i, .slice (some ⟨vb, 0, none⟩) 1 vc] w fun e w' => ∃ G rest, n + 1 ≤ G ∧ rest.size = (G - (n + 1)) * 1 ∧
      e = .returned (.slice (some ⟨w.heap.size, 0, none⟩) (n + 1) G) ∧
      w' = w.drew.drew.alloc (.cells ((ca.toList.take (i * 1)).toArray ++ vs.toArray ++ ((ca.toList.drop (i * 1)).take ((n - i) * 1)).toArray ++ rest) 3) := by
  have hk : elemOf Tryd.prog 30 = some (3, 1, false) := te30
  have hz1 : ¬ ((i : Int) = (n : Int)) := by omega
  have hzz : ¬ (n = i) := by omega
  have hz3 : (c : Int) < (n : Int) + 1 := by omega
  have hkk : (n : Int) + 1 - (i : Int) = ((n + 1 - i : Nat) : Int) := by omega
  have hik : i + (n + 1 - i) = n + 1 := by omega
  have mixed : Tryd.prog.follows .mixedOrders = true := tm
  have hbw : b < w.heap.size := lt_of_heap hB
  have hvw : vb < w.heap.size := lt_of_heap hV
  obtain ⟨i0, z, hi0, hz0, hzs, hzb, hzz0⟩ := ins_info tz3 ti3 tb3
  obtain ⟨vs0, hvs0⟩ : ∃ vs0, vs0 = ca.toList.take (i * 1) := ⟨_, rfl⟩
  have hl0 : vs0.length = i * 1 := by rw [hvs0, List.length_take, Array.length_toList]; omega
  obtain ⟨vs1, hvs1⟩ : ∃ vs1, vs1 = (ca.toList.drop (i * 1)).take ((n - i) * 1) := ⟨_, rfl⟩
  have hl1 : vs1.length = (n - i) * 1 := by rw [hvs1, List.length_take, List.length_drop, Array.length_toList]; omega
  have hg0 : ∀ (j : Nat) v, vs0[j]? = some v → ca[j]? = some v := by
    intro j v hj
    have hjl : j < i * 1 := by rw [← hl0]; exact (List.getElem?_eq_some_iff.1 hj).1
    rw [hvs0, List.getElem?_take, if_pos hjl, Array.getElem?_toList] at hj
    exact hj
  have hg1 : ∀ (j : Nat) v, vs1[j]? = some v → ca[i * 1 + j]? = some v ∧ j < (n - i) * 1 := by
    intro j v hj
    have hjl : j < (n - i) * 1 := by rw [← hl1]; exact (List.getElem?_eq_some_iff.1 hj).1
    rw [hvs1, List.getElem?_take, if_pos hjl, List.getElem?_drop, Array.getElem?_toList] at hj
    exact ⟨hj, hjl⟩
  have hd1 : w.drew.heap[b]? = some (.cells ca 3 (0, 0)) := hB
  have hold : (Builtin.firstCells i0.size i (.slice (some ⟨b, 0, none⟩) i c)).run Tryd.prog w.drew = .ok vs0.toArray w.drew := by
    rw [hzs]
    have := run_loadCells_list (P := Tryd.prog) (w := w.drew) (b := b) (o := 0) vs0 (fun j v hj => by rw [cell_of_heap hd1]; simpa using hg0 j v hj)
    rw [hl0] at this
    exact this
  obtain ⟨G, hG⟩ : ∃ G, G = grownCap w (n + 1) c 3 := ⟨_, rfl⟩
  obtain ⟨Z, hZ⟩ : ∃ Z, Z = Builtin.zeroCells z.cells (n + 1 - i) := ⟨_, rfl⟩
  obtain ⟨R, hR⟩ : ∃ R, R = Builtin.zeroCells z.cells (G - (n + 1)) := ⟨_, rfl⟩
  obtain ⟨row, hrow⟩ : ∃ row, row = vs0.toArray ++ Z ++ R := ⟨_, rfl⟩
  have hZs : Z.size = (n + 1 - i) * 1 := by rw [hZ]; simp [Builtin.zeroCells, hzb]
  have hRs : R.size = (G - (n + 1)) * 1 := by rw [hR]; simp [Builtin.zeroCells, hzb]
  have hrz : ∀ ty, (Builtin.append_ #[30, 3] ty #[.slice (some ⟨b, 0, none⟩) i c, .int .i64 ((n : Int) + 1 - (i : Int))]).run Tryd.prog w =
      .ok (.slice (some ⟨w.heap.size, 0, none⟩) (n + 1) G) (w.drew.alloc (.cells row 3)) := fun ty => by
    have h := Lib.run_append_grow_zeros w 30 3 ty 3 i0 z .i64 .i64 Tryd.underlying30 Tryd.underlying3 hi0 hz0 (some ⟨b, 0, none⟩) i c vs0 hold (n + 1 - i) (by omega) (by omega) (by omega) (by omega) (by rw [hzz0]; omega) (by rw [hzz0, hik]; exact growslice_fits hroom hbig)
    rw [hik] at h
    rw [hkk]
    rw [h, hrow, hZ, hR, hG]
  have hGn : n + 1 ≤ G := by rw [hG]; exact grownCap_ge w _ _ _
  have hG63 : G ≤ 9223372036854775807 := by
    have := grownCap_le_maxLen w (n + 1) c 3 (by unfold maxLen; omega)
    rw [← hG] at this
    unfold maxLen at this
    omega
  have hrs : row.size = i * 1 + (n + 1 - i) * 1 + (G - (n + 1)) * 1 := by rw [hrow, Array.size_append, Array.size_append, hZs, hRs, List.size_toArray, hl0]
  obtain ⟨N, hN⟩ : ∃ N, N = w.heap.size := ⟨_, rfl⟩
  have hA : (w.drew.alloc (.cells row 3)).heap[N]? = some (.cells row 3 (0, 0)) := by rw [hN]; show (w.heap.push _)[w.heap.size]? = _; exact Array.getElem?_push_size
  have hbN : b ≠ N := by omega
  have hvN : vb ≠ N := by omega
  have hold2 : ∀ (r : Array Value) (x : Nat), x < w.heap.size → (setB (w.drew.alloc (.cells row 3)) N (.cells r 3 (0, 0))).drew.heap[x]? = w.heap[x]? := fun r x hx => by
    show (setB (w.drew.alloc (.cells row 3)) N (.cells r 3 (0, 0))).heap[x]? = w.heap[x]?
    rw [setB_ne _ (by omega)]
    exact Array.getElem?_push_lt hx |>.trans (Array.getElem?_eq_getElem hx).symm
  have hcpA : ∀ ty dc, (Builtin.copy_ #[30, 30] ty #[.slice (some ⟨N, i, none⟩) (n + 1 - i) dc, .slice (some ⟨vb, 0, none⟩) 1 vc]).run Tryd.prog (w.drew.alloc (.cells row 3)) =
      .ok (goInt (1 : Nat)) (setB (w.drew.alloc (.cells row 3)) N (.cells (writeAt row (i) vs) 3 (0, 0))) := fun ty dc =>
    run_copyK hk hA vs (by simp only [Nat.min_def]; split <;> omega) (by rw [hvl])
      (fun j v hj => by
        have h := hvs j v hj
        rw [cell_of_heap hV] at h
        rw [cell_of_heap (c := cv) (ty := 3) (fz := (0, 0)) ((Array.getElem?_push_lt hvw).trans ((Array.getElem?_eq_getElem hvw).symm.trans hV))]
        exact h)
      h1v (by rw [hvl]; omega)
  have hH1 : (setB (w.drew.alloc (.cells row 3)) N (.cells (writeAt row (i) vs) 3 (0, 0))).drew.heap[N]? = some (.cells (writeAt row (i) vs) 3 (0, 0)) := setB_same _ (lt_of_heap hA)
  have hcpB : ∀ ty dc sc, (Builtin.copy_ #[30, 30] ty #[.slice (some ⟨N, (i + 1), none⟩) (n - i) dc, .slice (some ⟨b, i, none⟩) (n - i) sc]).run Tryd.prog (setB (w.drew.alloc (.cells row 3)) N (.cells (writeAt row (i) vs) 3 (0, 0))).drew =
      .ok (goInt (n - i : Nat)) (setB (setB (w.drew.alloc (.cells row 3)) N (.cells (writeAt row (i) vs) 3 (0, 0))).drew N (.cells (writeAt (writeAt row (i) vs) ((i + 1)) vs1) 3 (0, 0))) := fun ty dc sc =>
    run_copyK hk hH1 vs1 (by simp only [Nat.min_def]; split <;> omega) hl1
      (fun j v hj => by
        rw [cell_of_heap (c := ca) (ty := 3) (fz := (0, 0)) ((hold2 _ b hbw).trans hB)]
        have h := (hg1 j v hj).1; simpa using h)
      (fun v hv => by
        obtain ⟨j, hj⟩ := List.mem_iff_getElem?.1 hv
        obtain ⟨h1, h2⟩ := hg1 j v hj
        exact h1c _ v (by omega) h1) (by rw [writeAt_size, hl1, hrs]; omega)
  have hfin : setB (setB (w.drew.alloc (.cells row 3)) N (.cells (writeAt row (i) vs) 3 (0, 0))).drew N (.cells (writeAt (writeAt row (i) vs) ((i + 1)) vs1) 3 (0, 0)) =
      w.drew.drew.alloc (.cells (vs0.toArray ++ vs.toArray ++ vs1.toArray ++ R) 3) := by
    rw [hrow, hN]
    exact ins_world w 3 vs0 vs vs1 Z R (by omega) (by omega) (by rw [hZs, hvl, hl1]; omega)
  have hpost : ∀ (e : Ending) (w' : World), (e = .returned (.slice (some ⟨N, 0, none⟩) (n + 1) G) ∧ w' = setB (setB (w.drew.alloc (.cells row 3)) N (.cells (writeAt row (i) vs) 3 (0, 0))).drew N (.cells (writeAt (writeAt row (i) vs) ((i + 1)) vs1) 3 (0, 0))) →
      ∃ G rest, n + 1 ≤ G ∧ rest.size = (G - (n + 1)) * 1 ∧ e = .returned (.slice (some ⟨w.heap.size, 0, none⟩) (n + 1) G) ∧
      w' = w.drew.drew.alloc (.cells ((ca.toList.take (i * 1)).toArray ++ vs.toArray ++ ((ca.toList.drop (i * 1)).take ((n - i) * 1)).toArray ++ rest) 3) := by
    rintro e w' ⟨rfl, rfl⟩
    exact ⟨G, R, hGn, hRs, by rw [hN], by rw [hfin, hvs0, hvs1]⟩
  refine Calls.mono ?_ hpost
  rw [← hN] at hrz
  have hGi : ¬ (G = i) := by omega
  have hGim : ¬ (G = i + 1) := by omega
  have hci : ¬ (c = i) := by omega
  have hw1 : IntKind.i64.wrap ((i : Int) + 1) = (i : Int) + 1 := by rw [IntKind.wrap_i64]; omega
  have hb1 : (0 : Int) ≤ (i : Int) + 1 := by omega
  have hin : i ≤ n := by omega
  have htn : ((i : Int) + 1).toNat = i + 1 := by omega
  have hb3 : (i : Int) ≤ (n : Int) := by omega
  have hcpA2 : ∀ ty dc, (Builtin.copy_ #[30, 30] ty #[.slice (some ⟨N, i, none⟩) (n + 1 - i) dc, .slice (some ⟨vb, 0, none⟩) 1 vc]).run Tryd.prog (w.alloc (.cells row 3)).drew =
      .ok (goInt (1 : Nat)) (setB (w.alloc (.cells row 3)).drew N (.cells (writeAt row (i) vs) 3 (0, 0))) := hcpA
  have hcpB2 : ∀ ty dc sc, (Builtin.copy_ #[30, 30] ty #[.slice (some ⟨N, (i + 1), none⟩) (n - i) dc, .slice (some ⟨b, i, none⟩) (n - i) sc]).run Tryd.prog (setB (w.alloc (.cells row 3)).drew N (.cells (writeAt row (i) vs) 3 (0, 0))).drew =
      .ok (goInt (n - i : Nat)) (setB (setB (w.alloc (.cells row 3)).drew N (.cells (writeAt row (i) vs) 3 (0, 0))).drew N (.cells (writeAt (writeAt row (i) vs) ((i + 1)) vs1) 3 (0, 0))) := hcpB
  clear hcpA hcpB hpost hfin hold2 hH1 hbN hvN hA hN hrs hRs hZs hrow hR hZ hG hold hd1 hg1 hg0 hl1 hvs1 hl0 hvs0 hzz0 hzb hzs hz0 hi0 hkk hik hk hB hV hvs h1c h1v hbw hvw hcs hvl hvb
  go_enter Tryd.func41, Tryd.ntmps41
  go_wp2_with (first
    | (at_builtin; refine Lib.wpList_append_run _ rfl _ _ _ _ rfl _ _ rfl rfl _ _ (hrz _) ?_)
    | (at_builtin; refine wpList_copy_runI _ rfl _ _ 30 30 rfl _ _ rfl rfl (hcpA2 _ _) ?_))
  go_region_law_o (refine step_copy_runI rfl _ _ 30 30 rfl _ _ (by simp [Act.eval, Act.put]) (by simp [Act.eval, Act.put]) (hcpB2 _ _ _) ?_)
  go_wp2
  go_ret
  exact ⟨rfl, rfl⟩
end Go.Tv.D27

end
section
open Go Go.Tv Go.Proofs
namespace Go.Tv.D27
set_option maxRecDepth 20000
set_option linter.unusedSimpArgs false
set_option linter.unusedVariables false
theorem insEnd_retG (l : List Int) (g : Nat) (x : Int) (hl : l.length ≤ 1000000) : RetG Tryd.prog 41 [(0, some ⟨1, 3, g, (l.map encI).map .t⟩), (1, some ⟨1, 3, 0, [.t (encI x)]⟩)] [.own 0 g 0 l.length, .t (.int .i64 (l.length : Nat)), .own 1 0 0 1] [(0, some ⟨1, 3, g + 1, ((l ++ [x]).map encI).map .t⟩), (1, some ⟨1, 3, 1, [.t (encI x)]⟩)] (.own 0 (g + 1) 0 (l.length + 1)) := by
  refine retG_of_awp Tryd.func41 rfl (Nat.le_of_ble_eq_true rfl) ?_
  refine awp_seq ?_
  refine awp_rw rfl ?_
  refine RW.op rfl rfl (eff_assign (v := .t _) rfl rfl rfl) ?_
  refine RW.nil ?_
  refine awp_seq ?_
  refine awp_rw rfl ?_
  refine RW.op rfl rfl (eff_move (v := .own _ _ _ _) rfl rfl rfl) ?_
  refine RW.op rfl rfl (eff_move (v := .t _) rfl rfl rfl) ?_
  refine RW.op rfl rfl (eff_slice (l := some l.length) (h := none) rfl rfl te30 rfl rfl rfl rfl (.yes rfl rfl) .no (by simp) (by simp)) ?_
  refine RW.nil ?_
  refine awp_seq ?_
  refine awp_rw rfl ?_
  refine RW.op rfl rfl (eff_move (v := .own _ _ _ _) rfl rfl rfl) ?_
  refine RW.op rfl rfl (eff_len rfl rfl te30 rfl rfl rfl) ?_
  refine RW.op rfl rfl (eff_assign (v := .t _) rfl rfl rfl) ?_
  refine RW.nil ?_
  refine awp_seq ?_
  refine awp_seq ?_
  refine awp_rw rfl ?_
  refine RW.op rfl rfl (eff_move (v := .t _) rfl rfl rfl) ?_
  refine RW.op rfl rfl (eff_iop (r := .bool false) rfl rfl rfl rfl (by rfl)) ?_
  refine RW.nil ?_
  refine awp_cond rfl (fun h => nomatch h) (fun _ => ?_)
  refine awp_skip ?_
  refine awp_seq ?_
  refine awp_rw rfl ?_
  refine RW.op rfl rfl (eff_move (v := .own _ _ _ _) rfl rfl rfl) ?_
  refine RW.op rfl rfl (eff_len rfl rfl te30 rfl rfl rfl) ?_
  refine RW.op rfl rfl (eff_assign (v := .t _) rfl rfl rfl) ?_
  refine RW.nil ?_
  refine awp_seq ?_
  refine awp_seq ?_
  refine awp_rw rfl ?_
  refine RW.op rfl rfl (eff_move (v := .t _) rfl rfl rfl) ?_
  refine RW.op rfl rfl (eff_move (v := .t _) rfl rfl rfl) ?_
  refine RW.op rfl rfl (eff_iop (r := .bool true) rfl rfl rfl rfl (by simp [iop])) ?_
  refine RW.nil ?_
  refine awp_cond rfl (fun _ => ?_) (fun h => nomatch h)
  refine awp_seq ?_
  refine awp_rw rfl ?_
  refine RW.op rfl rfl (eff_move (v := .own _ _ _ _) rfl rfl rfl) ?_
  refine RW.op rfl rfl (eff_move (v := .own _ _ _ _) rfl rfl rfl) ?_
  refine RW.new rfl rfl (eff_appendAny (id := 0) (ys := [.t (encI x)]) rfl rfl ta30 rfl rfl rfl (by simp) rfl rfl (srcOwn rfl rfl rfl rfl rfl rfl) (by simp; omega) (by simp; omega)) ?_
  refine RW.op rfl rfl (eff_assign (v := .own _ _ _ _) rfl rfl rfl) ?_
  refine RW.nil ?_
  show AWP _ _ _ _
  refine awp_weak (weak_bumpS (d := 2) (id := 1) (off := 0) (len := 1) 1 rfl rfl (by decide)) ?_
  refine awp_ret ?_
  exact ⟨Or.inr rfl, [_], [.own 0 (g + 1) 0 (l.length + 1)], ⟨.tmp rfl, trivial⟩, rfl, weak_keep ⟨rfl, rfl, trivial⟩ ⟨by simp [sget]; rfl, okE_t, rfl, okE_one rfl, trivial⟩, rfl⟩

theorem insC : InsC := by
  intro l g i x hl hi
  rcases Nat.lt_or_ge i l.length with h | h
  · have := insert_retG (P := Tryd.prog) (F := 41) (tE := 3) (k := 1) (bytes := 8)
      (fun b n c i vb vc ca cv vs w h1 h2 h3 h4 h5 h6 h7 h8 h9 h10 h11 => ins_shift b n c i vb vc ca cv vs w h1 h2 h3 h4 h5 h6 h7 h8 h9 h10 h11)
      (fun b n c i vb vc ca cv vs w h1 h2 h3 h4 h5 h6 h7 h8 h9 h10 h11 h12 => ins_grow b n c i vb vc ca cv vs w h1 h2 h3 h4 h5 h6 h7 h8 h9 h10 h11 h12)
      (l.map encI) (encI x) g i (by simpa using h) (by simp; omega) (by simp; omega)
    simpa [List.map_take, List.map_drop] using this
  · obtain rfl : i = l.length := by omega
    have := insEnd_retG l g x hl
    rw [List.take_of_length_le (by omega), List.drop_of_length_le (by omega), List.append_nil]
    exact this

end Go.Tv.D27

end
section
open Go Go.Tv Go.Proofs
namespace Go.Tv.D27
set_option maxRecDepth 20000
set_option linter.unusedSimpArgs false
set_option linter.unusedVariables false
theorem closure52_ret (S : Store) (b : Bundle) (hS : SOK S) (hp : S.passed.Pairwise (· < ·)) : Ret Tryd.prog 45 [encB b, .ptr (encS S).cells] (.bool (decide (b.id ∈ S.passed))) := by
  refine ret_of_awp Tryd.func45 rfl (Nat.le_of_ble_eq_true rfl) ?_
  refine awp_seq ?_
  refine awp_rw rfl ?_
  refine RW.new rfl rfl (eff_boxK (v := .t _) (k := 8) (id := 2) rfl rfl rfl rfl rfl rfl) ?_
  refine RW.op rfl rfl (eff_assign (v := .t _) rfl rfl rfl) ?_
  refine RW.nil ?_
  refine awp_seq ?_
  refine awp_rw rfl ?_
  refine RW.op rfl rfl (eff_fieldAddrT rfl rfl tf32_2 (by decide) rfl) ?_
  refine RW.op rfl rfl (eff_loadT1 rfl rfl ti30 rfl rfl) ?_
  refine RW.op rfl rfl (eff_fieldAddr rfl rfl tf40_0 (by decide) rfl rfl rfl (Nat.le_of_ble_eq_true rfl)) ?_
  refine RW.op rfl rfl (eff_load (y := .t _) rfl rfl ti3 rfl (.one rfl rfl rfl rfl)) ?_
  refine RW.op rfl rfl (eff_callT (has48_ret _ _ (by have h := hS.2.1; omega) hp) co24 rfl rfl rfl rfl) ?_
  refine RW.op rfl rfl (eff_assign (v := .t _) rfl rfl rfl) ?_
  refine RW.nil ?_
  refine awp_ret ?_
  first
    | exact ⟨Or.inr rfl, [_], ⟨.tmp (.t _), trivial⟩, .refl _⟩
    | exact ⟨Or.inr rfl, [_], ⟨.tmp (.t _), trivial⟩, (by repeat' first | exact trivial | exact Wk.refl _ | exact Wk.sl _ | refine And.intro ?_ ?_ | refine Wk.tupP ?_ | refine Wk.aggP ?_)⟩
    | exact ⟨Or.inr rfl, [_], ⟨.tmp (Res.ownT rfl rfl rfl rfl), trivial⟩, .refl _⟩
    | exact ⟨Or.inr rfl, [_], ⟨.tmp (Res.ownT rfl rfl rfl rfl), trivial⟩, (by repeat' first | exact trivial | exact Wk.refl _ | exact Wk.sl _ | refine And.intro ?_ ?_ | refine Wk.tupP ?_ | refine Wk.aggP ?_)⟩

theorem waiting_ret (S : Store) (hS : SOK S) : Ret Tryd.prog 32 [encS S] (.fn 46 [.ptr (encS S).cells, .ptr [.fn 45 [.ptr (encS S).cells]]]) := by
  refine ret_of_awp Tryd.func32 rfl (Nat.le_of_ble_eq_true rfl) ?_
  refine awp_seq ?_
  refine awp_rw rfl ?_
  refine RW.new rfl rfl (eff_boxK (v := .t _) (k := 4) (id := 1) rfl rfl rfl rfl rfl rfl) ?_
  refine RW.op rfl rfl (eff_assign (v := .t _) rfl rfl rfl) ?_
  refine RW.nil ?_
  refine awp_seq ?_
  refine awp_rw rfl ?_
  refine RW.op rfl rfl (eff_makeFunc rfl rfl rfl rfl) ?_
  refine RW.new rfl rfl (eff_allocK (k := 1) (id := 3) rfl rfl tz97 rfl rfl) ?_
  refine RW.store rfl rfl (eff_storeW (v := .fn _ _) (els := [_]) (els' := [_]) rfl rfl ti97 rfl rfl rfl rfl rfl rfl rfl rfl rfl) ?_
  refine RW.nil ?_
  refine awp_seq ?_
  refine awp_rw rfl ?_
  refine RW.op rfl rfl (eff_makeFunc rfl rfl rfl rfl) ?_
  refine RW.op rfl rfl (eff_assign (v := .fn _ _) rfl rfl rfl) ?_
  refine RW.nil ?_
  refine awp_ret ?_
  first
    | exact ⟨Or.inr rfl, [_], ⟨.tmp (Res.fnP (xs := [_, _]) ⟨Res.ptrT (x := encS S) rfl rfl rfl, Res.ptrO rfl rfl rfl rfl (Res.fnP (xs := [_]) ⟨Res.ptrT (x := encS S) rfl rfl rfl, trivial⟩), trivial⟩), trivial⟩, .refl _⟩
    | exact ⟨Or.inr rfl, [_], ⟨.tmp (Res.fnP (xs := [_, _]) ⟨Res.ptrT (x := encS S) rfl rfl rfl, Res.ptrO rfl rfl rfl rfl (Res.fnP (xs := [_]) ⟨Res.ptrT (x := encS S) rfl rfl rfl, trivial⟩), trivial⟩), trivial⟩, (by repeat' first | exact trivial | exact Wk.refl _ | exact Wk.sl _ | refine And.intro ?_ ?_ | refine Wk.tupP ?_ | refine Wk.aggP ?_)⟩

end Go.Tv.D27

end
section
open Go Go.Tv Go.Proofs
namespace Go.Tv.D27
set_option maxRecDepth 20000
set_option linter.unusedSimpArgs false
set_option linter.unusedVariables false
def wt (S : Store) (b : Bundle) : Bool := decide (b.id ∉ S.passed)

theorem offer_wt (S : Store) (room : Int) : S.bundles.find? (fits S room) = (S.bundles.filter (wt S)).find? (fun b => decide (size b ≤ room)) := by
  rw [List.find?_filter]
  congr 1
  funext b
  unfold fits wt
  by_cases h1 : b.id ∉ S.passed <;> by_cases h2 : size b ≤ room <;> simp [h1, h2]

theorem offer_first {S : Store} {room : Int} {i : Nat} {b : Bundle} (hb : (S.bundles.filter (wt S))[i]? = some b) (h : ∀ c, c ∈ (S.bundles.filter (wt S)).take i → room < size c) (hf : size b ≤ room) : offer S room = (b, true) := by
  unfold offer
  rw [offer_wt]
  have : (S.bundles.filter (wt S)).find? (fun b => decide (size b ≤ room)) = some b := by
    obtain ⟨hi, he⟩ := List.getElem?_eq_some_iff.1 hb
    rw [List.find?_eq_some_iff_append]
    refine ⟨by simpa using hf, (S.bundles.filter (wt S)).take i, (S.bundles.filter (wt S)).drop (i + 1), ?_, fun a ha => by have := h a ha; simp; omega⟩
    rw [← he, List.getElem_cons_drop, List.take_append_drop]
  rw [this]

theorem offer_never {S : Store} {room : Int} (h : ∀ c, c ∈ S.bundles.filter (wt S) → room < size c) : offer S room = (zb, false) := by
  unfold offer
  rw [offer_wt]
  have : (S.bundles.filter (wt S)).find? (fun b => decide (size b ≤ room)) = none := by
    rw [List.find?_eq_none]
    intro b hb
    have := h b hb
    simp; omega
  rw [this]

theorem waiting_iter (S : Store) (hS : SOK S) (hp : S.passed.Pairwise (· < ·)) : Iter Tryd.prog 46 [.ptr (encS S).cells, .ptr [.fn 45 [.ptr (encS S).cells]]] ((S.bundles.filter (wt S)).map encB) := by
  refine iter_of_awj Tryd.func46 rfl (Nat.le_of_ble_eq_true rfl) rfl ?_
  intro γ X hds At Stop yl hy g0 hAt
  refine awj_seq ?_
  refine awj_rj rfl ?_
  refine RJ.op rfl rfl (eff_fieldAddrT rfl rfl tf32_1 (by decide) rfl) ?_
  refine RJ.op rfl rfl (eff_loadT1 rfl rfl ti29 rfl rfl) ?_
  refine RJ.op rfl rfl (eff_lenM rfl rfl te29 rfl) ?_
  refine RJ.op rfl rfl (eff_move (v := .t _) rfl rfl rfl) ?_
  refine RJ.nil ?_
  refine awj_block ?_
  refine awj_loopW (fun m s g => ∃ (i : Nat), (i ≤ S.bundles.length) ∧ (At ((S.bundles.take i).filter (wt S)).length g) ∧ m = S.bundles.length - i ∧ s = ⟨24, [(0, .t (.yld yl)), (1, .t (.ptr (encS S).cells)), (2, .t (.ptr [.fn 45 [.ptr (encS S).cells]])), (7, .t (.sl (S.bundles.map encB) false)), (8, .t (encI S.bundles.length)), (9, .t (encI (i : Nat)))], []⟩) (_) (⟨_, weak_keep (n := 24) (fr' := [(0, .t (.yld yl)), (1, .t (.ptr (encS S).cells)), (2, .t (.ptr [.fn 45 [.ptr (encS S).cells]])), (7, .t (.sl (S.bundles.map encB) false)), (8, .t (encI S.bundles.length)), (9, .t (encI (0 : Nat)))]) (st' := []) ⟨rfl, rfl, rfl, rfl, rfl, rfl, rfl, rfl, rfl, rfl, rfl, rfl, trivial⟩ trivial, 0, (by omega), (by exact hAt), rfl, rfl⟩) ?_
  rintro m s g ⟨i, hi, hA, rfl, rfl⟩
  have hL := hS.1
  refine awj_seq ?_
  refine awj_rj rfl ?_
  refine RJ.op rfl rfl (eff_iop rfl rfl rfl rfl rfl) ?_
  refine RJ.nil ?_
  refine awj_seq ?_
  refine awj_cond rfl (fun h1 => ?_) (fun h1 => ?_)
  · try simp only [decide_eq_true_eq, decide_eq_false_iff_not, beq_iff_eq, bne_iff_ne, bne_eq_false_iff_eq, beq_eq_false_iff_ne, Bool.not_eq_true, Bool.not_eq_false, Bool.not_eq_true', Bool.not_eq_false', ne_eq] at h1
    refine awj_skip ?_
    refine awj_seq ?_
    refine awj_block ?_
    refine awj_seq ?_
    refine awj_rj rfl ?_
    refine RJ.op rfl rfl (eff_indexM rfl rfl te29 rfl rfl rfl (by first | assumption | exact List.getElem?_eq_getElem (by omega)) rfl (by decide)) ?_
    refine RJ.op rfl rfl (eff_loadW rfl rfl ti40 rfl rfl rfl) ?_
    refine RJ.new rfl rfl (eff_allocK (k := 8) (id := 5) rfl rfl tz40 rfl rfl) ?_
    refine RJ.store rfl rfl (eff_storeW (v := .t _) (els := [_]) (els' := [_]) rfl rfl ti40 rfl rfl rfl rfl rfl rfl rfl rfl rfl) ?_
    refine RJ.nil ?_
    refine awj_seq ?_
    refine awj_rj rfl ?_
    refine RJ.op rfl rfl (eff_loadT1 rfl rfl ti97 rfl rfl) ?_
    refine RJ.op rfl rfl (eff_load rfl rfl ti40 rfl (.whole rfl rfl rfl rfl rfl rfl)) ?_
    refine RJ.op rfl rfl (eff_call (f := 45) (xs := [_]) (ys := [_]) (caps := [.ptr (encS S).cells]) rfl rfl rfl co45 rfl (WkL.cons (.refl _) .nil) (closure52_ret S _ hS hp)) ?_
    refine RJ.op rfl rfl (eff_unop rfl rfl rfl rfl) ?_
    refine RJ.op rfl rfl (eff_move (v := .t _) rfl rfl rfl) ?_
    refine RJ.split 17 rfl (fun h2 => ?_) (fun h2 => ?_)
    · try simp only [decide_eq_true_eq, decide_eq_false_iff_not, beq_iff_eq, bne_iff_ne, bne_eq_false_iff_eq, beq_eq_false_iff_ne, Bool.not_eq_true, Bool.not_eq_false, Bool.not_eq_true', Bool.not_eq_false', ne_eq] at h2
      refine RJ.gop rfl rfl rfl rfl rfl rfl (eff_move (v := .t _) rfl rfl rfl) ?_
      refine RJ.gop rfl rfl rfl rfl rfl rfl (eff_load rfl rfl ti40 rfl (.whole rfl rfl rfl rfl rfl rfl)) ?_
      have hpos : ((S.bundles.filter (wt S)).map encB)[((S.bundles.take i).filter (wt S)).length]? = some (encB (S.bundles[i]'(by omega))) := by
        rw [List.getElem?_map, filter_get (by omega) (by unfold wt; simpa using h2)]; rfl
      refine RJ.many (.inr ⟨_, _, _, _, _, rfl, rfl, rfl, rfl, rfl⟩) (eff_yield rfl rfl rfl rfl hds (hy _ _ _ hpos hA)) ?_
      rintro e g2 ⟨yb, rfl, hyb⟩
      show RJ _ _ _ _ _ ⟨_, (20, .t (.bool yb)) :: _, _⟩ _ _
      refine RJ.gop rfl rfl rfl rfl rfl rfl (eff_unop rfl rfl rfl rfl) ?_
      refine RJ.op rfl rfl (eff_pick (v := .t _) rfl rfl rfl rfl) ?_
      refine RJ.nil ?_
      refine awj_cond rfl (fun h3 => ?_) (fun h3 => ?_)
      · try simp only [decide_eq_true_eq, decide_eq_false_iff_not, beq_iff_eq, bne_iff_ne, bne_eq_false_iff_eq, beq_eq_false_iff_ne, Bool.not_eq_true, Bool.not_eq_false, Bool.not_eq_true', Bool.not_eq_false', ne_eq] at h3
        refine awj_ret ?_
        rcases hyb with ⟨h, _⟩ | ⟨_, h⟩
        · rw [h] at h3; simp at h3
        · exact ⟨Or.inr rfl, Or.inr h⟩
      · try simp only [decide_eq_true_eq, decide_eq_false_iff_not, beq_iff_eq, bne_iff_ne, bne_eq_false_iff_eq, beq_eq_false_iff_ne, Bool.not_eq_true, Bool.not_eq_false, Bool.not_eq_true', Bool.not_eq_false', ne_eq] at h3
        refine awj_skip ?_
        refine awj_rj rfl ?_
        refine RJ.op rfl rfl (eff_iop rfl rfl rfl rfl (iadd (by omega))) ?_
        refine RJ.op rfl rfl (eff_move (v := .t _) rfl rfl rfl) ?_
        refine RJ.nil ?_
        refine ⟨_, ?_, _, weak_keep (n := 24) (fr' := [(0, .t (.yld yl)), (1, .t (.ptr (encS S).cells)), (2, .t (.ptr [.fn 45 [.ptr (encS S).cells]])), (7, .t (.sl (S.bundles.map encB) false)), (8, .t (encI S.bundles.length)), (9, .t (encI ((i + 1) : Nat)))]) (st' := []) ⟨rfl, rfl, rfl, rfl, rfl, rfl, rfl, rfl, rfl, rfl, rfl, rfl, trivial⟩ trivial, i + 1, (by omega), (by first | (rw [filter_take_succ (by omega), if_neg (by unfold wt; simpa using h2), List.append_nil]; exact hA) | (rcases hyb with ⟨_, h⟩ | ⟨h, _⟩ <;> first | (rw [filter_take_succ (by omega), if_pos (by unfold wt; simpa using h2), List.length_append]; exact h) | (rw [h] at h3; simp at h3))), rfl, rfl⟩
        omega
    · try simp only [decide_eq_true_eq, decide_eq_false_iff_not, beq_iff_eq, bne_iff_ne, bne_eq_false_iff_eq, beq_eq_false_iff_ne, Bool.not_eq_true, Bool.not_eq_false, Bool.not_eq_true', Bool.not_eq_false', ne_eq] at h2
      refine RJ.gskip rfl rfl rfl rfl rfl (by decide) ?_
      refine RJ.gskip rfl rfl rfl rfl rfl (by decide) ?_
      refine RJ.gskip rfl rfl rfl rfl rfl (by decide) ?_
      refine RJ.gskip rfl rfl rfl rfl rfl (by decide) ?_
      refine RJ.op rfl rfl (eff_pick (v := .t _) rfl rfl rfl rfl) ?_
      refine RJ.nil ?_
      refine awj_cond rfl (fun h => nomatch h) (fun _ => ?_)
      refine awj_skip ?_
      refine awj_rj rfl ?_
      refine RJ.op rfl rfl (eff_iop rfl rfl rfl rfl (iadd (by omega))) ?_
      refine RJ.op rfl rfl (eff_move (v := .t _) rfl rfl rfl) ?_
      refine RJ.nil ?_
      refine ⟨_, ?_, _, weak_keep (n := 24) (fr' := [(0, .t (.yld yl)), (1, .t (.ptr (encS S).cells)), (2, .t (.ptr [.fn 45 [.ptr (encS S).cells]])), (7, .t (.sl (S.bundles.map encB) false)), (8, .t (encI S.bundles.length)), (9, .t (encI ((i + 1) : Nat)))]) (st' := []) ⟨rfl, rfl, rfl, rfl, rfl, rfl, rfl, rfl, rfl, rfl, rfl, rfl, trivial⟩ trivial, i + 1, (by omega), (by first | (rw [filter_take_succ (by omega), if_neg (by unfold wt; simpa using h2), List.append_nil]; exact hA) | (rcases hyb with ⟨_, h⟩ | ⟨h, _⟩ <;> first | (rw [filter_take_succ (by omega), if_pos (by unfold wt; simpa using h2), List.length_append]; exact h) | (rw [h] at h3; simp at h3))), rfl, rfl⟩
      omega
  · try simp only [decide_eq_true_eq, decide_eq_false_iff_not, beq_iff_eq, bne_iff_ne, bne_eq_false_iff_eq, beq_eq_false_iff_ne, Bool.not_eq_true, Bool.not_eq_false, Bool.not_eq_true', Bool.not_eq_false', ne_eq] at h1
    refine awj_exit ?_
    have hi2 : i = S.bundles.length := by omega
    subst hi2
    rw [List.take_length] at hA
    exact ⟨Or.inl rfl, Or.inl (by rw [List.length_map]; exact hA)⟩

theorem offer18_ret (S : Store) (room : Int) (hS : SOK S) (hp : S.passed.Pairwise (· < ·)) : Ret Tryd.prog 15 [encS S, encI room] (.tup [encB (offer S room).1, .bool (offer S room).2]) := by
  refine ret_of_awj Tryd.func15 rfl (Nat.le_of_ble_eq_true rfl) ?_
  intro F0 w0
  refine awj_seq ?_
  refine awj_rj rfl ?_
  refine RJ.new rfl rfl (eff_boxK (v := .t _) (k := 4) (id := 2) rfl rfl rfl rfl rfl rfl) ?_
  refine RJ.new rfl rfl (eff_boxK (v := .t _) (k := 1) (id := 3) rfl rfl rfl rfl rfl rfl) ?_
  refine RJ.new rfl rfl (eff_allocK (k := 8) (id := 4) rfl rfl tz40 rfl rfl) ?_
  refine RJ.new rfl rfl (eff_allocK (k := 1) (id := 5) rfl rfl tz4 rfl rfl) ?_
  refine RJ.nil ?_
  refine awj_seq ?_
  refine awj_seq ?_
  refine awj_rj rfl ?_
  refine RJ.op rfl rfl (eff_load rfl rfl ti32 rfl (.whole rfl rfl rfl rfl rfl rfl)) ?_
  refine RJ.op rfl rfl (eff_callT (waiting_ret S hS) co32 rfl rfl rfl rfl) ?_
  refine RJ.nil ?_
  refine awj_block ?_
  refine awj_rangeFunc (kp' := fun j => [2, 3, 4, 5].elem j) (f := 46) rfl co46 (waiting_iter S hS hp) rfl rfl rfl (fun i s => (∀ b, b ∈ (S.bundles.filter (wt S)).take i → room < size b) ∧ s = ⟨17, [(2, .ptr 2 0 0 0), (3, .ptr 3 0 0 0), (4, .ptr 4 0 0 0), (5, .ptr 5 0 0 0)], [(2, some ⟨4, 32, 0, [.t (encS S)]⟩), (3, some ⟨1, 3, 0, [.t (encI room)]⟩), (4, some ⟨8, 40, 0, [.t z40]⟩), (5, some ⟨1, 4, 0, [.t (.bool false)]⟩)]⟩) (fun c s => c = .ret ∧ ∃ b, offer S room = (b, true) ∧ s = ⟨17, [(4, .ptr 4 0 0 0), (5, .ptr 5 0 0 0)], [(4, some ⟨8, 40, 0, [.t (encB b)]⟩), (5, some ⟨1, 4, 0, [.t (.bool true)]⟩)]⟩) (⟨_, weak_keep (n := 17) (fr' := [(2, .ptr 2 0 0 0), (3, .ptr 3 0 0 0), (4, .ptr 4 0 0 0), (5, .ptr 5 0 0 0)]) (st' := [(2, some ⟨4, 32, 0, [.t (encS S)]⟩), (3, some ⟨1, 3, 0, [.t (encI room)]⟩), (4, some ⟨8, 40, 0, [.t z40]⟩), (5, some ⟨1, 4, 0, [.t (.bool false)]⟩)]) ⟨rfl, rfl, rfl, rfl, rfl, rfl, rfl, rfl, trivial⟩ ⟨rfl, okE_one rfl, rfl, okE_one rfl, rfl, okE_one rfl, rfl, okE_one rfl, trivial⟩, by simp, rfl⟩) (fun i s1 hI => by obtain ⟨_, rfl⟩ := hI; exact ⟨rfl, kept_of rfl⟩) (fun c s1 hI => by obtain ⟨_, b, _, rfl⟩ := hI; exact ⟨rfl, kept_of rfl⟩) ?_ ?_ ?_
  · intro l i x s1 hI hx F1 w1
    obtain ⟨hlt, rfl⟩ := hI
    rw [List.getElem?_map] at hx
    obtain ⟨b, hb, rfl⟩ := Option.map_eq_some_iff.1 hx
    have hbk := hS.2.2.2 b (List.mem_filter.1 (List.mem_of_getElem? hb)).1
    show AWJ _ _ _ _ _ ⟨17, _, _⟩ _ _
    refine awj_rj rfl ?_
    refine RJ.new rfl rfl (eff_allocK (k := 8) (id := 6) rfl rfl tz40 rfl rfl) ?_
    refine RJ.store rfl rfl (eff_storeW (v := .t _) (els := [_]) (els' := [_]) rfl rfl ti40 rfl rfl rfl rfl rfl rfl rfl rfl rfl) ?_
    refine RJ.nil ?_
    refine ⟨rfl, rfl, fun F2 w2 => ?_⟩
    refine awj_block ?_
    refine awj_seq ?_
    refine awj_rd [(some 10, []), (some 11, []), (some 12, []), (some 13, [])] [[], [0], [], [0, 1, 2]] tm rfl rfl rfl rfl ?_
    refine RD.op rfl rfl rfl (eff_load rfl rfl ti40 rfl (.whole rfl rfl rfl rfl rfl rfl)) ?_
    refine RD.op rfl rfl rfl (eff_callT (size_ret b hbk) co19 rfl rfl rfl rfl) ?_
    refine RD.op rfl rfl rfl (eff_load (y := .t _) rfl rfl ti3 rfl (.one rfl rfl rfl rfl)) ?_
    refine RD.op rfl rfl rfl (eff_iop rfl rfl rfl rfl rfl) ?_
    refine RD.nil ?_
    refine awj_cond rfl (fun h1 => ?_) (fun h1 => ?_)
    · try simp only [decide_eq_true_eq, decide_eq_false_iff_not, beq_iff_eq, bne_iff_ne, bne_eq_false_iff_eq, beq_eq_false_iff_ne, Bool.not_eq_true, Bool.not_eq_false, Bool.not_eq_true', Bool.not_eq_false', ne_eq] at h1
      refine awj_seq ?_
      refine awj_rj rfl ?_
      refine RJ.op rfl rfl (eff_load rfl rfl ti40 rfl (.whole rfl rfl rfl rfl rfl rfl)) ?_
      refine RJ.op rfl rfl (eff_callT (clone39_ret b hbk) co26 rfl rfl rfl rfl) ?_
      refine RJ.store rfl rfl (eff_storeW (v := .t _) (els := [_]) (els' := [_]) rfl rfl ti40 rfl rfl rfl rfl rfl rfl rfl rfl rfl) ?_
      refine RJ.store rfl rfl (eff_storeW (v := .t _) (els := [_]) (els' := [_]) rfl rfl ti4 rfl rfl rfl rfl rfl rfl rfl rfl rfl) ?_
      refine RJ.nil ?_
      refine awj_ret ?_
      exact ⟨rfl, _, weak_keep (n := 17) (fr' := [(4, .ptr 4 0 0 0), (5, .ptr 5 0 0 0)]) (st' := [(4, some ⟨8, 40, 0, [.t (encB b)]⟩), (5, some ⟨1, 4, 0, [.t (.bool true)]⟩)]) ⟨rfl, rfl, rfl, rfl, trivial⟩ ⟨rfl, okE_one rfl, rfl, okE_one rfl, trivial⟩, rfl, b, offer_first hb hlt (by omega), rfl⟩
    · try simp only [decide_eq_true_eq, decide_eq_false_iff_not, beq_iff_eq, bne_iff_ne, bne_eq_false_iff_eq, beq_eq_false_iff_ne, Bool.not_eq_true, Bool.not_eq_false, Bool.not_eq_true', Bool.not_eq_false', ne_eq] at h1
      refine awj_skip ?_
      refine ⟨rfl, _, weak_keep (n := 17) (fr' := [(2, .ptr 2 0 0 0), (3, .ptr 3 0 0 0), (4, .ptr 4 0 0 0), (5, .ptr 5 0 0 0)]) (st' := [(2, some ⟨4, 32, 0, [.t (encS S)]⟩), (3, some ⟨1, 3, 0, [.t (encI room)]⟩), (4, some ⟨8, 40, 0, [.t z40]⟩), (5, some ⟨1, 4, 0, [.t (.bool false)]⟩)]) ⟨rfl, rfl, rfl, rfl, rfl, rfl, rfl, rfl, trivial⟩ ⟨rfl, okE_one rfl, rfl, okE_one rfl, rfl, okE_one rfl, rfl, okE_one rfl, trivial⟩, fun c hc => ?_, rfl⟩
      obtain ⟨hi, he⟩ := List.getElem?_eq_some_iff.1 hb
      rcases (mem_take_succ hi).1 hc with h | h
      · exact hlt c h
      · rw [h, he]; omega
  · intro D s1 hI
    obtain ⟨hlt, rfl⟩ := hI
    rw [List.length_map, List.take_length] at hlt
    refine awj_seq ?_
    refine awj_rj rfl ?_
    refine RJ.op rfl rfl (eff_buildT (ys := [_, _, _, _, _, _, _, _]) rfl rfl tz40 tg40 rfl) ?_
    refine RJ.store rfl rfl (eff_storeW (v := .t _) (els := [_]) (els' := [_]) rfl rfl ti40 rfl rfl rfl rfl rfl rfl rfl rfl rfl) ?_
    refine RJ.store rfl rfl (eff_storeW (v := .t _) (els := [_]) (els' := [_]) rfl rfl ti4 rfl rfl rfl rfl rfl rfl rfl rfl rfl) ?_
    refine RJ.nil ?_
    refine awj_ret ?_
    rw [offer_never hlt]
    exact ⟨Or.inr rfl, [_, _], ⟨.cell rfl ti40 (.whole rfl rfl rfl rfl rfl rfl) (.t _), .cell (y := .t _) rfl ti4 (.one rfl rfl rfl rfl) (.t _), trivial⟩, (by repeat' first | exact trivial | exact Wk.refl _ | exact Wk.sl _ | refine And.intro ?_ ?_ | refine Wk.tupP ?_ | refine Wk.aggP ?_)⟩
  · intro D c s1 hI
    obtain ⟨rfl, b, hb, rfl⟩ := hI
    refine awj_ret ?_
    rw [hb]
    exact ⟨Or.inr rfl, [_, _], ⟨.cell rfl ti40 (.whole rfl rfl rfl rfl rfl rfl) (.t _), .cell (y := .t _) rfl ti4 (.one rfl rfl rfl rfl) (.t _), trivial⟩, .refl _⟩

end Go.Tv.D27

end
section
open Go Go.Tv Go.Proofs
namespace Go.Tv.D27

def ids (s : Store) : List Int := s.bundles.map (·.id)

structure VInv (n : Nat) (s : Store) : Prop where
  q0 : 0 ≤ s.quota
  q1 : s.quota ≤ 2147483647
  len : s.bundles.length ≤ 64
  usd : used s.bundles ≤ s.quota
  ps : s.passed.Pairwise (· < ·)
  ss : s.seen.Pairwise (· < ·)
  bs : ∀ b, b ∈ s.bundles → b.data.length ≤ 256 ∧ Bytes b.data ∧ b.id ∈ s.seen
  nd : (ids s).Nodup
  pi : ∀ p, p ∈ s.passed → p ∈ ids s
  pn : s.passed.length ≤ n
  sn : s.seen.length ≤ n

theorem VInv.sok {n : Nat} {s : Store} (h : VInv n s) (hn : n ≤ 100000) : SOK s :=
  ⟨Nat.le_trans h.len (by omega), Nat.le_trans h.pn hn, Nat.le_trans h.sn hn, fun b hb => by have := (h.bs b hb).1; unfold BOK; omega⟩

theorem VInv.mono {n m : Nat} {s : Store} (h : VInv n s) (hm : n ≤ m) : VInv m s := { h with pn := Nat.le_trans h.pn hm, sn := Nat.le_trans h.sn hm }

theorem VInv.empty (q : Int) (h0 : 0 ≤ q) (h1 : q ≤ 2147483647) : VInv 0 ⟨q, [], [], []⟩ :=
  ⟨h0, h1, by simp, by simpa [used] using h0, by simp, by simp, by simp, by simp [ids], by simp, by simp, by simp⟩

theorem ins_mem {x y : Int} : ∀ {l : List Int}, y ∈ ins x l ↔ y = x ∨ y ∈ l
  | [] => by simp [ins]
  | z :: l => by
    unfold ins
    split
    · simp only [List.mem_cons, ins_mem (l := l)]
      constructor
      · rintro (h | h | h)
        · exact .inr (.inl h)
        · exact .inl h
        · exact .inr (.inr h)
      · rintro (h | h | h)
        · exact .inr (.inl h)
        · exact .inl h
        · exact .inr (.inr h)
    · simp

theorem ins_sorted {x : Int} : ∀ {l : List Int}, l.Pairwise (· < ·) → x ∉ l → (ins x l).Pairwise (· < ·)
  | [], _, _ => by simp [ins]
  | z :: l, hp, hx => by
    obtain ⟨h1, h2⟩ := List.pairwise_cons.1 hp
    unfold ins
    split
    · rename_i hz
      refine List.pairwise_cons.2 ⟨fun y hy => ?_, ins_sorted h2 (fun h => hx (List.mem_cons_of_mem _ h))⟩
      rcases ins_mem.1 hy with rfl | hy
      · exact hz
      · exact h1 y hy
    · rename_i hz
      have hxz : x ≠ z := fun e => hx (by rw [e]; exact List.mem_cons_self)
      refine List.pairwise_cons.2 ⟨fun y hy => ?_, hp⟩
      rcases List.mem_cons.1 hy with rfl | hy
      · omega
      · have := h1 y hy; omega

theorem findIx_neg {l : List Bundle} {n : Int} : findIx l n < 0 ↔ n ∉ l.map (·.id) := by
  constructor
  · intro h hm
    obtain ⟨b, hb, rfl⟩ := List.mem_map.1 hm
    unfold findIx at h
    cases hf : l.findIdx? (fun c => c.id == b.id) with
    | none =>
      rw [List.findIdx?_eq_none_iff] at hf
      have := hf b hb
      simp at this
    | some i => rw [hf] at h; simp at h; omega
  · intro h
    rw [findIx_none (fun b hb e => h (List.mem_map.2 ⟨b, hb, e⟩))]
    omega

/-- The place of an element that is there. -/
theorem findIx_at {l : List Bundle} {n : Int} (h : ¬ findIx l n < 0) : ∃ (i : Nat) (hi : i < l.length), findIx l n = (i : Int) ∧ (l[i]).id = n ∧ ∀ b, b ∈ l.take i → b.id ≠ n := by
  unfold findIx at h ⊢
  cases hf : l.findIdx? (fun b => b.id == n) with
  | none => rw [hf] at h; simp at h
  | some i =>
    rw [List.findIdx?_eq_some_iff_getElem] at hf
    obtain ⟨hi, h1, h2⟩ := hf
    refine ⟨i, hi, rfl, by simpa using h1, fun b hb => ?_⟩
    obtain ⟨j, hj, rfl⟩ := List.mem_iff_getElem.1 hb
    simp only [List.length_take] at hj
    have := h2 j (by omega)
    simpa using this

/-- With distinct ids, the element at the place found is taken out by filtering. -/
theorem cut_filter {l : List Bundle} {n : Int} (hnd : (l.map (·.id)).Nodup) (h : ¬ findIx l n < 0) :
    l.take (findIx l n).toNat ++ l.drop ((findIx l n).toNat + 1) = l.filter (fun b => decide (b.id ≠ n)) := by
  obtain ⟨i, hi, he, hid, hbef⟩ := findIx_at h
  rw [he, Int.toNat_natCast]
  have e : l = l.take i ++ (l[i] :: l.drop (i + 1)) := by rw [List.getElem_cons_drop, List.take_append_drop]
  have haft : ∀ b, b ∈ l.drop (i + 1) → b.id ≠ n := by
    intro b hb hbn
    rw [e, List.map_append, List.map_cons] at hnd
    have := (List.nodup_append.1 hnd).2.1
    have := (List.nodup_cons.1 this).1
    exact this (by rw [hid]; exact List.mem_map.2 ⟨b, hb, hbn⟩)
  conv => rhs; rw [e]
  rw [List.filter_append, List.filter_cons, if_neg (by simp [hid])]
  rw [List.filter_eq_self.2 (fun b hb => by simpa using hbef b hb), List.filter_eq_self.2 (fun b hb => by simpa using haft b hb)]

theorem used_filter (p : Bundle → Bool) : ∀ (l : List Bundle), used (l.filter p) ≤ used l ∧ 0 ≤ used (l.filter p)
  | [] => by simp [used]
  | b :: l => by
    have h := used_filter p l
    have hs : 0 ≤ size b := by unfold size; omega
    rw [List.filter_cons]
    split
    · simp only [used]; omega
    · simp only [used]; omega

theorem inv_create {n : Nat} {s : Store} {b : Bundle} (h : VInv n s) (hb : Bytes b.data) (he : (create s b).2 = 0) :
    VInv (n + 1) (create s b).1 ∧ (create s b).1 = ⟨s.quota, s.bundles ++ [b], s.passed, ins b.id s.seen⟩ ∧ b.id ∉ s.seen := by
  unfold create at he ⊢
  split at he
  · simp at he
  · rename_i h1
    split at he
    · simp at he
    · rename_i h2
      split at he
      · simp at he
      · rename_i h3
        split at he
        · simp at he
        · rename_i h4
          rw [if_neg h1, if_neg h2, if_neg h3, if_neg h4, sortl_ins h.ss]
          refine ⟨⟨h.q0, h.q1, by simp; omega, ?_, h.ps, ins_sorted h.ss h2, ?_, ?_, ?_, Nat.le_succ_of_le h.pn, by rw [ins_length]; have := h.sn; omega⟩, rfl, h2⟩
          · rw [used_append]; simp only [used]; omega
          · intro c hc
            rcases List.mem_append.1 hc with hc | hc
            · obtain ⟨g1, g2, g3⟩ := h.bs c hc
              exact ⟨g1, g2, ins_mem.2 (.inr g3)⟩
            · rw [List.mem_singleton.1 hc]
              exact ⟨by omega, hb, ins_mem.2 (.inl rfl)⟩
          · show ((s.bundles ++ [b]).map (·.id)).Nodup
            rw [List.map_append, List.nodup_append]
            refine ⟨h.nd, by simp, fun x hx y hy => ?_⟩
            simp only [List.map_cons, List.map_nil, List.mem_singleton] at hy
            obtain ⟨c, hc, rfl⟩ := List.mem_map.1 hx
            intro e
            have := (h.bs c hc).2.2
            rw [e, hy] at this
            exact h2 this
          · intro p hp
            show p ∈ (s.bundles ++ [b]).map (·.id)
            rw [List.map_append]
            exact List.mem_append_left _ (h.pi p hp)

theorem inv_pass {n : Nat} {s : Store} {k : Int} (h : VInv n s) (he : (pass s k).2 = 0) :
    VInv (n + 1) (pass s k).1 ∧ (pass s k).1 = ⟨s.quota, s.bundles, ins k s.passed, s.seen⟩ ∧ k ∈ ids s ∧ k ∉ s.passed := by
  unfold pass at he ⊢
  split at he
  · simp at he
  · rename_i h1
    split at he
    · simp at he
    · rename_i h2
      rw [if_neg h1, if_neg h2, sortl_ins h.ps]
      have hk : k ∈ ids s := by
        rw [findIx_neg, Classical.not_not] at h1
        exact h1
      exact ⟨⟨h.q0, h.q1, h.len, h.usd, ins_sorted h.ps h2, h.ss, h.bs, h.nd, fun p hp => (ins_mem.1 hp).elim (fun e => by rw [e]; exact hk) (h.pi p), by rw [ins_length]; have := h.pn; omega, Nat.le_succ_of_le h.sn⟩, rfl, hk, h2⟩

theorem inv_confirm {n : Nat} {s : Store} {k : Int} (h : VInv n s) (he : (confirm s k).2 = 0) :
    VInv n (confirm s k).1 ∧ (confirm s k).1 = ⟨s.quota, s.bundles.filter (fun b => decide (b.id ≠ k)), s.passed.filter (· != k), s.seen⟩ ∧ k ∈ ids s := by
  unfold confirm at he ⊢
  split at he
  · simp at he
  · rename_i h1
    rw [if_neg h1, cut_filter h.nd h1]
    have hk : k ∈ ids s := by
      rw [findIx_neg, Classical.not_not] at h1
      exact h1
    refine ⟨⟨h.q0, h.q1, Nat.le_trans (List.length_filter_le _ _) h.len, Int.le_trans (used_filter _ _).1 h.usd, h.ps.filter _, h.ss, fun b hb => h.bs b (List.mem_filter.1 hb).1, ?_, ?_, Nat.le_trans (List.length_filter_le _ _) h.pn, h.sn⟩, rfl, hk⟩
    · exact List.Nodup.sublist (List.Sublist.map _ List.filter_sublist) h.nd
    · intro p hp
      obtain ⟨hp1, hp2⟩ := List.mem_filter.1 hp
      obtain ⟨b, hb, rfl⟩ := List.mem_map.1 (h.pi p hp1)
      exact List.mem_map.2 ⟨b, List.mem_filter.2 ⟨hb, by simpa using hp2⟩, rfl⟩

theorem inv_retry {n : Nat} {s : Store} (h : VInv n s) : VInv n (retry s) :=
  ⟨h.q0, h.q1, h.len, h.usd, by simp [retry], h.ss, h.bs, h.nd, by simp [retry], by simp [retry], h.sn⟩

theorem accept_eq {s : Store} {b : Bundle} : accept s b = if b.data.length ≤ 256 ∧ b.id ∈ s.seen then (s, true, 0) else ((create s b).1, decide ((create s b).2 = 0), (create s b).2) := rfl

end Go.Tv.D27

end
section
open Go Go.Tv Go.Proofs
namespace Go.Tv.D27
set_option maxRecDepth 20000
set_option maxHeartbeats 2000000
set_option linter.unusedSimpArgs false
set_option linter.unusedVariables false
end Go.Tv.D27

end
section
open Go Go.Tv Go.Proofs
namespace Go.Tv.D27
set_option maxRecDepth 20000
set_option maxHeartbeats 2000000
set_option linter.unusedSimpArgs false
set_option linter.unusedVariables false
end Go.Tv.D27

end
