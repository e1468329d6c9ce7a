/- Part of the proof that the laws of this seat return true for every input. No condition. -/
import Derived.Test.YtlapnahjboljiaaT1
import Derived.ProofKit
import Derived.OpenShut
import Derived.Carry
import Derived.Test.YtlapnahjboljiaaProg
section
namespace Go.Tv

variable {P : Program} {o : Oper} {D : St}

/-- A party of no one: the blocks F0 stand as in w0. -/
def JK (F0 : Nat → Prop) (w0 : World) : JP Unit where
  q := True
  J := fun _ M C w => C = F0 ∧ ∀ b, F0 b → b < w.heap.size ∧ w.heap[b]? = w0.heap[b]? ∧ ¬ M b
  ds := fun _ => []
  stable := by
    rintro _ M C w M' w' ⟨h1, h2⟩ hs _ _ _ hk hM
    refine ⟨h1, fun b hb => ?_⟩
    obtain ⟨g1, g2, g3⟩ := h2 b hb
    exact ⟨Nat.lt_of_lt_of_le g1 hs, (hk b g1 g3).trans g2, fun hm => (hM b hm).1.elim g3 (fun h => by omega)⟩

/-- As RetG; and ks: an argument's number and what it is afterwards. -/
def RetK (P : Program) (f : FuncId) (σ0 : Sto) (xs : List AV) (σ1 : Sto) (r : AV) (ks : List (Nat × AV)) : Prop :=
  ∀ (F : Nat → Prop) (β : Nat → Option Nat) (w : World) (vals : List Value), Mem F β σ0 w → vals.length = xs.length →
    (∀ (i : Nat) (x : AV) (v : Value), xs[i]? = some x → vals[i]? = some v → VA w (G F β σ0) β σ0 x v) →
    Calls P f vals.toArray w (fun e w' => ∃ v β', e = .returned v ∧ VA w' (G F β' σ1) β' σ1 r v ∧ Mem F β' σ1 w' ∧ Evo σ0 β w σ1 β' w' ∧
      ∀ (i : Nat) (x : AV) (v : Value), (i, x) ∈ ks → vals[i]? = some v → VA w' (G F β' σ1) β' σ1 x v)

theorem retK_of_awj {f : FuncId} {fn : Func} {c : Code} {σ0 σ1 : Sto} {xs : List AV} {r : AV} {ks : List (Nat × AV)} {kp : Nat → Bool} (hf : P.funcs[f]? = some fn) (hb : fn.body = some c)
    (hn : xs.length ≤ fn.ntmps) (hkp : ∀ k, k ∈ ks → kp k.1 = true)
    (h : ∀ F0 w0, AWJ P none kp (JK F0 w0) c ⟨fn.ntmps, initFrA 0 xs, σ0⟩ () (fun e s _ => (e = .normal ∨ e = .ret) ∧ ∃ rs rs', RVarsA P s fn.results.toList rs ∧ rs'.length = rs.length ∧
      Weak ⟨(rs ++ ks.map fun k => fget s.fr k.1).length, initFrA 0 (rs ++ ks.map fun k => fget s.fr k.1), s.st⟩ ⟨(rs ++ ks.map fun k => fget s.fr k.1).length, initFrA 0 (rs' ++ ks.map Prod.snd), σ1⟩ ∧ packA rs' = r)) :
    RetK P f σ0 xs σ1 r ks := by
  intro F β w vals hm hl hV
  refine (callsIn_wide (n := 0)).1 (callsIn_of_wp (F := Fence.wide) hf hb trivial ?_)
  have h0 : Rel F β ⟨fn.ntmps, initFrA 0 xs, σ0⟩ { tmps := vals.toArray ++ Array.replicate (fn.ntmps - vals.toArray.size) undef, defers := [] } w := by
    refine ⟨rfl, by simp; omega, fun i => ?_, hm.ob, hm.inj, hm.notF, hm.ltF⟩
    show VA w _ _ _ (fget (initFrA 0 xs) i) _
    rw [initFrA_get, if_pos (Nat.zero_le _), Nat.sub_zero]
    cases hx : xs[i]? with
    | none => exact .junk _
    | some x =>
      have hi : i < vals.length := by rw [hl]; exact lt_get hx
      have hg : (vals.toArray ++ Array.replicate (fn.ntmps - vals.toArray.size) undef).getD i undef = vals[i] := by
        simp [hi, Array.getElem?_append]
      rw [hg]
      exact hV i x vals[i] hx (List.getElem?_eq_getElem hi)
  have hJ0 : (JK F w).J () (Owned β σ0) F w := ⟨rfl, fun b hb => ⟨hm.ltF b hb, rfl, fun ⟨id, ob, hs, hbe⟩ => hm.notF id ob b hs hbe hb⟩⟩
  refine wpIn_mono (h F w 0 F _ _ w h0 hJ0) ?_
  rintro e a' w' ⟨s', β', g', F', a'', ⟨he, rs, rs', hrs, hlen, hweak, hpk⟩, hr', rfl, ⟨hFF, hFk⟩, hev, hke⟩
  obtain rfl : F' = F := hFF
  obtain ⟨vs, hvs, hvl, hvV⟩ := RVarsA.run hr' _ _ hrs
  have hkv : ∀ (i : Nat) (x : AV) (v : Value), (ks.map fun k => fget s'.fr k.1)[i]? = some x → (ks.map fun k => vals.getD k.1 undef)[i]? = some v → VA w' (G F' β' s'.st) β' s'.st x v := by
    intro i x v hx hv
    rw [List.getElem?_map, Option.map_eq_some_iff] at hx hv
    obtain ⟨k, hk, rfl⟩ := hx
    obtain ⟨k', hk', rfl⟩ := hv
    rw [hk] at hk'; cases hk'
    have h1 := hr'.fr k.1
    have h2 := hke k.1 (hkp k (List.mem_of_getElem? hk))
    have h3 : a''.tmps.getD k.1 undef = vals.getD k.1 undef := by
      rw [Array.getD_eq_getD_getElem?, h2]
      by_cases hlt : k.1 < vals.length
      · simp [hlt, Array.getElem?_append]
      · have : vals.getD k.1 undef = undef := by rw [List.getD_eq_getElem?_getD, List.getElem?_eq_none (by omega)]; rfl
        rw [this]
        by_cases hlt2 : k.1 < (vals.toArray ++ Array.replicate (fn.ntmps - vals.toArray.size) undef).size
        · rw [Array.getElem?_eq_getElem hlt2, Array.getElem_append_right (by simp; omega)]; simp
        · rw [Array.getElem?_eq_none (Nat.le_of_not_lt hlt2)]; rfl
    rw [← h3]; exact h1
  let all := vs ++ ks.map fun k => vals.getD k.1 undef
  have hal : all.length = (rs ++ ks.map fun k => fget s'.fr k.1).length := by simp [all, hvl]
  have hrel1 : Rel F' β' ⟨(rs ++ ks.map fun k => fget s'.fr k.1).length, initFrA 0 (rs ++ ks.map fun k => fget s'.fr k.1), s'.st⟩ { tmps := all.toArray, defers := [] } w' := by
    refine ⟨rfl, by simp [hal], fun i => ?_, hr'.ob, hr'.inj, hr'.notF, hr'.ltF⟩
    show VA w' _ _ _ (fget (initFrA 0 (rs ++ ks.map fun k => fget s'.fr k.1)) i) _
    rw [initFrA_get, if_pos (Nat.zero_le _), Nat.sub_zero]
    cases hx : (rs ++ ks.map fun k => fget s'.fr k.1)[i]? with
    | none => exact .junk _
    | some x =>
      have hi : i < all.length := by rw [hal]; exact lt_get hx
      rw [show (all.toArray).getD i undef = all[i] from by simp [hi]]
      by_cases hlt : i < rs.length
      · rw [List.getElem?_append_left hlt] at hx
        have : all[i] = vs[i]'(by omega) := by simp [all, hvl, hlt]
        rw [this]
        exact hvV i x vs[i] hx (List.getElem?_eq_getElem (by omega))
      · rw [List.getElem?_append_right (by omega)] at hx
        have hge : vs.length ≤ i := by omega
        refine hkv (i - rs.length) x _ hx ?_
        have : all[i]? = some all[i] := List.getElem?_eq_getElem hi
        rw [← this]
        show _ = (vs ++ ks.map fun k => vals.getD k.1 undef)[i]?
        rw [List.getElem?_append_right hge, hvl]
  obtain ⟨β2, hrel2, hown⟩ := hweak F' β' _ w' hrel1
  have hget : ∀ (i : Nat) (x : AV) (v : Value), (rs' ++ ks.map Prod.snd)[i]? = some x → all[i]? = some v → VA w' (G F' β2 σ1) β2 σ1 x v := by
    intro i x v hx hv
    have := hrel2.fr i
    rw [show fget (St.mk (rs ++ ks.map fun k => fget s'.fr k.1).length (initFrA 0 (rs' ++ ks.map Prod.snd)) σ1).fr i = fget (initFrA 0 (rs' ++ ks.map Prod.snd)) i from rfl, initFrA_get, if_pos (Nat.zero_le _), Nat.sub_zero, hx] at this
    rw [show (all.toArray).getD i undef = v from by
      have hi := lt_get hv
      rw [List.getElem?_eq_getElem hi] at hv
      cases hv
      simp [hi]] at this
    exact this
  have hres : ∃ v, (results fn (shift ((JK F' w).ds g') a'').tmps).run P w' = .ok v w' ∧ VA w' (G F' β2 σ1) β2 σ1 r v := by
    have hmm : (fn.results.mapM (resOf (shift ((JK F' w).ds g') a'').tmps)).run P w' = .ok vs.toArray w' := by
      have hvs2 : (fn.results.toList.mapM (resOf (shift ((JK F' w).ds g') a'').tmps)).run P w' = .ok vs w' := hvs
      rw [Array.mapM_eq_mapM_toList, Sem.run_map, hvs2]; rfl
    refine ⟨if h : vs.toArray.size = 1 then vs.toArray[0] else .tuple vs.toArray, ?_, ?_⟩
    · rw [results_eq, Sem.run_bind, hmm]; rfl
    · rw [← hpk]
      have hl2 : vs.length = rs'.length := by omega
      have hget' : ∀ (i : Nat) (x : AV) (v : Value), rs'[i]? = some x → vs[i]? = some v → VA w' (G F' β2 σ1) β2 σ1 x v := fun i x v hx hv =>
        hget i x v (by rw [List.getElem?_append_left (lt_get hx)]; exact hx) (by show (vs ++ _)[i]? = _; rw [List.getElem?_append_left (lt_get hv)]; exact hv)
      match rs', vs, hl2, hget' with
      | [x], [v], _, hget => exact hget 0 x v rfl rfl
      | [], [], _, hget => exact .tup rfl hget
      | x :: y :: l, u :: v :: m, hl2, hget => exact .tup hl2 hget
  have hev2 : Evo σ0 β w σ1 β2 w' := ⟨hev.os, hev.tape, hev.output, hev.size, fun b hb hno => by
    by_cases hF : F' b
    · exact (hFk b hF).2.1
    · exact hev.keep b hb hF hno, fun b hb => hev.own b (hown b hb), hev.shp trivial⟩
  have hkk : ∀ (i : Nat) (x : AV) (v : Value), (i, x) ∈ ks → vals[i]? = some v → VA w' (G F' β2 σ1) β2 σ1 x v := by
    intro i x v hk hv
    obtain ⟨j, hj, he⟩ := List.mem_iff_getElem.1 hk
    refine hget (rs'.length + j) x v ?_ ?_
    · rw [List.getElem?_append_right (by omega), show rs'.length + j - rs'.length = j by omega, List.getElem?_map, List.getElem?_eq_getElem hj, he]; rfl
    · show (vs ++ _)[rs'.length + j]? = _
      rw [List.getElem?_append_right (by omega), show rs'.length + j - vs.length = j by omega, List.getElem?_map, List.getElem?_eq_getElem hj, he]
      show some (vals.getD i undef) = _
      rw [List.getD_eq_getElem?_getD, hv]; rfl
  obtain ⟨v, hv, hV'⟩ := hres
  have hdf : (shift ((JK F' w).ds g') a'').defers = [] := by simp [shift, hr'.defers, JK]
  rcases he with rfl | rfl <;> exact ⟨hdf, v, hv, v, β2, rfl, hV', hrel2.mem, hev2, hkk⟩

/-- An object that stands where it stood, and the argument that tells so. -/
def Stays (xs : List AV) (ks : List (Nat × AV)) (id : Nat) (ob ob1 : Ob) : Prop :=
  ob1.gen = ob.gen ∧ ob1.k = ob.k ∧ ob1.ty = ob.ty ∧ ob1.els.length = ob.els.length ∧ ∃ i, xs[i]? = some (.ptr id ob.gen 0 0) ∧ (i, .ptr id ob.gen 0 0) ∈ ks

theorem VA.ptrB {w : World} {H : Nat → Prop} {β : Nat → Option Nat} {σ : Sto} {id g : Nat} {ob : Ob} {v : Value} (h : VA w H β σ (.ptr id g 0 0) v) (hs : sget σ id = some ob) (hg : ob.gen = g) :
    ∃ b, β id = some b ∧ v = .pointer (some ⟨b, 0, none⟩) := by
  cases h with
  | @ptr _ _ _ _ b ob' h1 h2 h3 h4 h5 => exact ⟨b, h3, by rw [Nat.zero_mul]⟩
  | stalep h1 h2 => rw [hs] at h1; cases h1; omega

theorem eff_callK {f : FuncId} {ks : List (Nat × AV)} {x : Operand} {args : Array Operand} {ats : Array TypeId} {σ0 σ1 : Sto} {xs : List AV} {r r' : AV} (hret : RetK P f σ0 xs σ1 r ks) (hf : callOK P f = true) (ren : Nat → Nat)
    (hd : dstOK D.n o.dst = true) (ho : o.op = .call { callee := .value x, args := args, argTypes := ats }) (hx : D.ev x = .t (.fn f []))
    (hargs : RenL σ0 ren xs (args.toList.map D.ev)) (hr' : RenA σ1 ren r r') (hkeys : keysOK ren σ1 = true)
    (h0 : AllS (fun id ob => sget D.st (ren id) = some ob ∧ treeEls ob ∧ ∃ ob1, sget σ1 id = some ob1 ∧ (ob.gen < ob1.gen ∨ Stays xs ks id ob ob1)) σ0)
    (h1 : AllS (fun id ob => treeEls ob ∧ ((sget σ0 id).isSome = true ∨ (sget D.st (ren id)).isNone = true)) σ1) :
    Eff P o D ⟨r', upsOf ren σ1⟩ := by
  intro s hs hfresh F β a w hrel next Q hnext
  have hsd := hs.st
  -- the objects that are lent
  have k0 : ∀ id ob, sget σ0 id = some ob → sget s.st (ren id) = some ob ∧ treeEls ob ∧ ∃ ob1, sget σ1 id = some ob1 ∧ (ob.gen < ob1.gen ∨ Stays xs ks id ob ob1) := fun id ob h => by
    obtain ⟨q1, q2, q3⟩ := h0.get id ob h
    exact ⟨hsd _ _ q1, q2, q3⟩
  have memUps : ∀ (σ : Sto) id ob, (id, some ob) ∈ σ → (ren id, ob) ∈ upsOf ren σ := by
    intro σ
    induction σ with
    | nil => intro id ob h; simp at h
    | cons y l ih =>
      intro id ob h
      obtain ⟨i, q⟩ := y
      simp only [List.mem_cons] at h
      rcases h with h | h
      · cases h; exact List.mem_cons_self
      · cases q with
        | none => exact ih id ob h
        | some q => exact List.mem_cons_of_mem _ (ih id ob h)
  have k1 : ∀ id ob, sget σ1 id = some ob → treeEls ob ∧ ((∃ ob0, sget σ0 id = some ob0) ∨ sget s.st (ren id) = none) := fun id ob h => by
    obtain ⟨q1, q2⟩ := h1.get id ob h
    refine ⟨q1, q2.imp (fun h => Option.isSome_iff_exists.1 h) (fun h2 => ?_)⟩
    exact hfresh (ren id) ob (memUps _ _ _ (sget_mem h)) (Option.isNone_iff_eq_none.1 h2)
  have inj1 : ∀ i j oi oj, sget σ1 i = some oi → sget σ1 j = some oj → ren i = ren j → i = j := fun i j oi oj hi hj e => by
    have := keys_inj hkeys _ _ (sget_mem hi) (sget_mem hj) e
    exact congrArg Prod.fst this
  -- the callee's view
  let lent : Nat → Prop := fun n => ∃ id ob, sget σ0 id = some ob ∧ ren id = n
  let Fc : Nat → Prop := fun b => F b ∨ ∃ n ob, sget s.st n = some ob ∧ β n = some b ∧ ¬ lent n
  let β0 : Nat → Option Nat := fun id => β (ren id)
  have hG0 : ∀ b, G Fc β0 σ0 b ↔ G F β s.st b := by
    intro b
    constructor
    · rintro ((h | ⟨n, ob, hn, hb, _⟩) | ⟨id, ob, hid, hb⟩)
      · exact .inl h
      · exact .inr ⟨n, ob, hn, hb⟩
      · exact .inr ⟨ren id, ob, (k0 id ob hid).1, hb⟩
    · rintro (h | ⟨n, ob, hn, hb⟩)
      · exact .inl (.inl h)
      · by_cases hl : lent n
        · obtain ⟨id, ob', hid, rfl⟩ := hl
          exact .inr ⟨id, ob', hid, hb⟩
        · exact .inl (.inr ⟨n, ob, hn, hb, hl⟩)
  have hto : ∀ id ob, sget σ0 id = some ob → sget s.st (ren id) = some ob ∧ β (ren id) = β0 id := fun id ob h => ⟨(k0 id ob h).1, rfl⟩
  have inj0 : ∀ i j oi oj, sget σ0 i = some oi → sget σ0 j = some oj → ren i = ren j → i = j := fun i j oi oj hi hj e => by
    obtain ⟨_, _, o1, q1, _⟩ := k0 i oi hi
    obtain ⟨_, _, o2, q2, _⟩ := k0 j oj hj
    exact inj1 i j o1 o2 q1 q2 e
  have hmem0 : Mem Fc β0 σ0 w := by
    refine ⟨fun id ob h => ?_, fun i j oi oj b hi hj hbi hbj => ?_, fun i oi b hi hb => ?_, fun b hb => ?_⟩
    · exact G_eq_mono (β := β) (β' := β0) (id := ren id) (n := id) (k0 id ob h).2.1 (fun b hb => (hG0 b).1 hb) rfl (hrel.ob (ren id) ob (k0 id ob h).1)
    · exact inj0 i j oi oj hi hj (hrel.inj _ _ oi oj b (k0 i oi hi).1 (k0 j oj hj).1 hbi hbj)
    · rintro (h | ⟨n, ob, hn, hbn, hl⟩)
      · exact hrel.notF (ren i) oi b (k0 i oi hi).1 hb h
      · have := hrel.inj (ren i) n oi ob b (k0 i oi hi).1 hn hb hbn
        exact hl ⟨i, oi, hi, this⟩
    · exact hrel.ltG b ((hG0 b).1 (.inl hb))
  have hlen : args.toList.length = xs.length := by rw [hargs.len]; simp
  have hxv := hrel.evT hs hx
  generalize hxe : a.eval x = xv at hxv
  cases hxv with
  | fn f cs vs hl' hcv =>
    have hvs : vs = [] := List.length_eq_zero_iff.1 hl'
    subst hvs
    have hvals : ∀ (i : Nat) (y : AV) (v : Value), xs[i]? = some y → (args.toList.map a.eval)[i]? = some v → VA w (G Fc β0 σ0) β0 σ0 y v := by
      intro i y v hy hv
      rw [List.getElem?_map, Option.map_eq_some_iff] at hv
      obtain ⟨op, hop, rfl⟩ := hv
      have hz : (args.toList.map D.ev)[i]? = some (D.ev op) := by rw [List.getElem?_map, hop]; rfl
      exact (hargs.get _ _ i y _ hy hz).of (fun b hb => (hG0 b).1 hb) hto (hrel.evA hs rfl)
    have := hret Fc β0 w (args.toList.map a.eval) hmem0 (by simpa using hlen) hvals
    unfold Oper.wp
    rw [execCall ho hxe hf w, Oper.upon_enter]
    rw [show (args.toList.map a.eval).toArray = args.map a.eval ++ ([] : List Value).toArray from by apply Array.ext'; simp] at this
    refine Calls.mono this ?_
    rintro e w' ⟨v, β1, rfl, hva, hm1, hev, hkept⟩
    -- the caller's view behind the call
    let β2 : Nat → Option Nat := fun n => match σ1.find? (fun y => Nat.beq (ren y.1) n) with
      | some y => β1 y.1
      | none => β n
    have hβhit : ∀ id ob, sget σ1 id = some ob → β2 (ren id) = β1 id := by
      intro id ob h
      show (match σ1.find? (fun y => Nat.beq (ren y.1) (ren id)) with | some y => β1 y.1 | none => β (ren id)) = β1 id
      cases hfd : σ1.find? (fun y => Nat.beq (ren y.1) (ren id)) with
      | none =>
        have := List.find?_eq_none.1 hfd _ (sget_mem h)
        simp at this
      | some y =>
        have hy := List.find?_some hfd
        have hm := List.mem_of_find?_eq_some hfd
        have := keys_inj hkeys _ _ hm (sget_mem h) (Nat.eq_of_beq_eq_true hy)
        rw [this]
    have hβmiss : ∀ n, (∀ id ob, sget σ1 id = some ob → ren id ≠ n) → (∀ y, y ∈ σ1 → ren y.1 ≠ n) → β2 n = β n := by
      intro n _ h
      show (match σ1.find? (fun y => Nat.beq (ren y.1) n) with | some y => β1 y.1 | none => β n) = β n
      rw [List.find?_eq_none.2 (fun y hy he => h y hy (Nat.eq_of_beq_eq_true he))]
    have memSome : ∀ (σ : Sto), keysOK ren σ = true → ∀ y, y ∈ σ → ∃ ob, sget σ y.1 = some ob := by
      intro σ
      induction σ with
      | nil => intro _ y h; simp at h
      | cons z l ih =>
        intro hk y h
        obtain ⟨q1, q2, q3⟩ := keys_head hk
        rw [show z :: l = sput l z.1 z.2 from rfl, sget_sput]
        by_cases e : y.1 = z.1
        · rw [if_pos e]; exact Option.isSome_iff_exists.1 q1
        · rw [if_neg e]
          simp only [List.mem_cons] at h
          rcases h with rfl | h
          · exact absurd rfl e
          · exact ih q3 y h
    have missOf : ∀ n, (∀ id ob, sget σ1 id = some ob → ren id ≠ n) → ∀ y, y ∈ σ1 → ren y.1 ≠ n := fun n h y hy => by
      obtain ⟨ob, hob⟩ := memSome σ1 hkeys y hy
      exact h _ _ hob
    let σ2 : Sto := upAll s.st (upsOf ren σ1)
    have hσhit : ∀ id ob, sget σ1 id = some ob → sget σ2 (ren id) = some ob := fun id ob h => (upAll_ups hkeys s.st (ren id)).1 id ob (sget_mem h) rfl
    have hσmiss : ∀ n, (∀ id ob, sget σ1 id = some ob → ren id ≠ n) → sget σ2 n = sget s.st n := fun n h => (upAll_ups hkeys s.st n).2 (missOf n h)
    have hcase : ∀ n, (∃ id ob, sget σ1 id = some ob ∧ ren id = n) ∨ (∀ id ob, sget σ1 id = some ob → ren id ≠ n) := fun n => by
      by_cases h : ∃ id ob, sget σ1 id = some ob ∧ ren id = n
      · exact .inl h
      · exact .inr fun id ob h1 h2 => h ⟨id, ob, h1, h2⟩
    have hG1 : ∀ b, G F β2 σ2 b ↔ G Fc β1 σ1 b := by
      intro b
      constructor
      · rintro (h | ⟨n, ob, hn, hb⟩)
        · exact .inl (.inl h)
        · rcases hcase n with ⟨id, ob1, hid, rfl⟩ | hmiss
          · exact .inr ⟨id, ob1, hid, by rw [← hβhit id ob1 hid]; exact hb⟩
          · rw [hσmiss n hmiss] at hn
            rw [hβmiss n hmiss (missOf n hmiss)] at hb
            refine .inl (.inr ⟨n, ob, hn, hb, ?_⟩)
            rintro ⟨id, ob0, hid, rfl⟩
            obtain ⟨_, _, o1, q1, _⟩ := k0 id ob0 hid
            exact hmiss id o1 q1 rfl
      · rintro ((h | ⟨n, ob, hn, hb, hl⟩) | ⟨id, ob, hid, hb⟩)
        · exact .inl h
        · have hmiss : ∀ id ob, sget σ1 id = some ob → ren id ≠ n := by
            rintro id ob1 hid rfl
            rcases (k1 id ob1 hid).2 with ⟨ob0, h00⟩ | hnone
            · exact hl ⟨id, ob0, h00, rfl⟩
            · rw [hn] at hnone; cases hnone
          exact .inr ⟨n, ob, by rw [hσmiss n hmiss]; exact hn, by rw [hβmiss n hmiss (missOf n hmiss)]; exact hb⟩
        · exact .inr ⟨ren id, ob, hσhit id ob hid, by rw [hβhit id ob hid]; exact hb⟩
    have hkeepG : ∀ b, b < w.heap.size → ¬ G F β s.st b → ¬ G F β2 σ2 b ∧ w'.heap[b]? = w.heap[b]? := by
      intro b hb hn
      have hn0 : ¬ Owned β0 σ0 b := fun h => hn ((hG0 b).1 (.inr h))
      refine ⟨fun h => ?_, hev.keep b hb hn0⟩
      rcases (hG1 b).1 h with h | h
      · exact hn ((hG0 b).1 (.inl h))
      · rcases hev.own b h with h | h
        · omega
        · exact hn0 h
    have hmissHeap : ∀ n ob b, sget s.st n = some ob → β n = some b → (∀ id ob, sget σ1 id = some ob → ren id ≠ n) → w'.heap[b]? = w.heap[b]? := by
      intro n ob b hn hb hmiss
      refine hev.keep b (hrel.ltG b (.inr ⟨n, ob, hn, hb⟩)) ?_
      rintro ⟨id, ob0, hid, hb0⟩
      have := hrel.inj n (ren id) ob ob0 b hn (k0 id ob0 hid).1 hb hb0
      obtain ⟨_, _, o1, q1, _⟩ := k0 id ob0 hid
      exact hmiss id o1 q1 this.symm
    have hturn : Turns w w' β β2 s.st σ2 := by
      intro n ob hn
      rcases hcase n with ⟨id, ob1, hid, rfl⟩ | hmiss
      · refine ⟨ob1, hσhit id ob1 hid, ?_⟩
        rcases (k1 id ob1 hid).2 with ⟨ob0, h00⟩ | hnone
        · obtain ⟨q1, _, o1, q2, q3⟩ := k0 id ob0 h00
          rw [hid] at q2; cases q2
          rw [hn] at q1; cases q1
          refine q3.imp (fun h => h) ?_
          rintro ⟨e1, e2, e3, e4, i, hi, hk⟩
          refine ⟨e1, e2, e3, e4, ?_, fun b c _ hc => hev.shp b c _ hc⟩
          rw [hβhit id ob1 hid]
          have hil : i < (args.toList.map a.eval).length := by have := lt_get hi; rw [List.length_map]; omega
          have hv0 := hvals i _ _ hi (List.getElem?_eq_getElem hil)
          have hv1 := hkept i _ _ hk (List.getElem?_eq_getElem hil)
          obtain ⟨b0, h1, h2⟩ := hv0.ptrB h00 rfl
          obtain ⟨b1, g1, g2⟩ := hv1.ptrB hid e1
          rw [h2] at g2
          cases g2
          exact g1.trans h1.symm
        · rw [hn] at hnone; cases hnone
      · refine ⟨ob, by rw [hσmiss n hmiss]; exact hn, .inr ⟨rfl, rfl, rfl, rfl, hβmiss n hmiss (missOf n hmiss), fun b c hb hc => ⟨c, ?_, rfl⟩⟩⟩
        rw [hmissHeap n ob b hn hb hmiss]; exact hc
    have hmono : ∀ {y : AV} {v : Value}, VA w (G F β s.st) β s.st y v → VA w' (G F β2 σ2) β2 σ2 y v := fun hv => VA.mono hev.size hkeepG hturn hv
    have hrel2 : Rel F β2 ⟨s.n, s.fr, σ2⟩ a w' := by
      refine ⟨hrel.defers, hrel.size, fun i => hmono (hrel.fr i), fun n ob hn => ?_, fun i j oi oj b hi hj hbi hbj => ?_, fun i oi b hi hb => ?_, fun b hb => Nat.lt_of_lt_of_le (hrel.ltF b hb) hev.size⟩
      · change sget σ2 n = some ob at hn
        rcases hcase n with ⟨id, ob1, hid, rfl⟩ | hmiss
        · rw [hσhit id ob1 hid] at hn; cases hn
          exact G_eq_mono (k1 id _ hid).1 (fun b hb => (hG1 b).1 hb) (hβhit id _ hid) (hm1.ob id _ hid)
        · rw [hσmiss n hmiss] at hn
          rcases hrel.ob n ob hn with ⟨q1, q2⟩ | ⟨b, c, q1, q2, q3, q4, q5⟩
          · exact .inl ⟨(hβmiss n hmiss (missOf n hmiss)).trans q1, q2⟩
          · refine .inr ⟨b, c, (hβmiss n hmiss (missOf n hmiss)).trans q1, by rw [hmissHeap n ob b hn q1 hmiss]; exact q2, q3, q4, fun i x j y hx hy => ?_⟩
            obtain ⟨g1, u, hu, hva⟩ := q5 i x j y hx hy
            exact ⟨g1, u, hu, hmono hva⟩
      · change sget σ2 i = some oi at hi
        change sget σ2 j = some oj at hj
        rcases hcase i with ⟨id, ob1, hid, rfl⟩ | hmi <;> rcases hcase j with ⟨jd, ob2, hjd, rfl⟩ | hmj
        · rw [hβhit id ob1 hid] at hbi
          rw [hβhit jd ob2 hjd] at hbj
          rw [hm1.inj id jd ob1 ob2 b hid hjd hbi hbj]
        · rw [hβhit id ob1 hid] at hbi
          rw [hσmiss j hmj] at hj
          rw [hβmiss j hmj (missOf j hmj)] at hbj
          refine absurd (show Fc b from .inr ⟨j, oj, hj, hbj, ?_⟩) (hm1.notF id ob1 b hid hbi)
          rintro ⟨id', ob0, hid', rfl⟩
          obtain ⟨_, _, o1, q1, _⟩ := k0 id' ob0 hid'
          exact hmj id' o1 q1 rfl
        · rw [hβhit jd ob2 hjd] at hbj
          rw [hσmiss i hmi] at hi
          rw [hβmiss i hmi (missOf i hmi)] at hbi
          refine absurd (show Fc b from .inr ⟨i, oi, hi, hbi, ?_⟩) (hm1.notF jd ob2 b hjd hbj)
          rintro ⟨id', ob0, hid', rfl⟩
          obtain ⟨_, _, o1, q1, _⟩ := k0 id' ob0 hid'
          exact hmi id' o1 q1 rfl
        · rw [hσmiss i hmi] at hi
          rw [hσmiss j hmj] at hj
          rw [hβmiss i hmi (missOf i hmi)] at hbi
          rw [hβmiss j hmj (missOf j hmj)] at hbj
          exact hrel.inj i j oi oj b hi hj hbi hbj
      · change sget σ2 i = some oi at hi
        rcases hcase i with ⟨id, ob1, hid, rfl⟩ | hmi
        · rw [hβhit id ob1 hid] at hb
          exact fun hF => hm1.notF id ob1 b hid hb (.inl hF)
        · rw [hσmiss i hmi] at hi
          rw [hβmiss i hmi (missOf i hmi)] at hb
          exact hrel.notF i oi b hi hb
    have hva2 : VA w' (G F β2 σ2) β2 σ2 r' v := hr'.to (fun b hb => (hG1 b).1 hb) (fun id ob h => ⟨hσhit id ob h, hβhit id ob h⟩) hva
    refine hnext β2 _ _ (hrel2.put (by rw [show (St.mk s.n s.fr σ2).n = s.n from rfl, hs.n]; exact hd) hva2) ⟨hev.os, hev.tape, hev.output, hev.size, fun b hb hn => ?_, fun b hb => ?_, hev.shp⟩
    · refine hev.keep b hb ?_
      rintro ⟨id, ob0, hid, hb0⟩
      exact hn ⟨ren id, ob0, (k0 id ob0 hid).1, hb0⟩
    · obtain ⟨n, ob, hn, hbn⟩ := hb
      change sget σ2 n = some ob at hn
      rcases hcase n with ⟨id, ob1, hid, rfl⟩ | hmiss
      · rw [hβhit id ob1 hid] at hbn
        rcases hev.own b ⟨id, ob1, hid, hbn⟩ with h | ⟨id0, ob0, hid0, hb0⟩
        · exact .inl h
        · exact .inr ⟨ren id0, ob0, (k0 id0 ob0 hid0).1, hb0⟩
      · rw [hσmiss n hmiss] at hn
        rw [hβmiss n hmiss (missOf n hmiss)] at hbn
        exact .inr ⟨n, ob, hn, hbn⟩

end Go.Tv

end
section
namespace Go.Tv

variable {P : Program} {o : Oper} {D : St}

/-- A new array, its elements apart. -/
theorem eff_allocL {t : TypeId} {x y : Tr} {id k : Nat} {els : List AV} (hd : dstOK D.n o.dst = true) (ho : o.op = .alloc t) (hz : zeroOf P t = some x)
    (hid : sget D.st id = none) (hw : Wk x y) (hny : y.noTup = true) (hly : y.cells.length = x.cells.length) (hf : (AV.t y).cells = els.flatMap AV.cells) (hek : (els.all fun x => x.noTup && Nat.beq x.cells.length k) = true) (hne : els ≠ []) :
    Eff P o D ⟨.ptr id 0 0 0, [(id, ⟨k, t, 0, els⟩)]⟩ := by
  intro s hs hfresh F β a w hr next Q hnext
  have hid' := hfresh id _ (List.mem_singleton.2 rfl) hid
  obtain ⟨v, hzr, hV, hn, hsz⟩ := zeroOf_run hz w (G F β s.st)
  have hva : VA w (G F β s.st) β s.st (.t y) v := .t (hw.v hV)
  have hall : ∀ y, y ∈ els → y.noTup = true ∧ y.cells.length = k := fun y hy => by
    have := List.all_eq_true.1 hek y hy
    simp only [Bool.and_eq_true] at this
    exact ⟨this.1, Nat.eq_of_beq_eq_true this.2⟩
  have hone := one_el hva hny
  have hcr : CR w (G F β s.st) β s.st v.cells (els.flatMap AV.cells) := by
    rw [← hf]
    refine ⟨by rw [hsz, ← hly]; simp [AV.cells], fun j z hy => ?_⟩
    obtain ⟨h1, u, hu, hvu⟩ := hone 0 (.t y) j z rfl hy
    rw [Nat.zero_mul, Nat.zero_add] at hu
    exact ⟨h1, u, hu, hvu⟩
  have hfl : (els.flatMap AV.cells).length = els.length * k := flat_length (k := k) _ (fun i x hx => (hall x (List.mem_of_getElem? hx)).2)
  obtain ⟨β', hrel, hev⟩ := hr.new (id := id) (ob := ⟨k, t, 0, els⟩) (c := v.cells) (fun _ h => by rw [hid'] at h; cases h) (by rw [hcr.1, hfl]; exact Nat.le_refl _)
    (fun i y hy => hall y (List.mem_of_getElem? hy)) (RowOf.of_cr hall hcr (.inl rfl)) (d := o.dst) (by rw [hs.n]; exact hd) (x := .ptr id 0 0 0) (v := .pointer (some ⟨w.heap.size, 0, none⟩))
    (fun β' hb => by
      have := VA.ptr (w := w.alloc (.cells v.cells t)) (H := G F β' (sput s.st id (some ⟨k, t, 0, els⟩))) (β := β') (i := 0) (j := 0)
        (sget_sput_same s.st id (some ⟨k, t, 0, els⟩)) rfl hb (List.length_pos_iff.2 hne) (Nat.zero_le _)
      simpa using this)
  unfold Oper.wp
  have hrun : (execOp a.eval o).run P w = .ok (.value (.pointer (some ⟨w.heap.size, 0, none⟩))) (w.alloc (.cells v.cells t)) := by
    simp only [execOp, ho, Instr.alloc, hzr, newVar, newRow, Sem.run_bind, run_newObj, Result.andThen_ok, Sem.run_pure, World.alloc_eq]
  rw [hrun]
  exact hnext β' _ _ hrel hev

theorem run_indexAt_array {t e : TypeId} {n k : Nat} {g : Bool} (hu : P.underlying t = some (.array n e)) (ht : tinf P e = some (k, g)) (w : World) (b p i : Nat) (ik : IntKind) (hi : i < n) :
    (Instr.indexAt t (.pointer (some ⟨b, p, none⟩)) (.int ik i)).run P w = .ok (.pointer (some ⟨b, p + i * k, none⟩)) w := by
  have h1 : (0 : Int) ≤ (i : Int) ∧ (i : Int) < (n : Int) := ⟨by omega, by omega⟩
  simp [Instr.indexAt, asIntOf, run_underlying' w hu, h1, run_sizeOf' w ht, Addr.add_none, hi, Instr.sureAddr]

/-- An element of an array behind a pointer. -/
theorem eff_indexAddrP {t e : TypeId} {x ix : Operand} {n k : Nat} {ag : Bool} {ik : IntKind} {m : Int} {i id g : Nat} {ob : Ob} (hd : dstOK D.n o.dst = true)
    (ho : o.op = .indexAddr t x ix) (hu : P.underlying t = some (.array n e)) (ht : tinf P e = some (k, ag)) (hx : D.ev x = .ptr id g 0 0) (hi : D.ev ix = .t (.int ik m)) (hn : m = (i : Int)) (hin : i < n)
    (hs : sget D.st id = some ob) (hg : ob.gen = g) (hk : ob.k = k) (hlt : i < ob.els.length) : Eff P o D ⟨.ptr id g i 0, []⟩ :=
  Eff.pure hd fun s hs' F β a w hR => by
    subst hn
    have h := hR.evA hs' hx
    have hiv := hR.evInt hs' hi
    have hst := hs'.st _ _ hs
    obtain ⟨b, hb, hv⟩ := h.ptrB hst hg
    refine ⟨_, ?_, .ptr hst hg hb hlt (Nat.zero_le _)⟩
    simp only [execOp, ho, hv, hiv, Sem.run_bind, run_indexAt_array hu ht w _ _ i ik hin, Result.andThen_ok, Sem.run_pure]
    subst hk
    rw [Nat.zero_add, Nat.add_zero]

end Go.Tv

end
section
namespace Go.Tv

variable {P : Program} {o : Oper} {D : St}

/-- The fields of a struct from an offset on hold integers, cell by cell. -/
def intFs (P : Program) (rec : TypeId → Option Nat) : Nat → List Field → Option Nat
  | off, [] => some off
  | off, f :: fs => match rec f.type with
    | some k => if f.name ≠ "_" ∧ f.offset = off then intFs P rec (off + k) fs else none
    | none => none

/-- The number of cells of a type that holds 64-bit integers alone. -/
def intCells (P : Program) : Nat → TypeId → Option Nat
  | 0, _ => none
  | d + 1, t => match P.underlying t with
    | some (.int .i64) => match tinf P t with
      | some (1, false) => some 1
      | _ => none
    | some (.struct fs) => match tinf P t with
      | some (k, true) => if P.stoodInHeld t = false ∧ intFs P (intCells P d) 0 fs.toList = some k then some k else none
      | _ => none
    | _ => none

def vint (n : Int) : Value := .int .i64 n
/-- The cells of a part of an aggregate, as the value that it is. -/
def packI (g : Bool) (ns : List Int) : Value := if g then .agg (ns.map vint).toArray else vint (ns.headD 0)

theorem run_sizeOfI {t : TypeId} {k : Nat} {g : Bool} (h : tinf P t = some (k, g)) (w : World) : (sizeOf t).run P w = .ok k w := run_sizeOf' w h

theorem intCells_tinf {d : Nat} {t : TypeId} {k : Nat} (h : intCells P d t = some k) : ∃ g, tinf P t = some (k, g) ∧ (g = false → k = 1) := by
  cases d with
  | zero => simp [intCells] at h
  | succ d =>
    unfold intCells at h
    split at h
    · split at h
      · rename_i h2; cases h; exact ⟨false, h2, fun _ => rfl⟩
      · cases h
    · split at h
      · rename_i h2
        split at h
        · cases h; exact ⟨true, h2, fun h => by cases h⟩
        · cases h
      · cases h
    · cases h

theorem part_run {t : TypeId} {k : Nat} {g : Bool} (h : tinf P t = some (k, g)) (hg : g = false → k = 1) (w : World) (ns : List Int) (off : Nat) (hb : off + k ≤ ns.length) :
    (part t (ns.map vint).toArray off).run P w = .ok (packI g ((ns.drop off).take k)) w := by
  unfold part
  cases g with
  | true =>
    simp only [Sem.run_bind, run_isAgg' w h, Result.andThen_ok, if_true, run_sizeOf' w h, Sem.run_pure]
    congr 2
    apply Array.ext'
    simp [List.map_take, List.map_drop, List.extract_eq_take_drop]
  | false =>
    have hk := hg rfl
    subst hk
    have hlt : off < ns.length := by omega
    simp only [Sem.run_bind, run_isAgg' w h, Result.andThen_ok, Bool.false_eq_true, if_false]
    have h2 : (List.map vint ns).toArray[off]? = some (vint ns[off]) := by simp [hlt]
    rw [h2]
    simp only [Sem.run_pure]
    have h3 : (ns.drop off).take 1 = [ns[off]] := by
      rw [List.drop_eq_getElem_cons hlt]; rfl
    rw [h3]; rfl

theorem packI_eq_true (ns : List Int) : packI true ns = .agg (ns.map vint).toArray := rfl
theorem packI_eq_false (n : Int) : packI false [n] = vint n := rfl

/-- The comparison of the fields of a struct, one after another. -/
theorem fields_run {d : Nat} (e : Nat) (ih : ∀ (t : TypeId) (k : Nat) (g : Bool), intCells P d t = some k → tinf P t = some (k, g) → ∀ (w : World) (ns ms : List Int), ns.length = k → ms.length = k →
      (Op.equalIn (d + e) t (packI g ns) (packI g ms)).run P w = .ok (decide (ns = ms)) w) (w : World) (ns ms : List Int) (hl : ns.length = ms.length) :
    ∀ (fs : List Field) (off : Nat), intFs P (intCells P d) off fs = some ns.length → off ≤ ns.length →
      (do
        let r ← forIn (m := Sem) fs ((none, ()) : Option Bool × Unit) fun f _ => do
          if f.name ≠ "_" then
            if !(← Op.equalIn (d + e) f.type (← part f.type (ns.map vint).toArray f.offset) (← part f.type (ms.map vint).toArray f.offset)) then pure (ForInStep.done (some false, ())) else pure (ForInStep.yield (none, ()))
          else pure (ForInStep.yield (none, ()))
        match r.1 with
        | none => pure true
        | some b => pure b : Sem Bool).run P w = .ok (decide (ns.drop off = ms.drop off)) w
  | [], off, h, hoff => by
    simp only [intFs, Option.some.injEq] at h
    subst h
    have h1 : ns.drop ns.length = [] := by simp
    have h2 : ms.drop ns.length = [] := by rw [hl]; simp
    rw [h1, h2]
    simp only [List.forIn_nil, Sem.run_bind, Sem.run_pure, Result.andThen_ok]
    rfl
  | f :: fs, off, h, hoff => by
    unfold intFs at h
    split at h
    · rename_i k hk
      split at h
      · rename_i hc
        obtain ⟨hn, ho⟩ := hc
        subst ho
        obtain ⟨g, ht, hg⟩ := intCells_tinf hk
        have hbd : ∀ (fs : List Field) (o : Nat), intFs P (intCells P d) o fs = some ns.length → o ≤ ns.length := by
          intro fs
          induction fs with
          | nil => intro o h; simp [intFs] at h; omega
          | cons f fs ih2 =>
            intro o h
            unfold intFs at h
            split at h
            · split at h
              · have := ih2 _ h; omega
              · cases h
            · cases h
        have hb := hbd _ _ h
        have hr := fields_run e ih w ns ms hl fs (f.offset + k) h hb
        have h1 := part_run ht hg w ns f.offset hb
        have h2 := part_run ht hg w ms f.offset (by omega)
        have h3 := ih f.type k g hk ht w ((ns.drop f.offset).take k) ((ms.drop f.offset).take k) (by simp; omega) (by simp; omega)
        have hsp : (ns.drop f.offset = ms.drop f.offset) ↔ ((ns.drop f.offset).take k = (ms.drop f.offset).take k ∧ ns.drop (f.offset + k) = ms.drop (f.offset + k)) := by
          constructor
          · intro he; rw [he]; refine ⟨rfl, ?_⟩
            rw [← List.drop_drop, ← List.drop_drop, he]
          · rintro ⟨ha, hb⟩
            rw [← List.take_append_drop k (ns.drop f.offset), ← List.take_append_drop k (ms.drop f.offset), ha, List.drop_drop, List.drop_drop, hb]
        rw [List.forIn_cons]
        by_cases he : (ns.drop f.offset).take k = (ms.drop f.offset).take k
        · have e1 : decide ((ns.drop f.offset).take k = (ms.drop f.offset).take k) = true := decide_eq_true he
          rw [e1] at h3
          have e2 : decide (ns.drop f.offset = ms.drop f.offset) = decide (ns.drop (f.offset + k) = ms.drop (f.offset + k)) := decide_eq_decide.2 (by rw [hsp]; exact ⟨fun h => h.2, fun h => ⟨he, h⟩⟩)
          rw [e2, ← hr]
          simp only [ne_eq, hn, not_false_eq_true, if_true, bind_assoc, Sem.run_bind, h1, h2, h3, Result.andThen_ok, Bool.not_true, Bool.false_eq_true, if_false, Sem.run_pure]
        · have e1 : decide ((ns.drop f.offset).take k = (ms.drop f.offset).take k) = false := decide_eq_false he
          rw [e1] at h3
          have e2 : decide (ns.drop f.offset = ms.drop f.offset) = false := decide_eq_false (fun h => he (hsp.1 h).1)
          rw [e2]
          simp only [ne_eq, hn, not_false_eq_true, if_true, bind_assoc, Sem.run_bind, h1, h2, h3, Result.andThen_ok, Bool.not_false, Sem.run_pure]
      · cases h
    · cases h

theorem equalI_run : ∀ (d e : Nat) (t : TypeId) (k : Nat) (g : Bool), intCells P d t = some k → tinf P t = some (k, g) → ∀ (w : World) (ns ms : List Int), ns.length = k → ms.length = k →
    (Op.equalIn (d + e) t (packI g ns) (packI g ms)).run P w = .ok (decide (ns = ms)) w
  | 0, _, _, _, _, h, _, _, _, _, _, _ => by simp [intCells] at h
  | d + 1, e, t, k, g, h, ht, w, ns, ms, hn, hm => by
    have hde : d + 1 + e = (d + e) + 1 := by omega
    rw [hde]
    unfold intCells at h
    split at h
    · rename_i hu
      split at h
      · rename_i h2
        cases h
        rw [h2] at ht; cases ht
        obtain ⟨n, rfl⟩ : ∃ n, ns = [n] := List.length_eq_one_iff.1 hn
        obtain ⟨m, rfl⟩ : ∃ m, ms = [m] := List.length_eq_one_iff.1 hm
        show (Op.equalIn (d + e + 1) t (.int .i64 n) (.int .i64 m)).run P w = _
        simp only [Op.equalIn, Sem.run_bind, run_underlying' w hu, Result.andThen_ok, if_true, Sem.run_pure]
        congr 1
        by_cases hnm : n = m
        · subst hnm; simp
        · simp [hnm]
      · cases h
    · rename_i fs hu
      split at h
      · rename_i k' h2
        split at h
        · rename_i hc
          cases h
          rw [h2] at ht; cases ht
          obtain ⟨hst, hfs⟩ := hc
          rw [← hn] at hfs
          have := fields_run e (fun t k g hk ht w ns ms hn hm => equalI_run d e t k g hk ht w ns ms hn hm) w ns ms (by omega) fs.toList 0 hfs (Nat.zero_le _)
          simp only [List.drop_zero] at this
          rw [← this]
          show (Op.equalIn (d + e + 1) t (.agg (ns.map vint).toArray) (.agg (ms.map vint).toArray)).run P w = _
          simp only [Op.equalIn, Sem.run_bind, run_underlying' w hu, Result.andThen_ok, run_program, hst, Bool.false_eq_true, if_false]
          rw [← Array.forIn_toList]
          congr 1
          funext a w'
          rcases a with ⟨_ | b, _⟩ <;> rfl
        · cases h
      · cases h
    · cases h

theorem ints_v {w : World} {F : Nat → Prop} {ns : List Int} {v : Value} (h : V w F (.agg (ns.map (.int .i64))) v) : v = packI true ns := by
  generalize hx : Tr.agg (ns.map (.int .i64)) = x at h
  cases h with
  | agg cs vs hl h1 hv =>
    cases hx
    show Value.agg vs.toArray = .agg (ns.map vint).toArray
    congr 2
    apply List.ext_getElem
    · simpa using hl
    · intro i hi hj
      simp only [List.length_map] at hj
      have := hv i (.int .i64 ns[i]) vs[i] (by simp [hj]) (List.getElem?_eq_getElem hi)
      simp only [List.getElem_map]
      generalize vs[i] = u at this
      cases this; rfl
  | _ => cases hx

/-- Structs of integers: equal where all their cells are. -/
theorem eff_structEq {t ty : TypeId} {op : BinOp} {x y : Operand} {k : Nat} {ns ms : List Int} (hd : dstOK D.n o.dst = true) (ho : o.op = .binOp op t x y ty) (hop : op = .eql ∨ op = .neq)
    (ht : intCells P 8 t = some k) (hta : tinf P t = some (k, true)) (hgd : P.eqGuardType P.depth t = false)
    (hx : D.ev x = .t (.agg (ns.map (.int .i64)))) (hy : D.ev y = .t (.agg (ms.map (.int .i64)))) (hn : ns.length = k) (hm : ms.length = k) :
    Eff P o D ⟨.t (.bool (if op = .eql then decide (ns = ms) else decide (ns ≠ ms))), []⟩ :=
  Eff.pure hd fun s hs' F β a w hR => by
    have h1 := ints_v (hR.evT hs' hx)
    have h2 := ints_v (hR.evT hs' hy)
    refine ⟨.bool (if op = .eql then decide (ns = ms) else decide (ns ≠ ms)), ?_, .t (.bool _)⟩
    have he : (Op.equal t (packI true ns) (packI true ms)).run P w = .ok (decide (ns = ms)) w := equalI_run 8 9992 t k true ht hta w ns ms hn hm
    have hg : ∀ op', (eqGuard op' t x y (packI true ns) (packI true ms)).run P w = .ok () w := by
      intro op'
      unfold eqGuard packI
      cases op' <;> simp [hgd]
    have hb1 : (binOp .eql t (packI true ns) (packI true ms)).run P w = .ok (.bool (decide (ns = ms))) w := by
      show (do pure (Value.bool (← Op.equal t (packI true ns) (packI true ms))) : Sem Value).run P w = _
      simp only [Sem.run_bind, he, Result.andThen_ok, Sem.run_pure]
    have hb2 : (binOp .neq t (packI true ns) (packI true ms)).run P w = .ok (.bool (decide (ns ≠ ms))) w := by
      show (do pure (Value.bool (!(← Op.equal t (packI true ns) (packI true ms)))) : Sem Value).run P w = _
      simp only [Sem.run_bind, he, Result.andThen_ok, Sem.run_pure]
      congr 2
      by_cases h : ns = ms <;> simp [h]
    rcases hop with rfl | rfl <;> simp only [execOp, ho, h1, h2, Sem.run_bind, hg, Result.andThen_ok, hb1, hb2, Sem.run_pure] <;> rfl

theorem eff_structEql {t ty : TypeId} {x y : Operand} {k : Nat} {ns ms : List Int} (hd : dstOK D.n o.dst = true) (ho : o.op = .binOp .eql t x y ty)
    (ht : intCells P 8 t = some k) (hta : tinf P t = some (k, true)) (hgd : P.eqGuardType P.depth t = false)
    (hx : D.ev x = .t (.agg (ns.map (.int .i64)))) (hy : D.ev y = .t (.agg (ms.map (.int .i64)))) (hn : ns.length = k) (hm : ms.length = k) :
    Eff P o D ⟨.t (.bool (decide (ns = ms))), []⟩ := eff_structEq hd ho (.inl rfl) ht hta hgd hx hy hn hm
theorem eff_structNeq {t ty : TypeId} {x y : Operand} {k : Nat} {ns ms : List Int} (hd : dstOK D.n o.dst = true) (ho : o.op = .binOp .neq t x y ty)
    (ht : intCells P 8 t = some k) (hta : tinf P t = some (k, true)) (hgd : P.eqGuardType P.depth t = false)
    (hx : D.ev x = .t (.agg (ns.map (.int .i64)))) (hy : D.ev y = .t (.agg (ms.map (.int .i64)))) (hn : ns.length = k) (hm : ms.length = k) :
    Eff P o D ⟨.t (.bool (decide (ns ≠ ms))), []⟩ := eff_structEq hd ho (.inr rfl) ht hta hgd hx hy hn hm

/-! ### Arrays -/

def arrOf (P : Program) (t : TypeId) : Option (Nat × Nat × Bool) :=
  match P.underlying t with
  | some (.array n e) => match tinf P e with
    | some (k, g) => some (n, k, g)
    | none => none
  | _ => none

theorem eff_buildArr {t : TypeId} {parts : Array (Nat × Operand)} {zs : List Tr} {n k : Nat} {g : Bool} {ys : List Tr} (hd : dstOK D.n o.dst = true) (ho : o.op = .build t parts)
    (hz : zeroOf P t = some (.agg zs)) (hl : arrOf P t = some (n, k, g))
    (hf : fillA (fun i => some (i * k, k)) (zs.map .t) (parts.toList.map fun p => (p.1, D.ev p.2)) = some (ys.map .t)) : Eff P o D ⟨.t (.agg ys), []⟩ := by
  rw [← mkAgg_t]
  exact Eff.pure hd fun s hs F β a w hR => by
    obtain ⟨zv, hzr, hzV, _, _⟩ := zeroOf_run hz w (G F β s.st)
    have hzva : VA w (G F β s.st) β s.st (.t (.agg zs)) zv := .t hzV
    have hcr := hzva.cr rfl
    unfold arrOf at hl
    split at hl
    · rename_i n' e hu
      split at hl
      · rename_i k' g' ht
        cases hl
        obtain ⟨c', hc', hcr'⟩ := fill_run _ _ zv.cells _ _ hcr (by simp) (map_parts hR hs parts) hf
        refine ⟨.agg c', ?_, hcr'.agg⟩
        have hc'' : Instr.fill (fun i => some (i * k, k)) zv.cells (Array.map (fun (x : Nat × Operand) => (x.1, a.eval x.2)) parts).toList = some c' := by
          rw [Array.toList_map]
          simpa using hc'
        simp only [execOp, ho, Instr.build, Sem.run_bind, hzr, Result.andThen_ok, run_underlying' w hu, run_sizeOf' w ht, hc'', Sem.run_pure]
      · cases hl
    · cases hl

/-- An element of an array: a struct. -/
theorem eff_indexArr {t : TypeId} {x ix : Operand} {n k : Nat} {cs ys : List Tr} {ik : IntKind} {m : Int} {i : Nat} (hd : dstOK D.n o.dst = true) (ho : o.op = .index t x ix)
    (ht : arrOf P t = some (n, k, true)) (hx : D.ev x = .t (.agg cs)) (hi : D.ev ix = .t (.int ik m)) (hm : m = (i : Int)) (hin : i < n) (hc : (cs.drop (i * k)).take k = ys) :
    Eff P o D ⟨.t (.agg ys), []⟩ :=
  Eff.pure hd fun s hs F β a w hR => by
    subst hm
    have h := hR.evT hs hx
    have hiv := hR.evInt hs hi
    unfold arrOf at ht
    split at ht
    · rename_i n' e hu
      split at ht
      · rename_i k' g' hte
        cases ht
        generalize hv : a.eval x = v at h
        cases h with
        | agg cs vs hl h1 hva =>
          refine ⟨.agg ((vs.drop (i * k)).take k).toArray, ?_, ?_⟩
          · have h1 : (0 : Int) ≤ (i : Int) ∧ (i : Int) < (n : Int) := ⟨by omega, by omega⟩
            have hai : asIntOf (.int ik (i : Int)) = pure (ik, (i : Int)) := rfl
            simp only [execOp, ho, hv, hiv, Instr.index, hai, Sem.run_bind, Sem.run_pure, Result.andThen_ok, run_underlying' w hu, h1, and_self, if_true, run_sizeOf' w hte, Int.toNat_natCast, part, run_isAgg' w hte]
            congr 3
            simp [List.extract_eq_take_drop]
          · subst hc
            refine .t (.agg _ _ (by simp [hl]) (fun j c hj => ?_) (fun j c u hj hu => ?_))
            · rw [List.getElem?_take] at hj
              split at hj
              · rw [List.getElem?_drop] at hj; exact h1 _ c hj
              · cases hj
            · rw [List.getElem?_take] at hj hu
              split at hj
              · rename_i hjk
                rw [if_pos hjk] at hu
                rw [List.getElem?_drop] at hj hu
                exact hva _ c u hj hu
              · cases hj
      · cases ht
    · cases ht

end Go.Tv

end
section
namespace Go.Tv
open Go.ChangeShapes Go.WideShapes Go.ChangeAt Go.RowKit
variable {P : Program}

/-- A reading at type t gives trees, one a cell, that satisfy ok. -/
def Reads (P : Program) (t : TypeId) (k : Nat) (ok : List Tr → Prop) : Prop :=
  P.cellsOf t = k ∧ ∀ {H : Type} (enc : TypeId × Value → H) (w : World) (fuel : Nat) (cs : List Value) (x : DataW H × List MemPlace), DataW.trod enc P w 0 (fun _ => true) true fuel t cs = some x →
    cs.length = k ∧ ∃ ts : List Tr, ts.length = k ∧ (∀ (i : Nat) c v, ts[i]? = some c → cs[i]? = some v → c.one = true ∧ V w (fun _ => False) c v) ∧ ok ts

theorem Reads.mono {t : TypeId} {k : Nat} {ok ok' : List Tr → Prop} (h : Reads P t k ok) (hk : ∀ ts, ok ts → ok' ts) : Reads P t k ok' :=
  ⟨h.1, fun enc w fuel cs x hx => by obtain ⟨h1, ts, h2, h3, h4⟩ := h.2 enc w fuel cs x hx; exact ⟨h1, ts, h2, h3, hk _ h4⟩⟩

theorem one_of {ts : List Tr} {cs : List Value} {c : Tr} {v : Value} {w : World} {F : Nat → Prop} (h1 : c.one = true) (hV : V w F c v) :
    ∀ (i : Nat) c' v', [c][i]? = some c' → [v][i]? = some v' → c'.one = true ∧ V w F c' v' := by
  intro i c' v' hc hv
  match i with
  | 0 => simp at hc hv; subst hc hv; exact ⟨h1, hV⟩
  | i + 1 => simp at hc

theorem reads_int {t : TypeId} {k : IntKind} (ht : P.underlying t = some (.int k)) (hc : P.cellsOf t = 1) : Reads P t 1 (fun ts => ∃ n, ts = [.int k n] ∧ (Lit.int k n).wf = true) := by
  refine ⟨hc, fun enc w fuel cs x hx => ?_⟩
  obtain ⟨n, rfl, _, hw⟩ := DataW.trod_int ht hx
  exact ⟨rfl, [.int k n], rfl, one_of (ts := []) (cs := []) rfl (.int k n), n, rfl, hw⟩

theorem reads_bool {t : TypeId} (ht : P.underlying t = some .bool) (hc : P.cellsOf t = 1) : Reads P t 1 (fun ts => ∃ b, ts = [.bool b]) := by
  refine ⟨hc, fun enc w fuel cs x hx => ?_⟩
  obtain ⟨b, rfl, _⟩ := DataW.trod_bool ht hx
  exact ⟨rfl, [.bool b], rfl, one_of (ts := []) (cs := []) rfl (.bool b), b, rfl⟩

theorem reads_string {t : TypeId} (ht : P.underlying t = some .string) (hc : P.cellsOf t = 1) : Reads P t 1 (fun ts => ∃ s : ByteArray, ts = [.str s] ∧ s.size ≤ maxLen) := by
  refine ⟨hc, fun enc w fuel cs x hx => ?_⟩
  obtain ⟨s, rfl, _, hm⟩ := DataW.trod_string ht hx
  exact ⟨rfl, [.str s], rfl, one_of (ts := []) (cs := []) rfl (.str s), s, rfl, hm⟩

/-- An element out of its cells. -/
def packE (g : Bool) (ts : List Tr) : Tr := if g then .agg ts else ts.headD .nilp

theorem packE_cells {g : Bool} {ts : List Tr} {k : Nat} (hg : g = true ∨ k = 1) (hl : ts.length = k) (h1 : ∀ c, c ∈ ts → c.one = true) : (packE g ts).cells = ts ∧ (packE g ts).noTup = true := by
  unfold packE
  cases g with
  | true => exact ⟨rfl, rfl⟩
  | false =>
    rcases hg with h | h
    · cases h
    · subst h
      match ts, hl with
      | [c], _ =>
        have h := h1 c List.mem_cons_self
        refine ⟨?_, ?_⟩
        · simp only [Bool.false_eq_true, if_false, List.headD_cons]
          exact (show c.cells = [c] by cases c <;> simp [Tr.one, Tr.cells] at h ⊢)
        · simp only [Bool.false_eq_true, if_false, List.headD_cons]
          cases c <;> simp [Tr.one, Tr.noTup] at h ⊢

theorem cells_row {w : World} {a : Addr} {n : Nat} {cs : List Value} (h : w.cells? 0 a n = some cs) : cs.length = n ∧ ∀ j, j < n → w.cell? (a.add j) = cs[j]? := by
  unfold World.cells? at h
  rw [if_pos (Nat.zero_le _)] at h
  refine ⟨by simpa using mapM_some_length h, fun j hj => ?_⟩
  have := mapM_some_get h j j (by simp [hj])
  exact this

theorem spot_none {w : World} {a : Addr} {v : Value} (h : w.cell? a = some v) : a = ⟨a.block, a.off, none⟩ ∧ a.block < w.heap.size := by
  unfold World.cell? at h
  cases hb : w.heap[a.block]? with
  | none => simp [hb] at h
  | some o =>
    have hlt := lt_of_heap hb
    cases o with
    | cells c ty fz =>
      simp only [hb] at h
      cases hs : a.spot with
      | none => refine ⟨?_, hlt⟩; cases a; simp_all
      | some s => simp [hs] at h
    | _ => simp [hb] at h

theorem reads_slice {t e : TypeId} {k : Nat} {g : Bool} {ok : List Tr → Prop} (ht : P.underlying t = some (.slice e)) (hc : P.cellsOf t = 1) (hk : 0 < k) (hg : g = true ∨ k = 1) (he : Reads P e k ok) :
    Reads P t 1 (fun ts => ∃ els : List Tr, ts = [.sl els false] ∧ els.length ≤ maxLen ∧ ∀ x, x ∈ els → ∃ cs, ok cs ∧ x = packE g cs) := by
  refine ⟨hc, fun {H} enc w fuel cs x hx => ?_⟩
  rcases DataW.trod_slice ht hx with ⟨rfl, _⟩ | ⟨a, len, cap, elems, rest, n, _, rfl, _, _, hlc, hcm, hlen, hel, hrest, _⟩
  · exact ⟨rfl, [.sl [] false], rfl, one_of (ts := []) (cs := []) rfl (.nils false), [], rfl, Nat.zero_le _, fun x hx => by simp at hx⟩
  · refine ⟨rfl, ?_⟩
    rw [he.1] at hel hrest
    -- each element's cells
    have hread : ∀ i, i < len → ∃ (cv : List Value) (ts : List Tr), cv.length = k ∧ ts.length = k ∧ (∀ j, j < k → w.cell? ((a.add (i * k)).add j) = cv[j]?) ∧ (∀ (j : Nat) c v, ts[j]? = some c → cv[j]? = some v → c.one = true ∧ V w (fun _ => False) c v) ∧ ok ts := by
      intro i hi
      have h := hel i hi
      rw [List.getElem?_eq_getElem (by omega)] at h
      obtain ⟨cv, hcv, htr⟩ := Option.bind_eq_some_iff.1 h
      obtain ⟨hcl, hcc⟩ := cells_row hcv
      obtain ⟨h1, ts, h2, h3, h4⟩ := he.2 enc w n cv _ htr
      exact ⟨cv, ts, h1, h2, hcc, h3, h4⟩
    by_cases h0 : cap = 0
    · have hl0 : len = 0 := by omega
      subst h0 hl0
      exact ⟨[.sl [] false], rfl, one_of (ts := []) (cs := []) rfl (.nilsE false a), [], rfl, Nat.zero_le _, fun x hx => by simp at hx⟩
    -- the address is that of cells
    have hfirst : ∃ v, w.cell? a = some v := by
      by_cases hl0 : len = 0
      · obtain ⟨hr1, hr2⟩ := hrest rfl
        have h := hr2 0 (by omega)
        rw [List.getElem?_eq_getElem (by omega)] at h
        obtain ⟨cv, hcv, _⟩ := Option.bind_eq_some_iff.1 h
        obtain ⟨hcl, hcc⟩ := cells_row hcv
        have := hcc 0 hk
        subst hl0
        simp only [Nat.zero_add, Nat.zero_mul, Addr.add, if_true] at this
        exact ⟨_, this.trans (List.getElem?_eq_getElem (by omega))⟩
      · obtain ⟨cv, ts, hcl, _, hcc, _⟩ := hread 0 (by omega)
        have := hcc 0 hk
        simp only [Nat.zero_mul, Addr.add, if_true] at this
        exact ⟨_, this.trans (List.getElem?_eq_getElem (by omega))⟩
    obtain ⟨v0, hv0⟩ := hfirst
    obtain ⟨ha, hlt⟩ := spot_none hv0
    obtain ⟨b, o, rfl⟩ : ∃ b o, a = ⟨b, o, none⟩ := ⟨_, _, ha⟩
    -- choose the elements
    have hex : ∀ i : Nat, ∃ (cv : List Value) (ts : List Tr), i < len → (cv.length = k ∧ ts.length = k ∧ (∀ j, j < k → w.cell? ⟨b, o + i * k + j, none⟩ = cv[j]?) ∧ (∀ (j : Nat) c v, ts[j]? = some c → cv[j]? = some v → c.one = true ∧ V w (fun _ => False) c v) ∧ ok ts) := by
      intro i
      by_cases hi : i < len
      · obtain ⟨cv, ts, h1, h2, h3, h4, h5⟩ := hread i hi
        refine ⟨cv, ts, fun _ => ⟨h1, h2, fun j hj => ?_, h4, h5⟩⟩
        have := h3 j hj
        rwa [Addr.add_none, Addr.add_none] at this
      · exact ⟨[], [], fun h => absurd h hi⟩
    let cv : Nat → List Value := fun i => Classical.choose (hex i)
    let ts : Nat → List Tr := fun i => Classical.choose (Classical.choose_spec (hex i))
    have hsp : ∀ i, i < len → ((cv i).length = k ∧ (ts i).length = k ∧ (∀ j, j < k → w.cell? ⟨b, o + i * k + j, none⟩ = (cv i)[j]?) ∧ (∀ (j : Nat) c v, (ts i)[j]? = some c → (cv i)[j]? = some v → c.one = true ∧ V w (fun _ => False) c v) ∧ ok (ts i)) :=
      fun i hi => Classical.choose_spec (Classical.choose_spec (hex i)) hi
    have hone : ∀ i, i < len → ∀ c, c ∈ ts i → c.one = true := by
      intro i hi c hc
      obtain ⟨h1, h2, h3, h4, h5⟩ := hsp i hi
      obtain ⟨j, hj, rfl⟩ := List.mem_iff_getElem.1 hc
      exact (h4 j _ _ (List.getElem?_eq_getElem hj) (List.getElem?_eq_getElem (by omega))).1
    let els : List Tr := (List.range len).map fun i => packE g (ts i)
    have hels : els.length = len := by simp [els]
    have hget : ∀ (i : Nat) x, els[i]? = some x → i < len ∧ x = packE g (ts i) := by
      intro i x hx
      simp only [els, List.getElem?_map, Option.map_eq_some_iff] at hx
      obtain ⟨m, hm, rfl⟩ := hx
      have hi : i < len := by have := lt_of_get hm; simpa using this
      rw [List.getElem?_range hi] at hm
      cases hm
      exact ⟨hi, rfl⟩
    have hcell : ∀ i, i < len → (packE g (ts i)).cells = ts i ∧ (packE g (ts i)).noTup = true := fun i hi => packE_cells hg (hsp i hi).2.1 (hone i hi)
    have hV : V w (fun _ => False) (.sl els false) (.slice (some ⟨b, o, none⟩) els.length cap) := by
      refine .sl els false k b o cap (fun i j => (cv i).getD j undef) hlt (fun h => h) (fun h => by cases h) (by rw [hels]; exact hlc) ?_ ?_ ?_ ?_
      · intro i x hx
        obtain ⟨hi, rfl⟩ := hget i x hx
        exact ⟨(hcell i hi).2, by rw [(hcell i hi).1]; exact (hsp i hi).2.1⟩
      · intro i x j c hx hc
        obtain ⟨hi, rfl⟩ := hget i x hx
        rw [(hcell i hi).1] at hc
        exact hone i hi c (List.mem_of_getElem? hc)
      · intro i x j c hx hc
        obtain ⟨hi, rfl⟩ := hget i x hx
        rw [(hcell i hi).1] at hc
        have hj : j < k := by have := lt_of_get hc; rw [(hsp i hi).2.1] at this; exact this
        rw [(hsp i hi).2.2.1 j hj, List.getElem?_eq_getElem (by rw [(hsp i hi).1]; exact hj)]
        simp [List.getD, (hsp i hi).1, hj]
      · intro i x j c hx hc
        obtain ⟨hi, rfl⟩ := hget i x hx
        rw [(hcell i hi).1] at hc
        have hj : j < k := by have := lt_of_get hc; rw [(hsp i hi).2.1] at this; exact this
        have hcv : (cv i)[j]? = some ((cv i)[j]'(by rw [(hsp i hi).1]; exact hj)) := List.getElem?_eq_getElem _
        have := ((hsp i hi).2.2.2.1 j c _ hc hcv).2
        simpa [List.getD, hcv] using this
    rw [hels] at hV
    refine ⟨[.sl els false], rfl, one_of (ts := []) (cs := []) rfl hV, els, rfl, by rw [hels]; omega, fun x hx => ?_⟩
    obtain ⟨i, hi, rfl⟩ := List.mem_iff_getElem.1 hx
    obtain ⟨hi', he'⟩ := hget i _ (List.getElem?_eq_getElem hi)
    exact ⟨ts i, (hsp i hi').2.2.2.2, he'⟩

/-! ### Structs -/

/-- The fields fs, from cell off on. -/
def RdFs (P : Program) (k : Nat) (fs : List Field) (off : Nat) (ok : List Tr → Prop) : Prop :=
  off ≤ k ∧ ∀ {H : Type} (enc : TypeId × Value → H) (w : World) (n : Nat) (cs : List Value), cs.length = k →
    (∀ f, f ∈ fs → ∃ x, DataW.trod enc P w 0 (fun _ => true) true n f.type ((cs.drop f.offset).take (P.cellsOf f.type)) = some x) →
    ∃ ts : List Tr, off + ts.length = k ∧ (∀ (i : Nat) c v, ts[i]? = some c → cs[off + i]? = some v → c.one = true ∧ V w (fun _ => False) c v) ∧ ok ts

theorem rdfs_nil {k : Nat} : RdFs P k [] k (fun ts => ts = []) :=
  ⟨Nat.le_refl _, fun _ _ _ _ _ _ => ⟨[], rfl, fun i c v h => by simp at h, rfl⟩⟩

theorem rdfs_cons {k kf off : Nat} {f : Field} {fs : List Field} {okf ok : List Tr → Prop} (ho : f.offset = off) (hf : Reads P f.type kf okf) (h : RdFs P k fs (off + kf) ok) :
    RdFs P k (f :: fs) off (fun ts => ∃ a b, ts = a ++ b ∧ okf a ∧ ok b) := by
  refine ⟨by have := h.1; omega, fun enc w n cs hl hx => ?_⟩
  obtain ⟨x, hx0⟩ := hx f List.mem_cons_self
  obtain ⟨h1, ts, h2, h3, h4⟩ := hf.2 enc w n _ x hx0
  obtain ⟨us, g1, g2, g3⟩ := h.2 enc w n cs hl (fun f' hf' => hx f' (List.mem_cons_of_mem _ hf'))
  refine ⟨ts ++ us, by rw [List.length_append]; omega, fun i c v hc hv => ?_, ts, us, rfl, h4, g3⟩
  by_cases hi : i < kf
  · rw [List.getElem?_append_left (by omega)] at hc
    refine h3 i c v hc ?_
    rw [hf.1, ho, List.getElem?_take_of_lt hi, List.getElem?_drop]; exact hv
  · rw [List.getElem?_append_right (by omega), h2] at hc
    refine g2 (i - kf) c v hc ?_
    rw [show off + kf + (i - kf) = off + i by omega]; exact hv

theorem reads_struct {t : TypeId} {fs : Array Field} {k : Nat} {ok : List Tr → Prop} (ht : P.underlying t = some (.struct fs)) (hc : P.cellsOf t = k) (h : RdFs P k fs.toList 0 ok) : Reads P t k ok := by
  refine ⟨hc, fun enc w fuel cs x hx => ?_⟩
  obtain ⟨xs, n, _, _, hl, hlen, hf⟩ := DataW.trod_struct ht hx
  rw [hc] at hl
  obtain ⟨ts, g1, g2, g3⟩ := h.2 enc w n cs hl (fun f hm => by
    obtain ⟨i, hi, rfl⟩ := List.mem_iff_getElem.1 hm
    have := hf i _ (by rw [← Array.getElem?_toList]; exact List.getElem?_eq_getElem hi)
    rw [List.getElem?_eq_getElem (by rw [hlen]; simpa using hi)] at this
    exact ⟨_, this⟩)
  exact ⟨hl, ts, by omega, fun i c v hc hv => g2 i c v hc (by simpa using hv), g3⟩

/-! ### Arguments -/
section
variable {H : Type} {enc : TypeId × Value → H} {W : World} {base : Nat} {v : Value} {d : DataW H} {ps : List MemPlace}

theorem arg_int {t : TypeId} {k : IntKind} (ht : P.underlying t = some (.int k)) (hv : Value.okWide P W .any base t v) (h : DataW.Trod enc P W 0 (fun _ => true) true t v d ps) :
    ∃ n, v = .int k n ∧ (Lit.int k n).wf = true := by
  obtain ⟨fuel, h⟩ := h
  obtain ⟨n, hc, _, hw⟩ := DataW.trod_int ht h
  unfold Value.okWide at hv
  rw [ht] at hv
  cases v <;> simp [Cell.okWide, ht, Cell.ok, Value.cells] at hv hc
  obtain ⟨rfl, rfl⟩ := hc
  exact ⟨_, rfl, hw⟩

theorem arg_bool {t : TypeId} (ht : P.underlying t = some .bool) (hv : Value.okWide P W .any base t v) (h : DataW.Trod enc P W 0 (fun _ => true) true t v d ps) : ∃ b, v = .bool b := by
  unfold Value.okWide at hv
  rw [ht] at hv
  cases v <;> simp [Cell.okWide, ht, Cell.ok] at hv
  exact ⟨_, rfl⟩

theorem arg_slice {t e : TypeId} {ok : List Tr → Prop} (ht : P.underlying t = some (.slice e)) (hR : Reads P t 1 ok) (hv : Value.okWide P W .any base t v) (h : DataW.Trod enc P W 0 (fun _ => true) true t v d ps) :
    ∃ x, V W (fun _ => False) x v ∧ ok [x] := by
  obtain ⟨fuel, h⟩ := h
  obtain ⟨_, ts, h2, h3, h4⟩ := hR.2 enc W fuel _ _ h
  unfold Value.okWide at hv
  rw [ht] at hv
  match ts, h2 with
  | [x], _ =>
    refine ⟨x, ?_, h4⟩
    have : v.cells.toList[0]? = some v := by cases v <;> simp [Cell.okWide, ht, Cell.ok, Value.cells] at hv ⊢
    exact (h3 0 x v rfl this).2

theorem arg_struct {t : TypeId} {fs : Array Field} {k : Nat} {ok : List Tr → Prop} (ht : P.underlying t = some (.struct fs)) (hR : Reads P t k ok) (hv : Value.okWide P W .any base t v) (h : DataW.Trod enc P W 0 (fun _ => true) true t v d ps) :
    ∃ ts, V W (fun _ => False) (.agg ts) v ∧ ok ts := by
  obtain ⟨fuel, h⟩ := h
  obtain ⟨h1, ts, h2, h3, h4⟩ := hR.2 enc W fuel _ _ h
  unfold Value.okWide at hv
  rw [ht] at hv
  obtain ⟨cs, rfl, hcs, _⟩ := hv
  refine ⟨ts, ?_, h4⟩
  have h1' : cs.toList.length = k := h1
  have := V.agg (w := W) (F := fun _ => False) ts cs.toList (by rw [h1', h2]) (fun j c hc => by
      have hj := lt_of_get hc
      exact (h3 j c _ hc (List.getElem?_eq_getElem (by show j < cs.toList.length; omega))).1) (fun j c v hc hv => (h3 j c v hc hv).2)
  simpa using this
end

/-! ### Behind the call -/

theorem trodAll_behind {H : Type} {enc : TypeId × Value → H} (hl : laidOutB P = true) {W W' : World} (hb : Below W.heap.size W W') : ∀ {ts : List TypeId} {vs : List Value} {ds : List (DataW H)} {ps : List MemPlace},
    (∀ t, t ∈ ts → P.readableRec t = true ∧ t < P.types.size) → DataW.TrodAll enc P W 0 (fun _ => true) true ts vs ds ps → DataW.TrodAll enc P W' 0 (fun b => decide (b < W.heap.size)) true ts vs ds ps
  | [], _, _, _, _, h => by
    obtain ⟨rfl, rfl, rfl⟩ := trodAll_nil h
    exact trodAll_mk0
  | t :: ts, _, _, _, hr, h => by
    have hlt := DataW.TrodAll.lt h
    obtain ⟨v, vs, d, ds, p, q, rfl, rfl, rfl, h1, h2⟩ := trodAll_cons h
    obtain ⟨hr1, hr2⟩ := hr t List.mem_cons_self
    exact trodAll_cons_mk (Below.trod hl hr1 hr2 h1 hb (fun x hx => hlt x (List.mem_append_left _ hx))) (trodAll_behind hl hb (fun t' ht' => hr t' (List.mem_cons_of_mem _ ht')) h2)

theorem law_post {H : Type} {enc : TypeId × Value → H} {f : Func} {s : ChangeSpec} {W W' : World} {args : Array Value} {ds gs : List (DataW H)} {before : List MemPlace} {tb : TypeId} (hl : laidOutB P = true)
    (hsv : s.vars = []) (hr : ∀ t, t ∈ f.params.toList → P.readableRec t = true ∧ t < P.types.size) (hrt : f.resultTypes = #[tb]) (htb : P.underlying tb = some .bool)
    (hW : DataW.Whole enc P f.params.toList s.vars false W args.toList ds gs before) (hfn : (s.fn H (ds ++ gs)).results = [.lit (.bool true)] ∧ (s.fn H (ds ++ gs)).args = ds ∧ (s.fn H (ds ++ gs)).vars = [])
    (hb : Below W.heap.size W W') : s.post enc P f false true false false W args (.bool true) W' := by
  obtain ⟨p, q, hA, hV, rfl, hfz, hnd⟩ := id hW
  rw [hsv] at hV
  obtain ⟨rfl, rfl⟩ := trodVars_none hV
  refine ⟨ds, [], p ++ [], [], p, [], hW, ?_, ?_, ?_, ?_, fun h => by cases h⟩
  · rw [hfn.1, hrt]
    exact trodAll_mk1 ⟨1, by simp [DataW.trod, htb, Value.cells]⟩
  · rw [hfn.2.1]; exact trodAll_behind hl hb hr hA
  · rw [hfn.2.2, hsv]; rfl
  · refine World.keptBut_mono (fun x hx => ?_) (hb.frame (fun x => x ∈ p))
    exact ⟨List.mem_append_left _ hx, .inr (.inl hx)⟩

/-- A contract at what the arguments stand for, as the statement wants it. -/
theorem law_calls {f : FuncId} {xs : List Tr} {W : World} {vals : List Value} (hret : Ret P f xs (.bool true)) (hV : VL W (fun _ => False) xs vals) :
    Calls P f vals.toArray W fun e W' => e = .returned (.bool true) ∧ Below W.heap.size W W' :=
  (hret (fun _ => False) W vals (fun _ h => h.elim) hV).mono (by
    rintro e W' ⟨v, rfl, hv, hb⟩
    cases hv
    exact ⟨rfl, hb⟩)

theorem vl_cons {w : World} {F : Nat → Prop} {x : Tr} {v : Value} {xs : List Tr} {vs : List Value} (h : V w F x v) (hs : VL w F xs vs) : VL w F (x :: xs) (v :: vs) := by
  refine ⟨by simp [hs.1], fun i y u hy hu => ?_⟩
  match i with
  | 0 => simp at hy hu; subst hy hu; exact h
  | i + 1 => exact hs.2 i y u (by simpa using hy) (by simpa using hu)

theorem vl_nil {w : World} {F : Nat → Prop} : VL w F [] [] := ⟨rfl, fun i y u hy => by simp at hy⟩
end Go.Tv

end
section
namespace Go.Tv

theorem map_of {α : Type} {f : α → Tr} {p : α → Prop} : ∀ {els : List Tr}, (∀ x, x ∈ els → ∃ n, p n ∧ x = f n) → ∃ l : List α, els = l.map f ∧ ∀ n, n ∈ l → p n
  | [], _ => ⟨[], rfl, fun n h => by simp at h⟩
  | x :: els, h => by
    obtain ⟨n, hp, rfl⟩ := h x List.mem_cons_self
    obtain ⟨l, rfl, hl⟩ := map_of (els := els) (fun y hy => h y (List.mem_cons_of_mem _ hy))
    exact ⟨n :: l, rfl, fun m hm => (List.mem_cons.1 hm).elim (fun e => e ▸ hp) (hl m)⟩

theorem wf_u8 {n : Int} (h : (Lit.int .u8 n).wf = true) : 0 ≤ n ∧ n < 256 := by
  simp [Lit.wf, IntKind.min, IntKind.max, IntKind.signed, IntKind.bits] at h; omega
theorem wf_u16 {n : Int} (h : (Lit.int .u16 n).wf = true) : 0 ≤ n ∧ n < 65536 := by
  simp [Lit.wf, IntKind.min, IntKind.max, IntKind.signed, IntKind.bits] at h; omega
theorem wf_i64 {n : Int} (h : (Lit.int .i64 n).wf = true) : -9223372036854775808 ≤ n ∧ n ≤ 9223372036854775807 := by
  simp [Lit.wf, IntKind.min, IntKind.max, IntKind.signed, IntKind.bits] at h; omega

/-- A slice whose elements are structs. -/
theorem reads_slices {P : Program} {α : Type} {t e : TypeId} {k : Nat} {f : α → Tr} {p : α → Prop} (ht : P.underlying t = some (.slice e)) (hc : P.cellsOf t = 1) (hk : 0 < k)
    (he : Reads P e k (fun ts => ∃ x : α, f x = .agg ts ∧ p x)) : Reads P t 1 (fun ts => ∃ l : List α, ts = [.sl (l.map f) false] ∧ l.length ≤ maxLen ∧ ∀ x, x ∈ l → p x) :=
  (reads_slice ht hc hk (.inl rfl) he (g := true)).mono (by
    rintro ts ⟨els, rfl, hm, h⟩
    obtain ⟨l, rfl, hl⟩ := map_of (f := f) (p := p) (fun x hx => by obtain ⟨_, ⟨o, ho, hd⟩, rfl⟩ := h x hx; exact ⟨o, hd, ho.symm⟩)
    exact ⟨l, rfl, by simpa using hm, hl⟩)

end Go.Tv

end
section
namespace Go.Tv

theorem del_els (L : List Tr) (z : Tr) (i : Nat) (hi : i < L.length) :
    (((L.map AV.t).take i ++ (L.drop (i + 1)).map AV.t ++ (L.map AV.t).drop (i + ((L.drop (i + 1)).map AV.t).length)).take (0 + (L.length - 1)) ++ List.replicate (L.length - (L.length - 1)) (AV.t z) ++
      ((L.map AV.t).take i ++ (L.drop (i + 1)).map AV.t ++ (L.map AV.t).drop (i + ((L.drop (i + 1)).map AV.t).length)).drop (0 + (L.length - 1) + (L.length - (L.length - 1)))) = (L.take i ++ L.drop (i + 1) ++ [z]).map AV.t := by
  have e1 : L.length - (L.length - 1) = 1 := by omega
  have hA : ((L.map AV.t).take i ++ (L.drop (i + 1)).map AV.t).length = L.length - 1 := by simp; omega
  have hB : ((L.map AV.t).take i ++ (L.drop (i + 1)).map AV.t ++ (L.map AV.t).drop (i + ((L.drop (i + 1)).map AV.t).length)).length = L.length := by simp; omega
  have t1 : ((L.map AV.t).take i ++ (L.drop (i + 1)).map AV.t ++ (L.map AV.t).drop (i + ((L.drop (i + 1)).map AV.t).length)).take (0 + (L.length - 1)) = (L.map AV.t).take i ++ (L.drop (i + 1)).map AV.t := by
    rw [Nat.zero_add, ← hA]; exact List.take_left
  have t2 : ((L.map AV.t).take i ++ (L.drop (i + 1)).map AV.t ++ (L.map AV.t).drop (i + ((L.drop (i + 1)).map AV.t).length)).drop (0 + (L.length - 1) + (L.length - (L.length - 1))) = [] := List.drop_eq_nil_of_le (by rw [hB]; omega)
  rw [t1, t2, e1]
  simp [List.map_take]

/-! ### Places in a list that is sorted by a key -/

def cmpI (a b : Int) : Int := if a < b then -1 else if b < a then 1 else 0
theorem cmpI_lt {a b : Int} : cmpI a b < 0 ↔ a < b := by
  unfold cmpI
  by_cases h : a < b
  · rw [if_pos h]; omega
  · rw [if_neg h]
    by_cases h2 : b < a
    · rw [if_pos h2]; omega
    · rw [if_neg h2]; omega
theorem cmpI_eq {a b : Int} : cmpI a b = 0 ↔ a = b := by
  unfold cmpI
  by_cases h : a < b
  · rw [if_pos h]; omega
  · rw [if_neg h]
    by_cases h2 : b < a
    · rw [if_pos h2]; omega
    · rw [if_neg h2]; omega

def posK {α : Type} (f : α → Int) (x : Int) (l : List α) : Nat := (l.takeWhile fun y => decide (f y < x)).length

theorem posK_eq {α : Type} (f : α → Int) (x : Int) : ∀ (l : List α) (k : Nat), k ≤ l.length → (∀ y, y ∈ l.take k → f y < x) → (∀ h : k < l.length, ¬ f l[k] < x) → posK f x l = k
  | [], k, hk, _, _ => by simp at hk; subst hk; rfl
  | y :: l, 0, _, _, h2 => by
    have := h2 (by simp)
    simp only [List.getElem_cons_zero] at this
    simp [posK, this]
  | y :: l, k + 1, hk, h1, h2 => by
    have hy : f y < x := h1 y (by simp)
    have := posK_eq f x l k (by simpa using hk) (fun z hz => h1 z (by simp [hz])) (fun h => by have h3 := h2 (Nat.succ_lt_succ h); rwa [List.getElem_cons_succ] at h3)
    unfold posK at this ⊢
    simp [hy, this]

theorem posK_spec {α : Type} (f : α → Int) (x : Int) : ∀ (l : List α), posK f x l ≤ l.length ∧ (∀ y, y ∈ l.take (posK f x l) → f y < x) ∧ ∀ h : posK f x l < l.length, ¬ f l[posK f x l] < x
  | [] => ⟨Nat.le_refl _, fun y h => by simp at h, fun h => by simp at h⟩
  | y :: l => by
    obtain ⟨h1, h2, h3⟩ := posK_spec f x l
    by_cases hy : f y < x
    · have e : posK f x (y :: l) = posK f x l + 1 := by unfold posK; simp [hy]
      refine ⟨by rw [e]; simpa using h1, fun z hz => ?_, fun h => ?_⟩
      · rw [e, List.take_succ_cons] at hz
        rcases List.mem_cons.1 hz with rfl | hz
        · exact hy
        · exact h2 z hz
      · have h4 := h3 (by rw [e] at h; simpa using h)
        simpa [e] using h4
    · have e : posK f x (y :: l) = 0 := by unfold posK; simp [hy]
      refine ⟨by rw [e]; exact Nat.zero_le _, fun z hz => by rw [e] at hz; simp at hz, fun h => by simpa [e] using hy⟩

theorem sortedK_le {α : Type} {f : α → Int} {l : List α} (hp : (l.map f).Pairwise (· < ·)) {i j : Nat} (hij : i ≤ j) (hj : j < l.length) : f l[i] ≤ f l[j] := by
  by_cases e : i = j
  · subst e; omega
  · have := List.pairwise_iff_getElem.1 hp i j (by simp; omega) (by simpa using hj) (by omega)
    rw [List.getElem_map, List.getElem_map] at this
    omega

theorem takeK_lt {α : Type} {f : α → Int} {l : List α} (hp : (l.map f).Pairwise (· < ·)) {x : Int} {m : Nat} (hm : m < l.length) (h : f l[m] < x) : ∀ y, y ∈ l.take (m + 1) → f y < x := by
  intro y hy
  obtain ⟨j, hj, rfl⟩ := List.mem_iff_getElem.1 hy
  simp only [List.length_take] at hj
  rw [List.getElem_take]
  have := sortedK_le hp (show j ≤ m by omega) hm
  omega

theorem not_memK {α : Type} {f : α → Int} {l : List α} (hp : (l.map f).Pairwise (· < ·)) {x : Int} {k : Nat} (h1 : ∀ y, y ∈ l.take k → f y < x) (h2 : ∀ h : k < l.length, x < f l[k]) : x ∉ l.map f := by
  intro hm
  obtain ⟨y, hy, rfl⟩ := List.mem_map.1 hm
  obtain ⟨j, hj, rfl⟩ := List.mem_iff_getElem.1 hy
  by_cases h : j < k
  · have := h1 l[j] (by rw [List.mem_iff_getElem]; exact ⟨j, by simp; omega, by simp⟩)
    omega
  · have h3 := h2 (by omega)
    have := sortedK_le hp (show k ≤ j by omega) hj
    omega

end Go.Tv

end
section
namespace Go.Tv

/-- The elements of an object may be told by other abstract values of the same cells. -/
theorem weak_cells {n : Nat} {fr : Fra} {st : Sto} {id k g : Nat} {ty : TypeId} {els : List AV} (els' : List AV) (h : sget st id = some ⟨k, ty, g, els⟩) (hl : els'.map AV.cells = els.map AV.cells)
    (ht : (els'.all AV.noTup) = true) :
    Weak ⟨n, fr, st⟩ ⟨n, fr, (id, some ⟨k, ty, g, els'⟩) :: st⟩ := by
  intro F β a w hr
  have hlen : els'.length = els.length := by have := congrArg List.length hl; simpa using this
  have hget : ∀ (i : Nat) x, els'[i]? = some x → ∃ y, els[i]? = some y ∧ y.cells = x.cells := fun i x hx => by
    have e : (els'.map AV.cells)[i]? = (els.map AV.cells)[i]? := by rw [hl]
    rw [List.getElem?_map, List.getElem?_map, hx] at e
    cases hy : els[i]? with
    | none => rw [hy] at e; simp at e
    | some y => rw [hy] at e; simp at e; exact ⟨y, rfl, e.symm⟩
  have hsg : ∀ m, sget ((id, some ⟨k, ty, g, els'⟩) :: st) m = if m = id then some ⟨k, ty, g, els'⟩ else sget st m := fun m => sget_sput st id m _
  have hown : ∀ b, Owned β ((id, some ⟨k, ty, g, els'⟩) :: st) b ↔ Owned β st b := by
    intro b
    constructor
    · rintro ⟨m, q, hm, hb⟩
      rw [hsg] at hm
      by_cases e : m = id
      · subst e; exact ⟨m, _, h, hb⟩
      · rw [if_neg e] at hm; exact ⟨m, q, hm, hb⟩
    · rintro ⟨m, q, hm, hb⟩
      by_cases e : m = id
      · subst e; exact ⟨m, _, by rw [hsg, if_pos rfl], hb⟩
      · exact ⟨m, q, by rw [hsg, if_neg e]; exact hm, hb⟩
  have hG : ∀ b, G F β ((id, some ⟨k, ty, g, els'⟩) :: st) b → G F β st b := fun b hb => hb.imp (fun h => h) (hown b).1
  have hmono : ∀ {x : AV} {v : Value}, VA w (G F β st) β st x v → VA w (G F β ((id, some ⟨k, ty, g, els'⟩) :: st)) β ((id, some ⟨k, ty, g, els'⟩) :: st) x v := fun hv =>
    VA.mono (Nat.le_refl _) (fun b _ hn => ⟨fun hh => hn (hG b hh), rfl⟩) (fun m q hm => by
      by_cases e : m = id
      · subst e
        rw [h] at hm; cases hm
        exact ⟨⟨k, ty, g, els'⟩, by rw [hsg, if_pos rfl], .inr ⟨rfl, rfl, rfl, hlen, rfl, fun b c _ hc => ⟨c, hc, rfl⟩⟩⟩
      · exact ⟨q, by rw [hsg, if_neg e]; exact hm, .inr ⟨rfl, rfl, rfl, rfl, rfl, fun b c _ hc => ⟨c, hc, rfl⟩⟩⟩) hv
  have hold : ∀ m q, sget ((id, some ⟨k, ty, g, els'⟩) :: st) m = some q → ∃ q0, sget st m = some q0 := fun m q hm => by
    rw [hsg] at hm
    by_cases e : m = id
    · subst e; exact ⟨_, h⟩
    · rw [if_neg e] at hm; exact ⟨q, hm⟩
  refine ⟨β, ⟨hr.defers, hr.size, fun i => hmono (hr.fr i), fun m q hm => ?_, fun i j oi oj b hi hj hbi hbj => ?_, fun i oi b hi hb => ?_, hr.ltF⟩, fun b hb => (hown b).1 hb⟩
  · change sget ((id, some ⟨k, ty, g, els'⟩) :: st) m = some q at hm
    rw [hsg] at hm
    by_cases e : m = id
    · subst e
      rw [if_pos rfl] at hm; cases hm
      rcases hr.ob m _ h with ⟨h1, h2⟩ | ⟨b, c, h1, h2, h3, h4, h5⟩
      · refine .inl ⟨h1, List.length_eq_zero_iff.1 (by rw [hlen]; have : els = [] := h2; rw [this]; rfl)⟩
      · refine .inr ⟨b, c, h1, h2, by show els'.length * k ≤ c.size; rw [hlen]; exact h3, fun i x hx => ?_, fun i x j y hx hy => ?_⟩
        · obtain ⟨y, hy, he⟩ := hget i x hx
          refine ⟨List.all_eq_true.1 ht x (List.mem_of_getElem? hx), ?_⟩
          rw [← he]; exact (h4 i y hy).2
        · obtain ⟨z, hz, he⟩ := hget i x hx
          rw [← he] at hy
          obtain ⟨g1, v, hv, hva⟩ := h5 i z j y hz hy
          exact ⟨g1, v, hv, hmono hva⟩
    · rw [if_neg e] at hm
      rcases hr.ob m q hm with ⟨h1, h2⟩ | ⟨b, c, h1, h2, h3, h4, h5⟩
      · exact .inl ⟨h1, h2⟩
      · refine .inr ⟨b, c, h1, h2, h3, h4, fun i x j y hx hy => ?_⟩
        obtain ⟨g1, v, hv, hva⟩ := h5 i x j y hx hy
        exact ⟨g1, v, hv, hmono hva⟩
  · obtain ⟨oi', hi'⟩ := hold i oi hi
    obtain ⟨oj', hj'⟩ := hold j oj hj
    exact hr.inj i j oi' oj' b hi' hj' hbi hbj
  · obtain ⟨oi', hi'⟩ := hold i oi hi
    exact hr.notF i oi' b hi' hb

/-- An aggregate of trees, cell by cell. -/
theorem weak_open {n : Nat} {fr : Fra} {st : Sto} {id k g : Nat} {ty : TypeId} {xs : List Tr} (h : sget st id = some ⟨k, ty, g, [.t (.agg xs)]⟩) :
    Weak ⟨n, fr, st⟩ ⟨n, fr, (id, some ⟨k, ty, g, [.agg (xs.map .t)]⟩) :: st⟩ := weak_cells _ h rfl rfl

end Go.Tv

end
section
namespace Go.Tv

variable {P : Program}

/-- As RD, with what is hidden and what is touched at each operation in a list. -/
def RH (P : Program) (all : List Oper) : List (Tch × (Option Tmp × List Nat)) → List Oper → St → (St → Prop) → Prop
  | _, [], s, K => K s
  | [], _ :: _, _, _ => False
  | h :: hs, o :: l, s, K => ∃ e, (o.dst, idsOf e) = h.2 ∧ OpAt P all (forget h.1 s) o e ∧ RH P all hs l (s.app o.dst e) K

def hidAll (tch : Tch) (cl : List (List Nat)) : List (Tch × (Option Tmp × List Nat)) := (List.range tch.length).map fun i => (hid tch cl i, tch.getD i (none, []))

theorem rd_of_rh {all : List Oper} {tch : Tch} {cl : List (List Nat)} {K : St → Prop} : ∀ (l : List Oper) (i : Nat) (s : St), i + l.length = tch.length →
    RH P all ((hidAll tch cl).drop i) l s K → RD P all tch cl i l s K
  | [], i, s, _, h => by cases hd : (hidAll tch cl).drop i <;> rw [hd] at h <;> exact h
  | o :: l, i, s, hl, h => by
    have hi : i < (hidAll tch cl).length := by simp [hidAll] at *; omega
    rw [List.drop_eq_getElem_cons hi] at h
    obtain ⟨e, h1, h2, h3⟩ := h
    have hg : (hidAll tch cl)[i] = (hid tch cl i, tch.getD i (none, [])) := by simp [hidAll]
    rw [hg] at h1 h2
    exact ⟨e, h1, h2, rd_of_rh l (i + 1) _ (by simp at hl; omega) h3⟩

theorem awp_rh {s : St} {Q : Exit → St → Prop} {id : Nat} {ops : Array Oper} (tch : Tch) (cl : List (List Nat)) (hs : List (Tch × (Option Tmp × List Nat))) (hm : P.follows .mixedOrders = true) (hlen : Nat.beq tch.length ops.toList.length = true)
    (hcl : clOK 0 ops.toList cl = true) (hap : apartAll cl ((List.range tch.length).map fun j => (j, tch.getD j (none, []))) = true)
    (hd : (ops.toList.all fun o => dstOK s.n o.dst) = true) (hhs : decide (hidAll tch cl = hs) = true) (h : RH P ops.toList hs ops.toList s (Q .normal)) : AWP P (.region id ops true) s Q := by
  have hl := Nat.eq_of_beq_eq_true hlen
  have he := of_decide_eq_true hhs
  refine awp_rd tch cl hm hl hcl hap hd (rd_of_rh _ 0 s (by omega) ?_)
  rw [List.drop_zero, he]; exact h

section
variable {all l : List Oper} {o : Oper} {n : Nat} {fr : Fra} {st : Sto} {K : St → Prop} {hi : Tch} {t : Option Tmp × List Nat} {hs : List (Tch × (Option Tmp × List Nat))}

theorem RH.nil {s : St} (h : K s) : RH P all [] [] s K := h

theorem RH.op {v : AV} {d : Tmp} (hg : o.guard = none) (hd : o.dst = some d) (ht : t = (some d, [])) (he : Eff P o (forget hi ⟨n, fr, st⟩) ⟨v, []⟩)
    (h : RH P all hs l ⟨n, (d, v) :: fr, st⟩ K) : RH P all ((hi, t) :: hs) (o :: l) ⟨n, fr, st⟩ K :=
  ⟨_, by rw [ht, hd]; rfl, .inl ⟨hg, he⟩, by rw [hd]; exact h⟩

theorem RH.new {v : AV} {d : Tmp} {id : Nat} {ob : Ob} (hg : o.guard = none) (hd : o.dst = some d) (ht : t = (some d, [id])) (he : Eff P o (forget hi ⟨n, fr, st⟩) ⟨v, [(id, ob)]⟩)
    (h : RH P all hs l ⟨n, (d, v) :: fr, (id, some ob) :: st⟩ K) : RH P all ((hi, t) :: hs) (o :: l) ⟨n, fr, st⟩ K :=
  ⟨_, by rw [ht, hd]; rfl, .inl ⟨hg, he⟩, by rw [hd]; exact h⟩

theorem RH.store {v : AV} {id : Nat} {ob : Ob} (hg : o.guard = none) (hd : o.dst = none) (ht : t = (none, [id])) (he : Eff P o (forget hi ⟨n, fr, st⟩) ⟨v, [(id, ob)]⟩)
    (h : RH P all hs l ⟨n, fr, (id, some ob) :: st⟩ K) : RH P all ((hi, t) :: hs) (o :: l) ⟨n, fr, st⟩ K :=
  ⟨_, by rw [ht, hd]; rfl, .inl ⟨hg, he⟩, by rw [hd]; exact h⟩

theorem RH.gop {v : AV} {d gd : Tmp} {j : Nat} {want b : Bool} {og : Oper} (hg : o.guard = some (j, want)) (hd : o.dst = some d) (ht : t = (some d, [])) (hj : all[j]? = some og) (hgd : og.dst = some gd)
    (hb : fget (forget hi ⟨n, fr, st⟩).fr gd = .t (.bool b)) (hbw : b = want)
    (he : Eff P o (forget hi ⟨n, fr, st⟩) ⟨v, []⟩) (h : RH P all hs l ⟨n, (d, v) :: fr, st⟩ K) : RH P all ((hi, t) :: hs) (o :: l) ⟨n, fr, st⟩ K :=
  ⟨_, by rw [ht, hd]; rfl, .inr ⟨j, want, og, gd, b, hg, hj, hgd, hb, .inl ⟨hbw, he⟩⟩, by rw [hd]; exact h⟩

theorem RH.gskip {d gd : Tmp} {j : Nat} {want b : Bool} {og : Oper} (hg : o.guard = some (j, want)) (hd : o.dst = some d) (ht : t = (some d, [])) (hj : all[j]? = some og) (hgd : og.dst = some gd)
    (hb : fget (forget hi ⟨n, fr, st⟩).fr gd = .t (.bool b)) (hbw : b ≠ want)
    (h : RH P all hs l ⟨n, (d, .junk) :: fr, st⟩ K) : RH P all ((hi, t) :: hs) (o :: l) ⟨n, fr, st⟩ K :=
  ⟨_, by rw [ht, hd]; rfl, .inr ⟨j, want, og, gd, b, hg, hj, hgd, hb, .inr ⟨hbw, rfl⟩⟩, by rw [hd]; exact h⟩
end

end Go.Tv

end
section
namespace Go.Tv

variable {P : Program} {o : Oper} {D : St}

def imax (a b : Int) : Int := if b > a then b else a
def imin (a b : Int) : Int := if b < a then b else a

theorem eff_max {t t2 : TypeId} {x y : Operand} {k : IntKind} {n m : Int} (hd : dstOK D.n o.dst = true)
    (ho : o.op = .call { callee := .builtin .max, args := #[x, y], argTypes := #[t, t2] }) (hx : D.ev x = .t (.int k n)) (hy : D.ev y = .t (.int k m)) : Eff P o D ⟨.t (.int k (imax n m)), []⟩ :=
  Eff.pure hd fun s hs' F β a w hR => by
    refine ⟨.int k (imax n m), ?_, .t (.int k _)⟩
    simp only [execOp, ho, resolve, List.map_toArray, List.map_cons, List.map_nil, hR.evInt hs' hx, hR.evInt hs' hy, invoke, builtin, Builtin.max_, List.foldlM_cons, List.foldlM_nil, Builtin.max2, Sem.run_bind, Sem.run_pure, Result.andThen_ok, imax]

theorem eff_min {t t2 : TypeId} {x y : Operand} {k : IntKind} {n m : Int} (hd : dstOK D.n o.dst = true)
    (ho : o.op = .call { callee := .builtin .min, args := #[x, y], argTypes := #[t, t2] }) (hx : D.ev x = .t (.int k n)) (hy : D.ev y = .t (.int k m)) : Eff P o D ⟨.t (.int k (imin n m)), []⟩ :=
  Eff.pure hd fun s hs' F β a w hR => by
    refine ⟨.int k (imin n m), ?_, .t (.int k _)⟩
    simp only [execOp, ho, resolve, List.map_toArray, List.map_cons, List.map_nil, hR.evInt hs' hx, hR.evInt hs' hy, invoke, builtin, Builtin.min_, List.foldlM_cons, List.foldlM_nil, Builtin.min2, Sem.run_bind, Sem.run_pure, Result.andThen_ok, imin]

theorem eff_structEqlB {t ty : TypeId} {x y : Operand} {k : Nat} {ns ms : List Int} {r : Bool} (hd : dstOK D.n o.dst = true) (ho : o.op = .binOp .eql t x y ty)
    (ht : intCells P 8 t = some k) (hta : tinf P t = some (k, true)) (hgd : P.eqGuardType P.depth t = false)
    (hx : D.ev x = .t (.agg (ns.map (.int .i64)))) (hy : D.ev y = .t (.agg (ms.map (.int .i64)))) (hn : ns.length = k) (hm : ms.length = k) (hr : decide (ns = ms) = r) :
    Eff P o D ⟨.t (.bool r), []⟩ := hr ▸ eff_structEql hd ho ht hta hgd hx hy hn hm
theorem eff_structNeqB {t ty : TypeId} {x y : Operand} {k : Nat} {ns ms : List Int} {r : Bool} (hd : dstOK D.n o.dst = true) (ho : o.op = .binOp .neq t x y ty)
    (ht : intCells P 8 t = some k) (hta : tinf P t = some (k, true)) (hgd : P.eqGuardType P.depth t = false)
    (hx : D.ev x = .t (.agg (ns.map (.int .i64)))) (hy : D.ev y = .t (.agg (ms.map (.int .i64)))) (hn : ns.length = k) (hm : ms.length = k) (hr : decide (ns ≠ ms) = r) :
    Eff P o D ⟨.t (.bool r), []⟩ := hr ▸ eff_structNeq hd ho ht hta hgd hx hy hn hm

end Go.Tv

end
section
open Go Go.Tv Go.Proofs
namespace Go.Tv.C24
set_option maxRecDepth 20000
theorem ti3 : tinf Try.prog 3 = some (1, false) := by kernel_rfl
theorem tu3 : Try.prog.underlying 3 = some (.int .i64) := by kernel_rfl
abbrev z3 : Tr := .int .i64 0
theorem tz3 : zeroOf Try.prog 3 = some z3 := by kernel_rfl
theorem tb3 : (Try.prog.info? 3).map (·.bytes) = some 8 := by kernel_rfl
theorem ti4 : tinf Try.prog 4 = some (1, false) := by kernel_rfl
theorem tu4 : Try.prog.underlying 4 = some .bool := by kernel_rfl
abbrev z4 : Tr := .bool false
theorem tz4 : zeroOf Try.prog 4 = some z4 := by kernel_rfl
theorem tb4 : (Try.prog.info? 4).map (·.bytes) = some 1 := by kernel_rfl
theorem ti5 : tinf Try.prog 5 = some (1, false) := by kernel_rfl
theorem tu5 : Try.prog.underlying 5 = some (.int .u8) := by kernel_rfl
abbrev z5 : Tr := .int .u8 0
theorem tz5 : zeroOf Try.prog 5 = some z5 := by kernel_rfl
theorem tb5 : (Try.prog.info? 5).map (·.bytes) = some 1 := by kernel_rfl
theorem ti22 : tinf Try.prog 22 = some (1, false) := by kernel_rfl
theorem te22 : elemOf Try.prog 22 = some (57, 4, true) := by kernel_rfl
abbrev z22 : Tr := .sl [] true
theorem tz22 : zeroOf Try.prog 22 = some z22 := by kernel_rfl
theorem tb22 : (Try.prog.info? 22).map (·.bytes) = some 24 := by kernel_rfl
theorem ti23 : tinf Try.prog 23 = some (1, false) := by kernel_rfl
theorem te23 : elemOf Try.prog 23 = some (44, 8, true) := by kernel_rfl
abbrev z23 : Tr := .sl [] true
theorem tz23 : zeroOf Try.prog 23 = some z23 := by kernel_rfl
theorem tb23 : (Try.prog.info? 23).map (·.bytes) = some 24 := by kernel_rfl
theorem ti24 : tinf Try.prog 24 = some (3, true) := by kernel_rfl
theorem tf24_0 : fldOf Try.prog 24 0 = some (0, 1, false) := by kernel_rfl
theorem tf24_1 : fldOf Try.prog 24 1 = some (1, 1, false) := by kernel_rfl
theorem tf24_2 : fldOf Try.prog 24 2 = some (2, 1, false) := by kernel_rfl
theorem tg24 : fldsOf Try.prog 24 = some [(0, 1), (1, 1), (2, 1)] := by kernel_rfl
abbrev z24 : Tr := .agg [.int .i64 0, .int .i64 0, .int .i64 0]
theorem tz24 : zeroOf Try.prog 24 = some z24 := by kernel_rfl
theorem tb24 : (Try.prog.info? 24).map (·.bytes) = some 24 := by kernel_rfl
theorem ti25 : tinf Try.prog 25 = some (3, true) := by kernel_rfl
theorem tf25_0 : fldOf Try.prog 25 0 = some (0, 1, false) := by kernel_rfl
theorem tf25_1 : fldOf Try.prog 25 1 = some (1, 1, false) := by kernel_rfl
theorem tf25_2 : fldOf Try.prog 25 2 = some (2, 1, false) := by kernel_rfl
theorem tg25 : fldsOf Try.prog 25 = some [(0, 1), (1, 1), (2, 1)] := by kernel_rfl
abbrev z25 : Tr := .agg [.int .i64 0, .int .i64 0, .int .i64 0]
theorem tz25 : zeroOf Try.prog 25 = some z25 := by kernel_rfl
theorem tb25 : (Try.prog.info? 25).map (·.bytes) = some 24 := by kernel_rfl
theorem ti26 : tinf Try.prog 26 = some (5, true) := by kernel_rfl
theorem tf26_0 : fldOf Try.prog 26 0 = some (0, 1, false) := by kernel_rfl
theorem tf26_1 : fldOf Try.prog 26 1 = some (1, 1, false) := by kernel_rfl
theorem tf26_2 : fldOf Try.prog 26 2 = some (2, 3, true) := by kernel_rfl
theorem tg26 : fldsOf Try.prog 26 = some [(0, 1), (1, 1), (2, 3)] := by kernel_rfl
abbrev z26 : Tr := .agg [.sl [] true, .sl [] true, .int .i64 0, .int .i64 0, .int .i64 0]
theorem tz26 : zeroOf Try.prog 26 = some z26 := by kernel_rfl
theorem tb26 : (Try.prog.info? 26).map (·.bytes) = some 72 := by kernel_rfl
theorem ti27 : tinf Try.prog 27 = some (5, true) := by kernel_rfl
theorem tf27_0 : fldOf Try.prog 27 0 = some (0, 1, false) := by kernel_rfl
theorem tf27_1 : fldOf Try.prog 27 1 = some (1, 1, false) := by kernel_rfl
theorem tf27_2 : fldOf Try.prog 27 2 = some (2, 3, true) := by kernel_rfl
theorem tg27 : fldsOf Try.prog 27 = some [(0, 1), (1, 1), (2, 3)] := by kernel_rfl
abbrev z27 : Tr := .agg [.sl [] true, .sl [] true, .int .i64 0, .int .i64 0, .int .i64 0]
theorem tz27 : zeroOf Try.prog 27 = some z27 := by kernel_rfl
theorem tb27 : (Try.prog.info? 27).map (·.bytes) = some 72 := by kernel_rfl
theorem ti29 : tinf Try.prog 29 = some (1, false) := by kernel_rfl
theorem tu29 : Try.prog.underlying 29 = some (.int .i64) := by kernel_rfl
abbrev z29 : Tr := .int .i64 0
theorem tz29 : zeroOf Try.prog 29 = some z29 := by kernel_rfl
theorem tb29 : (Try.prog.info? 29).map (·.bytes) = some 8 := by kernel_rfl
theorem ti38 : tinf Try.prog 38 = some (1, false) := by kernel_rfl
theorem te38 : elemOf Try.prog 38 = some (25, 3, true) := by kernel_rfl
abbrev z38 : Tr := .sl [] true
theorem tz38 : zeroOf Try.prog 38 = some z38 := by kernel_rfl
theorem tb38 : (Try.prog.info? 38).map (·.bytes) = some 24 := by kernel_rfl
theorem ti39 : tinf Try.prog 39 = some (1, false) := by kernel_rfl
theorem te39 : elemOf Try.prog 39 = some (46, 16, true) := by kernel_rfl
abbrev z39 : Tr := .sl [] true
theorem tz39 : zeroOf Try.prog 39 = some z39 := by kernel_rfl
theorem tb39 : (Try.prog.info? 39).map (·.bytes) = some 24 := by kernel_rfl
theorem ti43 : tinf Try.prog 43 = some (8, true) := by kernel_rfl
theorem tf43_0 : fldOf Try.prog 43 0 = some (0, 1, false) := by kernel_rfl
theorem tf43_1 : fldOf Try.prog 43 1 = some (1, 1, false) := by kernel_rfl
theorem tf43_2 : fldOf Try.prog 43 2 = some (2, 1, false) := by kernel_rfl
theorem tf43_3 : fldOf Try.prog 43 3 = some (3, 1, false) := by kernel_rfl
theorem tf43_4 : fldOf Try.prog 43 4 = some (4, 1, false) := by kernel_rfl
theorem tf43_5 : fldOf Try.prog 43 5 = some (5, 3, true) := by kernel_rfl
theorem tg43 : fldsOf Try.prog 43 = some [(0, 1), (1, 1), (2, 1), (3, 1), (4, 1), (5, 3)] := by kernel_rfl
abbrev z43 : Tr := .agg [.int .i64 0, .int .i64 0, .int .i64 0, .int .i64 0, .int .i64 0, .int .i64 0, .int .i64 0, .int .i64 0]
theorem tz43 : zeroOf Try.prog 43 = some z43 := by kernel_rfl
theorem tb43 : (Try.prog.info? 43).map (·.bytes) = some 64 := by kernel_rfl
theorem ti44 : tinf Try.prog 44 = some (8, true) := by kernel_rfl
theorem tf44_0 : fldOf Try.prog 44 0 = some (0, 1, false) := by kernel_rfl
theorem tf44_1 : fldOf Try.prog 44 1 = some (1, 1, false) := by kernel_rfl
theorem tf44_2 : fldOf Try.prog 44 2 = some (2, 1, false) := by kernel_rfl
theorem tf44_3 : fldOf Try.prog 44 3 = some (3, 1, false) := by kernel_rfl
theorem tf44_4 : fldOf Try.prog 44 4 = some (4, 1, false) := by kernel_rfl
theorem tf44_5 : fldOf Try.prog 44 5 = some (5, 3, true) := by kernel_rfl
theorem tg44 : fldsOf Try.prog 44 = some [(0, 1), (1, 1), (2, 1), (3, 1), (4, 1), (5, 3)] := by kernel_rfl
abbrev z44 : Tr := .agg [.int .i64 0, .int .i64 0, .int .i64 0, .int .i64 0, .int .i64 0, .int .i64 0, .int .i64 0, .int .i64 0]
theorem tz44 : zeroOf Try.prog 44 = some z44 := by kernel_rfl
theorem tb44 : (Try.prog.info? 44).map (·.bytes) = some 64 := by kernel_rfl
theorem ti45 : tinf Try.prog 45 = some (16, true) := by kernel_rfl
theorem tf45_0 : fldOf Try.prog 45 0 = some (0, 1, false) := by kernel_rfl
theorem tf45_1 : fldOf Try.prog 45 1 = some (1, 1, false) := by kernel_rfl
theorem tf45_2 : fldOf Try.prog 45 2 = some (2, 1, false) := by kernel_rfl
theorem tf45_3 : fldOf Try.prog 45 3 = some (3, 1, false) := by kernel_rfl
theorem tf45_4 : fldOf Try.prog 45 4 = some (4, 1, false) := by kernel_rfl
theorem tf45_5 : fldOf Try.prog 45 5 = some (5, 3, true) := by kernel_rfl
theorem tf45_6 : fldOf Try.prog 45 6 = some (8, 8, true) := by kernel_rfl
theorem tg45 : fldsOf Try.prog 45 = some [(0, 1), (1, 1), (2, 1), (3, 1), (4, 1), (5, 3), (8, 8)] := by kernel_rfl
abbrev z45 : Tr := .agg [.int .i64 0, .int .i64 0, .int .i64 0, .int .i64 0, .int .i64 0, .int .i64 0, .int .i64 0, .int .i64 0, .int .i64 0, .int .i64 0, .int .i64 0, .int .i64 0, .int .i64 0, .int .i64 0, .int .i64 0, .int .i64 0]
theorem tz45 : zeroOf Try.prog 45 = some z45 := by kernel_rfl
theorem tb45 : (Try.prog.info? 45).map (·.bytes) = some 128 := by kernel_rfl
theorem ti46 : tinf Try.prog 46 = some (16, true) := by kernel_rfl
theorem tf46_0 : fldOf Try.prog 46 0 = some (0, 1, false) := by kernel_rfl
theorem tf46_1 : fldOf Try.prog 46 1 = some (1, 1, false) := by kernel_rfl
theorem tf46_2 : fldOf Try.prog 46 2 = some (2, 1, false) := by kernel_rfl
theorem tf46_3 : fldOf Try.prog 46 3 = some (3, 1, false) := by kernel_rfl
theorem tf46_4 : fldOf Try.prog 46 4 = some (4, 1, false) := by kernel_rfl
theorem tf46_5 : fldOf Try.prog 46 5 = some (5, 3, true) := by kernel_rfl
theorem tf46_6 : fldOf Try.prog 46 6 = some (8, 8, true) := by kernel_rfl
theorem tg46 : fldsOf Try.prog 46 = some [(0, 1), (1, 1), (2, 1), (3, 1), (4, 1), (5, 3), (8, 8)] := by kernel_rfl
abbrev z46 : Tr := .agg [.int .i64 0, .int .i64 0, .int .i64 0, .int .i64 0, .int .i64 0, .int .i64 0, .int .i64 0, .int .i64 0, .int .i64 0, .int .i64 0, .int .i64 0, .int .i64 0, .int .i64 0, .int .i64 0, .int .i64 0, .int .i64 0]
theorem tz46 : zeroOf Try.prog 46 = some z46 := by kernel_rfl
theorem tb46 : (Try.prog.info? 46).map (·.bytes) = some 128 := by kernel_rfl
theorem ti56 : tinf Try.prog 56 = some (4, true) := by kernel_rfl
theorem tf56_0 : fldOf Try.prog 56 0 = some (0, 1, false) := by kernel_rfl
theorem tf56_1 : fldOf Try.prog 56 1 = some (1, 3, true) := by kernel_rfl
theorem tg56 : fldsOf Try.prog 56 = some [(0, 1), (1, 3)] := by kernel_rfl
abbrev z56 : Tr := .agg [.int .i64 0, .int .i64 0, .int .i64 0, .int .i64 0]
theorem tz56 : zeroOf Try.prog 56 = some z56 := by kernel_rfl
theorem tb56 : (Try.prog.info? 56).map (·.bytes) = some 32 := by kernel_rfl
theorem ti57 : tinf Try.prog 57 = some (4, true) := by kernel_rfl
theorem tf57_0 : fldOf Try.prog 57 0 = some (0, 1, false) := by kernel_rfl
theorem tf57_1 : fldOf Try.prog 57 1 = some (1, 3, true) := by kernel_rfl
theorem tg57 : fldsOf Try.prog 57 = some [(0, 1), (1, 3)] := by kernel_rfl
abbrev z57 : Tr := .agg [.int .i64 0, .int .i64 0, .int .i64 0, .int .i64 0]
theorem tz57 : zeroOf Try.prog 57 = some z57 := by kernel_rfl
theorem tb57 : (Try.prog.info? 57).map (·.bytes) = some 32 := by kernel_rfl
theorem ti63 : tinf Try.prog 63 = some (1, false) := by kernel_rfl
theorem tz63 : zeroOf Try.prog 63 = some .nilf := by kernel_rfl
theorem ti65 : tinf Try.prog 65 = some (1, false) := by kernel_rfl
theorem tz65 : zeroOf Try.prog 65 = some .nilf := by kernel_rfl
theorem ti68 : tinf Try.prog 68 = some (1, false) := by kernel_rfl
theorem tz68 : zeroOf Try.prog 68 = some .nilf := by kernel_rfl
theorem ti70 : tinf Try.prog 70 = some (1, false) := by kernel_rfl
theorem tz70 : zeroOf Try.prog 70 = some .nilf := by kernel_rfl
theorem ti71 : tinf Try.prog 71 = some (1, true) := by kernel_rfl
theorem tf71_0 : fldOf Try.prog 71 0 = some (0, 1, false) := by kernel_rfl
theorem tg71 : fldsOf Try.prog 71 = some [(0, 1)] := by kernel_rfl
abbrev z71 : Tr := .agg [.nilf]
theorem tz71 : zeroOf Try.prog 71 = some z71 := by kernel_rfl
theorem tb71 : (Try.prog.info? 71).map (·.bytes) = some 8 := by kernel_rfl
theorem ti72 : tinf Try.prog 72 = some (1, true) := by kernel_rfl
theorem tf72_0 : fldOf Try.prog 72 0 = some (0, 1, false) := by kernel_rfl
theorem tg72 : fldsOf Try.prog 72 = some [(0, 1)] := by kernel_rfl
abbrev z72 : Tr := .agg [.nilf]
theorem tz72 : zeroOf Try.prog 72 = some z72 := by kernel_rfl
theorem tb72 : (Try.prog.info? 72).map (·.bytes) = some 8 := by kernel_rfl
theorem tr73 : arrOf Try.prog 73 = some (3, 1, true) := by kernel_rfl
theorem ti73 : tinf Try.prog 73 = some (3, true) := by kernel_rfl
abbrev z73 : Tr := .agg [.nilf, .nilf, .nilf]
theorem tz73 : zeroOf Try.prog 73 = some z73 := by kernel_rfl
theorem tb73 : (Try.prog.info? 73).map (·.bytes) = some 24 := by kernel_rfl
theorem ti75 : tinf Try.prog 75 = some (1, false) := by kernel_rfl
abbrev z75 : Tr := .nilp
theorem tz75 : zeroOf Try.prog 75 = some z75 := by kernel_rfl
theorem tb75 : (Try.prog.info? 75).map (·.bytes) = some 8 := by kernel_rfl
theorem ti76 : tinf Try.prog 76 = some (1, false) := by kernel_rfl
abbrev z76 : Tr := .nilp
theorem tz76 : zeroOf Try.prog 76 = some z76 := by kernel_rfl
theorem tb76 : (Try.prog.info? 76).map (·.bytes) = some 8 := by kernel_rfl
theorem ti81 : tinf Try.prog 81 = some (1, false) := by kernel_rfl
theorem tz81 : zeroOf Try.prog 81 = some .nilf := by kernel_rfl
theorem ti86 : tinf Try.prog 86 = some (1, false) := by kernel_rfl
theorem tz86 : zeroOf Try.prog 86 = some .nilf := by kernel_rfl
theorem ti91 : tinf Try.prog 91 = some (1, false) := by kernel_rfl
theorem tu91 : Try.prog.underlying 91 = some (.int .u64) := by kernel_rfl
abbrev z91 : Tr := .int .u64 0
theorem tz91 : zeroOf Try.prog 91 = some z91 := by kernel_rfl
theorem tb91 : (Try.prog.info? 91).map (·.bytes) = some 8 := by kernel_rfl
theorem ta22 : AppT Try.prog 22 22 57 4 32 := ⟨⟨_, te22⟩, ⟨_, _, _, te22⟩, tb57, z57, tz57, by kernel_rfl⟩
theorem ta23 : AppT Try.prog 23 23 44 8 64 := ⟨⟨_, te23⟩, ⟨_, _, _, te23⟩, tb44, z44, tz44, by kernel_rfl⟩
theorem ta38 : AppT Try.prog 38 38 25 3 24 := ⟨⟨_, te38⟩, ⟨_, _, _, te38⟩, tb25, z25, tz25, by kernel_rfl⟩
theorem ta39 : AppT Try.prog 39 39 46 16 128 := ⟨⟨_, te39⟩, ⟨_, _, _, te39⟩, tb46, z46, tz46, by kernel_rfl⟩
theorem tq25 : intCells Try.prog 8 25 = some 3 := by kernel_rfl
theorem th25 : Program.eqGuardType Try.prog (Program.depth Try.prog) 25 = false := by kernel_rfl
theorem tq44 : intCells Try.prog 8 44 = some 8 := by kernel_rfl
theorem th44 : Program.eqGuardType Try.prog (Program.depth Try.prog) 44 = false := by kernel_rfl
theorem tq57 : intCells Try.prog 8 57 = some 4 := by kernel_rfl
theorem th57 : Program.eqGuardType Try.prog (Program.depth Try.prog) 57 = false := by kernel_rfl
theorem tm : Try.prog.follows .mixedOrders = true := by kernel_rfl
theorem co2 : callOK Try.prog 2 = true := by kernel_rfl
theorem co3 : callOK Try.prog 3 = true := by kernel_rfl
theorem co4 : callOK Try.prog 4 = true := by kernel_rfl
theorem co5 : callOK Try.prog 5 = true := by kernel_rfl
theorem co6 : callOK Try.prog 6 = true := by kernel_rfl
theorem co7 : callOK Try.prog 7 = true := by kernel_rfl
theorem co8 : callOK Try.prog 8 = true := by kernel_rfl
theorem co9 : callOK Try.prog 9 = true := by kernel_rfl
theorem co10 : callOK Try.prog 10 = true := by kernel_rfl
theorem co11 : callOK Try.prog 11 = true := by kernel_rfl
theorem co12 : callOK Try.prog 12 = true := by kernel_rfl
theorem co13 : callOK Try.prog 13 = true := by kernel_rfl
theorem co14 : callOK Try.prog 14 = true := by kernel_rfl
theorem co15 : callOK Try.prog 15 = true := by kernel_rfl
theorem co16 : callOK Try.prog 16 = true := by kernel_rfl
theorem co17 : callOK Try.prog 17 = true := by kernel_rfl
theorem co18 : callOK Try.prog 18 = true := by kernel_rfl
theorem co19 : callOK Try.prog 19 = true := by kernel_rfl
theorem co20 : callOK Try.prog 20 = true := by kernel_rfl
theorem co21 : callOK Try.prog 21 = true := by kernel_rfl
theorem co22 : callOK Try.prog 22 = true := by kernel_rfl
theorem co23 : callOK Try.prog 23 = true := by kernel_rfl
theorem co24 : callOK Try.prog 24 = true := by kernel_rfl
theorem co25 : callOK Try.prog 25 = true := by kernel_rfl
theorem co26 : callOK Try.prog 26 = true := by kernel_rfl
theorem co27 : callOK Try.prog 27 = true := by kernel_rfl
theorem co28 : callOK Try.prog 28 = true := by kernel_rfl
theorem co29 : callOK Try.prog 29 = true := by kernel_rfl
theorem co30 : callOK Try.prog 30 = true := by kernel_rfl
theorem co31 : callOK Try.prog 31 = true := by kernel_rfl
theorem co32 : callOK Try.prog 32 = true := by kernel_rfl
theorem co33 : callOK Try.prog 33 = true := by kernel_rfl
theorem co34 : callOK Try.prog 34 = true := by kernel_rfl
theorem co35 : callOK Try.prog 35 = true := by kernel_rfl
theorem co36 : callOK Try.prog 36 = true := by kernel_rfl
theorem co37 : callOK Try.prog 37 = true := by kernel_rfl
theorem co38 : callOK Try.prog 38 = true := by kernel_rfl
theorem co39 : callOK Try.prog 39 = true := by kernel_rfl
theorem co40 : callOK Try.prog 40 = true := by kernel_rfl
theorem co41 : callOK Try.prog 41 = true := by kernel_rfl
theorem co42 : callOK Try.prog 42 = true := by kernel_rfl
theorem co43 : callOK Try.prog 43 = true := by kernel_rfl
theorem co44 : callOK Try.prog 44 = true := by kernel_rfl
theorem co45 : callOK Try.prog 45 = true := by kernel_rfl
theorem co46 : callOK Try.prog 46 = true := by kernel_rfl
theorem co47 : callOK Try.prog 47 = true := by kernel_rfl
theorem co48 : callOK Try.prog 48 = true := by kernel_rfl
theorem co49 : callOK Try.prog 49 = true := by kernel_rfl
theorem co50 : callOK Try.prog 50 = true := by kernel_rfl
theorem co51 : callOK Try.prog 51 = true := by kernel_rfl
theorem co52 : callOK Try.prog 52 = true := by kernel_rfl
theorem co53 : callOK Try.prog 53 = true := by kernel_rfl
theorem co54 : callOK Try.prog 54 = true := by kernel_rfl
theorem co55 : callOK Try.prog 55 = true := by kernel_rfl
theorem co56 : callOK Try.prog 56 = true := by kernel_rfl
theorem co57 : callOK Try.prog 57 = true := by kernel_rfl
theorem co58 : callOK Try.prog 58 = true := by kernel_rfl
theorem co59 : callOK Try.prog 59 = true := by kernel_rfl
theorem co60 : callOK Try.prog 60 = true := by kernel_rfl
theorem co61 : callOK Try.prog 61 = true := by kernel_rfl
theorem co62 : callOK Try.prog 62 = true := by kernel_rfl
theorem co63 : callOK Try.prog 63 = true := by kernel_rfl
theorem co64 : callOK Try.prog 64 = true := by kernel_rfl
theorem co65 : callOK Try.prog 65 = true := by kernel_rfl
theorem co66 : callOK Try.prog 66 = true := by kernel_rfl
theorem co67 : callOK Try.prog 67 = true := by kernel_rfl
theorem co68 : callOK Try.prog 68 = true := by kernel_rfl
theorem co69 : callOK Try.prog 69 = true := by kernel_rfl
theorem co70 : callOK Try.prog 70 = true := by kernel_rfl
theorem co71 : callOK Try.prog 71 = true := by kernel_rfl
theorem co72 : callOK Try.prog 72 = true := by kernel_rfl
theorem co73 : callOK Try.prog 73 = true := by kernel_rfl
theorem co74 : callOK Try.prog 74 = true := by kernel_rfl
theorem co75 : callOK Try.prog 75 = true := by kernel_rfl
theorem co76 : callOK Try.prog 76 = true := by kernel_rfl
theorem co77 : callOK Try.prog 77 = true := by kernel_rfl
theorem co79 : callOK Try.prog 79 = true := by kernel_rfl
theorem co80 : callOK Try.prog 80 = true := by kernel_rfl
theorem co81 : callOK Try.prog 81 = true := by kernel_rfl
theorem co82 : callOK Try.prog 82 = true := by kernel_rfl
end Go.Tv.C24

end
section
open Go Go.Tv Go.Proofs
namespace Go.Tv.C24

structure Purse where
  e : Int
  b : Int
  d : Int
  deriving DecidableEq

structure Acc where
  c : Int
  p : Purse
  deriving DecidableEq

structure Lea where
  id : Int
  cu : Int
  dev : Int
  fr : Int
  un : Int
  h : Purse
  deriving DecidableEq

structure Bank where
  accs : List Acc
  ls : List Lea
  sp : Purse
  deriving DecidableEq

structure Opn where
  kind : Int
  id : Int
  tick : Int
  fr : Int
  to : Int
  p : Purse
  l : Lea

def encI (n : Int) : Tr := .int .i64 n
def encP (p : Purse) : Tr := .agg [encI p.e, encI p.b, encI p.d]
def encA (a : Acc) : Tr := .agg [encI a.c, encI a.p.e, encI a.p.b, encI a.p.d]
def encL (l : Lea) : Tr := .agg [encI l.id, encI l.cu, encI l.dev, encI l.fr, encI l.un, encI l.h.e, encI l.h.b, encI l.h.d]
def encB (b : Bank) : Tr := .agg [.sl (b.accs.map encA) false, .sl (b.ls.map encL) false, encI b.sp.e, encI b.sp.b, encI b.sp.d]
def encO (o : Opn) : Tr := .agg [encI o.kind, encI o.id, encI o.tick, encI o.fr, encI o.to, encI o.p.e, encI o.p.b, encI o.p.d,
  encI o.l.id, encI o.l.cu, encI o.l.dev, encI o.l.fr, encI o.l.un, encI o.l.h.e, encI o.l.h.b, encI o.l.h.d]

theorem take_succ_get {α : Type} {l : List α} {i : Nat} (h : i < l.length) : l.take (i + 1) = l.take i ++ [l[i]] := by
  rw [List.take_add_one, List.getElem?_eq_getElem h]; rfl

theorem mem_take_succ {α : Type} {l : List α} {i : Nat} (h : i < l.length) {x : α} : x ∈ l.take (i + 1) ↔ x ∈ l.take i ∨ x = l[i] := by
  rw [take_succ_get h, List.mem_append, List.mem_singleton]

abbrev zp : Purse := ⟨0, 0, 0⟩
abbrev zl : Lea := ⟨0, 0, 0, 0, 0, zp⟩
abbrev za : Acc := ⟨0, zp⟩
abbrev zb : Bank := ⟨[], [], zp⟩

def plus (x y : Purse) : Purse := ⟨x.e + y.e, x.b + y.b, x.d + y.d⟩
def sub (x y : Purse) : Purse := ⟨x.e - y.e, x.b - y.b, x.d - y.d⟩
/-- y is covered by x. -/
def cov (x y : Purse) : Prop := y.e ≤ x.e ∧ y.b ≤ x.b ∧ y.d ≤ x.d
instance (x y : Purse) : Decidable (cov x y) := by unfold cov; infer_instance
def minus (x y : Purse) : Purse × Bool := if cov x y then (sub x y, true) else (zp, false)
def num (n : Int) : Prop := 0 ≤ n ∧ n ≤ 2147483647
instance (n : Int) : Decidable (num n) := by unfold num; infer_instance
def right (p : Purse) : Prop := num p.e ∧ num p.b ∧ num p.d
instance (p : Purse) : Decidable (right p) := by unfold right; infer_instance
/-- far from the limits of the machine -/
def near (n : Int) (p : Purse) : Prop := (0 ≤ p.e ∧ p.e ≤ n) ∧ (0 ≤ p.b ∧ p.b ≤ n) ∧ (0 ≤ p.d ∧ p.d ≤ n)
theorem right_near {p : Purse} (h : right p) : near 2147483647 p := h
theorem near_plus {m n : Int} {p q : Purse} (h : near m p) (k : near n q) : near (m + n) (plus p q) := by
  unfold near at *; unfold plus; simp only; omega
theorem near_mono {m n : Int} {p : Purse} (h : near m p) (k : m ≤ n) : near n p := by
  unfold near at *; omega

def sumA (l : List Acc) (s : Purse) : Purse := l.foldl (fun s a => plus s a.p) s
def sumL (l : List Lea) (s : Purse) : Purse := l.foldl (fun s a => plus s a.h) s
def total (b : Bank) : Purse := sumL b.ls (sumA b.accs b.sp)

theorem sumA_step {l : List Acc} {i : Nat} {s : Purse} (h : i < l.length) : sumA (l.take (i + 1)) s = plus (sumA (l.take i) s) l[i].p := by
  rw [take_succ_get h, sumA, List.foldl_append]; rfl
theorem sumL_step {l : List Lea} {i : Nat} {s : Purse} (h : i < l.length) : sumL (l.take (i + 1)) s = plus (sumL (l.take i) s) l[i].h := by
  rw [take_succ_get h, sumL, List.foldl_append]; rfl
theorem sumA_near {M : Int} (hM : 0 ≤ M) : ∀ (l : List Acc) {n : Int} {s : Purse}, near n s → (∀ a, a ∈ l → near M a.p) → near (n + M * l.length) (sumA l s)
  | [], n, s, h, _ => by simpa [sumA] using h
  | a :: l, n, s, h, k => by
    have := sumA_near hM l (near_plus h (k a List.mem_cons_self)) (fun x hx => k x (List.mem_cons_of_mem _ hx))
    refine near_mono this ?_
    have e : M * ((a :: l).length : Int) = M * l.length + M := by rw [List.length_cons, Int.natCast_add, Int.mul_add]; simp
    omega
theorem sumL_near {M : Int} (hM : 0 ≤ M) : ∀ (l : List Lea) {n : Int} {s : Purse}, near n s → (∀ a, a ∈ l → near M a.h) → near (n + M * l.length) (sumL l s)
  | [], n, s, h, _ => by simpa [sumL] using h
  | a :: l, n, s, h, k => by
    have := sumL_near hM l (near_plus h (k a List.mem_cons_self)) (fun x hx => k x (List.mem_cons_of_mem _ hx))
    refine near_mono this ?_
    have e : M * ((a :: l).length : Int) = M * l.length + M := by rw [List.length_cons, Int.natCast_add, Int.mul_add]; simp
    omega

def formed (l : Lea) : Prop := 1 ≤ l.id ∧ 0 ≤ l.dev ∧ l.dev < 8 ∧ 0 ≤ l.fr ∧ l.fr < l.un ∧ l.un ≤ 1000000 ∧ right l.h
instance (l : Lea) : Decidable (formed l) := by unfold formed; infer_instance
def confl (a b : Lea) : Prop := a.dev = b.dev ∧ a.fr < b.un ∧ b.fr < a.un
instance (a b : Lea) : Decidable (confl a b) := by unfold confl; infer_instance

/-- Where the first element with a property stands, or -1. -/
def fIx {α : Type} (p : α → Bool) (l : List α) : Int := match l.findIdx? p with
  | some i => (i : Int)
  | none => -1
theorem fIx_hit {α : Type} {p : α → Bool} {l : List α} {i : Nat} (hi : i < l.length) (h : ∀ b, b ∈ l.take i → p b = false) (he : p l[i] = true) : fIx p l = (i : Int) := by
  unfold fIx
  have : l.findIdx? p = some i := by
    rw [List.findIdx?_eq_some_iff_getElem]
    refine ⟨hi, he, fun j hj => ?_⟩
    have := h l[j] (by
      rw [List.mem_iff_getElem]
      exact ⟨j, by simp; omega, by simp⟩)
    simp [this]
  rw [this]
theorem fIx_none {α : Type} {p : α → Bool} {l : List α} (h : ∀ b, b ∈ l → p b = false) : fIx p l = -1 := by
  unfold fIx
  have : l.findIdx? p = none := by
    rw [List.findIdx?_eq_none_iff]
    intro b hb
    exact h b hb
  rw [this]
theorem fIx_neg {α : Type} {p : α → Bool} {l : List α} : fIx p l < 0 ↔ ∀ b, b ∈ l → p b = false := by
  unfold fIx
  cases h : l.findIdx? p with
  | none => rw [List.findIdx?_eq_none_iff] at h; simpa using h
  | some i =>
    rw [List.findIdx?_eq_some_iff_getElem] at h
    obtain ⟨hi, h1, _⟩ := h
    constructor
    · intro h2; simp only at h2; omega
    · intro h2; have := h2 _ (List.getElem_mem hi); rw [h1] at this; cases this
theorem fIx_nat {α : Type} {p : α → Bool} {l : List α} (h : ¬ fIx p l < 0) : ∃ i, ∃ hi : i < l.length, fIx p l = (i : Int) ∧ l.findIdx? p = some i ∧ p l[i] = true := by
  unfold fIx at *
  cases h2 : l.findIdx? p with
  | none => rw [h2] at h; simp at h
  | some i =>
    have h3 := h2
    rw [List.findIdx?_eq_some_iff_getElem] at h3
    obtain ⟨hi, h1, _⟩ := h3
    exact ⟨i, hi, rfl, rfl, h1⟩
def accIx (l : List Acc) (c : Int) : Int := fIx (fun a => a.c == c) l
def leaIx (l : List Lea) (n : Int) : Int := fIx (fun a => a.id == n) l

def incrA (l : List Acc) : Prop := (l.map (·.c)).Pairwise (· < ·)
def incrL (l : List Lea) : Prop := (l.map (·.id)).Pairwise (· < ·)
instance (l : List Acc) : Decidable (incrA l) := by unfold incrA; infer_instance
instance (l : List Lea) : Decidable (incrL l) := by unfold incrL; infer_instance
def ranges (b : Bank) : Prop := right b.sp ∧ (∀ a, a ∈ b.accs → right a.p) ∧ (∀ l, l ∈ b.ls → formed l) ∧ right (total b)
instance (b : Bank) : Decidable (ranges b) := by unfold ranges; infer_instance
def owned (b : Bank) : Prop := ∀ l, l ∈ b.ls → ∃ a, a ∈ b.accs ∧ a.c = l.cu
instance (b : Bank) : Decidable (owned b) := by unfold owned; infer_instance
def apart (l : List Lea) : Prop := l.Pairwise (fun x y => ¬ confl y x)
instance (l : List Lea) : Decidable (apart l) := by unfold apart; infer_instance
def chk (b : Bank) : Int :=
  if 20 < b.accs.length ∨ 32 < b.ls.length then 2
  else if ¬ incrA b.accs ∨ ¬ incrL b.ls then 23
  else if ¬ ranges b then 5
  else if ¬ owned b then 3
  else if ¬ apart b.ls then 4 else 0

/-- A valid bank. -/
structure VB (b : Bank) : Prop where
  la : b.accs.length ≤ 20
  ll : b.ls.length ≤ 32
  ia : incrA b.accs
  il : incrL b.ls
  rg : ranges b
  ow : owned b
  ap : apart b.ls
theorem chk_ok {b : Bank} : chk b = 0 ↔ VB b := by
  unfold chk
  constructor
  · intro h
    repeat' split at h
    all_goals first | (exfalso; revert h; decide) | skip
    rename_i h1 h2 h3 h4 h5
    exact ⟨by omega, by omega, Classical.not_not.1 (fun h => h2 (.inl h)), Classical.not_not.1 (fun h => h2 (.inr h)), Classical.not_not.1 h3, Classical.not_not.1 h4, Classical.not_not.1 h5⟩
  · rintro ⟨h1, h2, h3, h4, h5, h6, h7⟩
    rw [if_neg (by omega), if_neg (by simp [h3, h4]), if_neg (by simp [h5]), if_neg (by simp [h6]), if_neg (by simp [h7])]

/-- A lease comes in at its place. -/
def insL (x : Lea) : List Lea → List Lea
  | [] => [x]
  | y :: l => if y.id < x.id then y :: insL x l else x :: y :: l

def setP (l : List Acc) (i : Nat) (p : Purse) : List Acc := l.set i ⟨(l.getD i za).c, p⟩
def setH (l : List Lea) (i : Nat) (p : Purse) : List Lea := l.set i { l.getD i zl with h := p }
def accF (l : List Acc) (c : Int) : Option Nat := l.findIdx? (fun a => a.c == c)
def leaF (l : List Lea) (n : Int) : Option Nat := l.findIdx? (fun a => a.id == n)

def grant (b : Bank) (l : Lea) : Bank × Int :=
  if ¬ formed l then (zb, 5)
  else match leaF b.ls l.id with
  | some _ => (zb, 4)
  | none => match accF b.accs l.cu with
    | none => (zb, 3)
    | some a =>
      if ∃ x, x ∈ b.ls ∧ confl x l then (zb, 32)
      else if 32 ≤ b.ls.length then (zb, 9)
      else if ¬ cov (b.accs.getD a za).p l.h then (zb, 40)
      else (⟨setP b.accs a (sub (b.accs.getD a za).p l.h), insL l b.ls, b.sp⟩, 0)

def charge (b : Bank) (id tick : Int) (cost : Purse) : Bank × Int :=
  match leaF b.ls id with
  | none => (zb, 3)
  | some i =>
    if tick < (b.ls.getD i zl).fr ∨ (b.ls.getD i zl).un ≤ tick then (zb, 32)
    else if ¬ cov (b.ls.getD i zl).h cost then (zb, 40)
    else (⟨b.accs, setH b.ls i (sub (b.ls.getD i zl).h cost), plus b.sp cost⟩, 0)

/-- An account gets an amount. -/
def credit (l : List Acc) (c : Int) (p : Purse) : List Acc := match accF l c with
  | none => l
  | some a => setP l a (plus (l.getD a za).p p)

def close (b : Bank) (id : Int) : Bank × Int :=
  match leaF b.ls id with
  | none => (zb, 3)
  | some i => (⟨credit b.accs (b.ls.getD i zl).cu (b.ls.getD i zl).h, b.ls.take i ++ b.ls.drop (i + 1), b.sp⟩, 0)

def expire (b : Bank) (t : Int) : Bank := b.ls.foldl (fun o l => if l.un ≤ t then (close o l.id).1 else o) b

def transfer (b : Bank) (fr to : Int) (p : Purse) : Bank × Int :=
  match accF b.accs fr, accF b.accs to with
  | some i, some k =>
    if ¬ cov (b.accs.getD i za).p p then (zb, 40)
    else (⟨setP (setP b.accs i (sub (b.accs.getD i za).p p)) k (plus ((setP b.accs i (sub (b.accs.getD i za).p p)).getD k za).p p), b.ls, b.sp⟩, 0)
  | _, _ => (zb, 3)

def around (n m : Int) : Int := (if n < 0 then -(n + 1) else n) % m
def amount (p : Purse) (m : Int) : Purse := ⟨around p.e (m + 1), around p.b (m + 1), around p.d (m + 1)⟩
def madeA (l : List Purse) : List Acc := (l.take 6).mapIdx fun i p => ⟨2 * (i : Int), amount p 10000⟩
def made (l : List Purse) : Bank := ⟨madeA l, [], zp⟩

/-- An operation; with an error the bank stays as it is. -/
def rawB (b : Bank) (o : Opn) : Bank × Int :=
  if o.kind = 0 then grant b o.l
  else if o.kind = 1 then charge b o.id o.tick (amount o.p 2147483647)
  else if o.kind = 2 then close b o.id
  else if o.kind = 3 then (expire b o.tick, 0)
  else transfer b o.fr o.to (amount o.p 2147483647)
def doB (b : Bank) (o : Opn) : Bank × Int := if (rawB b o).2 = 0 then rawB b o else (b, (rawB b o).2)

theorem around_bd {n m : Int} (h : 0 < m) : 0 ≤ around n m ∧ around n m < m := by
  unfold around; exact ⟨Int.emod_nonneg _ (by omega), Int.emod_lt_of_pos _ h⟩
theorem amount_near {p : Purse} {m : Int} (h : 0 ≤ m) : near m (amount p m) := by
  have h1 := around_bd (n := p.e) (m := m + 1) (by omega)
  have h2 := around_bd (n := p.b) (m := m + 1) (by omega)
  have h3 := around_bd (n := p.d) (m := m + 1) (by omega)
  unfold near amount; simp only; omega

def I64 (n : Int) : Prop := -9223372036854775808 ≤ n ∧ n ≤ 9223372036854775807
def P64 (p : Purse) : Prop := I64 p.e ∧ I64 p.b ∧ I64 p.d
theorem uneg {n : Int} (h : -9223372036854775807 ≤ n ∧ n ≤ 9223372036854775807) : uop .neg (.int .i64 n) = some (.int .i64 (-n)) := by
  show some (Tr.int .i64 (IntKind.i64.wrap (0 - n))) = _
  rw [wrap64 (by omega) (by omega), Int.zero_sub]
def BOK (b : Bank) : Prop := b.accs.length ≤ 1000 ∧ b.ls.length ≤ 1000
theorem minus_t {x y : Purse} (h : cov x y) : minus x y = (sub x y, true) := if_pos h
theorem minus_f {x y : Purse} (h : ¬ cov x y) : minus x y = (zp, false) := if_neg h

end Go.Tv.C24

end
section
open Go Go.Tv Go.Proofs
namespace Go.Tv.C24
set_option maxRecDepth 20000

theorem rd3 : Reads Try.prog 3 1 (fun ts => ∃ n, ts = [encI n] ∧ I64 n) := (reads_int Try.underlying3 (by kernel_rfl)).mono (fun ts ⟨n, h, hw⟩ => ⟨n, h, wf_i64 hw⟩)
theorem rd25 : Reads Try.prog 25 3 (fun ts => ∃ p : Purse, encP p = .agg ts ∧ P64 p) :=
  (reads_struct Try.underlying25 (by kernel_rfl) (rdfs_cons rfl rd3 (rdfs_cons rfl rd3 (rdfs_cons rfl rd3 rdfs_nil)))).mono (by
    rintro ts ⟨_, _, rfl, ⟨e, rfl, h1⟩, _, _, rfl, ⟨b, rfl, h2⟩, _, _, rfl, ⟨d, rfl, h3⟩, rfl⟩
    exact ⟨⟨e, b, d⟩, rfl, h1, h2, h3⟩)
theorem rd57 : Reads Try.prog 57 4 (fun ts => ∃ a : Acc, encA a = .agg ts ∧ True) :=
  (reads_struct Try.underlying57 (by kernel_rfl) (rdfs_cons rfl rd3 (rdfs_cons rfl rd25 rdfs_nil))).mono (by
    rintro ts ⟨_, _, rfl, ⟨c, rfl, _⟩, _, _, rfl, ⟨p, hp, _⟩, rfl⟩
    cases hp
    exact ⟨⟨c, p⟩, rfl, trivial⟩)
theorem rd44 : Reads Try.prog 44 8 (fun ts => ∃ l : Lea, encL l = .agg ts ∧ True) :=
  (reads_struct Try.underlying44 (by kernel_rfl) (rdfs_cons rfl rd3 (rdfs_cons rfl rd3 (rdfs_cons rfl rd3 (rdfs_cons rfl rd3 (rdfs_cons rfl rd3 (rdfs_cons rfl rd25 rdfs_nil))))))).mono (by
    rintro ts ⟨_, _, rfl, ⟨i, rfl, _⟩, _, _, rfl, ⟨c, rfl, _⟩, _, _, rfl, ⟨v, rfl, _⟩, _, _, rfl, ⟨f, rfl, _⟩, _, _, rfl, ⟨u, rfl, _⟩, _, _, rfl, ⟨p, hp, _⟩, rfl⟩
    cases hp
    exact ⟨⟨i, c, v, f, u, p⟩, rfl, trivial⟩)
theorem rd46 : Reads Try.prog 46 16 (fun ts => ∃ o : Opn, encO o = .agg ts ∧ P64 o.p) :=
  (reads_struct Try.underlying46 (by kernel_rfl) (rdfs_cons rfl rd3 (rdfs_cons rfl rd3 (rdfs_cons rfl rd3 (rdfs_cons rfl rd3 (rdfs_cons rfl rd3 (rdfs_cons rfl rd25 (rdfs_cons rfl rd44 rdfs_nil)))))))).mono (by
    rintro ts ⟨_, _, rfl, ⟨k, rfl, _⟩, _, _, rfl, ⟨i, rfl, _⟩, _, _, rfl, ⟨t, rfl, _⟩, _, _, rfl, ⟨f, rfl, _⟩, _, _, rfl, ⟨u, rfl, _⟩, _, _, rfl, ⟨p, hp, h64⟩, _, _, rfl, ⟨l, hl, _⟩, rfl⟩
    cases hp; cases hl
    exact ⟨⟨k, i, t, f, u, p, l⟩, rfl, h64⟩)
theorem rd22 : Reads Try.prog 22 1 (fun ts => ∃ l : List Acc, ts = [.sl (l.map encA) false] ∧ l.length ≤ maxLen ∧ ∀ x, x ∈ l → True) := reads_slices Try.underlying22 (by kernel_rfl) (by decide) rd57
theorem rd23 : Reads Try.prog 23 1 (fun ts => ∃ l : List Lea, ts = [.sl (l.map encL) false] ∧ l.length ≤ maxLen ∧ ∀ x, x ∈ l → True) := reads_slices Try.underlying23 (by kernel_rfl) (by decide) rd44
theorem rd38 : Reads Try.prog 38 1 (fun ts => ∃ l : List Purse, ts = [.sl (l.map encP) false] ∧ l.length ≤ maxLen ∧ ∀ x, x ∈ l → P64 x) := reads_slices Try.underlying38 (by kernel_rfl) (by decide) rd25
theorem rd39 : Reads Try.prog 39 1 (fun ts => ∃ l : List Opn, ts = [.sl (l.map encO) false] ∧ l.length ≤ maxLen ∧ ∀ x, x ∈ l → P64 x.p) := reads_slices Try.underlying39 (by kernel_rfl) (by decide) rd46
theorem rd27 : Reads Try.prog 27 5 (fun ts => ∃ b : Bank, encB b = .agg ts ∧ True) :=
  (reads_struct Try.underlying27 (by kernel_rfl) (rdfs_cons rfl rd22 (rdfs_cons rfl rd23 (rdfs_cons rfl rd25 rdfs_nil)))).mono (by
    rintro ts ⟨_, _, rfl, ⟨a, rfl, _⟩, _, _, rfl, ⟨l, rfl, _⟩, _, _, rfl, ⟨p, hp, _⟩, rfl⟩
    cases hp
    exact ⟨⟨a, l, p⟩, rfl, trivial⟩)
end Go.Tv.C24

end
section
open Go Go.Tv Go.Proofs
namespace Go.Tv.C24
set_option maxRecDepth 20000
set_option maxHeartbeats 2000000
set_option linter.unusedSimpArgs false
set_option linter.unusedVariables false
theorem around_ret (n m : Int) (hn : I64 n) (hm : 0 < m ∧ m ≤ 9223372036854775807) : Ret Try.prog 44 [encI n, encI m] (encI (around n m)) := by
  unfold I64 at hn
  refine ret_of_awp Try.func44 rfl (Nat.le_of_ble_eq_true rfl) ?_
  refine awp_seq ?_
  refine awp_rw rfl ?_
  refine RW.op rfl rfl (eff_assign (v := .t _) rfl rfl rfl) ?_
  refine RW.nil ?_
  refine awp_seq ?_
  refine awp_seq ?_
  refine awp_rw rfl ?_
  refine RW.op rfl rfl (eff_move (v := .t _) rfl rfl rfl) ?_
  refine RW.op rfl rfl (eff_iop rfl rfl rfl rfl rfl) ?_
  refine RW.nil ?_
  refine awp_cond rfl (fun h1 => ?_) (fun h1 => ?_)
  · try simp only [decide_eq_true_eq, decide_eq_false_iff_not, beq_iff_eq, bne_iff_ne, bne_eq_false_iff_eq, beq_eq_false_iff_ne, Bool.not_eq_true, Bool.not_eq_false, Bool.not_eq_true', Bool.not_eq_false', ne_eq] at h1
    refine awp_rw rfl ?_
    refine RW.op rfl rfl (eff_move (v := .t _) rfl rfl rfl) ?_
    refine RW.op rfl rfl (eff_iop rfl rfl rfl rfl (iadd (by omega))) ?_
    refine RW.op rfl rfl (eff_unop (r := .int .i64 (-(n + 1))) rfl rfl rfl (uneg (by omega))) ?_
    refine RW.op rfl rfl (eff_assign (v := .t _) rfl rfl rfl) ?_
    refine RW.nil ?_
    refine awp_seq ?_
    refine awp_rw rfl ?_
    refine RW.op rfl rfl (eff_move (v := .t _) rfl rfl rfl) ?_
    refine RW.op rfl rfl (eff_move (v := .t _) rfl rfl rfl) ?_
    refine RW.op rfl rfl (eff_remE (r := around n m) rfl rfl rfl rfl (by omega) (by unfold around; first | (rw [if_pos h1]; exact tmod_pos (by omega)) | (rw [if_neg h1]; exact tmod_pos (by omega)))) ?_
    refine RW.op rfl rfl (eff_assign (v := .t _) rfl rfl rfl) ?_
    refine RW.nil ?_
    refine awp_ret ?_
    first
      | exact ⟨Or.inr rfl, [_], ⟨.tmp (.t _), trivial⟩, .refl _⟩
      | exact ⟨Or.inr rfl, [_], ⟨.tmp (.t _), trivial⟩, (by repeat' first | exact trivial | exact Wk.refl _ | exact Wk.sl _ | refine And.intro ?_ ?_ | refine Wk.tupP ?_ | refine Wk.aggP ?_)⟩
      | exact ⟨Or.inr rfl, [_], ⟨.tmp (Res.ownT rfl rfl rfl rfl), trivial⟩, .refl _⟩
      | exact ⟨Or.inr rfl, [_], ⟨.tmp (Res.ownT rfl rfl rfl rfl), trivial⟩, (by repeat' first | exact trivial | exact Wk.refl _ | exact Wk.sl _ | refine And.intro ?_ ?_ | refine Wk.tupP ?_ | refine Wk.aggP ?_)⟩
  · try simp only [decide_eq_true_eq, decide_eq_false_iff_not, beq_iff_eq, bne_iff_ne, bne_eq_false_iff_eq, beq_eq_false_iff_ne, Bool.not_eq_true, Bool.not_eq_false, Bool.not_eq_true', Bool.not_eq_false', ne_eq] at h1
    refine awp_skip ?_
    refine awp_seq ?_
    refine awp_rw rfl ?_
    refine RW.op rfl rfl (eff_move (v := .t _) rfl rfl rfl) ?_
    refine RW.op rfl rfl (eff_move (v := .t _) rfl rfl rfl) ?_
    refine RW.op rfl rfl (eff_remE (r := around n m) rfl rfl rfl rfl (by omega) (by unfold around; first | (rw [if_pos h1]; exact tmod_pos (by omega)) | (rw [if_neg h1]; exact tmod_pos (by omega)))) ?_
    refine RW.op rfl rfl (eff_assign (v := .t _) rfl rfl rfl) ?_
    refine RW.nil ?_
    refine awp_ret ?_
    first
      | exact ⟨Or.inr rfl, [_], ⟨.tmp (.t _), trivial⟩, .refl _⟩
      | exact ⟨Or.inr rfl, [_], ⟨.tmp (.t _), trivial⟩, (by repeat' first | exact trivial | exact Wk.refl _ | exact Wk.sl _ | refine And.intro ?_ ?_ | refine Wk.tupP ?_ | refine Wk.aggP ?_)⟩
      | exact ⟨Or.inr rfl, [_], ⟨.tmp (Res.ownT rfl rfl rfl rfl), trivial⟩, .refl _⟩
      | exact ⟨Or.inr rfl, [_], ⟨.tmp (Res.ownT rfl rfl rfl rfl), trivial⟩, (by repeat' first | exact trivial | exact Wk.refl _ | exact Wk.sl _ | refine And.intro ?_ ?_ | refine Wk.tupP ?_ | refine Wk.aggP ?_)⟩

theorem amount_ret (p : Purse) (m : Int) (hp : P64 p) (hm : 0 ≤ m ∧ m ≤ 9223372036854775806) : Ret Try.prog 16 [encP p, encI m] (encP (amount p m)) := by
  refine ret_of_awp Try.func16 rfl (Nat.le_of_ble_eq_true rfl) ?_
  refine awp_seq ?_
  refine awp_rw rfl ?_
  refine RW.new rfl rfl (eff_boxK (v := .t _) (k := 3) (id := 2) rfl rfl rfl rfl rfl rfl) ?_
  refine RW.new rfl rfl (eff_allocK (k := 3) (id := 4) rfl rfl tz25 rfl rfl) ?_
  refine RW.nil ?_
  refine awp_seq ?_
  refine awp_rd [(some 5, []), (some 6, []), (some 7, []), (some 8, []), (some 9, []), (some 10, []), (some 11, []), (some 12, []), (some 13, []), (some 14, []), (some 15, []), (some 16, []), (some 17, []), (some 18, []), (some 19, []), (some 20, []), (none, [4])] [[], [0], [], [2], [0, 1, 2, 3], [], [5], [], [7], [0, 1, 2, 3, 4, 5, 6, 7, 8], [], [10], [], [12], [0, 1, 2, 3, 4, 5, 6, 7, 8, 9, 10, 11, 12, 13], [0, 1, 2, 3, 4, 5, 6, 7, 8, 9, 10, 11, 12, 13, 14], [0, 1, 2, 3, 4, 5, 6, 7, 8, 9, 10, 11, 12, 13, 14, 15]] tm rfl rfl rfl rfl ?_
  refine RD.op rfl rfl rfl (eff_fieldAddr rfl rfl tf25_0 (by decide) rfl rfl rfl (Nat.le_of_ble_eq_true rfl)) ?_
  refine RD.op rfl rfl rfl (eff_load (y := .t _) rfl rfl ti3 rfl (.one rfl rfl rfl rfl)) ?_
  refine RD.op rfl rfl rfl (eff_move (v := .t _) rfl rfl rfl) ?_
  refine RD.op rfl rfl rfl (eff_iop rfl rfl rfl rfl (iadd (by omega))) ?_
  refine RD.op rfl rfl rfl (eff_callT (around_ret _ _ (by first | exact hp.1 | exact hp.2.1 | exact hp.2.2) (by omega)) co44 rfl rfl rfl rfl) ?_
  refine RD.op rfl rfl rfl (eff_fieldAddr rfl rfl tf25_1 (by decide) rfl rfl rfl (Nat.le_of_ble_eq_true rfl)) ?_
  refine RD.op rfl rfl rfl (eff_load (y := .t _) rfl rfl ti3 rfl (.one rfl rfl rfl rfl)) ?_
  refine RD.op rfl rfl rfl (eff_move (v := .t _) rfl rfl rfl) ?_
  refine RD.op rfl rfl rfl (eff_iop rfl rfl rfl rfl (iadd (by omega))) ?_
  refine RD.op rfl rfl rfl (eff_callT (around_ret _ _ (by first | exact hp.1 | exact hp.2.1 | exact hp.2.2) (by omega)) co44 rfl rfl rfl rfl) ?_
  refine RD.op rfl rfl rfl (eff_fieldAddr rfl rfl tf25_2 (by decide) rfl rfl rfl (Nat.le_of_ble_eq_true rfl)) ?_
  refine RD.op rfl rfl rfl (eff_load (y := .t _) rfl rfl ti3 rfl (.one rfl rfl rfl rfl)) ?_
  refine RD.op rfl rfl rfl (eff_move (v := .t _) rfl rfl rfl) ?_
  refine RD.op rfl rfl rfl (eff_iop rfl rfl rfl rfl (iadd (by omega))) ?_
  refine RD.op rfl rfl rfl (eff_callT (around_ret _ _ (by first | exact hp.1 | exact hp.2.1 | exact hp.2.2) (by omega)) co44 rfl rfl rfl rfl) ?_
  refine RD.op rfl rfl rfl (eff_buildT (ys := [_, _, _]) rfl rfl tz25 tg25 rfl) ?_
  refine RD.store rfl rfl rfl (eff_storeW (v := .t _) (els := [_]) (els' := [_]) rfl rfl ti25 rfl rfl rfl rfl rfl rfl rfl rfl rfl) ?_
  refine RD.nil ?_
  refine awp_ret ?_
  first
    | exact ⟨Or.inr rfl, [_], ⟨.cell rfl ti25 (.whole rfl rfl rfl rfl rfl rfl) (.t _), trivial⟩, .refl _⟩
    | exact ⟨Or.inr rfl, [_], ⟨.cell rfl ti25 (.whole rfl rfl rfl rfl rfl rfl) (.t _), trivial⟩, (by repeat' first | exact trivial | exact Wk.refl _ | exact Wk.sl _ | refine And.intro ?_ ?_ | refine Wk.tupP ?_ | refine Wk.aggP ?_)⟩

theorem plus20_ret (x y : Purse) (hx : near 1000000000000000 x) (hy : near 1000000000000000 y) : Ret Try.prog 20 [encP x, encP y] (encP (plus x y)) := by
  unfold near at hx hy
  refine ret_of_awp Try.func20 rfl (Nat.le_of_ble_eq_true rfl) ?_
  refine awp_seq ?_
  refine awp_rw rfl ?_
  refine RW.new rfl rfl (eff_boxK (v := .t _) (k := 3) (id := 2) rfl rfl rfl rfl rfl rfl) ?_
  refine RW.new rfl rfl (eff_boxK (v := .t _) (k := 3) (id := 3) rfl rfl rfl rfl rfl rfl) ?_
  refine RW.new rfl rfl (eff_allocK (k := 3) (id := 4) rfl rfl tz25 rfl rfl) ?_
  refine RW.nil ?_
  refine awp_seq ?_
  refine awp_rw rfl ?_
  refine RW.op rfl rfl (eff_fieldAddr rfl rfl tf25_0 (by decide) rfl rfl rfl (Nat.le_of_ble_eq_true rfl)) ?_
  refine RW.op rfl rfl (eff_load (y := .t _) rfl rfl ti3 rfl (.one rfl rfl rfl rfl)) ?_
  refine RW.op rfl rfl (eff_fieldAddr rfl rfl tf25_0 (by decide) rfl rfl rfl (Nat.le_of_ble_eq_true rfl)) ?_
  refine RW.op rfl rfl (eff_load (y := .t _) rfl rfl ti3 rfl (.one rfl rfl rfl rfl)) ?_
  refine RW.op rfl rfl (eff_iop rfl rfl rfl rfl (iadd (by omega))) ?_
  refine RW.op rfl rfl (eff_fieldAddr rfl rfl tf25_1 (by decide) rfl rfl rfl (Nat.le_of_ble_eq_true rfl)) ?_
  refine RW.op rfl rfl (eff_load (y := .t _) rfl rfl ti3 rfl (.one rfl rfl rfl rfl)) ?_
  refine RW.op rfl rfl (eff_fieldAddr rfl rfl tf25_1 (by decide) rfl rfl rfl (Nat.le_of_ble_eq_true rfl)) ?_
  refine RW.op rfl rfl (eff_load (y := .t _) rfl rfl ti3 rfl (.one rfl rfl rfl rfl)) ?_
  refine RW.op rfl rfl (eff_iop rfl rfl rfl rfl (iadd (by omega))) ?_
  refine RW.op rfl rfl (eff_fieldAddr rfl rfl tf25_2 (by decide) rfl rfl rfl (Nat.le_of_ble_eq_true rfl)) ?_
  refine RW.op rfl rfl (eff_load (y := .t _) rfl rfl ti3 rfl (.one rfl rfl rfl rfl)) ?_
  refine RW.op rfl rfl (eff_fieldAddr rfl rfl tf25_2 (by decide) rfl rfl rfl (Nat.le_of_ble_eq_true rfl)) ?_
  refine RW.op rfl rfl (eff_load (y := .t _) rfl rfl ti3 rfl (.one rfl rfl rfl rfl)) ?_
  refine RW.op rfl rfl (eff_iop rfl rfl rfl rfl (iadd (by omega))) ?_
  refine RW.op rfl rfl (eff_buildT (ys := [_, _, _]) rfl rfl tz25 tg25 rfl) ?_
  refine RW.store rfl rfl (eff_storeW (v := .t _) (els := [_]) (els' := [_]) rfl rfl ti25 rfl rfl rfl rfl rfl rfl rfl rfl rfl) ?_
  refine RW.nil ?_
  refine awp_ret ?_
  first
    | exact ⟨Or.inr rfl, [_], ⟨.cell rfl ti25 (.whole rfl rfl rfl rfl rfl rfl) (.t _), trivial⟩, .refl _⟩
    | exact ⟨Or.inr rfl, [_], ⟨.cell rfl ti25 (.whole rfl rfl rfl rfl rfl rfl) (.t _), trivial⟩, (by repeat' first | exact trivial | exact Wk.refl _ | exact Wk.sl _ | refine And.intro ?_ ?_ | refine Wk.tupP ?_ | refine Wk.aggP ?_)⟩

theorem minus18_ret (x y : Purse) (hx : near 1000000000000000 x) (hy : near 1000000000000000 y) : Ret Try.prog 18 [encP x, encP y] (.tup [encP (minus x y).1, .bool (minus x y).2]) := by
  unfold near at hx hy
  refine ret_of_awp Try.func18 rfl (Nat.le_of_ble_eq_true rfl) ?_
  refine awp_seq ?_
  refine awp_rw rfl ?_
  refine RW.new rfl rfl (eff_boxK (v := .t _) (k := 3) (id := 2) rfl rfl rfl rfl rfl rfl) ?_
  refine RW.new rfl rfl (eff_boxK (v := .t _) (k := 3) (id := 3) rfl rfl rfl rfl rfl rfl) ?_
  refine RW.new rfl rfl (eff_allocK (k := 3) (id := 4) rfl rfl tz25 rfl rfl) ?_
  refine RW.op rfl rfl (eff_assign (v := .t _) rfl rfl rfl) ?_
  refine RW.nil ?_
  refine awp_seq ?_
  refine awp_seq ?_
  refine awp_rw rfl ?_
  refine RW.op rfl rfl (eff_fieldAddr rfl rfl tf25_0 (by decide) rfl rfl rfl (Nat.le_of_ble_eq_true rfl)) ?_
  refine RW.op rfl rfl (eff_load (y := .t _) rfl rfl ti3 rfl (.one rfl rfl rfl rfl)) ?_
  refine RW.op rfl rfl (eff_fieldAddr rfl rfl tf25_0 (by decide) rfl rfl rfl (Nat.le_of_ble_eq_true rfl)) ?_
  refine RW.op rfl rfl (eff_load (y := .t _) rfl rfl ti3 rfl (.one rfl rfl rfl rfl)) ?_
  refine RW.op rfl rfl (eff_iop rfl rfl rfl rfl rfl) ?_
  refine RW.op rfl rfl (eff_move (v := .t _) rfl rfl rfl) ?_
  refine RW.split 11 rfl (fun h1 => ?_) (fun h1 => ?_)
  · try simp only [decide_eq_true_eq, decide_eq_false_iff_not, beq_iff_eq, bne_iff_ne, bne_eq_false_iff_eq, beq_eq_false_iff_ne, Bool.not_eq_true, Bool.not_eq_false, Bool.not_eq_true', Bool.not_eq_false', ne_eq] at h1
    refine RW.gskip rfl rfl rfl rfl rfl (by decide) ?_
    refine RW.gskip rfl rfl rfl rfl rfl (by decide) ?_
    refine RW.gskip rfl rfl rfl rfl rfl (by decide) ?_
    refine RW.gskip rfl rfl rfl rfl rfl (by decide) ?_
    refine RW.gskip rfl rfl rfl rfl rfl (by decide) ?_
    refine RW.op rfl rfl (eff_pick (v := .t _) rfl rfl rfl rfl) ?_
    refine RW.op rfl rfl (eff_move (v := .t _) rfl rfl rfl) ?_
    refine RW.gskip rfl rfl rfl rfl rfl (by decide) ?_
    refine RW.gskip rfl rfl rfl rfl rfl (by decide) ?_
    refine RW.gskip rfl rfl rfl rfl rfl (by decide) ?_
    refine RW.gskip rfl rfl rfl rfl rfl (by decide) ?_
    refine RW.gskip rfl rfl rfl rfl rfl (by decide) ?_
    refine RW.op rfl rfl (eff_pick (v := .t _) rfl rfl rfl rfl) ?_
    refine RW.nil ?_
    refine awp_cond rfl (fun _ => ?_) (fun h => nomatch h)
    refine awp_seq ?_
    refine awp_rw rfl ?_
    refine RW.op rfl rfl (eff_buildT (ys := [_, _, _]) rfl rfl tz25 tg25 rfl) ?_
    refine RW.store rfl rfl (eff_storeW (v := .t _) (els := [_]) (els' := [_]) rfl rfl ti25 rfl rfl rfl rfl rfl rfl rfl rfl rfl) ?_
    refine RW.op rfl rfl (eff_assign (v := .t _) rfl rfl rfl) ?_
    refine RW.nil ?_
    refine awp_ret ?_
    rcases Classical.em (cov x y) with hcv | hcv
    · rw [minus_t hcv]
      unfold cov at hcv
      first
        | omega
        | (exact ⟨Or.inr rfl, [_, _], ⟨.cell rfl ti25 (.whole rfl rfl rfl rfl rfl rfl) (.t _), .tmp (.t _), trivial⟩, .refl _⟩)
    · rw [minus_f hcv]
      unfold cov at hcv
      first
        | omega
        | (exact ⟨Or.inr rfl, [_, _], ⟨.cell rfl ti25 (.whole rfl rfl rfl rfl rfl rfl) (.t _), .tmp (.t _), trivial⟩, .refl _⟩)
  · try simp only [decide_eq_true_eq, decide_eq_false_iff_not, beq_iff_eq, bne_iff_ne, bne_eq_false_iff_eq, beq_eq_false_iff_ne, Bool.not_eq_true, Bool.not_eq_false, Bool.not_eq_true', Bool.not_eq_false', ne_eq] at h1
    refine RW.gop rfl rfl rfl rfl rfl rfl (eff_fieldAddr rfl rfl tf25_1 (by decide) rfl rfl rfl (Nat.le_of_ble_eq_true rfl)) ?_
    refine RW.gop rfl rfl rfl rfl rfl rfl (eff_load (y := .t _) rfl rfl ti3 rfl (.one rfl rfl rfl rfl)) ?_
    refine RW.gop rfl rfl rfl rfl rfl rfl (eff_fieldAddr rfl rfl tf25_1 (by decide) rfl rfl rfl (Nat.le_of_ble_eq_true rfl)) ?_
    refine RW.gop rfl rfl rfl rfl rfl rfl (eff_load (y := .t _) rfl rfl ti3 rfl (.one rfl rfl rfl rfl)) ?_
    refine RW.gop rfl rfl rfl rfl rfl rfl (eff_iop rfl rfl rfl rfl rfl) ?_
    refine RW.op rfl rfl (eff_pick (v := .t _) rfl rfl rfl rfl) ?_
    refine RW.op rfl rfl (eff_move (v := .t _) rfl rfl rfl) ?_
    refine RW.split 18 rfl (fun h2 => ?_) (fun h2 => ?_)
    · try simp only [decide_eq_true_eq, decide_eq_false_iff_not, beq_iff_eq, bne_iff_ne, bne_eq_false_iff_eq, beq_eq_false_iff_ne, Bool.not_eq_true, Bool.not_eq_false, Bool.not_eq_true', Bool.not_eq_false', ne_eq] at h2
      refine RW.gskip rfl rfl rfl rfl rfl (by decide) ?_
      refine RW.gskip rfl rfl rfl rfl rfl (by decide) ?_
      refine RW.gskip rfl rfl rfl rfl rfl (by decide) ?_
      refine RW.gskip rfl rfl rfl rfl rfl (by decide) ?_
      refine RW.gskip rfl rfl rfl rfl rfl (by decide) ?_
      refine RW.op rfl rfl (eff_pick (v := .t _) rfl rfl rfl rfl) ?_
      refine RW.nil ?_
      refine awp_cond rfl (fun _ => ?_) (fun h => nomatch h)
      refine awp_seq ?_
      refine awp_rw rfl ?_
      refine RW.op rfl rfl (eff_buildT (ys := [_, _, _]) rfl rfl tz25 tg25 rfl) ?_
      refine RW.store rfl rfl (eff_storeW (v := .t _) (els := [_]) (els' := [_]) rfl rfl ti25 rfl rfl rfl rfl rfl rfl rfl rfl rfl) ?_
      refine RW.op rfl rfl (eff_assign (v := .t _) rfl rfl rfl) ?_
      refine RW.nil ?_
      refine awp_ret ?_
      rcases Classical.em (cov x y) with hcv | hcv
      · rw [minus_t hcv]
        unfold cov at hcv
        first
          | omega
          | (exact ⟨Or.inr rfl, [_, _], ⟨.cell rfl ti25 (.whole rfl rfl rfl rfl rfl rfl) (.t _), .tmp (.t _), trivial⟩, .refl _⟩)
      · rw [minus_f hcv]
        unfold cov at hcv
        first
          | omega
          | (exact ⟨Or.inr rfl, [_, _], ⟨.cell rfl ti25 (.whole rfl rfl rfl rfl rfl rfl) (.t _), .tmp (.t _), trivial⟩, .refl _⟩)
    · try simp only [decide_eq_true_eq, decide_eq_false_iff_not, beq_iff_eq, bne_iff_ne, bne_eq_false_iff_eq, beq_eq_false_iff_ne, Bool.not_eq_true, Bool.not_eq_false, Bool.not_eq_true', Bool.not_eq_false', ne_eq] at h2
      refine RW.gop rfl rfl rfl rfl rfl rfl (eff_fieldAddr rfl rfl tf25_2 (by decide) rfl rfl rfl (Nat.le_of_ble_eq_true rfl)) ?_
      refine RW.gop rfl rfl rfl rfl rfl rfl (eff_load (y := .t _) rfl rfl ti3 rfl (.one rfl rfl rfl rfl)) ?_
      refine RW.gop rfl rfl rfl rfl rfl rfl (eff_fieldAddr rfl rfl tf25_2 (by decide) rfl rfl rfl (Nat.le_of_ble_eq_true rfl)) ?_
      refine RW.gop rfl rfl rfl rfl rfl rfl (eff_load (y := .t _) rfl rfl ti3 rfl (.one rfl rfl rfl rfl)) ?_
      refine RW.gop rfl rfl rfl rfl rfl rfl (eff_iop rfl rfl rfl rfl rfl) ?_
      refine RW.op rfl rfl (eff_pick (v := .t _) rfl rfl rfl rfl) ?_
      refine RW.nil ?_
      refine awp_cond rfl (fun h3 => ?_) (fun h3 => ?_)
      · try simp only [decide_eq_true_eq, decide_eq_false_iff_not, beq_iff_eq, bne_iff_ne, bne_eq_false_iff_eq, beq_eq_false_iff_ne, Bool.not_eq_true, Bool.not_eq_false, Bool.not_eq_true', Bool.not_eq_false', ne_eq] at h3
        refine awp_seq ?_
        refine awp_rw rfl ?_
        refine RW.op rfl rfl (eff_buildT (ys := [_, _, _]) rfl rfl tz25 tg25 rfl) ?_
        refine RW.store rfl rfl (eff_storeW (v := .t _) (els := [_]) (els' := [_]) rfl rfl ti25 rfl rfl rfl rfl rfl rfl rfl rfl rfl) ?_
        refine RW.op rfl rfl (eff_assign (v := .t _) rfl rfl rfl) ?_
        refine RW.nil ?_
        refine awp_ret ?_
        rcases Classical.em (cov x y) with hcv | hcv
        · rw [minus_t hcv]
          unfold cov at hcv
          first
            | omega
            | (exact ⟨Or.inr rfl, [_, _], ⟨.cell rfl ti25 (.whole rfl rfl rfl rfl rfl rfl) (.t _), .tmp (.t _), trivial⟩, .refl _⟩)
        · rw [minus_f hcv]
          unfold cov at hcv
          first
            | omega
            | (exact ⟨Or.inr rfl, [_, _], ⟨.cell rfl ti25 (.whole rfl rfl rfl rfl rfl rfl) (.t _), .tmp (.t _), trivial⟩, .refl _⟩)
      · try simp only [decide_eq_true_eq, decide_eq_false_iff_not, beq_iff_eq, bne_iff_ne, bne_eq_false_iff_eq, beq_eq_false_iff_ne, Bool.not_eq_true, Bool.not_eq_false, Bool.not_eq_true', Bool.not_eq_false', ne_eq] at h3
        refine awp_skip ?_
        refine awp_seq ?_
        refine awp_rw rfl ?_
        refine RW.op rfl rfl (eff_fieldAddr rfl rfl tf25_0 (by decide) rfl rfl rfl (Nat.le_of_ble_eq_true rfl)) ?_
        refine RW.op rfl rfl (eff_load (y := .t _) rfl rfl ti3 rfl (.one rfl rfl rfl rfl)) ?_
        refine RW.op rfl rfl (eff_fieldAddr rfl rfl tf25_0 (by decide) rfl rfl rfl (Nat.le_of_ble_eq_true rfl)) ?_
        refine RW.op rfl rfl (eff_load (y := .t _) rfl rfl ti3 rfl (.one rfl rfl rfl rfl)) ?_
        refine RW.op rfl rfl (eff_iop rfl rfl rfl rfl (isub (by omega))) ?_
        refine RW.op rfl rfl (eff_fieldAddr rfl rfl tf25_1 (by decide) rfl rfl rfl (Nat.le_of_ble_eq_true rfl)) ?_
        refine RW.op rfl rfl (eff_load (y := .t _) rfl rfl ti3 rfl (.one rfl rfl rfl rfl)) ?_
        refine RW.op rfl rfl (eff_fieldAddr rfl rfl tf25_1 (by decide) rfl rfl rfl (Nat.le_of_ble_eq_true rfl)) ?_
        refine RW.op rfl rfl (eff_load (y := .t _) rfl rfl ti3 rfl (.one rfl rfl rfl rfl)) ?_
        refine RW.op rfl rfl (eff_iop rfl rfl rfl rfl (isub (by omega))) ?_
        refine RW.op rfl rfl (eff_fieldAddr rfl rfl tf25_2 (by decide) rfl rfl rfl (Nat.le_of_ble_eq_true rfl)) ?_
        refine RW.op rfl rfl (eff_load (y := .t _) rfl rfl ti3 rfl (.one rfl rfl rfl rfl)) ?_
        refine RW.op rfl rfl (eff_fieldAddr rfl rfl tf25_2 (by decide) rfl rfl rfl (Nat.le_of_ble_eq_true rfl)) ?_
        refine RW.op rfl rfl (eff_load (y := .t _) rfl rfl ti3 rfl (.one rfl rfl rfl rfl)) ?_
        refine RW.op rfl rfl (eff_iop rfl rfl rfl rfl (isub (by omega))) ?_
        refine RW.op rfl rfl (eff_buildT (ys := [_, _, _]) rfl rfl tz25 tg25 rfl) ?_
        refine RW.store rfl rfl (eff_storeW (v := .t _) (els := [_]) (els' := [_]) rfl rfl ti25 rfl rfl rfl rfl rfl rfl rfl rfl rfl) ?_
        refine RW.op rfl rfl (eff_assign (v := .t _) rfl rfl rfl) ?_
        refine RW.nil ?_
        refine awp_ret ?_
        rcases Classical.em (cov x y) with hcv | hcv
        · rw [minus_t hcv]
          unfold cov at hcv
          first
            | omega
            | (exact ⟨Or.inr rfl, [_, _], ⟨.cell rfl ti25 (.whole rfl rfl rfl rfl rfl rfl) (.t _), .tmp (.t _), trivial⟩, .refl _⟩)
        · rw [minus_f hcv]
          unfold cov at hcv
          first
            | omega
            | (exact ⟨Or.inr rfl, [_, _], ⟨.cell rfl ti25 (.whole rfl rfl rfl rfl rfl rfl) (.t _), .tmp (.t _), trivial⟩, .refl _⟩)

theorem less_ret (x y : Purse) : Ret Try.prog 25 [encP x, encP y] (.bool (decide (cov y x))) := by
  refine ret_of_awp Try.func25 rfl (Nat.le_of_ble_eq_true rfl) ?_
  refine awp_seq ?_
  refine awp_rw rfl ?_
  refine RW.new rfl rfl (eff_boxK (v := .t _) (k := 3) (id := 2) rfl rfl rfl rfl rfl rfl) ?_
  refine RW.new rfl rfl (eff_boxK (v := .t _) (k := 3) (id := 3) rfl rfl rfl rfl rfl rfl) ?_
  refine RW.op rfl rfl (eff_assign (v := .t _) rfl rfl rfl) ?_
  refine RW.nil ?_
  refine awp_seq ?_
  refine awp_rw rfl ?_
  refine RW.op rfl rfl (eff_fieldAddr rfl rfl tf25_0 (by decide) rfl rfl rfl (Nat.le_of_ble_eq_true rfl)) ?_
  refine RW.op rfl rfl (eff_load (y := .t _) rfl rfl ti3 rfl (.one rfl rfl rfl rfl)) ?_
  refine RW.op rfl rfl (eff_fieldAddr rfl rfl tf25_0 (by decide) rfl rfl rfl (Nat.le_of_ble_eq_true rfl)) ?_
  refine RW.op rfl rfl (eff_load (y := .t _) rfl rfl ti3 rfl (.one rfl rfl rfl rfl)) ?_
  refine RW.op rfl rfl (eff_iop rfl rfl rfl rfl rfl) ?_
  refine RW.op rfl rfl (eff_move (v := .t _) rfl rfl rfl) ?_
  refine RW.split 10 rfl (fun h1 => ?_) (fun h1 => ?_)
  · try simp only [decide_eq_true_eq, decide_eq_false_iff_not, beq_iff_eq, bne_iff_ne, bne_eq_false_iff_eq, beq_eq_false_iff_ne, Bool.not_eq_true, Bool.not_eq_false, Bool.not_eq_true', Bool.not_eq_false', ne_eq] at h1
    refine RW.gop rfl rfl rfl rfl rfl rfl (eff_fieldAddr rfl rfl tf25_1 (by decide) rfl rfl rfl (Nat.le_of_ble_eq_true rfl)) ?_
    refine RW.gop rfl rfl rfl rfl rfl rfl (eff_load (y := .t _) rfl rfl ti3 rfl (.one rfl rfl rfl rfl)) ?_
    refine RW.gop rfl rfl rfl rfl rfl rfl (eff_fieldAddr rfl rfl tf25_1 (by decide) rfl rfl rfl (Nat.le_of_ble_eq_true rfl)) ?_
    refine RW.gop rfl rfl rfl rfl rfl rfl (eff_load (y := .t _) rfl rfl ti3 rfl (.one rfl rfl rfl rfl)) ?_
    refine RW.gop rfl rfl rfl rfl rfl rfl (eff_iop rfl rfl rfl rfl rfl) ?_
    refine RW.op rfl rfl (eff_pick (v := .t _) rfl rfl rfl rfl) ?_
    refine RW.op rfl rfl (eff_move (v := .t _) rfl rfl rfl) ?_
    refine RW.split 17 rfl (fun h2 => ?_) (fun h2 => ?_)
    · try simp only [decide_eq_true_eq, decide_eq_false_iff_not, beq_iff_eq, bne_iff_ne, bne_eq_false_iff_eq, beq_eq_false_iff_ne, Bool.not_eq_true, Bool.not_eq_false, Bool.not_eq_true', Bool.not_eq_false', ne_eq] at h2
      refine RW.gop rfl rfl rfl rfl rfl rfl (eff_fieldAddr rfl rfl tf25_2 (by decide) rfl rfl rfl (Nat.le_of_ble_eq_true rfl)) ?_
      refine RW.gop rfl rfl rfl rfl rfl rfl (eff_load (y := .t _) rfl rfl ti3 rfl (.one rfl rfl rfl rfl)) ?_
      refine RW.gop rfl rfl rfl rfl rfl rfl (eff_fieldAddr rfl rfl tf25_2 (by decide) rfl rfl rfl (Nat.le_of_ble_eq_true rfl)) ?_
      refine RW.gop rfl rfl rfl rfl rfl rfl (eff_load (y := .t _) rfl rfl ti3 rfl (.one rfl rfl rfl rfl)) ?_
      refine RW.gop rfl rfl rfl rfl rfl rfl (eff_iop rfl rfl rfl rfl rfl) ?_
      refine RW.op rfl rfl (eff_pick (v := .t _) rfl rfl rfl rfl) ?_
      refine RW.op rfl rfl (eff_assign (v := .t _) rfl rfl rfl) ?_
      refine RW.nil ?_
      refine awp_ret ?_
      first
        | (rw [show decide (cov y x) = false from decide_eq_false (fun h => by unfold cov at h; omega)]; exact ⟨Or.inr rfl, [_], ⟨.tmp (.t _), trivial⟩, .refl _⟩)
        | (rw [show decide (cov y x) = decide (x.d ≤ y.d) from decide_eq_decide.2 (by unfold cov; omega)]; exact ⟨Or.inr rfl, [_], ⟨.tmp (.t _), trivial⟩, .refl _⟩)
    · try simp only [decide_eq_true_eq, decide_eq_false_iff_not, beq_iff_eq, bne_iff_ne, bne_eq_false_iff_eq, beq_eq_false_iff_ne, Bool.not_eq_true, Bool.not_eq_false, Bool.not_eq_true', Bool.not_eq_false', ne_eq] at h2
      refine RW.gskip rfl rfl rfl rfl rfl (by decide) ?_
      refine RW.gskip rfl rfl rfl rfl rfl (by decide) ?_
      refine RW.gskip rfl rfl rfl rfl rfl (by decide) ?_
      refine RW.gskip rfl rfl rfl rfl rfl (by decide) ?_
      refine RW.gskip rfl rfl rfl rfl rfl (by decide) ?_
      refine RW.op rfl rfl (eff_pick (v := .t _) rfl rfl rfl rfl) ?_
      refine RW.op rfl rfl (eff_assign (v := .t _) rfl rfl rfl) ?_
      refine RW.nil ?_
      refine awp_ret ?_
      first
        | (rw [show decide (cov y x) = false from decide_eq_false (fun h => by unfold cov at h; omega)]; exact ⟨Or.inr rfl, [_], ⟨.tmp (.t _), trivial⟩, .refl _⟩)
        | (rw [show decide (cov y x) = decide (x.d ≤ y.d) from decide_eq_decide.2 (by unfold cov; omega)]; exact ⟨Or.inr rfl, [_], ⟨.tmp (.t _), trivial⟩, .refl _⟩)
  · try simp only [decide_eq_true_eq, decide_eq_false_iff_not, beq_iff_eq, bne_iff_ne, bne_eq_false_iff_eq, beq_eq_false_iff_ne, Bool.not_eq_true, Bool.not_eq_false, Bool.not_eq_true', Bool.not_eq_false', ne_eq] at h1
    refine RW.gskip rfl rfl rfl rfl rfl (by decide) ?_
    refine RW.gskip rfl rfl rfl rfl rfl (by decide) ?_
    refine RW.gskip rfl rfl rfl rfl rfl (by decide) ?_
    refine RW.gskip rfl rfl rfl rfl rfl (by decide) ?_
    refine RW.gskip rfl rfl rfl rfl rfl (by decide) ?_
    refine RW.op rfl rfl (eff_pick (v := .t _) rfl rfl rfl rfl) ?_
    refine RW.op rfl rfl (eff_move (v := .t _) rfl rfl rfl) ?_
    refine RW.gskip rfl rfl rfl rfl rfl (by decide) ?_
    refine RW.gskip rfl rfl rfl rfl rfl (by decide) ?_
    refine RW.gskip rfl rfl rfl rfl rfl (by decide) ?_
    refine RW.gskip rfl rfl rfl rfl rfl (by decide) ?_
    refine RW.gskip rfl rfl rfl rfl rfl (by decide) ?_
    refine RW.op rfl rfl (eff_pick (v := .t _) rfl rfl rfl rfl) ?_
    refine RW.op rfl rfl (eff_assign (v := .t _) rfl rfl rfl) ?_
    refine RW.nil ?_
    refine awp_ret ?_
    first
      | (rw [show decide (cov y x) = false from decide_eq_false (fun h => by unfold cov at h; omega)]; exact ⟨Or.inr rfl, [_], ⟨.tmp (.t _), trivial⟩, .refl _⟩)
      | (rw [show decide (cov y x) = decide (x.d ≤ y.d) from decide_eq_decide.2 (by unfold cov; omega)]; exact ⟨Or.inr rfl, [_], ⟨.tmp (.t _), trivial⟩, .refl _⟩)

theorem purse_ret (e b d : Int) : Ret Try.prog 31 [encI e, encI b, encI d] (encP ⟨e, b, d⟩) := by
  refine ret_of_awp Try.func31 rfl (Nat.le_of_ble_eq_true rfl) ?_
  refine awp_seq ?_
  refine awp_rw rfl ?_
  refine RW.new rfl rfl (eff_allocK (k := 3) (id := 6) rfl rfl tz25 rfl rfl) ?_
  refine RW.nil ?_
  refine awp_seq ?_
  refine awp_rw rfl ?_
  refine RW.op rfl rfl (eff_move (v := .t _) rfl rfl rfl) ?_
  refine RW.op rfl rfl (eff_move (v := .t _) rfl rfl rfl) ?_
  refine RW.op rfl rfl (eff_move (v := .t _) rfl rfl rfl) ?_
  refine RW.op rfl rfl (eff_buildT (ys := [_, _, _]) rfl rfl tz25 tg25 rfl) ?_
  refine RW.store rfl rfl (eff_storeW (v := .t _) (els := [_]) (els' := [_]) rfl rfl ti25 rfl rfl rfl rfl rfl rfl rfl rfl rfl) ?_
  refine RW.nil ?_
  refine awp_ret ?_
  first
    | exact ⟨Or.inr rfl, [_], ⟨.cell rfl ti25 (.whole rfl rfl rfl rfl rfl rfl) (.t _), trivial⟩, .refl _⟩
    | exact ⟨Or.inr rfl, [_], ⟨.cell rfl ti25 (.whole rfl rfl rfl rfl rfl rfl) (.t _), trivial⟩, (by repeat' first | exact trivial | exact Wk.refl _ | exact Wk.sl _ | refine And.intro ?_ ?_ | refine Wk.tupP ?_ | refine Wk.aggP ?_)⟩

theorem confl34_ret (x y : Lea) : Ret Try.prog 34 [encL x, encL y] (.bool (decide (confl x y))) := by
  refine ret_of_awp Try.func34 rfl (Nat.le_of_ble_eq_true rfl) ?_
  refine awp_seq ?_
  refine awp_rw rfl ?_
  refine RW.new rfl rfl (eff_boxK (v := .t _) (k := 8) (id := 2) rfl rfl rfl rfl rfl rfl) ?_
  refine RW.new rfl rfl (eff_boxK (v := .t _) (k := 8) (id := 3) rfl rfl rfl rfl rfl rfl) ?_
  refine RW.op rfl rfl (eff_assign (v := .t _) rfl rfl rfl) ?_
  refine RW.nil ?_
  refine awp_seq ?_
  refine awp_rw rfl ?_
  refine RW.op rfl rfl (eff_fieldAddr rfl rfl tf44_2 (by decide) rfl rfl rfl (Nat.le_of_ble_eq_true rfl)) ?_
  refine RW.op rfl rfl (eff_load (y := .t _) rfl rfl ti3 rfl (.one rfl rfl rfl rfl)) ?_
  refine RW.op rfl rfl (eff_fieldAddr rfl rfl tf44_2 (by decide) rfl rfl rfl (Nat.le_of_ble_eq_true rfl)) ?_
  refine RW.op rfl rfl (eff_load (y := .t _) rfl rfl ti3 rfl (.one rfl rfl rfl rfl)) ?_
  refine RW.op rfl rfl (eff_iop rfl rfl rfl rfl rfl) ?_
  refine RW.op rfl rfl (eff_move (v := .t _) rfl rfl rfl) ?_
  refine RW.split 10 rfl (fun h1 => ?_) (fun h1 => ?_)
  · try simp only [decide_eq_true_eq, decide_eq_false_iff_not, beq_iff_eq, bne_iff_ne, bne_eq_false_iff_eq, beq_eq_false_iff_ne, Bool.not_eq_true, Bool.not_eq_false, Bool.not_eq_true', Bool.not_eq_false', ne_eq] at h1
    refine RW.gop rfl rfl rfl rfl rfl rfl (eff_fieldAddr rfl rfl tf44_3 (by decide) rfl rfl rfl (Nat.le_of_ble_eq_true rfl)) ?_
    refine RW.gop rfl rfl rfl rfl rfl rfl (eff_load (y := .t _) rfl rfl ti3 rfl (.one rfl rfl rfl rfl)) ?_
    refine RW.gop rfl rfl rfl rfl rfl rfl (eff_fieldAddr rfl rfl tf44_4 (by decide) rfl rfl rfl (Nat.le_of_ble_eq_true rfl)) ?_
    refine RW.gop rfl rfl rfl rfl rfl rfl (eff_load (y := .t _) rfl rfl ti3 rfl (.one rfl rfl rfl rfl)) ?_
    refine RW.gop rfl rfl rfl rfl rfl rfl (eff_iop rfl rfl rfl rfl rfl) ?_
    refine RW.op rfl rfl (eff_pick (v := .t _) rfl rfl rfl rfl) ?_
    refine RW.op rfl rfl (eff_move (v := .t _) rfl rfl rfl) ?_
    refine RW.split 17 rfl (fun h2 => ?_) (fun h2 => ?_)
    · try simp only [decide_eq_true_eq, decide_eq_false_iff_not, beq_iff_eq, bne_iff_ne, bne_eq_false_iff_eq, beq_eq_false_iff_ne, Bool.not_eq_true, Bool.not_eq_false, Bool.not_eq_true', Bool.not_eq_false', ne_eq] at h2
      refine RW.gop rfl rfl rfl rfl rfl rfl (eff_fieldAddr rfl rfl tf44_3 (by decide) rfl rfl rfl (Nat.le_of_ble_eq_true rfl)) ?_
      refine RW.gop rfl rfl rfl rfl rfl rfl (eff_load (y := .t _) rfl rfl ti3 rfl (.one rfl rfl rfl rfl)) ?_
      refine RW.gop rfl rfl rfl rfl rfl rfl (eff_fieldAddr rfl rfl tf44_4 (by decide) rfl rfl rfl (Nat.le_of_ble_eq_true rfl)) ?_
      refine RW.gop rfl rfl rfl rfl rfl rfl (eff_load (y := .t _) rfl rfl ti3 rfl (.one rfl rfl rfl rfl)) ?_
      refine RW.gop rfl rfl rfl rfl rfl rfl (eff_iop rfl rfl rfl rfl rfl) ?_
      refine RW.op rfl rfl (eff_pick (v := .t _) rfl rfl rfl rfl) ?_
      refine RW.op rfl rfl (eff_assign (v := .t _) rfl rfl rfl) ?_
      refine RW.nil ?_
      refine awp_ret ?_
      first
        | (rw [show decide (confl x y) = false from decide_eq_false (fun h => by unfold confl at h; omega)]; exact ⟨Or.inr rfl, [_], ⟨.tmp (.t _), trivial⟩, .refl _⟩)
        | (rw [show decide (confl x y) = decide (y.fr < x.un) from decide_eq_decide.2 (by unfold confl; omega)]; exact ⟨Or.inr rfl, [_], ⟨.tmp (.t _), trivial⟩, .refl _⟩)
    · try simp only [decide_eq_true_eq, decide_eq_false_iff_not, beq_iff_eq, bne_iff_ne, bne_eq_false_iff_eq, beq_eq_false_iff_ne, Bool.not_eq_true, Bool.not_eq_false, Bool.not_eq_true', Bool.not_eq_false', ne_eq] at h2
      refine RW.gskip rfl rfl rfl rfl rfl (by decide) ?_
      refine RW.gskip rfl rfl rfl rfl rfl (by decide) ?_
      refine RW.gskip rfl rfl rfl rfl rfl (by decide) ?_
      refine RW.gskip rfl rfl rfl rfl rfl (by decide) ?_
      refine RW.gskip rfl rfl rfl rfl rfl (by decide) ?_
      refine RW.op rfl rfl (eff_pick (v := .t _) rfl rfl rfl rfl) ?_
      refine RW.op rfl rfl (eff_assign (v := .t _) rfl rfl rfl) ?_
      refine RW.nil ?_
      refine awp_ret ?_
      first
        | (rw [show decide (confl x y) = false from decide_eq_false (fun h => by unfold confl at h; omega)]; exact ⟨Or.inr rfl, [_], ⟨.tmp (.t _), trivial⟩, .refl _⟩)
        | (rw [show decide (confl x y) = decide (y.fr < x.un) from decide_eq_decide.2 (by unfold confl; omega)]; exact ⟨Or.inr rfl, [_], ⟨.tmp (.t _), trivial⟩, .refl _⟩)
  · try simp only [decide_eq_true_eq, decide_eq_false_iff_not, beq_iff_eq, bne_iff_ne, bne_eq_false_iff_eq, beq_eq_false_iff_ne, Bool.not_eq_true, Bool.not_eq_false, Bool.not_eq_true', Bool.not_eq_false', ne_eq] at h1
    refine RW.gskip rfl rfl rfl rfl rfl (by decide) ?_
    refine RW.gskip rfl rfl rfl rfl rfl (by decide) ?_
    refine RW.gskip rfl rfl rfl rfl rfl (by decide) ?_
    refine RW.gskip rfl rfl rfl rfl rfl (by decide) ?_
    refine RW.gskip rfl rfl rfl rfl rfl (by decide) ?_
    refine RW.op rfl rfl (eff_pick (v := .t _) rfl rfl rfl rfl) ?_
    refine RW.op rfl rfl (eff_move (v := .t _) rfl rfl rfl) ?_
    refine RW.gskip rfl rfl rfl rfl rfl (by decide) ?_
    refine RW.gskip rfl rfl rfl rfl rfl (by decide) ?_
    refine RW.gskip rfl rfl rfl rfl rfl (by decide) ?_
    refine RW.gskip rfl rfl rfl rfl rfl (by decide) ?_
    refine RW.gskip rfl rfl rfl rfl rfl (by decide) ?_
    refine RW.op rfl rfl (eff_pick (v := .t _) rfl rfl rfl rfl) ?_
    refine RW.op rfl rfl (eff_assign (v := .t _) rfl rfl rfl) ?_
    refine RW.nil ?_
    refine awp_ret ?_
    first
      | (rw [show decide (confl x y) = false from decide_eq_false (fun h => by unfold confl at h; omega)]; exact ⟨Or.inr rfl, [_], ⟨.tmp (.t _), trivial⟩, .refl _⟩)
      | (rw [show decide (confl x y) = decide (y.fr < x.un) from decide_eq_decide.2 (by unfold confl; omega)]; exact ⟨Or.inr rfl, [_], ⟨.tmp (.t _), trivial⟩, .refl _⟩)

theorem confl43_ret (x y : Lea) : Ret Try.prog 43 [encL x, encL y] (.bool (decide (confl x y))) := by
  refine ret_of_awp Try.func43 rfl (Nat.le_of_ble_eq_true rfl) ?_
  refine awp_seq ?_
  refine awp_rw rfl ?_
  refine RW.new rfl rfl (eff_boxK (v := .t _) (k := 8) (id := 2) rfl rfl rfl rfl rfl rfl) ?_
  refine RW.new rfl rfl (eff_boxK (v := .t _) (k := 8) (id := 3) rfl rfl rfl rfl rfl rfl) ?_
  refine RW.op rfl rfl (eff_assign (v := .t _) rfl rfl rfl) ?_
  refine RW.nil ?_
  refine awp_seq ?_
  refine awp_rw rfl ?_
  refine RW.op rfl rfl (eff_fieldAddr rfl rfl tf44_2 (by decide) rfl rfl rfl (Nat.le_of_ble_eq_true rfl)) ?_
  refine RW.op rfl rfl (eff_load (y := .t _) rfl rfl ti3 rfl (.one rfl rfl rfl rfl)) ?_
  refine RW.op rfl rfl (eff_fieldAddr rfl rfl tf44_2 (by decide) rfl rfl rfl (Nat.le_of_ble_eq_true rfl)) ?_
  refine RW.op rfl rfl (eff_load (y := .t _) rfl rfl ti3 rfl (.one rfl rfl rfl rfl)) ?_
  refine RW.op rfl rfl (eff_iop rfl rfl rfl rfl rfl) ?_
  refine RW.op rfl rfl (eff_move (v := .t _) rfl rfl rfl) ?_
  refine RW.split 10 rfl (fun h1 => ?_) (fun h1 => ?_)
  · try simp only [decide_eq_true_eq, decide_eq_false_iff_not, beq_iff_eq, bne_iff_ne, bne_eq_false_iff_eq, beq_eq_false_iff_ne, Bool.not_eq_true, Bool.not_eq_false, Bool.not_eq_true', Bool.not_eq_false', ne_eq] at h1
    refine RW.gop rfl rfl rfl rfl rfl rfl (eff_fieldAddr rfl rfl tf44_3 (by decide) rfl rfl rfl (Nat.le_of_ble_eq_true rfl)) ?_
    refine RW.gop rfl rfl rfl rfl rfl rfl (eff_load (y := .t _) rfl rfl ti3 rfl (.one rfl rfl rfl rfl)) ?_
    refine RW.gop rfl rfl rfl rfl rfl rfl (eff_fieldAddr rfl rfl tf44_4 (by decide) rfl rfl rfl (Nat.le_of_ble_eq_true rfl)) ?_
    refine RW.gop rfl rfl rfl rfl rfl rfl (eff_load (y := .t _) rfl rfl ti3 rfl (.one rfl rfl rfl rfl)) ?_
    refine RW.gop rfl rfl rfl rfl rfl rfl (eff_iop rfl rfl rfl rfl rfl) ?_
    refine RW.op rfl rfl (eff_pick (v := .t _) rfl rfl rfl rfl) ?_
    refine RW.op rfl rfl (eff_move (v := .t _) rfl rfl rfl) ?_
    refine RW.split 17 rfl (fun h2 => ?_) (fun h2 => ?_)
    · try simp only [decide_eq_true_eq, decide_eq_false_iff_not, beq_iff_eq, bne_iff_ne, bne_eq_false_iff_eq, beq_eq_false_iff_ne, Bool.not_eq_true, Bool.not_eq_false, Bool.not_eq_true', Bool.not_eq_false', ne_eq] at h2
      refine RW.gop rfl rfl rfl rfl rfl rfl (eff_fieldAddr rfl rfl tf44_3 (by decide) rfl rfl rfl (Nat.le_of_ble_eq_true rfl)) ?_
      refine RW.gop rfl rfl rfl rfl rfl rfl (eff_load (y := .t _) rfl rfl ti3 rfl (.one rfl rfl rfl rfl)) ?_
      refine RW.gop rfl rfl rfl rfl rfl rfl (eff_fieldAddr rfl rfl tf44_4 (by decide) rfl rfl rfl (Nat.le_of_ble_eq_true rfl)) ?_
      refine RW.gop rfl rfl rfl rfl rfl rfl (eff_load (y := .t _) rfl rfl ti3 rfl (.one rfl rfl rfl rfl)) ?_
      refine RW.gop rfl rfl rfl rfl rfl rfl (eff_iop rfl rfl rfl rfl rfl) ?_
      refine RW.op rfl rfl (eff_pick (v := .t _) rfl rfl rfl rfl) ?_
      refine RW.op rfl rfl (eff_assign (v := .t _) rfl rfl rfl) ?_
      refine RW.nil ?_
      refine awp_ret ?_
      first
        | (rw [show decide (confl x y) = false from decide_eq_false (fun h => by unfold confl at h; omega)]; exact ⟨Or.inr rfl, [_], ⟨.tmp (.t _), trivial⟩, .refl _⟩)
        | (rw [show decide (confl x y) = decide (y.fr < x.un) from decide_eq_decide.2 (by unfold confl; omega)]; exact ⟨Or.inr rfl, [_], ⟨.tmp (.t _), trivial⟩, .refl _⟩)
    · try simp only [decide_eq_true_eq, decide_eq_false_iff_not, beq_iff_eq, bne_iff_ne, bne_eq_false_iff_eq, beq_eq_false_iff_ne, Bool.not_eq_true, Bool.not_eq_false, Bool.not_eq_true', Bool.not_eq_false', ne_eq] at h2
      refine RW.gskip rfl rfl rfl rfl rfl (by decide) ?_
      refine RW.gskip rfl rfl rfl rfl rfl (by decide) ?_
      refine RW.gskip rfl rfl rfl rfl rfl (by decide) ?_
      refine RW.gskip rfl rfl rfl rfl rfl (by decide) ?_
      refine RW.gskip rfl rfl rfl rfl rfl (by decide) ?_
      refine RW.op rfl rfl (eff_pick (v := .t _) rfl rfl rfl rfl) ?_
      refine RW.op rfl rfl (eff_assign (v := .t _) rfl rfl rfl) ?_
      refine RW.nil ?_
      refine awp_ret ?_
      first
        | (rw [show decide (confl x y) = false from decide_eq_false (fun h => by unfold confl at h; omega)]; exact ⟨Or.inr rfl, [_], ⟨.tmp (.t _), trivial⟩, .refl _⟩)
        | (rw [show decide (confl x y) = decide (y.fr < x.un) from decide_eq_decide.2 (by unfold confl; omega)]; exact ⟨Or.inr rfl, [_], ⟨.tmp (.t _), trivial⟩, .refl _⟩)
  · try simp only [decide_eq_true_eq, decide_eq_false_iff_not, beq_iff_eq, bne_iff_ne, bne_eq_false_iff_eq, beq_eq_false_iff_ne, Bool.not_eq_true, Bool.not_eq_false, Bool.not_eq_true', Bool.not_eq_false', ne_eq] at h1
    refine RW.gskip rfl rfl rfl rfl rfl (by decide) ?_
    refine RW.gskip rfl rfl rfl rfl rfl (by decide) ?_
    refine RW.gskip rfl rfl rfl rfl rfl (by decide) ?_
    refine RW.gskip rfl rfl rfl rfl rfl (by decide) ?_
    refine RW.gskip rfl rfl rfl rfl rfl (by decide) ?_
    refine RW.op rfl rfl (eff_pick (v := .t _) rfl rfl rfl rfl) ?_
    refine RW.op rfl rfl (eff_move (v := .t _) rfl rfl rfl) ?_
    refine RW.gskip rfl rfl rfl rfl rfl (by decide) ?_
    refine RW.gskip rfl rfl rfl rfl rfl (by decide) ?_
    refine RW.gskip rfl rfl rfl rfl rfl (by decide) ?_
    refine RW.gskip rfl rfl rfl rfl rfl (by decide) ?_
    refine RW.gskip rfl rfl rfl rfl rfl (by decide) ?_
    refine RW.op rfl rfl (eff_pick (v := .t _) rfl rfl rfl rfl) ?_
    refine RW.op rfl rfl (eff_assign (v := .t _) rfl rfl rfl) ?_
    refine RW.nil ?_
    refine awp_ret ?_
    first
      | (rw [show decide (confl x y) = false from decide_eq_false (fun h => by unfold confl at h; omega)]; exact ⟨Or.inr rfl, [_], ⟨.tmp (.t _), trivial⟩, .refl _⟩)
      | (rw [show decide (confl x y) = decide (y.fr < x.un) from decide_eq_decide.2 (by unfold confl; omega)]; exact ⟨Or.inr rfl, [_], ⟨.tmp (.t _), trivial⟩, .refl _⟩)

theorem number_ret (n : Int) : Ret Try.prog 80 [encI n] (.bool (decide (num n))) := by
  refine ret_of_awp Try.func80 rfl (Nat.le_of_ble_eq_true rfl) ?_
  refine awp_seq ?_
  refine awp_rw rfl ?_
  refine RW.op rfl rfl (eff_assign (v := .t _) rfl rfl rfl) ?_
  refine RW.nil ?_
  refine awp_seq ?_
  refine awp_rw rfl ?_
  refine RW.op rfl rfl (eff_move (v := .t _) rfl rfl rfl) ?_
  refine RW.op rfl rfl (eff_iop rfl rfl rfl rfl rfl) ?_
  refine RW.op rfl rfl (eff_move (v := .t _) rfl rfl rfl) ?_
  refine RW.split 5 rfl (fun h1 => ?_) (fun h1 => ?_)
  · try simp only [decide_eq_true_eq, decide_eq_false_iff_not, beq_iff_eq, bne_iff_ne, bne_eq_false_iff_eq, beq_eq_false_iff_ne, Bool.not_eq_true, Bool.not_eq_false, Bool.not_eq_true', Bool.not_eq_false', ne_eq] at h1
    refine RW.gop rfl rfl rfl rfl rfl rfl (eff_move (v := .t _) rfl rfl rfl) ?_
    refine RW.gop rfl rfl rfl rfl rfl rfl (eff_iop rfl rfl rfl rfl rfl) ?_
    refine RW.op rfl rfl (eff_pick (v := .t _) rfl rfl rfl rfl) ?_
    refine RW.op rfl rfl (eff_assign (v := .t _) rfl rfl rfl) ?_
    refine RW.nil ?_
    refine awp_ret ?_
    first
      | (rw [show decide (num n) = false from decide_eq_false (fun h => by unfold num at h; omega)]; exact ⟨Or.inr rfl, [_], ⟨.tmp (.t _), trivial⟩, .refl _⟩)
      | (rw [show decide (num n) = decide (n ≤ 2147483647) from decide_eq_decide.2 (by unfold num; omega)]; exact ⟨Or.inr rfl, [_], ⟨.tmp (.t _), trivial⟩, .refl _⟩)
  · try simp only [decide_eq_true_eq, decide_eq_false_iff_not, beq_iff_eq, bne_iff_ne, bne_eq_false_iff_eq, beq_eq_false_iff_ne, Bool.not_eq_true, Bool.not_eq_false, Bool.not_eq_true', Bool.not_eq_false', ne_eq] at h1
    refine RW.gskip rfl rfl rfl rfl rfl (by decide) ?_
    refine RW.gskip rfl rfl rfl rfl rfl (by decide) ?_
    refine RW.op rfl rfl (eff_pick (v := .t _) rfl rfl rfl rfl) ?_
    refine RW.op rfl rfl (eff_assign (v := .t _) rfl rfl rfl) ?_
    refine RW.nil ?_
    refine awp_ret ?_
    first
      | (rw [show decide (num n) = false from decide_eq_false (fun h => by unfold num at h; omega)]; exact ⟨Or.inr rfl, [_], ⟨.tmp (.t _), trivial⟩, .refl _⟩)
      | (rw [show decide (num n) = decide (n ≤ 2147483647) from decide_eq_decide.2 (by unfold num; omega)]; exact ⟨Or.inr rfl, [_], ⟨.tmp (.t _), trivial⟩, .refl _⟩)

theorem right_ret (p : Purse) : Ret Try.prog 60 [encP p] (.bool (decide (right p))) := by
  refine ret_of_awp Try.func60 rfl (Nat.le_of_ble_eq_true rfl) ?_
  refine awp_seq ?_
  refine awp_rw rfl ?_
  refine RW.new rfl rfl (eff_boxK (v := .t _) (k := 3) (id := 1) rfl rfl rfl rfl rfl rfl) ?_
  refine RW.op rfl rfl (eff_assign (v := .t _) rfl rfl rfl) ?_
  refine RW.nil ?_
  refine awp_seq ?_
  refine awp_rw rfl ?_
  refine RW.op rfl rfl (eff_fieldAddr rfl rfl tf25_0 (by decide) rfl rfl rfl (Nat.le_of_ble_eq_true rfl)) ?_
  refine RW.op rfl rfl (eff_load (y := .t _) rfl rfl ti3 rfl (.one rfl rfl rfl rfl)) ?_
  refine RW.op rfl rfl (eff_callT (number_ret _) co80 rfl rfl rfl rfl) ?_
  refine RW.op rfl rfl (eff_move (v := .t _) rfl rfl rfl) ?_
  refine RW.split 6 rfl (fun h1 => ?_) (fun h1 => ?_)
  · try simp only [decide_eq_true_eq, decide_eq_false_iff_not, beq_iff_eq, bne_iff_ne, bne_eq_false_iff_eq, beq_eq_false_iff_ne, Bool.not_eq_true, Bool.not_eq_false, Bool.not_eq_true', Bool.not_eq_false', ne_eq] at h1
    refine RW.gop rfl rfl rfl rfl rfl rfl (eff_fieldAddr rfl rfl tf25_1 (by decide) rfl rfl rfl (Nat.le_of_ble_eq_true rfl)) ?_
    refine RW.gop rfl rfl rfl rfl rfl rfl (eff_load (y := .t _) rfl rfl ti3 rfl (.one rfl rfl rfl rfl)) ?_
    refine RW.gop rfl rfl rfl rfl rfl rfl (eff_callT (number_ret _) co80 rfl rfl rfl rfl) ?_
    refine RW.op rfl rfl (eff_pick (v := .t _) rfl rfl rfl rfl) ?_
    refine RW.op rfl rfl (eff_move (v := .t _) rfl rfl rfl) ?_
    refine RW.split 11 rfl (fun h2 => ?_) (fun h2 => ?_)
    · try simp only [decide_eq_true_eq, decide_eq_false_iff_not, beq_iff_eq, bne_iff_ne, bne_eq_false_iff_eq, beq_eq_false_iff_ne, Bool.not_eq_true, Bool.not_eq_false, Bool.not_eq_true', Bool.not_eq_false', ne_eq] at h2
      refine RW.gop rfl rfl rfl rfl rfl rfl (eff_fieldAddr rfl rfl tf25_2 (by decide) rfl rfl rfl (Nat.le_of_ble_eq_true rfl)) ?_
      refine RW.gop rfl rfl rfl rfl rfl rfl (eff_load (y := .t _) rfl rfl ti3 rfl (.one rfl rfl rfl rfl)) ?_
      refine RW.gop rfl rfl rfl rfl rfl rfl (eff_callT (number_ret _) co80 rfl rfl rfl rfl) ?_
      refine RW.op rfl rfl (eff_pick (v := .t _) rfl rfl rfl rfl) ?_
      refine RW.op rfl rfl (eff_assign (v := .t _) rfl rfl rfl) ?_
      refine RW.nil ?_
      refine awp_ret ?_
      first
        | (rw [show decide (right p) = false from decide_eq_false (fun h => by unfold right at h; simp_all)]; exact ⟨Or.inr rfl, [_], ⟨.tmp (.t _), trivial⟩, .refl _⟩)
        | (rw [show decide (right p) = decide (num p.d) from decide_eq_decide.2 (by unfold right; simp_all)]; exact ⟨Or.inr rfl, [_], ⟨.tmp (.t _), trivial⟩, .refl _⟩)
    · try simp only [decide_eq_true_eq, decide_eq_false_iff_not, beq_iff_eq, bne_iff_ne, bne_eq_false_iff_eq, beq_eq_false_iff_ne, Bool.not_eq_true, Bool.not_eq_false, Bool.not_eq_true', Bool.not_eq_false', ne_eq] at h2
      refine RW.gskip rfl rfl rfl rfl rfl (by decide) ?_
      refine RW.gskip rfl rfl rfl rfl rfl (by decide) ?_
      refine RW.gskip rfl rfl rfl rfl rfl (by decide) ?_
      refine RW.op rfl rfl (eff_pick (v := .t _) rfl rfl rfl rfl) ?_
      refine RW.op rfl rfl (eff_assign (v := .t _) rfl rfl rfl) ?_
      refine RW.nil ?_
      refine awp_ret ?_
      first
        | (rw [show decide (right p) = false from decide_eq_false (fun h => by unfold right at h; simp_all)]; exact ⟨Or.inr rfl, [_], ⟨.tmp (.t _), trivial⟩, .refl _⟩)
        | (rw [show decide (right p) = decide (num p.d) from decide_eq_decide.2 (by unfold right; simp_all)]; exact ⟨Or.inr rfl, [_], ⟨.tmp (.t _), trivial⟩, .refl _⟩)
  · try simp only [decide_eq_true_eq, decide_eq_false_iff_not, beq_iff_eq, bne_iff_ne, bne_eq_false_iff_eq, beq_eq_false_iff_ne, Bool.not_eq_true, Bool.not_eq_false, Bool.not_eq_true', Bool.not_eq_false', ne_eq] at h1
    refine RW.gskip rfl rfl rfl rfl rfl (by decide) ?_
    refine RW.gskip rfl rfl rfl rfl rfl (by decide) ?_
    refine RW.gskip rfl rfl rfl rfl rfl (by decide) ?_
    refine RW.op rfl rfl (eff_pick (v := .t _) rfl rfl rfl rfl) ?_
    refine RW.op rfl rfl (eff_move (v := .t _) rfl rfl rfl) ?_
    refine RW.gskip rfl rfl rfl rfl rfl (by decide) ?_
    refine RW.gskip rfl rfl rfl rfl rfl (by decide) ?_
    refine RW.gskip rfl rfl rfl rfl rfl (by decide) ?_
    refine RW.op rfl rfl (eff_pick (v := .t _) rfl rfl rfl rfl) ?_
    refine RW.op rfl rfl (eff_assign (v := .t _) rfl rfl rfl) ?_
    refine RW.nil ?_
    refine awp_ret ?_
    first
      | (rw [show decide (right p) = false from decide_eq_false (fun h => by unfold right at h; simp_all)]; exact ⟨Or.inr rfl, [_], ⟨.tmp (.t _), trivial⟩, .refl _⟩)
      | (rw [show decide (right p) = decide (num p.d) from decide_eq_decide.2 (by unfold right; simp_all)]; exact ⟨Or.inr rfl, [_], ⟨.tmp (.t _), trivial⟩, .refl _⟩)

theorem formed61_ret (l : Lea) : Ret Try.prog 61 [encL l] (.bool (decide (formed l))) := by
  refine ret_of_awp Try.func61 rfl (Nat.le_of_ble_eq_true rfl) ?_
  refine awp_seq ?_
  refine awp_rw rfl ?_
  refine RW.new rfl rfl (eff_boxK (v := .t _) (k := 8) (id := 1) rfl rfl rfl rfl rfl rfl) ?_
  refine RW.op rfl rfl (eff_assign (v := .t _) rfl rfl rfl) ?_
  refine RW.nil ?_
  refine awp_seq ?_
  refine awp_rw rfl ?_
  refine RW.op rfl rfl (eff_fieldAddr rfl rfl tf44_0 (by decide) rfl rfl rfl (Nat.le_of_ble_eq_true rfl)) ?_
  refine RW.op rfl rfl (eff_load (y := .t _) rfl rfl ti3 rfl (.one rfl rfl rfl rfl)) ?_
  refine RW.op rfl rfl (eff_iop rfl rfl rfl rfl rfl) ?_
  refine RW.op rfl rfl (eff_move (v := .t _) rfl rfl rfl) ?_
  refine RW.split 6 rfl (fun h1 => ?_) (fun h1 => ?_)
  · try simp only [decide_eq_true_eq, decide_eq_false_iff_not, beq_iff_eq, bne_iff_ne, bne_eq_false_iff_eq, beq_eq_false_iff_ne, Bool.not_eq_true, Bool.not_eq_false, Bool.not_eq_true', Bool.not_eq_false', ne_eq] at h1
    refine RW.gop rfl rfl rfl rfl rfl rfl (eff_fieldAddr rfl rfl tf44_2 (by decide) rfl rfl rfl (Nat.le_of_ble_eq_true rfl)) ?_
    refine RW.gop rfl rfl rfl rfl rfl rfl (eff_load (y := .t _) rfl rfl ti3 rfl (.one rfl rfl rfl rfl)) ?_
    refine RW.gop rfl rfl rfl rfl rfl rfl (eff_iop rfl rfl rfl rfl rfl) ?_
    refine RW.op rfl rfl (eff_pick (v := .t _) rfl rfl rfl rfl) ?_
    refine RW.op rfl rfl (eff_move (v := .t _) rfl rfl rfl) ?_
    refine RW.split 11 rfl (fun h2 => ?_) (fun h2 => ?_)
    · try simp only [decide_eq_true_eq, decide_eq_false_iff_not, beq_iff_eq, bne_iff_ne, bne_eq_false_iff_eq, beq_eq_false_iff_ne, Bool.not_eq_true, Bool.not_eq_false, Bool.not_eq_true', Bool.not_eq_false', ne_eq] at h2
      refine RW.gop rfl rfl rfl rfl rfl rfl (eff_fieldAddr rfl rfl tf44_2 (by decide) rfl rfl rfl (Nat.le_of_ble_eq_true rfl)) ?_
      refine RW.gop rfl rfl rfl rfl rfl rfl (eff_load (y := .t _) rfl rfl ti3 rfl (.one rfl rfl rfl rfl)) ?_
      refine RW.gop rfl rfl rfl rfl rfl rfl (eff_iop rfl rfl rfl rfl rfl) ?_
      refine RW.op rfl rfl (eff_pick (v := .t _) rfl rfl rfl rfl) ?_
      refine RW.op rfl rfl (eff_move (v := .t _) rfl rfl rfl) ?_
      refine RW.split 16 rfl (fun h3 => ?_) (fun h3 => ?_)
      · try simp only [decide_eq_true_eq, decide_eq_false_iff_not, beq_iff_eq, bne_iff_ne, bne_eq_false_iff_eq, beq_eq_false_iff_ne, Bool.not_eq_true, Bool.not_eq_false, Bool.not_eq_true', Bool.not_eq_false', ne_eq] at h3
        refine RW.gop rfl rfl rfl rfl rfl rfl (eff_fieldAddr rfl rfl tf44_3 (by decide) rfl rfl rfl (Nat.le_of_ble_eq_true rfl)) ?_
        refine RW.gop rfl rfl rfl rfl rfl rfl (eff_load (y := .t _) rfl rfl ti3 rfl (.one rfl rfl rfl rfl)) ?_
        refine RW.gop rfl rfl rfl rfl rfl rfl (eff_iop rfl rfl rfl rfl rfl) ?_
        refine RW.op rfl rfl (eff_pick (v := .t _) rfl rfl rfl rfl) ?_
        refine RW.op rfl rfl (eff_move (v := .t _) rfl rfl rfl) ?_
        refine RW.split 21 rfl (fun h4 => ?_) (fun h4 => ?_)
        · try simp only [decide_eq_true_eq, decide_eq_false_iff_not, beq_iff_eq, bne_iff_ne, bne_eq_false_iff_eq, beq_eq_false_iff_ne, Bool.not_eq_true, Bool.not_eq_false, Bool.not_eq_true', Bool.not_eq_false', ne_eq] at h4
          refine RW.gop rfl rfl rfl rfl rfl rfl (eff_fieldAddr rfl rfl tf44_3 (by decide) rfl rfl rfl (Nat.le_of_ble_eq_true rfl)) ?_
          refine RW.gop rfl rfl rfl rfl rfl rfl (eff_load (y := .t _) rfl rfl ti3 rfl (.one rfl rfl rfl rfl)) ?_
          refine RW.gop rfl rfl rfl rfl rfl rfl (eff_fieldAddr rfl rfl tf44_4 (by decide) rfl rfl rfl (Nat.le_of_ble_eq_true rfl)) ?_
          refine RW.gop rfl rfl rfl rfl rfl rfl (eff_load (y := .t _) rfl rfl ti3 rfl (.one rfl rfl rfl rfl)) ?_
          refine RW.gop rfl rfl rfl rfl rfl rfl (eff_iop rfl rfl rfl rfl rfl) ?_
          refine RW.op rfl rfl (eff_pick (v := .t _) rfl rfl rfl rfl) ?_
          refine RW.op rfl rfl (eff_move (v := .t _) rfl rfl rfl) ?_
          refine RW.split 28 rfl (fun h5 => ?_) (fun h5 => ?_)
          · try simp only [decide_eq_true_eq, decide_eq_false_iff_not, beq_iff_eq, bne_iff_ne, bne_eq_false_iff_eq, beq_eq_false_iff_ne, Bool.not_eq_true, Bool.not_eq_false, Bool.not_eq_true', Bool.not_eq_false', ne_eq] at h5
            refine RW.gop rfl rfl rfl rfl rfl rfl (eff_fieldAddr rfl rfl tf44_4 (by decide) rfl rfl rfl (Nat.le_of_ble_eq_true rfl)) ?_
            refine RW.gop rfl rfl rfl rfl rfl rfl (eff_load (y := .t _) rfl rfl ti3 rfl (.one rfl rfl rfl rfl)) ?_
            refine RW.gop rfl rfl rfl rfl rfl rfl (eff_iop rfl rfl rfl rfl rfl) ?_
            refine RW.op rfl rfl (eff_pick (v := .t _) rfl rfl rfl rfl) ?_
            refine RW.op rfl rfl (eff_move (v := .t _) rfl rfl rfl) ?_
            refine RW.split 33 rfl (fun h6 => ?_) (fun h6 => ?_)
            · try simp only [decide_eq_true_eq, decide_eq_false_iff_not, beq_iff_eq, bne_iff_ne, bne_eq_false_iff_eq, beq_eq_false_iff_ne, Bool.not_eq_true, Bool.not_eq_false, Bool.not_eq_true', Bool.not_eq_false', ne_eq] at h6
              refine RW.gop rfl rfl rfl rfl rfl rfl (eff_fieldAddr rfl rfl tf44_5 (by decide) rfl rfl rfl (Nat.le_of_ble_eq_true rfl)) ?_
              refine RW.gop rfl rfl rfl rfl rfl rfl (eff_loadS (ys := [_, _, _]) rfl rfl ti25 rfl rfl rfl rfl rfl rfl) ?_
              refine RW.gop rfl rfl rfl rfl rfl rfl (eff_callT (right_ret _) co60 rfl rfl rfl rfl) ?_
              refine RW.op rfl rfl (eff_pick (v := .t _) rfl rfl rfl rfl) ?_
              refine RW.op rfl rfl (eff_assign (v := .t _) rfl rfl rfl) ?_
              refine RW.nil ?_
              refine awp_ret ?_
              first
                | (rw [show decide (formed l) = false from decide_eq_false (fun h => by unfold formed at h; omega)]; exact ⟨Or.inr rfl, [_], ⟨.tmp (.t _), trivial⟩, .refl _⟩)
                | (rw [show decide (formed l) = decide (right l.h) from decide_eq_decide.2 (⟨fun h => h.2.2.2.2.2.2, fun h => ⟨by omega, by omega, by omega, by omega, by omega, by omega, h⟩⟩)]; exact ⟨Or.inr rfl, [_], ⟨.tmp (.t _), trivial⟩, .refl _⟩)
            · try simp only [decide_eq_true_eq, decide_eq_false_iff_not, beq_iff_eq, bne_iff_ne, bne_eq_false_iff_eq, beq_eq_false_iff_ne, Bool.not_eq_true, Bool.not_eq_false, Bool.not_eq_true', Bool.not_eq_false', ne_eq] at h6
              refine RW.gskip rfl rfl rfl rfl rfl (by decide) ?_
              refine RW.gskip rfl rfl rfl rfl rfl (by decide) ?_
              refine RW.gskip rfl rfl rfl rfl rfl (by decide) ?_
              refine RW.op rfl rfl (eff_pick (v := .t _) rfl rfl rfl rfl) ?_
              refine RW.op rfl rfl (eff_assign (v := .t _) rfl rfl rfl) ?_
              refine RW.nil ?_
              refine awp_ret ?_
              first
                | (rw [show decide (formed l) = false from decide_eq_false (fun h => by unfold formed at h; omega)]; exact ⟨Or.inr rfl, [_], ⟨.tmp (.t _), trivial⟩, .refl _⟩)
                | (rw [show decide (formed l) = decide (right l.h) from decide_eq_decide.2 (⟨fun h => h.2.2.2.2.2.2, fun h => ⟨by omega, by omega, by omega, by omega, by omega, by omega, h⟩⟩)]; exact ⟨Or.inr rfl, [_], ⟨.tmp (.t _), trivial⟩, .refl _⟩)
          · try simp only [decide_eq_true_eq, decide_eq_false_iff_not, beq_iff_eq, bne_iff_ne, bne_eq_false_iff_eq, beq_eq_false_iff_ne, Bool.not_eq_true, Bool.not_eq_false, Bool.not_eq_true', Bool.not_eq_false', ne_eq] at h5
            refine RW.gskip rfl rfl rfl rfl rfl (by decide) ?_
            refine RW.gskip rfl rfl rfl rfl rfl (by decide) ?_
            refine RW.gskip rfl rfl rfl rfl rfl (by decide) ?_
            refine RW.op rfl rfl (eff_pick (v := .t _) rfl rfl rfl rfl) ?_
            refine RW.op rfl rfl (eff_move (v := .t _) rfl rfl rfl) ?_
            refine RW.gskip rfl rfl rfl rfl rfl (by decide) ?_
            refine RW.gskip rfl rfl rfl rfl rfl (by decide) ?_
            refine RW.gskip rfl rfl rfl rfl rfl (by decide) ?_
            refine RW.op rfl rfl (eff_pick (v := .t _) rfl rfl rfl rfl) ?_
            refine RW.op rfl rfl (eff_assign (v := .t _) rfl rfl rfl) ?_
            refine RW.nil ?_
            refine awp_ret ?_
            first
              | (rw [show decide (formed l) = false from decide_eq_false (fun h => by unfold formed at h; omega)]; exact ⟨Or.inr rfl, [_], ⟨.tmp (.t _), trivial⟩, .refl _⟩)
              | (rw [show decide (formed l) = decide (right l.h) from decide_eq_decide.2 (⟨fun h => h.2.2.2.2.2.2, fun h => ⟨by omega, by omega, by omega, by omega, by omega, by omega, h⟩⟩)]; exact ⟨Or.inr rfl, [_], ⟨.tmp (.t _), trivial⟩, .refl _⟩)
        · try simp only [decide_eq_true_eq, decide_eq_false_iff_not, beq_iff_eq, bne_iff_ne, bne_eq_false_iff_eq, beq_eq_false_iff_ne, Bool.not_eq_true, Bool.not_eq_false, Bool.not_eq_true', Bool.not_eq_false', ne_eq] at h4
          refine RW.gskip rfl rfl rfl rfl rfl (by decide) ?_
          refine RW.gskip rfl rfl rfl rfl rfl (by decide) ?_
          refine RW.gskip rfl rfl rfl rfl rfl (by decide) ?_
          refine RW.gskip rfl rfl rfl rfl rfl (by decide) ?_
          refine RW.gskip rfl rfl rfl rfl rfl (by decide) ?_
          refine RW.op rfl rfl (eff_pick (v := .t _) rfl rfl rfl rfl) ?_
          refine RW.op rfl rfl (eff_move (v := .t _) rfl rfl rfl) ?_
          refine RW.gskip rfl rfl rfl rfl rfl (by decide) ?_
          refine RW.gskip rfl rfl rfl rfl rfl (by decide) ?_
          refine RW.gskip rfl rfl rfl rfl rfl (by decide) ?_
          refine RW.op rfl rfl (eff_pick (v := .t _) rfl rfl rfl rfl) ?_
          refine RW.op rfl rfl (eff_move (v := .t _) rfl rfl rfl) ?_
          refine RW.gskip rfl rfl rfl rfl rfl (by decide) ?_
          refine RW.gskip rfl rfl rfl rfl rfl (by decide) ?_
          refine RW.gskip rfl rfl rfl rfl rfl (by decide) ?_
          refine RW.op rfl rfl (eff_pick (v := .t _) rfl rfl rfl rfl) ?_
          refine RW.op rfl rfl (eff_assign (v := .t _) rfl rfl rfl) ?_
          refine RW.nil ?_
          refine awp_ret ?_
          first
            | (rw [show decide (formed l) = false from decide_eq_false (fun h => by unfold formed at h; omega)]; exact ⟨Or.inr rfl, [_], ⟨.tmp (.t _), trivial⟩, .refl _⟩)
            | (rw [show decide (formed l) = decide (right l.h) from decide_eq_decide.2 (⟨fun h => h.2.2.2.2.2.2, fun h => ⟨by omega, by omega, by omega, by omega, by omega, by omega, h⟩⟩)]; exact ⟨Or.inr rfl, [_], ⟨.tmp (.t _), trivial⟩, .refl _⟩)
      · try simp only [decide_eq_true_eq, decide_eq_false_iff_not, beq_iff_eq, bne_iff_ne, bne_eq_false_iff_eq, beq_eq_false_iff_ne, Bool.not_eq_true, Bool.not_eq_false, Bool.not_eq_true', Bool.not_eq_false', ne_eq] at h3
        refine RW.gskip rfl rfl rfl rfl rfl (by decide) ?_
        refine RW.gskip rfl rfl rfl rfl rfl (by decide) ?_
        refine RW.gskip rfl rfl rfl rfl rfl (by decide) ?_
        refine RW.op rfl rfl (eff_pick (v := .t _) rfl rfl rfl rfl) ?_
        refine RW.op rfl rfl (eff_move (v := .t _) rfl rfl rfl) ?_
        refine RW.gskip rfl rfl rfl rfl rfl (by decide) ?_
        refine RW.gskip rfl rfl rfl rfl rfl (by decide) ?_
        refine RW.gskip rfl rfl rfl rfl rfl (by decide) ?_
        refine RW.gskip rfl rfl rfl rfl rfl (by decide) ?_
        refine RW.gskip rfl rfl rfl rfl rfl (by decide) ?_
        refine RW.op rfl rfl (eff_pick (v := .t _) rfl rfl rfl rfl) ?_
        refine RW.op rfl rfl (eff_move (v := .t _) rfl rfl rfl) ?_
        refine RW.gskip rfl rfl rfl rfl rfl (by decide) ?_
        refine RW.gskip rfl rfl rfl rfl rfl (by decide) ?_
        refine RW.gskip rfl rfl rfl rfl rfl (by decide) ?_
        refine RW.op rfl rfl (eff_pick (v := .t _) rfl rfl rfl rfl) ?_
        refine RW.op rfl rfl (eff_move (v := .t _) rfl rfl rfl) ?_
        refine RW.gskip rfl rfl rfl rfl rfl (by decide) ?_
        refine RW.gskip rfl rfl rfl rfl rfl (by decide) ?_
        refine RW.gskip rfl rfl rfl rfl rfl (by decide) ?_
        refine RW.op rfl rfl (eff_pick (v := .t _) rfl rfl rfl rfl) ?_
        refine RW.op rfl rfl (eff_assign (v := .t _) rfl rfl rfl) ?_
        refine RW.nil ?_
        refine awp_ret ?_
        first
          | (rw [show decide (formed l) = false from decide_eq_false (fun h => by unfold formed at h; omega)]; exact ⟨Or.inr rfl, [_], ⟨.tmp (.t _), trivial⟩, .refl _⟩)
          | (rw [show decide (formed l) = decide (right l.h) from decide_eq_decide.2 (⟨fun h => h.2.2.2.2.2.2, fun h => ⟨by omega, by omega, by omega, by omega, by omega, by omega, h⟩⟩)]; exact ⟨Or.inr rfl, [_], ⟨.tmp (.t _), trivial⟩, .refl _⟩)
    · try simp only [decide_eq_true_eq, decide_eq_false_iff_not, beq_iff_eq, bne_iff_ne, bne_eq_false_iff_eq, beq_eq_false_iff_ne, Bool.not_eq_true, Bool.not_eq_false, Bool.not_eq_true', Bool.not_eq_false', ne_eq] at h2
      refine RW.gskip rfl rfl rfl rfl rfl (by decide) ?_
      refine RW.gskip rfl rfl rfl rfl rfl (by decide) ?_
      refine RW.gskip rfl rfl rfl rfl rfl (by decide) ?_
      refine RW.op rfl rfl (eff_pick (v := .t _) rfl rfl rfl rfl) ?_
      refine RW.op rfl rfl (eff_move (v := .t _) rfl rfl rfl) ?_
      refine RW.gskip rfl rfl rfl rfl rfl (by decide) ?_
      refine RW.gskip rfl rfl rfl rfl rfl (by decide) ?_
      refine RW.gskip rfl rfl rfl rfl rfl (by decide) ?_
      refine RW.op rfl rfl (eff_pick (v := .t _) rfl rfl rfl rfl) ?_
      refine RW.op rfl rfl (eff_move (v := .t _) rfl rfl rfl) ?_
      refine RW.gskip rfl rfl rfl rfl rfl (by decide) ?_
      refine RW.gskip rfl rfl rfl rfl rfl (by decide) ?_
      refine RW.gskip rfl rfl rfl rfl rfl (by decide) ?_
      refine RW.gskip rfl rfl rfl rfl rfl (by decide) ?_
      refine RW.gskip rfl rfl rfl rfl rfl (by decide) ?_
      refine RW.op rfl rfl (eff_pick (v := .t _) rfl rfl rfl rfl) ?_
      refine RW.op rfl rfl (eff_move (v := .t _) rfl rfl rfl) ?_
      refine RW.gskip rfl rfl rfl rfl rfl (by decide) ?_
      refine RW.gskip rfl rfl rfl rfl rfl (by decide) ?_
      refine RW.gskip rfl rfl rfl rfl rfl (by decide) ?_
      refine RW.op rfl rfl (eff_pick (v := .t _) rfl rfl rfl rfl) ?_
      refine RW.op rfl rfl (eff_move (v := .t _) rfl rfl rfl) ?_
      refine RW.gskip rfl rfl rfl rfl rfl (by decide) ?_
      refine RW.gskip rfl rfl rfl rfl rfl (by decide) ?_
      refine RW.gskip rfl rfl rfl rfl rfl (by decide) ?_
      refine RW.op rfl rfl (eff_pick (v := .t _) rfl rfl rfl rfl) ?_
      refine RW.op rfl rfl (eff_assign (v := .t _) rfl rfl rfl) ?_
      refine RW.nil ?_
      refine awp_ret ?_
      first
        | (rw [show decide (formed l) = false from decide_eq_false (fun h => by unfold formed at h; omega)]; exact ⟨Or.inr rfl, [_], ⟨.tmp (.t _), trivial⟩, .refl _⟩)
        | (rw [show decide (formed l) = decide (right l.h) from decide_eq_decide.2 (⟨fun h => h.2.2.2.2.2.2, fun h => ⟨by omega, by omega, by omega, by omega, by omega, by omega, h⟩⟩)]; exact ⟨Or.inr rfl, [_], ⟨.tmp (.t _), trivial⟩, .refl _⟩)
  · try simp only [decide_eq_true_eq, decide_eq_false_iff_not, beq_iff_eq, bne_iff_ne, bne_eq_false_iff_eq, beq_eq_false_iff_ne, Bool.not_eq_true, Bool.not_eq_false, Bool.not_eq_true', Bool.not_eq_false', ne_eq] at h1
    refine RW.gskip rfl rfl rfl rfl rfl (by decide) ?_
    refine RW.gskip rfl rfl rfl rfl rfl (by decide) ?_
    refine RW.gskip rfl rfl rfl rfl rfl (by decide) ?_
    refine RW.op rfl rfl (eff_pick (v := .t _) rfl rfl rfl rfl) ?_
    refine RW.op rfl rfl (eff_move (v := .t _) rfl rfl rfl) ?_
    refine RW.gskip rfl rfl rfl rfl rfl (by decide) ?_
    refine RW.gskip rfl rfl rfl rfl rfl (by decide) ?_
    refine RW.gskip rfl rfl rfl rfl rfl (by decide) ?_
    refine RW.op rfl rfl (eff_pick (v := .t _) rfl rfl rfl rfl) ?_
    refine RW.op rfl rfl (eff_move (v := .t _) rfl rfl rfl) ?_
    refine RW.gskip rfl rfl rfl rfl rfl (by decide) ?_
    refine RW.gskip rfl rfl rfl rfl rfl (by decide) ?_
    refine RW.gskip rfl rfl rfl rfl rfl (by decide) ?_
    refine RW.op rfl rfl (eff_pick (v := .t _) rfl rfl rfl rfl) ?_
    refine RW.op rfl rfl (eff_move (v := .t _) rfl rfl rfl) ?_
    refine RW.gskip rfl rfl rfl rfl rfl (by decide) ?_
    refine RW.gskip rfl rfl rfl rfl rfl (by decide) ?_
    refine RW.gskip rfl rfl rfl rfl rfl (by decide) ?_
    refine RW.gskip rfl rfl rfl rfl rfl (by decide) ?_
    refine RW.gskip rfl rfl rfl rfl rfl (by decide) ?_
    refine RW.op rfl rfl (eff_pick (v := .t _) rfl rfl rfl rfl) ?_
    refine RW.op rfl rfl (eff_move (v := .t _) rfl rfl rfl) ?_
    refine RW.gskip rfl rfl rfl rfl rfl (by decide) ?_
    refine RW.gskip rfl rfl rfl rfl rfl (by decide) ?_
    refine RW.gskip rfl rfl rfl rfl rfl (by decide) ?_
    refine RW.op rfl rfl (eff_pick (v := .t _) rfl rfl rfl rfl) ?_
    refine RW.op rfl rfl (eff_move (v := .t _) rfl rfl rfl) ?_
    refine RW.gskip rfl rfl rfl rfl rfl (by decide) ?_
    refine RW.gskip rfl rfl rfl rfl rfl (by decide) ?_
    refine RW.gskip rfl rfl rfl rfl rfl (by decide) ?_
    refine RW.op rfl rfl (eff_pick (v := .t _) rfl rfl rfl rfl) ?_
    refine RW.op rfl rfl (eff_assign (v := .t _) rfl rfl rfl) ?_
    refine RW.nil ?_
    refine awp_ret ?_
    first
      | (rw [show decide (formed l) = false from decide_eq_false (fun h => by unfold formed at h; omega)]; exact ⟨Or.inr rfl, [_], ⟨.tmp (.t _), trivial⟩, .refl _⟩)
      | (rw [show decide (formed l) = decide (right l.h) from decide_eq_decide.2 (⟨fun h => h.2.2.2.2.2.2, fun h => ⟨by omega, by omega, by omega, by omega, by omega, by omega, h⟩⟩)]; exact ⟨Or.inr rfl, [_], ⟨.tmp (.t _), trivial⟩, .refl _⟩)

theorem customer_ret (a : Acc) : Ret Try.prog 36 [encA a] (encI a.c) := by
  refine ret_of_awp Try.func36 rfl (Nat.le_of_ble_eq_true rfl) ?_
  refine awp_seq ?_
  refine awp_rw rfl ?_
  refine RW.new rfl rfl (eff_boxK (v := .t _) (k := 4) (id := 1) rfl rfl rfl rfl rfl rfl) ?_
  refine RW.op rfl rfl (eff_assign (v := .t _) rfl rfl rfl) ?_
  refine RW.nil ?_
  refine awp_seq ?_
  refine awp_rw rfl ?_
  refine RW.op rfl rfl (eff_fieldAddr rfl rfl tf57_0 (by decide) rfl rfl rfl (Nat.le_of_ble_eq_true rfl)) ?_
  refine RW.op rfl rfl (eff_load (y := .t _) rfl rfl ti3 rfl (.one rfl rfl rfl rfl)) ?_
  refine RW.op rfl rfl (eff_assign (v := .t _) rfl rfl rfl) ?_
  refine RW.nil ?_
  refine awp_ret ?_
  first
    | exact ⟨Or.inr rfl, [_], ⟨.tmp (.t _), trivial⟩, .refl _⟩
    | exact ⟨Or.inr rfl, [_], ⟨.tmp (.t _), trivial⟩, (by repeat' first | exact trivial | exact Wk.refl _ | exact Wk.sl _ | refine And.intro ?_ ?_ | refine Wk.tupP ?_ | refine Wk.aggP ?_)⟩
    | exact ⟨Or.inr rfl, [_], ⟨.tmp (Res.ownT rfl rfl rfl rfl), trivial⟩, .refl _⟩
    | exact ⟨Or.inr rfl, [_], ⟨.tmp (Res.ownT rfl rfl rfl rfl), trivial⟩, (by repeat' first | exact trivial | exact Wk.refl _ | exact Wk.sl _ | refine And.intro ?_ ?_ | refine Wk.tupP ?_ | refine Wk.aggP ?_)⟩

theorem id_ret (l : Lea) : Ret Try.prog 38 [encL l] (encI l.id) := by
  refine ret_of_awp Try.func38 rfl (Nat.le_of_ble_eq_true rfl) ?_
  refine awp_seq ?_
  refine awp_rw rfl ?_
  refine RW.new rfl rfl (eff_boxK (v := .t _) (k := 8) (id := 1) rfl rfl rfl rfl rfl rfl) ?_
  refine RW.op rfl rfl (eff_assign (v := .t _) rfl rfl rfl) ?_
  refine RW.nil ?_
  refine awp_seq ?_
  refine awp_rw rfl ?_
  refine RW.op rfl rfl (eff_fieldAddr rfl rfl tf44_0 (by decide) rfl rfl rfl (Nat.le_of_ble_eq_true rfl)) ?_
  refine RW.op rfl rfl (eff_load (y := .t _) rfl rfl ti3 rfl (.one rfl rfl rfl rfl)) ?_
  refine RW.op rfl rfl (eff_assign (v := .t _) rfl rfl rfl) ?_
  refine RW.nil ?_
  refine awp_ret ?_
  first
    | exact ⟨Or.inr rfl, [_], ⟨.tmp (.t _), trivial⟩, .refl _⟩
    | exact ⟨Or.inr rfl, [_], ⟨.tmp (.t _), trivial⟩, (by repeat' first | exact trivial | exact Wk.refl _ | exact Wk.sl _ | refine And.intro ?_ ?_ | refine Wk.tupP ?_ | refine Wk.aggP ?_)⟩
    | exact ⟨Or.inr rfl, [_], ⟨.tmp (Res.ownT rfl rfl rfl rfl), trivial⟩, .refl _⟩
    | exact ⟨Or.inr rfl, [_], ⟨.tmp (Res.ownT rfl rfl rfl rfl), trivial⟩, (by repeat' first | exact trivial | exact Wk.refl _ | exact Wk.sl _ | refine And.intro ?_ ?_ | refine Wk.tupP ?_ | refine Wk.aggP ?_)⟩

theorem account_ret (b : Bank) (n : Int) (hB : BOK b) : Ret Try.prog 33 [encB b, encI n] (encI (accIx b.accs n)) := by
  refine ret_of_awp Try.func33 rfl (Nat.le_of_ble_eq_true rfl) ?_
  refine awp_seq ?_
  refine awp_rw rfl ?_
  refine RW.new rfl rfl (eff_boxK (v := .t _) (k := 5) (id := 2) rfl rfl rfl rfl rfl rfl) ?_
  refine RW.op rfl rfl (eff_assign (v := .t _) rfl rfl rfl) ?_
  refine RW.nil ?_
  refine awp_seq ?_
  refine awp_seq ?_
  refine awp_rw rfl ?_
  refine RW.op rfl rfl (eff_assign (v := .t _) rfl rfl rfl) ?_
  refine RW.nil ?_
  refine awp_block ?_
  refine awp_loopW (fun m s => ∃ (i : Nat), (i ≤ b.accs.length) ∧ (∀ a, a ∈ b.accs.take i → (a.c == n) = false) ∧ m = b.accs.length - i ∧ s = ⟨22, [(1, .t (encI n)), (2, .ptr 2 0 0 0), (5, .t (encI (i : Nat)))], [(2, some ⟨5, 27, 0, [.t (encB b)]⟩)]⟩) (_) (⟨_, weak_keep (n := 22) (fr' := [(1, .t (encI n)), (2, .ptr 2 0 0 0), (5, .t (encI (0 : Nat)))]) (st' := [(2, some ⟨5, 27, 0, [.t (encB b)]⟩)]) ⟨rfl, rfl, rfl, rfl, rfl, rfl, trivial⟩ ⟨rfl, okE_one rfl, trivial⟩, 0, (by omega), (by simp), rfl, rfl⟩) ?_
  rintro m s ⟨i, hi, ha, rfl, rfl⟩
  have hL := hB.1
  have hL2 := hB.2
  refine awp_seq ?_
  refine awp_seq ?_
  refine awp_rw rfl ?_
  refine RW.op rfl rfl (eff_move (v := .t _) rfl rfl rfl) ?_
  refine RW.op rfl rfl (eff_fieldAddr rfl rfl tf27_0 (by decide) rfl rfl rfl (Nat.le_of_ble_eq_true rfl)) ?_
  refine RW.op rfl rfl (eff_load (y := .t _) rfl rfl ti22 rfl (.one rfl rfl rfl rfl)) ?_
  refine RW.op rfl rfl (eff_lenM rfl rfl te22 rfl) ?_
  refine RW.op rfl rfl (eff_iop rfl rfl rfl rfl rfl) ?_
  refine RW.nil ?_
  refine awp_cond rfl (fun h1 => ?_) (fun h1 => ?_)
  · try simp only [decide_eq_true_eq, decide_eq_false_iff_not, beq_iff_eq, bne_iff_ne, bne_eq_false_iff_eq, beq_eq_false_iff_ne, Bool.not_eq_true, Bool.not_eq_false, Bool.not_eq_true', Bool.not_eq_false', ne_eq] at h1
    refine awp_skip ?_
    refine awp_seq ?_
    refine awp_block ?_
    refine awp_seq ?_
    refine awp_rw rfl ?_
    refine RW.op rfl rfl (eff_fieldAddr rfl rfl tf27_0 (by decide) rfl rfl rfl (Nat.le_of_ble_eq_true rfl)) ?_
    refine RW.op rfl rfl (eff_load (y := .t _) rfl rfl ti22 rfl (.one rfl rfl rfl rfl)) ?_
    refine RW.op rfl rfl (eff_move (v := .t _) rfl rfl rfl) ?_
    refine RW.op rfl rfl (eff_indexM rfl rfl te22 rfl rfl rfl (by first | assumption | exact List.getElem?_eq_getElem (by omega)) rfl (by decide)) ?_
    refine RW.op rfl rfl (eff_fieldAddrT rfl rfl tf57_0 (by decide) rfl) ?_
    refine RW.op rfl rfl (eff_loadT1 rfl rfl ti3 rfl rfl) ?_
    refine RW.op rfl rfl (eff_move (v := .t _) rfl rfl rfl) ?_
    refine RW.op rfl rfl (eff_iop rfl rfl rfl rfl rfl) ?_
    refine RW.nil ?_
    refine awp_cond rfl (fun h2 => ?_) (fun h2 => ?_)
    · try simp only [decide_eq_true_eq, decide_eq_false_iff_not, beq_iff_eq, bne_iff_ne, bne_eq_false_iff_eq, beq_eq_false_iff_ne, Bool.not_eq_true, Bool.not_eq_false, Bool.not_eq_true', Bool.not_eq_false', ne_eq] at h2
      refine awp_seq ?_
      refine awp_rw rfl ?_
      refine RW.op rfl rfl (eff_move (v := .t _) rfl rfl rfl) ?_
      refine RW.op rfl rfl (eff_assign (v := .t _) rfl rfl rfl) ?_
      refine RW.nil ?_
      refine awp_ret ?_
      rw [show accIx b.accs n = (i : Int) from fIx_hit (by omega) ha (by simpa using h2)]
      exact ⟨Or.inr rfl, [_], ⟨.tmp (.t _), trivial⟩, .refl _⟩
    · try simp only [decide_eq_true_eq, decide_eq_false_iff_not, beq_iff_eq, bne_iff_ne, bne_eq_false_iff_eq, beq_eq_false_iff_ne, Bool.not_eq_true, Bool.not_eq_false, Bool.not_eq_true', Bool.not_eq_false', ne_eq] at h2
      refine awp_skip ?_
      refine awp_rw rfl ?_
      refine RW.op rfl rfl (eff_move (v := .t _) rfl rfl rfl) ?_
      refine RW.op rfl rfl (eff_iop rfl rfl rfl rfl (iadd (by omega))) ?_
      refine RW.op rfl rfl (eff_assign (v := .t _) rfl rfl rfl) ?_
      refine RW.nil ?_
      refine ⟨_, ?_, _, weak_keep (n := 22) (fr' := [(1, .t (encI n)), (2, .ptr 2 0 0 0), (5, .t (encI ((i + 1) : Nat)))]) (st' := [(2, some ⟨5, 27, 0, [.t (encB b)]⟩)]) ⟨rfl, rfl, rfl, rfl, rfl, rfl, trivial⟩ ⟨rfl, okE_one rfl, trivial⟩, i + 1, (by omega), (by intro x hx; rcases (mem_take_succ (by omega)).1 hx with h | h; exact ha x h; rw [h]; simpa using h2), rfl, rfl⟩
      omega
  · try simp only [decide_eq_true_eq, decide_eq_false_iff_not, beq_iff_eq, bne_iff_ne, bne_eq_false_iff_eq, beq_eq_false_iff_ne, Bool.not_eq_true, Bool.not_eq_false, Bool.not_eq_true', Bool.not_eq_false', ne_eq] at h1
    refine awp_exit ?_
    refine awp_seq ?_
    refine awp_rw rfl ?_
    refine RW.op rfl rfl (eff_assign (v := .t _) rfl rfl rfl) ?_
    refine RW.nil ?_
    refine awp_ret ?_
    have hi2 : i = b.accs.length := by omega
    subst hi2
    rw [List.take_length] at ha
    rw [show accIx b.accs n = -1 from fIx_none ha]
    exact ⟨Or.inr rfl, [_], ⟨.tmp (.t _), trivial⟩, .refl _⟩

theorem find72_ret (b : Bank) (n : Int) (hB : BOK b) : Ret Try.prog 72 [encB b, encI n] (encI (leaIx b.ls n)) := by
  refine ret_of_awp Try.func72 rfl (Nat.le_of_ble_eq_true rfl) ?_
  refine awp_seq ?_
  refine awp_rw rfl ?_
  refine RW.new rfl rfl (eff_boxK (v := .t _) (k := 5) (id := 2) rfl rfl rfl rfl rfl rfl) ?_
  refine RW.op rfl rfl (eff_assign (v := .t _) rfl rfl rfl) ?_
  refine RW.nil ?_
  refine awp_seq ?_
  refine awp_seq ?_
  refine awp_rw rfl ?_
  refine RW.op rfl rfl (eff_assign (v := .t _) rfl rfl rfl) ?_
  refine RW.nil ?_
  refine awp_block ?_
  refine awp_loopW (fun m s => ∃ (i : Nat), (i ≤ b.ls.length) ∧ (∀ a, a ∈ b.ls.take i → (a.id == n) = false) ∧ m = b.ls.length - i ∧ s = ⟨22, [(1, .t (encI n)), (2, .ptr 2 0 0 0), (5, .t (encI (i : Nat)))], [(2, some ⟨5, 27, 0, [.t (encB b)]⟩)]⟩) (_) (⟨_, weak_keep (n := 22) (fr' := [(1, .t (encI n)), (2, .ptr 2 0 0 0), (5, .t (encI (0 : Nat)))]) (st' := [(2, some ⟨5, 27, 0, [.t (encB b)]⟩)]) ⟨rfl, rfl, rfl, rfl, rfl, rfl, trivial⟩ ⟨rfl, okE_one rfl, trivial⟩, 0, (by omega), (by simp), rfl, rfl⟩) ?_
  rintro m s ⟨i, hi, ha, rfl, rfl⟩
  have hL := hB.1
  have hL2 := hB.2
  refine awp_seq ?_
  refine awp_seq ?_
  refine awp_rw rfl ?_
  refine RW.op rfl rfl (eff_move (v := .t _) rfl rfl rfl) ?_
  refine RW.op rfl rfl (eff_fieldAddr rfl rfl tf27_1 (by decide) rfl rfl rfl (Nat.le_of_ble_eq_true rfl)) ?_
  refine RW.op rfl rfl (eff_load (y := .t _) rfl rfl ti23 rfl (.one rfl rfl rfl rfl)) ?_
  refine RW.op rfl rfl (eff_lenM rfl rfl te23 rfl) ?_
  refine RW.op rfl rfl (eff_iop rfl rfl rfl rfl rfl) ?_
  refine RW.nil ?_
  refine awp_cond rfl (fun h1 => ?_) (fun h1 => ?_)
  · try simp only [decide_eq_true_eq, decide_eq_false_iff_not, beq_iff_eq, bne_iff_ne, bne_eq_false_iff_eq, beq_eq_false_iff_ne, Bool.not_eq_true, Bool.not_eq_false, Bool.not_eq_true', Bool.not_eq_false', ne_eq] at h1
    refine awp_skip ?_
    refine awp_seq ?_
    refine awp_block ?_
    refine awp_seq ?_
    refine awp_rw rfl ?_
    refine RW.op rfl rfl (eff_fieldAddr rfl rfl tf27_1 (by decide) rfl rfl rfl (Nat.le_of_ble_eq_true rfl)) ?_
    refine RW.op rfl rfl (eff_load (y := .t _) rfl rfl ti23 rfl (.one rfl rfl rfl rfl)) ?_
    refine RW.op rfl rfl (eff_move (v := .t _) rfl rfl rfl) ?_
    refine RW.op rfl rfl (eff_indexM rfl rfl te23 rfl rfl rfl (by first | assumption | exact List.getElem?_eq_getElem (by omega)) rfl (by decide)) ?_
    refine RW.op rfl rfl (eff_fieldAddrT rfl rfl tf44_0 (by decide) rfl) ?_
    refine RW.op rfl rfl (eff_loadT1 rfl rfl ti3 rfl rfl) ?_
    refine RW.op rfl rfl (eff_move (v := .t _) rfl rfl rfl) ?_
    refine RW.op rfl rfl (eff_iop rfl rfl rfl rfl rfl) ?_
    refine RW.nil ?_
    refine awp_cond rfl (fun h2 => ?_) (fun h2 => ?_)
    · try simp only [decide_eq_true_eq, decide_eq_false_iff_not, beq_iff_eq, bne_iff_ne, bne_eq_false_iff_eq, beq_eq_false_iff_ne, Bool.not_eq_true, Bool.not_eq_false, Bool.not_eq_true', Bool.not_eq_false', ne_eq] at h2
      refine awp_seq ?_
      refine awp_rw rfl ?_
      refine RW.op rfl rfl (eff_move (v := .t _) rfl rfl rfl) ?_
      refine RW.op rfl rfl (eff_assign (v := .t _) rfl rfl rfl) ?_
      refine RW.nil ?_
      refine awp_ret ?_
      rw [show leaIx b.ls n = (i : Int) from fIx_hit (by omega) ha (by simpa using h2)]
      exact ⟨Or.inr rfl, [_], ⟨.tmp (.t _), trivial⟩, .refl _⟩
    · try simp only [decide_eq_true_eq, decide_eq_false_iff_not, beq_iff_eq, bne_iff_ne, bne_eq_false_iff_eq, beq_eq_false_iff_ne, Bool.not_eq_true, Bool.not_eq_false, Bool.not_eq_true', Bool.not_eq_false', ne_eq] at h2
      refine awp_skip ?_
      refine awp_rw rfl ?_
      refine RW.op rfl rfl (eff_move (v := .t _) rfl rfl rfl) ?_
      refine RW.op rfl rfl (eff_iop rfl rfl rfl rfl (iadd (by omega))) ?_
      refine RW.op rfl rfl (eff_assign (v := .t _) rfl rfl rfl) ?_
      refine RW.nil ?_
      refine ⟨_, ?_, _, weak_keep (n := 22) (fr' := [(1, .t (encI n)), (2, .ptr 2 0 0 0), (5, .t (encI ((i + 1) : Nat)))]) (st' := [(2, some ⟨5, 27, 0, [.t (encB b)]⟩)]) ⟨rfl, rfl, rfl, rfl, rfl, rfl, trivial⟩ ⟨rfl, okE_one rfl, trivial⟩, i + 1, (by omega), (by intro x hx; rcases (mem_take_succ (by omega)).1 hx with h | h; exact ha x h; rw [h]; simpa using h2), rfl, rfl⟩
      omega
  · try simp only [decide_eq_true_eq, decide_eq_false_iff_not, beq_iff_eq, bne_iff_ne, bne_eq_false_iff_eq, beq_eq_false_iff_ne, Bool.not_eq_true, Bool.not_eq_false, Bool.not_eq_true', Bool.not_eq_false', ne_eq] at h1
    refine awp_exit ?_
    refine awp_seq ?_
    refine awp_rw rfl ?_
    refine RW.op rfl rfl (eff_assign (v := .t _) rfl rfl rfl) ?_
    refine RW.nil ?_
    refine awp_ret ?_
    have hi2 : i = b.ls.length := by omega
    subst hi2
    rw [List.take_length] at ha
    rw [show leaIx b.ls n = -1 from fIx_none ha]
    exact ⟨Or.inr rfl, [_], ⟨.tmp (.t _), trivial⟩, .refl _⟩

end Go.Tv.C24

end
section
open Go Go.Tv Go.Proofs
namespace Go.Tv.C24
set_option maxRecDepth 20000
set_option maxHeartbeats 2000000
set_option linter.unusedSimpArgs false
set_option linter.unusedVariables false
def comp (p : Purse) : Nat → Int
  | 0 => p.e
  | 1 => p.b
  | _ => p.d
def setc (p : Purse) : Nat → Int → Purse
  | 0, v => ⟨v, p.b, p.d⟩
  | 1, v => ⟨p.e, v, p.d⟩
  | _, v => ⟨p.e, p.b, v⟩
theorem near_comp {n : Int} {p : Purse} (h : near n p) (i : Nat) : 0 ≤ comp p i ∧ comp p i ≤ n := by
  unfold near at h
  unfold comp
  split <;> omega
def mixA (x y : Purse) : Nat → Purse
  | 0 => x
  | 1 => ⟨x.e + y.e, x.b, x.d⟩
  | 2 => ⟨x.e + y.e, x.b + y.b, x.d⟩
  | _ => plus x y
def mixS (x y : Purse) : Nat → Purse
  | 0 => x
  | 1 => ⟨x.e - y.e, x.b, x.d⟩
  | 2 => ⟨x.e - y.e, x.b - y.b, x.d⟩
  | _ => sub x y
theorem mixA_at (x y : Purse) {i : Nat} (h : i < 3) : comp (mixA x y i) i = comp x i := by
  match i, h with
  | 0, _ => rfl
  | 1, _ => rfl
  | 2, _ => rfl
theorem mixS_at (x y : Purse) {i : Nat} (h : i < 3) : comp (mixS x y i) i = comp x i := by
  match i, h with
  | 0, _ => rfl
  | 1, _ => rfl
  | 2, _ => rfl
theorem mixA_succ (x y : Purse) {i : Nat} (h : i < 3) : setc (mixA x y i) i (comp (mixA x y i) i + comp y i) = mixA x y (i + 1) := by
  match i, h with
  | 0, _ => rfl
  | 1, _ => rfl
  | 2, _ => rfl
theorem mixS_succ (x y : Purse) {i : Nat} (h : i < 3) : setc (mixS x y i) i (comp (mixS x y i) i - comp y i) = mixS x y (i + 1) := by
  match i, h with
  | 0, _ => rfl
  | 1, _ => rfl
  | 2, _ => rfl
theorem setc_at (p : Purse) (v : Int) {i : Nat} (h : i < 3) : comp (setc p i v) i = v := by
  match i, h with
  | 0, _ => rfl
  | 1, _ => rfl
  | 2, _ => rfl
theorem cell_at (p : Purse) {i : Nat} (h : i < 3) : (AV.t (encP p)).cells[i]? = some (.t (encI (comp p i))) := by
  match i, h with
  | 0, _ => rfl
  | 1, _ => rfl
  | 2, _ => rfl
theorem splice_at (p : Purse) (v : Int) {i : Nat} (h : i < 3) : splice (AV.t (encP p)).cells i (AV.t (encI v)).cells = [encI (setc p i v).e, encI (setc p i v).b, encI (setc p i v).d].map .t := by
  match i, h with
  | 0, _ => rfl
  | 1, _ => rfl
  | 2, _ => rfl
theorem right_comp {p : Purse} : right p ↔ ∀ j, j < 3 → num (comp p j) := by
  constructor
  · rintro ⟨h0, h1, h2⟩ j hj
    match j, hj with
    | 0, _ => exact h0
    | 1, _ => exact h1
    | 2, _ => exact h2
  · intro h; exact ⟨h 0 (by omega), h 1 (by omega), h 2 (by omega)⟩
theorem cov_comp {x y : Purse} : cov x y ↔ ∀ j, j < 3 → comp y j ≤ comp x j := by
  constructor
  · rintro ⟨h0, h1, h2⟩ j hj
    match j, hj with
    | 0, _ => exact h0
    | 1, _ => exact h1
    | 2, _ => exact h2
  · intro h; exact ⟨h 0 (by omega), h 1 (by omega), h 2 (by omega)⟩
theorem lt_succ_or {i j : Nat} (h : j < i + 1) : j < i ∨ j = i := by omega

theorem acc0_retK (p : Purse) : RetK Try.prog 69 [(0, some ⟨3, 25, 0, [.t (encP p)]⟩)] [.ptr 0 0 0 0] [(0, some ⟨3, 25, 0, [.t (encP p)]⟩)] (.ptr 0 0 0 0) [(0, .ptr 0 0 0 0)] := by
  refine retK_of_awj (kp := fun i => Nat.beq i 0) Try.func69 rfl (Nat.le_of_ble_eq_true rfl) (by simp) ?_
  intro F0 w0
  refine awj_seq ?_
  refine awj_rj rfl ?_
  refine RJ.op rfl rfl (eff_assign (v := .t _) rfl rfl rfl) ?_
  refine RJ.nil ?_
  refine awj_seq ?_
  refine awj_rj rfl ?_
  refine RJ.op rfl rfl (eff_move (v := .ptr _ _ _ _) rfl rfl rfl) ?_
  refine RJ.op rfl rfl (eff_nilCheck (v := .ptr _ _ _ _) rfl rfl rfl rfl (fun _ _ _ _ e => by cases e; exact ⟨_, rfl, rfl⟩)) ?_
  refine RJ.op rfl rfl (eff_fieldAddr rfl rfl tf25_0 (by decide) rfl rfl rfl (Nat.le_of_ble_eq_true rfl)) ?_
  refine RJ.op rfl rfl (eff_assign (v := .ptr _ _ _ _) rfl rfl rfl) ?_
  refine RJ.nil ?_
  refine awj_ret ?_
  exact ⟨Or.inr rfl, [_], [.ptr 0 0 0 0], ⟨.tmp rfl, trivial⟩, rfl, weak_keep ⟨rfl, rfl, rfl, rfl, trivial⟩ ⟨rfl, okE_one rfl, trivial⟩, rfl⟩

theorem acc1_retK (p : Purse) : RetK Try.prog 70 [(0, some ⟨3, 25, 0, [.t (encP p)]⟩)] [.ptr 0 0 0 0] [(0, some ⟨3, 25, 0, [.t (encP p)]⟩)] (.ptr 0 0 0 1) [(0, .ptr 0 0 0 0)] := by
  refine retK_of_awj (kp := fun i => Nat.beq i 0) Try.func70 rfl (Nat.le_of_ble_eq_true rfl) (by simp) ?_
  intro F0 w0
  refine awj_seq ?_
  refine awj_rj rfl ?_
  refine RJ.op rfl rfl (eff_assign (v := .t _) rfl rfl rfl) ?_
  refine RJ.nil ?_
  refine awj_seq ?_
  refine awj_rj rfl ?_
  refine RJ.op rfl rfl (eff_move (v := .ptr _ _ _ _) rfl rfl rfl) ?_
  refine RJ.op rfl rfl (eff_nilCheck (v := .ptr _ _ _ _) rfl rfl rfl rfl (fun _ _ _ _ e => by cases e; exact ⟨_, rfl, rfl⟩)) ?_
  refine RJ.op rfl rfl (eff_fieldAddr rfl rfl tf25_1 (by decide) rfl rfl rfl (Nat.le_of_ble_eq_true rfl)) ?_
  refine RJ.op rfl rfl (eff_assign (v := .ptr _ _ _ _) rfl rfl rfl) ?_
  refine RJ.nil ?_
  refine awj_ret ?_
  exact ⟨Or.inr rfl, [_], [.ptr 0 0 0 1], ⟨.tmp rfl, trivial⟩, rfl, weak_keep ⟨rfl, rfl, rfl, rfl, trivial⟩ ⟨rfl, okE_one rfl, trivial⟩, rfl⟩

theorem acc2_retK (p : Purse) : RetK Try.prog 71 [(0, some ⟨3, 25, 0, [.t (encP p)]⟩)] [.ptr 0 0 0 0] [(0, some ⟨3, 25, 0, [.t (encP p)]⟩)] (.ptr 0 0 0 2) [(0, .ptr 0 0 0 0)] := by
  refine retK_of_awj (kp := fun i => Nat.beq i 0) Try.func71 rfl (Nat.le_of_ble_eq_true rfl) (by simp) ?_
  intro F0 w0
  refine awj_seq ?_
  refine awj_rj rfl ?_
  refine RJ.op rfl rfl (eff_assign (v := .t _) rfl rfl rfl) ?_
  refine RJ.nil ?_
  refine awj_seq ?_
  refine awj_rj rfl ?_
  refine RJ.op rfl rfl (eff_move (v := .ptr _ _ _ _) rfl rfl rfl) ?_
  refine RJ.op rfl rfl (eff_nilCheck (v := .ptr _ _ _ _) rfl rfl rfl rfl (fun _ _ _ _ e => by cases e; exact ⟨_, rfl, rfl⟩)) ?_
  refine RJ.op rfl rfl (eff_fieldAddr rfl rfl tf25_2 (by decide) rfl rfl rfl (Nat.le_of_ble_eq_true rfl)) ?_
  refine RJ.op rfl rfl (eff_assign (v := .ptr _ _ _ _) rfl rfl rfl) ?_
  refine RJ.nil ?_
  refine awj_ret ?_
  exact ⟨Or.inr rfl, [_], [.ptr 0 0 0 2], ⟨.tmp rfl, trivial⟩, rfl, weak_keep ⟨rfl, rfl, rfl, rfl, trivial⟩ ⟨rfl, okE_one rfl, trivial⟩, rfl⟩

abbrev fns : List Tr := [.fn 69 [], .fn 70 [], .fn 71 []]
theorem fn_at {i : Nat} (h : i < 3) : ∃ f, (fns.drop (i * 1)).take 1 = [.fn f []] ∧ callOK Try.prog f = true ∧
    ∀ p, RetK Try.prog f [(0, some ⟨3, 25, 0, [.t (encP p)]⟩)] [.ptr 0 0 0 0] [(0, some ⟨3, 25, 0, [.t (encP p)]⟩)] (.ptr 0 0 0 i) [(0, .ptr 0 0 0 0)] := by
  match i, h with
  | 0, _ => exact ⟨69, rfl, co69, acc0_retK⟩
  | 1, _ => exact ⟨70, rfl, co70, acc1_retK⟩
  | 2, _ => exact ⟨71, rfl, co71, acc2_retK⟩

theorem comps_ret  : Ret Try.prog 45 [] (.agg fns) := by
  refine ret_of_awp Try.func45 rfl (Nat.le_of_ble_eq_true rfl) ?_
  refine awp_seq ?_
  refine awp_rw rfl ?_
  refine RW.new rfl rfl (eff_allocK (k := 3) (id := 0) rfl rfl tz73 rfl rfl) ?_
  refine RW.nil ?_
  refine awp_seq ?_
  refine awp_rw rfl ?_
  refine RW.op rfl rfl (eff_buildT (ys := [_]) rfl rfl tz72 tg72 rfl) ?_
  refine RW.op rfl rfl (eff_buildT (ys := [_]) rfl rfl tz72 tg72 rfl) ?_
  refine RW.op rfl rfl (eff_buildT (ys := [_]) rfl rfl tz72 tg72 rfl) ?_
  refine RW.op rfl rfl (eff_buildArr (ys := [_, _, _]) rfl rfl tz73 tr73 rfl) ?_
  refine RW.store rfl rfl (eff_storeW (v := .t _) (els := [_]) (els' := [_]) rfl rfl ti73 rfl rfl rfl rfl rfl rfl rfl rfl rfl) ?_
  refine RW.nil ?_
  refine awp_ret ?_
  first
    | exact ⟨Or.inr rfl, [_], ⟨.cell rfl ti73 (.whole rfl rfl rfl rfl rfl rfl) (.t _), trivial⟩, .refl _⟩
    | exact ⟨Or.inr rfl, [_], ⟨.cell rfl ti73 (.whole rfl rfl rfl rfl rfl rfl) (.t _), trivial⟩, (by repeat' first | exact trivial | exact Wk.refl _ | exact Wk.sl _ | refine And.intro ?_ ?_ | refine Wk.tupP ?_ | refine Wk.aggP ?_)⟩

theorem inRange_ret (p : Purse) : Ret Try.prog 62 [encP p] (.bool (decide (right p))) := by
  refine ret_of_awp Try.func62 rfl (Nat.le_of_ble_eq_true rfl) ?_
  refine awp_seq ?_
  refine awp_rw rfl ?_
  refine RW.new rfl rfl (eff_boxK (v := .t _) (k := 3) (id := 1) rfl rfl rfl rfl rfl rfl) ?_
  refine RW.op rfl rfl (eff_assign (v := .t _) rfl rfl rfl) ?_
  refine RW.nil ?_
  refine awp_seq ?_
  refine awp_seq ?_
  refine awp_rw rfl ?_
  refine RW.op rfl rfl (eff_callT (comps_ret) co45 rfl rfl rfl rfl) ?_
  refine RW.op rfl rfl (eff_move (v := .t _) rfl rfl rfl) ?_
  refine RW.nil ?_
  refine awp_block ?_
  refine awp_loopW (fun m s => ∃ (i : Nat), (i ≤ 3) ∧ (∀ j, j < i → num (comp p j)) ∧ m = 3 - i ∧ s = ⟨22, [(1, .ptr 1 0 0 0), (6, .t (.agg fns)), (7, .t (encI (i : Nat)))], [(1, some ⟨3, 25, 0, [.t (encP p)]⟩)]⟩) (_) (⟨_, weak_keep (n := 22) (fr' := [(1, .ptr 1 0 0 0), (6, .t (.agg fns)), (7, .t (encI (0 : Nat)))]) (st' := [(1, some ⟨3, 25, 0, [.t (encP p)]⟩)]) ⟨rfl, rfl, rfl, rfl, rfl, rfl, trivial⟩ ⟨rfl, okE_one rfl, trivial⟩, 0, (by omega), (by intro j hj; omega), rfl, rfl⟩) ?_
  rintro m s ⟨i, hi, ha, rfl, rfl⟩
  refine awp_seq ?_
  refine awp_rw rfl ?_
  refine RW.op rfl rfl (eff_iop rfl rfl rfl rfl rfl) ?_
  refine RW.nil ?_
  refine awp_seq ?_
  refine awp_cond rfl (fun h1 => ?_) (fun h1 => ?_)
  · try simp only [decide_eq_true_eq, decide_eq_false_iff_not, beq_iff_eq, bne_iff_ne, bne_eq_false_iff_eq, beq_eq_false_iff_ne, Bool.not_eq_true, Bool.not_eq_false, Bool.not_eq_true', Bool.not_eq_false', ne_eq] at h1
    refine awp_skip ?_
    refine awp_seq ?_
    refine awp_block ?_
    refine awp_seq ?_
    refine awp_rw rfl ?_
    have hi3 : i < 3 := by omega
    obtain ⟨f, hfe, hco, hf⟩ := fn_at hi3
    refine RW.op rfl rfl (eff_indexArr (ys := [.fn f []]) rfl rfl tr73 rfl rfl rfl hi3 hfe) ?_
    refine RW.new rfl rfl (eff_allocK (k := 1) (id := 4) rfl rfl tz72 rfl rfl) ?_
    refine RW.store rfl rfl (eff_storeW (v := .t _) (els := [_]) (els' := [_]) rfl rfl ti72 rfl rfl rfl rfl rfl rfl rfl rfl rfl) ?_
    refine RW.nil ?_
    refine awp_seq ?_
    refine awp_rw rfl ?_
    refine RW.op rfl rfl (eff_fieldAddr rfl rfl tf72_0 (by decide) rfl rfl rfl (Nat.le_of_ble_eq_true rfl)) ?_
    refine RW.op rfl rfl (eff_load (y := .t _) rfl rfl ti70 rfl (.one rfl rfl rfl rfl)) ?_
    refine RW.new rfl rfl (eff_callK (hf p) hco (fun _ => 1) rfl rfl rfl ⟨.ptr _ _ _ _ rfl rfl, trivial⟩ (.ptr _ _ _ _ rfl rfl) rfl ⟨⟨rfl, treeEls_t (xs := [encP p]), ⟨_, rfl, .inr ⟨rfl, rfl, rfl, rfl, 0, rfl, List.mem_singleton.2 rfl⟩⟩⟩, trivial⟩ ⟨⟨treeEls_t (xs := [encP p]), .inl rfl⟩, trivial⟩) ?_
    refine RW.op rfl rfl (eff_nilCheck (v := .ptr _ _ _ _) rfl rfl rfl rfl (fun _ _ _ _ e => by cases e; exact ⟨_, rfl, rfl⟩)) ?_
    refine RW.op rfl rfl (eff_load (y := .t (encI (comp p i))) rfl rfl ti3 rfl (.one rfl rfl rfl (cell_at p hi3))) ?_
    refine RW.op rfl rfl (eff_assign (v := .t _) rfl rfl rfl) ?_
    refine RW.nil ?_
    refine awp_seq ?_
    refine awp_rw rfl ?_
    refine RW.op rfl rfl (eff_move (v := .t _) rfl rfl rfl) ?_
    refine RW.op rfl rfl (eff_iop rfl rfl rfl rfl rfl) ?_
    refine RW.op rfl rfl (eff_move (v := .t _) rfl rfl rfl) ?_
    refine RW.split 17 rfl (fun h2 => ?_) (fun h2 => ?_)
    · try simp only [decide_eq_true_eq, decide_eq_false_iff_not, beq_iff_eq, bne_iff_ne, bne_eq_false_iff_eq, beq_eq_false_iff_ne, Bool.not_eq_true, Bool.not_eq_false, Bool.not_eq_true', Bool.not_eq_false', ne_eq] at h2
      refine RW.gskip rfl rfl rfl rfl rfl (by decide) ?_
      refine RW.gskip rfl rfl rfl rfl rfl (by decide) ?_
      refine RW.op rfl rfl (eff_pick (v := .t _) rfl rfl rfl rfl) ?_
      refine RW.nil ?_
      refine awp_cond rfl (fun _ => ?_) (fun h => nomatch h)
      refine awp_seq ?_
      refine awp_rw rfl ?_
      refine RW.op rfl rfl (eff_assign (v := .t _) rfl rfl rfl) ?_
      refine RW.nil ?_
      refine awp_ret ?_
      rw [show decide (right p) = false from decide_eq_false (fun h => by have := right_comp.1 h i hi3; unfold num at this; omega)]
      exact ⟨Or.inr rfl, [_], ⟨.tmp (.t _), trivial⟩, .refl _⟩
    · try simp only [decide_eq_true_eq, decide_eq_false_iff_not, beq_iff_eq, bne_iff_ne, bne_eq_false_iff_eq, beq_eq_false_iff_ne, Bool.not_eq_true, Bool.not_eq_false, Bool.not_eq_true', Bool.not_eq_false', ne_eq] at h2
      refine RW.gop rfl rfl rfl rfl rfl rfl (eff_move (v := .t _) rfl rfl rfl) ?_
      refine RW.gop rfl rfl rfl rfl rfl rfl (eff_iop rfl rfl rfl rfl rfl) ?_
      refine RW.op rfl rfl (eff_pick (v := .t _) rfl rfl rfl rfl) ?_
      refine RW.nil ?_
      refine awp_cond rfl (fun h3 => ?_) (fun h3 => ?_)
      · try simp only [decide_eq_true_eq, decide_eq_false_iff_not, beq_iff_eq, bne_iff_ne, bne_eq_false_iff_eq, beq_eq_false_iff_ne, Bool.not_eq_true, Bool.not_eq_false, Bool.not_eq_true', Bool.not_eq_false', ne_eq] at h3
        refine awp_seq ?_
        refine awp_rw rfl ?_
        refine RW.op rfl rfl (eff_assign (v := .t _) rfl rfl rfl) ?_
        refine RW.nil ?_
        refine awp_ret ?_
        rw [show decide (right p) = false from decide_eq_false (fun h => by have := right_comp.1 h i hi3; unfold num at this; omega)]
        exact ⟨Or.inr rfl, [_], ⟨.tmp (.t _), trivial⟩, .refl _⟩
      · try simp only [decide_eq_true_eq, decide_eq_false_iff_not, beq_iff_eq, bne_iff_ne, bne_eq_false_iff_eq, beq_eq_false_iff_ne, Bool.not_eq_true, Bool.not_eq_false, Bool.not_eq_true', Bool.not_eq_false', ne_eq] at h3
        refine awp_skip ?_
        refine awp_rw rfl ?_
        refine RW.op rfl rfl (eff_iop rfl rfl rfl rfl (iadd (by omega))) ?_
        refine RW.op rfl rfl (eff_move (v := .t _) rfl rfl rfl) ?_
        refine RW.nil ?_
        refine ⟨_, ?_, _, weak_keep (n := 22) (fr' := [(1, .ptr 1 0 0 0), (6, .t (.agg fns)), (7, .t (encI ((i + 1) : Nat)))]) (st' := [(1, some ⟨3, 25, 0, [.t (encP p)]⟩)]) ⟨rfl, rfl, rfl, rfl, rfl, rfl, trivial⟩ ⟨rfl, okE_one rfl, trivial⟩, i + 1, (by omega), (by intro j hj; rcases lt_succ_or hj with h | h; exact ha j h; subst h; unfold num; omega), rfl, rfl⟩
        omega
  · try simp only [decide_eq_true_eq, decide_eq_false_iff_not, beq_iff_eq, bne_iff_ne, bne_eq_false_iff_eq, beq_eq_false_iff_ne, Bool.not_eq_true, Bool.not_eq_false, Bool.not_eq_true', Bool.not_eq_false', ne_eq] at h1
    refine awp_exit ?_
    refine awp_seq ?_
    refine awp_rw rfl ?_
    refine RW.op rfl rfl (eff_assign (v := .t _) rfl rfl rfl) ?_
    refine RW.nil ?_
    refine awp_ret ?_
    have hi2 : i = 3 := by omega
    subst hi2
    rw [show decide (right p) = true from decide_eq_true (right_comp.2 ha)]
    exact ⟨Or.inr rfl, [_], ⟨.tmp (.t _), trivial⟩, .refl _⟩

theorem plus_ret (x y : Purse) (hx : near 1000000000000000 x) (hy : near 1000000000000000 y) : Ret Try.prog 19 [encP x, encP y] (encP (plus x y)) := by
  refine ret_of_awp Try.func19 rfl (Nat.le_of_ble_eq_true rfl) ?_
  refine awp_seq ?_
  refine awp_rw rfl ?_
  refine RW.new rfl rfl (eff_boxK (v := .t _) (k := 3) (id := 2) rfl rfl rfl rfl rfl rfl) ?_
  refine RW.new rfl rfl (eff_boxK (v := .t _) (k := 3) (id := 3) rfl rfl rfl rfl rfl rfl) ?_
  refine RW.new rfl rfl (eff_allocK (k := 3) (id := 4) rfl rfl tz25 rfl rfl) ?_
  refine RW.nil ?_
  refine awp_seq ?_
  refine awp_seq ?_
  refine awp_rw rfl ?_
  refine RW.op rfl rfl (eff_callT (comps_ret) co45 rfl rfl rfl rfl) ?_
  refine RW.op rfl rfl (eff_move (v := .t _) rfl rfl rfl) ?_
  refine RW.nil ?_
  refine awp_block ?_
  refine awp_loopW (fun m s => ∃ (i : Nat), (i ≤ 3) ∧ m = 3 - i ∧ s = ⟨25, [(2, .ptr 2 0 0 0), (3, .ptr 3 0 0 0), (4, .ptr 4 0 0 0), (7, .t (.agg fns)), (8, .t (encI (i : Nat)))], [(2, some ⟨3, 25, 0, [.t (encP (mixA x y i))]⟩), (3, some ⟨3, 25, 0, [.t (encP y)]⟩), (4, some ⟨3, 25, 0, [.t z25]⟩)]⟩) (_) (⟨_, weak_keep (n := 25) (fr' := [(2, .ptr 2 0 0 0), (3, .ptr 3 0 0 0), (4, .ptr 4 0 0 0), (7, .t (.agg fns)), (8, .t (encI (0 : Nat)))]) (st' := [(2, some ⟨3, 25, 0, [.t (encP (mixA x y 0))]⟩), (3, some ⟨3, 25, 0, [.t (encP y)]⟩), (4, some ⟨3, 25, 0, [.t z25]⟩)]) ⟨rfl, rfl, rfl, rfl, rfl, rfl, rfl, rfl, rfl, rfl, trivial⟩ ⟨(by first | rfl | (rw [← mixA_succ x y hi3]; rfl)), okE_one rfl, rfl, okE_one rfl, rfl, okE_one rfl, trivial⟩, 0, (by omega), rfl, rfl⟩) ?_
  rintro m s ⟨i, hi, rfl, rfl⟩
  refine awp_seq ?_
  refine awp_rw rfl ?_
  refine RW.op rfl rfl (eff_iop rfl rfl rfl rfl rfl) ?_
  refine RW.nil ?_
  refine awp_seq ?_
  refine awp_cond rfl (fun h1 => ?_) (fun h1 => ?_)
  · try simp only [decide_eq_true_eq, decide_eq_false_iff_not, beq_iff_eq, bne_iff_ne, bne_eq_false_iff_eq, beq_eq_false_iff_ne, Bool.not_eq_true, Bool.not_eq_false, Bool.not_eq_true', Bool.not_eq_false', ne_eq] at h1
    refine awp_skip ?_
    refine awp_seq ?_
    refine awp_block ?_
    refine awp_seq ?_
    refine awp_rw rfl ?_
    have hi3 : i < 3 := by omega
    obtain ⟨f, hfe, hco, hf⟩ := fn_at hi3
    have hcx := near_comp hx i
    have hcy := near_comp hy i
    have hmx := mixA_at x y hi3
    refine RW.op rfl rfl (eff_indexArr (ys := [.fn f []]) rfl rfl tr73 rfl rfl rfl hi3 hfe) ?_
    refine RW.new rfl rfl (eff_allocK (k := 1) (id := 6) rfl rfl tz72 rfl rfl) ?_
    refine RW.store rfl rfl (eff_storeW (v := .t _) (els := [_]) (els' := [_]) rfl rfl ti72 rfl rfl rfl rfl rfl rfl rfl rfl rfl) ?_
    refine RW.nil ?_
    refine awp_rd [(some 11, []), (some 12, []), (some 13, [2]), (some 14, []), (some 15, []), (some 16, []), (some 17, []), (some 18, [3]), (some 19, []), (some 20, []), (some 21, []), (some 22, []), (none, [2])] [[], [0], [0, 1], [0, 1, 2], [0, 1, 2, 3], [], [5], [0, 1, 2, 5, 6], [0, 1, 2, 5, 6, 7], [0, 1, 2, 5, 6, 7, 8], [0, 1, 2, 3, 4, 5, 6, 7, 8, 9], [0, 1, 2, 3, 4, 5, 6, 7, 8, 9, 10], [0, 1, 2, 3, 4, 5, 6, 7, 8, 9, 10, 11]] tm rfl rfl rfl rfl ?_
    refine RD.op rfl rfl rfl (eff_fieldAddr rfl rfl tf72_0 (by decide) rfl rfl rfl (Nat.le_of_ble_eq_true rfl)) ?_
    refine RD.op rfl rfl rfl (eff_load (y := .t _) rfl rfl ti70 rfl (.one rfl rfl rfl rfl)) ?_
    refine RD.new rfl rfl rfl (eff_callK (hf (mixA x y i)) hco (fun _ => 2) rfl rfl rfl ⟨.ptr _ _ _ _ rfl rfl, trivial⟩ (.ptr _ _ _ _ rfl rfl) rfl ⟨⟨rfl, treeEls_t (xs := [encP (mixA x y i)]), ⟨_, rfl, .inr ⟨rfl, rfl, rfl, rfl, 0, rfl, List.mem_singleton.2 rfl⟩⟩⟩, trivial⟩ ⟨⟨treeEls_t (xs := [encP (mixA x y i)]), .inl rfl⟩, trivial⟩) ?_
    refine RD.op rfl rfl rfl (eff_nilCheck (v := .ptr _ _ _ _) rfl rfl rfl rfl (fun _ _ _ _ e => by cases e; exact ⟨_, rfl, rfl⟩)) ?_
    refine RD.op rfl rfl rfl (eff_load (y := .t (encI (comp (mixA x y i) i))) rfl rfl ti3 rfl (.one rfl rfl rfl (cell_at (mixA x y i) hi3))) ?_
    refine RD.op rfl rfl rfl (eff_fieldAddr rfl rfl tf72_0 (by decide) rfl rfl rfl (Nat.le_of_ble_eq_true rfl)) ?_
    refine RD.op rfl rfl rfl (eff_load (y := .t _) rfl rfl ti70 rfl (.one rfl rfl rfl rfl)) ?_
    refine RD.new rfl rfl rfl (eff_callK (hf y) hco (fun _ => 3) rfl rfl rfl ⟨.ptr _ _ _ _ rfl rfl, trivial⟩ (.ptr _ _ _ _ rfl rfl) rfl ⟨⟨rfl, treeEls_t (xs := [encP y]), ⟨_, rfl, .inr ⟨rfl, rfl, rfl, rfl, 0, rfl, List.mem_singleton.2 rfl⟩⟩⟩, trivial⟩ ⟨⟨treeEls_t (xs := [encP y]), .inl rfl⟩, trivial⟩) ?_
    refine RD.op rfl rfl rfl (eff_nilCheck (v := .ptr _ _ _ _) rfl rfl rfl rfl (fun _ _ _ _ e => by cases e; exact ⟨_, rfl, rfl⟩)) ?_
    refine RD.op rfl rfl rfl (eff_load (y := .t (encI (comp y i))) rfl rfl ti3 rfl (.one rfl rfl rfl (cell_at y hi3))) ?_
    refine RD.op rfl rfl rfl (eff_iop rfl rfl rfl rfl (iadd (by omega))) ?_
    refine RD.op rfl rfl rfl (eff_nilCheck (v := .ptr _ _ _ _) rfl rfl rfl rfl (fun _ _ _ _ e => by cases e; exact ⟨_, rfl, rfl⟩)) ?_
    refine RD.store rfl rfl rfl (eff_storeS (v := .t _) (ys := [encI (setc (mixA x y i) i (comp (mixA x y i) i + comp y i)).e, encI (setc (mixA x y i) i (comp (mixA x y i) i + comp y i)).b, encI (setc (mixA x y i) i (comp (mixA x y i) i + comp y i)).d]) (els := [_]) (els' := [_]) rfl rfl ti3 rfl rfl rfl rfl rfl rfl rfl (by show i + 1 ≤ 3; omega) (splice_at _ _ hi3) rfl) ?_
    refine RD.nil ?_
    refine awp_rw rfl ?_
    refine RW.op rfl rfl (eff_iop rfl rfl rfl rfl (iadd (by omega))) ?_
    refine RW.op rfl rfl (eff_move (v := .t _) rfl rfl rfl) ?_
    refine RW.nil ?_
    refine ⟨_, ?_, _, weak_keep (n := 25) (fr' := [(2, .ptr 2 0 0 0), (3, .ptr 3 0 0 0), (4, .ptr 4 0 0 0), (7, .t (.agg fns)), (8, .t (encI ((i + 1) : Nat)))]) (st' := [(2, some ⟨3, 25, 0, [.t (encP (mixA x y (i + 1)))]⟩), (3, some ⟨3, 25, 0, [.t (encP y)]⟩), (4, some ⟨3, 25, 0, [.t z25]⟩)]) ⟨rfl, rfl, rfl, rfl, rfl, rfl, rfl, rfl, rfl, rfl, trivial⟩ ⟨(by first | rfl | (rw [← mixA_succ x y hi3]; rfl)), okE_one rfl, rfl, okE_one rfl, rfl, okE_one rfl, trivial⟩, i + 1, (by omega), rfl, rfl⟩
    omega
  · try simp only [decide_eq_true_eq, decide_eq_false_iff_not, beq_iff_eq, bne_iff_ne, bne_eq_false_iff_eq, beq_eq_false_iff_ne, Bool.not_eq_true, Bool.not_eq_false, Bool.not_eq_true', Bool.not_eq_false', ne_eq] at h1
    refine awp_exit ?_
    refine awp_seq ?_
    refine awp_rw rfl ?_
    refine RW.op rfl rfl (eff_load rfl rfl ti25 rfl (.whole rfl rfl rfl rfl rfl rfl)) ?_
    refine RW.store rfl rfl (eff_storeW (v := .t _) (els := [_]) (els' := [_]) rfl rfl ti25 rfl rfl rfl rfl rfl rfl rfl rfl rfl) ?_
    refine RW.nil ?_
    refine awp_ret ?_
    have hi2 : i = 3 := by omega
    subst hi2
    exact ⟨Or.inr rfl, [_], ⟨.cell rfl ti25 (.whole rfl rfl rfl rfl rfl rfl) (.t _), trivial⟩, .refl _⟩

theorem minus_ret (x y : Purse) (hx : near 1000000000000000 x) (hy : near 1000000000000000 y) : Ret Try.prog 17 [encP x, encP y] (.tup [encP (minus x y).1, .bool (minus x y).2]) := by
  refine ret_of_awp Try.func17 rfl (Nat.le_of_ble_eq_true rfl) ?_
  refine awp_seq ?_
  refine awp_rw rfl ?_
  refine RW.new rfl rfl (eff_boxK (v := .t _) (k := 3) (id := 2) rfl rfl rfl rfl rfl rfl) ?_
  refine RW.new rfl rfl (eff_boxK (v := .t _) (k := 3) (id := 3) rfl rfl rfl rfl rfl rfl) ?_
  refine RW.new rfl rfl (eff_allocK (k := 3) (id := 4) rfl rfl tz25 rfl rfl) ?_
  refine RW.op rfl rfl (eff_assign (v := .t _) rfl rfl rfl) ?_
  refine RW.nil ?_
  refine awp_seq ?_
  refine awp_seq ?_
  refine awp_rw rfl ?_
  refine RW.op rfl rfl (eff_callT (comps_ret) co45 rfl rfl rfl rfl) ?_
  refine RW.op rfl rfl (eff_move (v := .t _) rfl rfl rfl) ?_
  refine RW.nil ?_
  refine awp_block ?_
  refine awp_loopW (fun m s => ∃ (i : Nat), (i ≤ 3) ∧ (∀ j, j < i → comp y j ≤ comp x j) ∧ m = 3 - i ∧ s = ⟨33, [(2, .ptr 2 0 0 0), (3, .ptr 3 0 0 0), (4, .ptr 4 0 0 0), (8, .t (.agg fns)), (5, .t (.bool false)), (9, .t (encI (i : Nat)))], [(2, some ⟨3, 25, 0, [.t (encP (mixS x y i))]⟩), (3, some ⟨3, 25, 0, [.t (encP y)]⟩), (4, some ⟨3, 25, 0, [.t z25]⟩)]⟩) (_) (⟨_, weak_keep (n := 33) (fr' := [(2, .ptr 2 0 0 0), (3, .ptr 3 0 0 0), (4, .ptr 4 0 0 0), (8, .t (.agg fns)), (5, .t (.bool false)), (9, .t (encI (0 : Nat)))]) (st' := [(2, some ⟨3, 25, 0, [.t (encP (mixS x y 0))]⟩), (3, some ⟨3, 25, 0, [.t (encP y)]⟩), (4, some ⟨3, 25, 0, [.t z25]⟩)]) ⟨rfl, rfl, rfl, rfl, rfl, rfl, rfl, rfl, rfl, rfl, rfl, rfl, trivial⟩ ⟨(by first | rfl | (rw [← mixS_succ x y hi3]; rfl)), okE_one rfl, rfl, okE_one rfl, rfl, okE_one rfl, trivial⟩, 0, (by omega), (by intro j hj; omega), rfl, rfl⟩) ?_
  rintro m s ⟨i, hi, hc, rfl, rfl⟩
  refine awp_seq ?_
  refine awp_rw rfl ?_
  refine RW.op rfl rfl (eff_iop rfl rfl rfl rfl rfl) ?_
  refine RW.nil ?_
  refine awp_seq ?_
  refine awp_cond rfl (fun h1 => ?_) (fun h1 => ?_)
  · try simp only [decide_eq_true_eq, decide_eq_false_iff_not, beq_iff_eq, bne_iff_ne, bne_eq_false_iff_eq, beq_eq_false_iff_ne, Bool.not_eq_true, Bool.not_eq_false, Bool.not_eq_true', Bool.not_eq_false', ne_eq] at h1
    refine awp_skip ?_
    refine awp_seq ?_
    refine awp_block ?_
    refine awp_seq ?_
    refine awp_rw rfl ?_
    have hi3 : i < 3 := by omega
    obtain ⟨f, hfe, hco, hf⟩ := fn_at hi3
    have hcx := near_comp hx i
    have hcy := near_comp hy i
    have hmx := mixS_at x y hi3
    refine RW.op rfl rfl (eff_indexArr (ys := [.fn f []]) rfl rfl tr73 rfl rfl rfl hi3 hfe) ?_
    refine RW.new rfl rfl (eff_allocK (k := 1) (id := 7) rfl rfl tz72 rfl rfl) ?_
    refine RW.store rfl rfl (eff_storeW (v := .t _) (els := [_]) (els' := [_]) rfl rfl ti72 rfl rfl rfl rfl rfl rfl rfl rfl rfl) ?_
    refine RW.nil ?_
    refine awp_seq ?_
    refine awp_rd [(some 12, []), (some 13, []), (some 14, [2]), (some 15, []), (some 16, []), (some 17, []), (some 18, []), (some 19, [3]), (some 20, []), (some 21, []), (some 22, []), (some 23, []), (none, [2])] [[], [0], [0, 1], [0, 1, 2], [0, 1, 2, 3], [], [5], [0, 1, 2, 5, 6], [0, 1, 2, 5, 6, 7], [0, 1, 2, 5, 6, 7, 8], [0, 1, 2, 3, 4, 5, 6, 7, 8, 9], [0, 1, 2, 3, 4, 5, 6, 7, 8, 9, 10], [0, 1, 2, 3, 4, 5, 6, 7, 8, 9, 10, 11]] tm rfl rfl rfl rfl ?_
    refine RD.op rfl rfl rfl (eff_fieldAddr rfl rfl tf72_0 (by decide) rfl rfl rfl (Nat.le_of_ble_eq_true rfl)) ?_
    refine RD.op rfl rfl rfl (eff_load (y := .t _) rfl rfl ti70 rfl (.one rfl rfl rfl rfl)) ?_
    refine RD.new rfl rfl rfl (eff_callK (hf (mixS x y i)) hco (fun _ => 2) rfl rfl rfl ⟨.ptr _ _ _ _ rfl rfl, trivial⟩ (.ptr _ _ _ _ rfl rfl) rfl ⟨⟨rfl, treeEls_t (xs := [encP (mixS x y i)]), ⟨_, rfl, .inr ⟨rfl, rfl, rfl, rfl, 0, rfl, List.mem_singleton.2 rfl⟩⟩⟩, trivial⟩ ⟨⟨treeEls_t (xs := [encP (mixS x y i)]), .inl rfl⟩, trivial⟩) ?_
    refine RD.op rfl rfl rfl (eff_nilCheck (v := .ptr _ _ _ _) rfl rfl rfl rfl (fun _ _ _ _ e => by cases e; exact ⟨_, rfl, rfl⟩)) ?_
    refine RD.op rfl rfl rfl (eff_load (y := .t (encI (comp (mixS x y i) i))) rfl rfl ti3 rfl (.one rfl rfl rfl (cell_at (mixS x y i) hi3))) ?_
    refine RD.op rfl rfl rfl (eff_fieldAddr rfl rfl tf72_0 (by decide) rfl rfl rfl (Nat.le_of_ble_eq_true rfl)) ?_
    refine RD.op rfl rfl rfl (eff_load (y := .t _) rfl rfl ti70 rfl (.one rfl rfl rfl rfl)) ?_
    refine RD.new rfl rfl rfl (eff_callK (hf y) hco (fun _ => 3) rfl rfl rfl ⟨.ptr _ _ _ _ rfl rfl, trivial⟩ (.ptr _ _ _ _ rfl rfl) rfl ⟨⟨rfl, treeEls_t (xs := [encP y]), ⟨_, rfl, .inr ⟨rfl, rfl, rfl, rfl, 0, rfl, List.mem_singleton.2 rfl⟩⟩⟩, trivial⟩ ⟨⟨treeEls_t (xs := [encP y]), .inl rfl⟩, trivial⟩) ?_
    refine RD.op rfl rfl rfl (eff_nilCheck (v := .ptr _ _ _ _) rfl rfl rfl rfl (fun _ _ _ _ e => by cases e; exact ⟨_, rfl, rfl⟩)) ?_
    refine RD.op rfl rfl rfl (eff_load (y := .t (encI (comp y i))) rfl rfl ti3 rfl (.one rfl rfl rfl (cell_at y hi3))) ?_
    refine RD.op rfl rfl rfl (eff_iop rfl rfl rfl rfl (isub (by omega))) ?_
    refine RD.op rfl rfl rfl (eff_nilCheck (v := .ptr _ _ _ _) rfl rfl rfl rfl (fun _ _ _ _ e => by cases e; exact ⟨_, rfl, rfl⟩)) ?_
    refine RD.store rfl rfl rfl (eff_storeS (v := .t _) (ys := [encI (setc (mixS x y i) i (comp (mixS x y i) i - comp y i)).e, encI (setc (mixS x y i) i (comp (mixS x y i) i - comp y i)).b, encI (setc (mixS x y i) i (comp (mixS x y i) i - comp y i)).d]) (els := [_]) (els' := [_]) rfl rfl ti3 rfl rfl rfl rfl rfl rfl rfl (by show i + 1 ≤ 3; omega) (splice_at _ _ hi3) rfl) ?_
    refine RD.nil ?_
    refine awp_seq ?_
    refine awp_rw rfl ?_
    have hqx := setc_at (mixS x y i) (comp (mixS x y i) i - comp y i) hi3
    refine RW.op rfl rfl (eff_fieldAddr rfl rfl tf72_0 (by decide) rfl rfl rfl (Nat.le_of_ble_eq_true rfl)) ?_
    refine RW.op rfl rfl (eff_load (y := .t _) rfl rfl ti70 rfl (.one rfl rfl rfl rfl)) ?_
    refine RW.new rfl rfl (eff_callK (hf (setc (mixS x y i) i (comp (mixS x y i) i - comp y i))) hco (fun _ => 2) rfl rfl rfl ⟨.ptr _ _ _ _ rfl rfl, trivial⟩ (.ptr _ _ _ _ rfl rfl) rfl ⟨⟨rfl, treeEls_t (xs := [encP (setc (mixS x y i) i (comp (mixS x y i) i - comp y i))]), ⟨_, rfl, .inr ⟨rfl, rfl, rfl, rfl, 0, rfl, List.mem_singleton.2 rfl⟩⟩⟩, trivial⟩ ⟨⟨treeEls_t (xs := [encP (setc (mixS x y i) i (comp (mixS x y i) i - comp y i))]), .inl rfl⟩, trivial⟩) ?_
    refine RW.op rfl rfl (eff_nilCheck (v := .ptr _ _ _ _) rfl rfl rfl rfl (fun _ _ _ _ e => by cases e; exact ⟨_, rfl, rfl⟩)) ?_
    refine RW.op rfl rfl (eff_load (y := .t (encI (comp (setc (mixS x y i) i (comp (mixS x y i) i - comp y i)) i))) rfl rfl ti3 rfl (.one rfl rfl rfl (cell_at (setc (mixS x y i) i (comp (mixS x y i) i - comp y i)) hi3))) ?_
    refine RW.op rfl rfl (eff_iop rfl rfl rfl rfl rfl) ?_
    refine RW.nil ?_
    refine awp_cond rfl (fun h2 => ?_) (fun h2 => ?_)
    · try simp only [decide_eq_true_eq, decide_eq_false_iff_not, beq_iff_eq, bne_iff_ne, bne_eq_false_iff_eq, beq_eq_false_iff_ne, Bool.not_eq_true, Bool.not_eq_false, Bool.not_eq_true', Bool.not_eq_false', ne_eq] at h2
      refine awp_seq ?_
      refine awp_rw rfl ?_
      refine RW.op rfl rfl (eff_buildT (ys := [_, _, _]) rfl rfl tz25 tg25 rfl) ?_
      refine RW.store rfl rfl (eff_storeW (v := .t _) (els := [_]) (els' := [_]) rfl rfl ti25 rfl rfl rfl rfl rfl rfl rfl rfl rfl) ?_
      refine RW.op rfl rfl (eff_assign (v := .t _) rfl rfl rfl) ?_
      refine RW.nil ?_
      refine awp_ret ?_
      rw [minus_f (fun h => by have := cov_comp.1 h i hi3; omega)]
      exact ⟨Or.inr rfl, [_, _], ⟨.cell rfl ti25 (.whole rfl rfl rfl rfl rfl rfl) (.t _), .tmp (.t _), trivial⟩, .refl _⟩
    · try simp only [decide_eq_true_eq, decide_eq_false_iff_not, beq_iff_eq, bne_iff_ne, bne_eq_false_iff_eq, beq_eq_false_iff_ne, Bool.not_eq_true, Bool.not_eq_false, Bool.not_eq_true', Bool.not_eq_false', ne_eq] at h2
      refine awp_skip ?_
      refine awp_rw rfl ?_
      refine RW.op rfl rfl (eff_iop rfl rfl rfl rfl (iadd (by omega))) ?_
      refine RW.op rfl rfl (eff_move (v := .t _) rfl rfl rfl) ?_
      refine RW.nil ?_
      refine ⟨_, ?_, _, weak_keep (n := 33) (fr' := [(2, .ptr 2 0 0 0), (3, .ptr 3 0 0 0), (4, .ptr 4 0 0 0), (8, .t (.agg fns)), (5, .t (.bool false)), (9, .t (encI ((i + 1) : Nat)))]) (st' := [(2, some ⟨3, 25, 0, [.t (encP (mixS x y (i + 1)))]⟩), (3, some ⟨3, 25, 0, [.t (encP y)]⟩), (4, some ⟨3, 25, 0, [.t z25]⟩)]) ⟨rfl, rfl, rfl, rfl, rfl, rfl, rfl, rfl, rfl, rfl, rfl, rfl, trivial⟩ ⟨(by first | rfl | (rw [← mixS_succ x y hi3]; rfl)), okE_one rfl, rfl, okE_one rfl, rfl, okE_one rfl, trivial⟩, i + 1, (by omega), (by intro j hj; rcases lt_succ_or hj with h | h; exact hc j h; subst h; omega), rfl, rfl⟩
      omega
  · try simp only [decide_eq_true_eq, decide_eq_false_iff_not, beq_iff_eq, bne_iff_ne, bne_eq_false_iff_eq, beq_eq_false_iff_ne, Bool.not_eq_true, Bool.not_eq_false, Bool.not_eq_true', Bool.not_eq_false', ne_eq] at h1
    refine awp_exit ?_
    refine awp_seq ?_
    refine awp_rw rfl ?_
    refine RW.op rfl rfl (eff_load rfl rfl ti25 rfl (.whole rfl rfl rfl rfl rfl rfl)) ?_
    refine RW.store rfl rfl (eff_storeW (v := .t _) (els := [_]) (els' := [_]) rfl rfl ti25 rfl rfl rfl rfl rfl rfl rfl rfl rfl) ?_
    refine RW.op rfl rfl (eff_assign (v := .t _) rfl rfl rfl) ?_
    refine RW.nil ?_
    refine awp_ret ?_
    have hi2 : i = 3 := by omega
    subst hi2
    rw [minus_t (cov_comp.2 hc)]
    exact ⟨Or.inr rfl, [_, _], ⟨.cell rfl ti25 (.whole rfl rfl rfl rfl rfl rfl) (.t _), .tmp (.t _), trivial⟩, .refl _⟩

end Go.Tv.C24

end
section
open Go Go.Tv Go.Proofs
namespace Go.Tv.C24
set_option maxRecDepth 20000
set_option maxHeartbeats 2000000
set_option linter.unusedSimpArgs false
set_option linter.unusedVariables false
def NB (b : Bank) : Prop := near 2147483647 b.sp ∧ (∀ a, a ∈ b.accs → near 2147483647 a.p) ∧ ∀ l, l ∈ b.ls → near 2147483647 l.h
theorem big_near {n : Int} {p : Purse} (h : near n p) (k : n ≤ 1000000000000000) : near 1000000000000000 p := near_mono h k
theorem NB.sumA {b : Bank} (hB : BOK b) (hN : NB b) (i : Nat) : near 1000000000000000 (sumA (b.accs.take i) b.sp) := by
  have h := sumA_near (M := 2147483647) (by omega) (b.accs.take i) hN.1 (fun a ha => hN.2.1 a (List.mem_of_mem_take ha))
  have h2 := List.length_take_le i b.accs
  have h3 := hB.1
  have h4 : (2147483647 : Int) * ((b.accs.take i).length : Int) ≤ 2147483647 * 1000 := Int.mul_le_mul_of_nonneg_left (by rw [List.length_take] at *; omega) (by omega)
  exact near_mono h (by omega)
theorem NB.sumL {b : Bank} (hB : BOK b) (hN : NB b) (i : Nat) : near 1000000000000000 (sumL (b.ls.take i) (Go.Tv.C24.sumA b.accs b.sp)) := by
  have h := sumA_near (M := 2147483647) (by omega) b.accs hN.1 (fun a ha => hN.2.1 a ha)
  have h3 := hB.1
  have h4 : (2147483647 : Int) * (b.accs.length : Int) ≤ 2147483647 * 1000 := Int.mul_le_mul_of_nonneg_left (by omega) (by omega)
  have h' := near_mono h (show _ ≤ (2147483647 : Int) + 2147483647 * 1000 by omega)
  have g := sumL_near (M := 2147483647) (by omega) (b.ls.take i) h' (fun a ha => hN.2.2 a (List.mem_of_mem_take ha))
  have h5 := hB.2
  have h6 : (2147483647 : Int) * ((b.ls.take i).length : Int) ≤ 2147483647 * 1000 := Int.mul_le_mul_of_nonneg_left (by rw [List.length_take] at *; omega) (by omega)
  exact near_mono g (by omega)
theorem NB.acc {b : Bank} (hN : NB b) {i : Nat} (h : i < b.accs.length) : near 1000000000000000 (b.accs[i]).p := near_mono (hN.2.1 _ (List.getElem_mem h)) (by omega)
theorem NB.lea {b : Bank} (hN : NB b) {i : Nat} (h : i < b.ls.length) : near 1000000000000000 (b.ls[i]).h := near_mono (hN.2.2 _ (List.getElem_mem h)) (by omega)
theorem incr_stepK {α : Type} (f : α → Int) {l : List α} {i : Nat} (hi : 0 < i) (h : i < l.length) (hp : ((l.take i).map f).Pairwise (· < ·)) (hlt : f l[i - 1] < f l[i]) : ((l.take (i + 1)).map f).Pairwise (· < ·) := by
  rw [take_succ_get h, List.map_append, List.pairwise_append]
  refine ⟨hp, by simp, fun a ha b hb => ?_⟩
  simp only [List.map_cons, List.map_nil, List.mem_singleton] at hb
  subst hb
  obtain ⟨x, hx, rfl⟩ := List.mem_map.1 ha
  obtain ⟨j, hj, rfl⟩ := List.mem_iff_getElem.1 hx
  simp only [List.length_take] at hj
  rw [List.getElem_take]
  by_cases e : j = i - 1
  · subst e; exact hlt
  · have := List.pairwise_iff_getElem.1 hp j (i - 1) (by simp; omega) (by simp; omega) (by omega)
    rw [List.getElem_map, List.getElem_map, List.getElem_take, List.getElem_take] at this
    omega
theorem any_fIx {α : Type} {p : α → Bool} {l : List α} : decide (fIx p l ≥ 0) = l.any p := by
  by_cases h : fIx p l < 0
  · rw [decide_eq_false (by omega)]
    symm
    rw [List.any_eq_false]
    intro x hx
    rw [fIx_neg.1 h x hx]; simp
  · rw [decide_eq_true (by omega)]
    symm
    obtain ⟨i, hi, _, _, h4⟩ := fIx_nat h
    exact List.any_eq_true.2 ⟨_, List.getElem_mem hi, h4⟩

theorem total_ret (b : Bank) (hB : BOK b) (hN : NB b) : Ret Try.prog 14 [encB b] (encP (total b)) := by
  refine ret_of_awp Try.func14 rfl (Nat.le_of_ble_eq_true rfl) ?_
  refine awp_seq ?_
  refine awp_rw rfl ?_
  refine RW.new rfl rfl (eff_boxK (v := .t _) (k := 5) (id := 1) rfl rfl rfl rfl rfl rfl) ?_
  refine RW.new rfl rfl (eff_allocK (k := 3) (id := 2) rfl rfl tz25 rfl rfl) ?_
  refine RW.nil ?_
  refine awp_seq ?_
  refine awp_rw rfl ?_
  refine RW.op rfl rfl (eff_fieldAddr rfl rfl tf27_2 (by decide) rfl rfl rfl (Nat.le_of_ble_eq_true rfl)) ?_
  refine RW.op rfl rfl (eff_loadS (ys := [_, _, _]) rfl rfl ti25 rfl rfl rfl rfl rfl rfl) ?_
  refine RW.new rfl rfl (eff_allocK (k := 3) (id := 3) rfl rfl tz25 rfl rfl) ?_
  refine RW.store rfl rfl (eff_storeW (v := .t _) (els := [_]) (els' := [_]) rfl rfl ti25 rfl rfl rfl rfl rfl rfl rfl rfl rfl) ?_
  refine RW.nil ?_
  refine awp_seq ?_
  refine awp_seq ?_
  refine awp_rw rfl ?_
  refine RW.op rfl rfl (eff_fieldAddr rfl rfl tf27_0 (by decide) rfl rfl rfl (Nat.le_of_ble_eq_true rfl)) ?_
  refine RW.op rfl rfl (eff_load (y := .t _) rfl rfl ti22 rfl (.one rfl rfl rfl rfl)) ?_
  refine RW.op rfl rfl (eff_lenM rfl rfl te22 rfl) ?_
  refine RW.op rfl rfl (eff_move (v := .t _) rfl rfl rfl) ?_
  refine RW.nil ?_
  refine awp_block ?_
  refine awp_loopW (fun m s => ∃ (i : Nat), (i ≤ b.accs.length) ∧ m = b.accs.length - i ∧ s = ⟨35, [(1, .ptr 1 0 0 0), (2, .ptr 2 0 0 0), (3, .ptr 3 0 0 0), (11, .t (.sl (b.accs.map encA) false)), (12, .t (encI b.accs.length)), (13, .t (encI (i : Nat)))], [(1, some ⟨5, 27, 0, [.t (encB b)]⟩), (2, some ⟨3, 25, 0, [.t z25]⟩), (3, some ⟨3, 25, 0, [.t (encP (sumA (b.accs.take i) b.sp))]⟩)]⟩) (_) (⟨_, weak_keep (n := 35) (fr' := [(1, .ptr 1 0 0 0), (2, .ptr 2 0 0 0), (3, .ptr 3 0 0 0), (11, .t (.sl (b.accs.map encA) false)), (12, .t (encI b.accs.length)), (13, .t (encI (0 : Nat)))]) (st' := [(1, some ⟨5, 27, 0, [.t (encB b)]⟩), (2, some ⟨3, 25, 0, [.t z25]⟩), (3, some ⟨3, 25, 0, [.t (encP (sumA (b.accs.take 0) b.sp))]⟩)]) ⟨rfl, rfl, rfl, rfl, rfl, rfl, rfl, rfl, rfl, rfl, rfl, rfl, trivial⟩ ⟨rfl, okE_one rfl, rfl, okE_one rfl, (by first | rfl | (rw [sumA_step (by omega)]; rfl)), okE_one rfl, trivial⟩, 0, (by omega), rfl, rfl⟩) ?_
  rintro m s ⟨i, hi, rfl, rfl⟩
  have hL := hB.1
  have hL2 := hB.2
  refine awp_seq ?_
  refine awp_rw rfl ?_
  refine RW.op rfl rfl (eff_iop rfl rfl rfl rfl rfl) ?_
  refine RW.nil ?_
  refine awp_seq ?_
  refine awp_cond rfl (fun h1 => ?_) (fun h1 => ?_)
  · try simp only [decide_eq_true_eq, decide_eq_false_iff_not, beq_iff_eq, bne_iff_ne, bne_eq_false_iff_eq, beq_eq_false_iff_ne, Bool.not_eq_true, Bool.not_eq_false, Bool.not_eq_true', Bool.not_eq_false', ne_eq] at h1
    refine awp_skip ?_
    refine awp_seq ?_
    refine awp_block ?_
    refine awp_seq ?_
    refine awp_rw rfl ?_
    refine RW.op rfl rfl (eff_indexM rfl rfl te22 rfl rfl rfl (by first | assumption | exact List.getElem?_eq_getElem (by omega)) rfl (by decide)) ?_
    refine RW.op rfl rfl (eff_loadW rfl rfl ti57 rfl rfl rfl) ?_
    refine RW.new rfl rfl (eff_allocK (k := 4) (id := 5) rfl rfl tz57 rfl rfl) ?_
    refine RW.store rfl rfl (eff_storeW (v := .t _) (els := [_]) (els' := [_]) rfl rfl ti57 rfl rfl rfl rfl rfl rfl rfl rfl rfl) ?_
    refine RW.nil ?_
    refine awp_rw rfl ?_
    refine RW.op rfl rfl (eff_load rfl rfl ti25 rfl (.whole rfl rfl rfl rfl rfl rfl)) ?_
    refine RW.op rfl rfl (eff_fieldAddr rfl rfl tf57_1 (by decide) rfl rfl rfl (Nat.le_of_ble_eq_true rfl)) ?_
    refine RW.op rfl rfl (eff_loadS (ys := [_, _, _]) rfl rfl ti25 rfl rfl rfl rfl rfl rfl) ?_
    refine RW.op rfl rfl (eff_callT (plus_ret (sumA (b.accs.take i) b.sp) (b.accs[i]'(by omega)).p (hN.sumA hB i) (hN.acc (by omega))) co19 rfl rfl rfl rfl) ?_
    refine RW.store rfl rfl (eff_storeW (v := .t _) (els := [_]) (els' := [_]) rfl rfl ti25 rfl rfl rfl rfl rfl rfl rfl rfl rfl) ?_
    refine RW.nil ?_
    refine awp_rw rfl ?_
    refine RW.op rfl rfl (eff_iop rfl rfl rfl rfl (iadd (by omega))) ?_
    refine RW.op rfl rfl (eff_move (v := .t _) rfl rfl rfl) ?_
    refine RW.nil ?_
    refine ⟨_, ?_, _, weak_keep (n := 35) (fr' := [(1, .ptr 1 0 0 0), (2, .ptr 2 0 0 0), (3, .ptr 3 0 0 0), (11, .t (.sl (b.accs.map encA) false)), (12, .t (encI b.accs.length)), (13, .t (encI ((i + 1) : Nat)))]) (st' := [(1, some ⟨5, 27, 0, [.t (encB b)]⟩), (2, some ⟨3, 25, 0, [.t z25]⟩), (3, some ⟨3, 25, 0, [.t (encP (sumA (b.accs.take (i + 1)) b.sp))]⟩)]) ⟨rfl, rfl, rfl, rfl, rfl, rfl, rfl, rfl, rfl, rfl, rfl, rfl, trivial⟩ ⟨rfl, okE_one rfl, rfl, okE_one rfl, (by first | rfl | (rw [sumA_step (by omega)]; rfl)), okE_one rfl, trivial⟩, i + 1, (by omega), rfl, rfl⟩
    omega
  · try simp only [decide_eq_true_eq, decide_eq_false_iff_not, beq_iff_eq, bne_iff_ne, bne_eq_false_iff_eq, beq_eq_false_iff_ne, Bool.not_eq_true, Bool.not_eq_false, Bool.not_eq_true', Bool.not_eq_false', ne_eq] at h1
    refine awp_exit ?_
    refine awp_seq ?_
    refine awp_seq ?_
    refine awp_rw rfl ?_
    obtain rfl : i = b.accs.length := by omega
    rw [List.take_length]
    refine RW.op rfl rfl (eff_fieldAddr rfl rfl tf27_1 (by decide) rfl rfl rfl (Nat.le_of_ble_eq_true rfl)) ?_
    refine RW.op rfl rfl (eff_load (y := .t _) rfl rfl ti23 rfl (.one rfl rfl rfl rfl)) ?_
    refine RW.op rfl rfl (eff_lenM rfl rfl te23 rfl) ?_
    refine RW.op rfl rfl (eff_move (v := .t _) rfl rfl rfl) ?_
    refine RW.nil ?_
    refine awp_block ?_
    refine awp_loopW (fun m s => ∃ (k : Nat), (k ≤ b.ls.length) ∧ m = b.ls.length - k ∧ s = ⟨35, [(1, .ptr 1 0 0 0), (2, .ptr 2 0 0 0), (3, .ptr 3 0 0 0), (23, .t (.sl (b.ls.map encL) false)), (24, .t (encI b.ls.length)), (25, .t (encI (k : Nat)))], [(1, some ⟨5, 27, 0, [.t (encB b)]⟩), (2, some ⟨3, 25, 0, [.t z25]⟩), (3, some ⟨3, 25, 0, [.t (encP (sumL (b.ls.take k) (sumA b.accs b.sp)))]⟩)]⟩) (_) (⟨_, weak_keep (n := 35) (fr' := [(1, .ptr 1 0 0 0), (2, .ptr 2 0 0 0), (3, .ptr 3 0 0 0), (23, .t (.sl (b.ls.map encL) false)), (24, .t (encI b.ls.length)), (25, .t (encI (0 : Nat)))]) (st' := [(1, some ⟨5, 27, 0, [.t (encB b)]⟩), (2, some ⟨3, 25, 0, [.t z25]⟩), (3, some ⟨3, 25, 0, [.t (encP (sumL (b.ls.take 0) (sumA b.accs b.sp)))]⟩)]) ⟨rfl, rfl, rfl, rfl, rfl, rfl, rfl, rfl, rfl, rfl, rfl, rfl, trivial⟩ ⟨rfl, okE_one rfl, rfl, okE_one rfl, (by first | rfl | (rw [sumL_step (by omega)]; rfl)), okE_one rfl, trivial⟩, 0, (by omega), rfl, rfl⟩) ?_
    rintro m s ⟨k, hk, rfl, rfl⟩
    refine awp_seq ?_
    refine awp_rw rfl ?_
    refine RW.op rfl rfl (eff_iop rfl rfl rfl rfl rfl) ?_
    refine RW.nil ?_
    refine awp_seq ?_
    refine awp_cond rfl (fun h2 => ?_) (fun h2 => ?_)
    · try simp only [decide_eq_true_eq, decide_eq_false_iff_not, beq_iff_eq, bne_iff_ne, bne_eq_false_iff_eq, beq_eq_false_iff_ne, Bool.not_eq_true, Bool.not_eq_false, Bool.not_eq_true', Bool.not_eq_false', ne_eq] at h2
      refine awp_skip ?_
      refine awp_seq ?_
      refine awp_block ?_
      refine awp_seq ?_
      refine awp_rw rfl ?_
      refine RW.op rfl rfl (eff_indexM rfl rfl te23 rfl rfl rfl (by first | assumption | exact List.getElem?_eq_getElem (by omega)) rfl (by decide)) ?_
      refine RW.op rfl rfl (eff_loadW rfl rfl ti44 rfl rfl rfl) ?_
      refine RW.new rfl rfl (eff_allocK (k := 8) (id := 7) rfl rfl tz44 rfl rfl) ?_
      refine RW.store rfl rfl (eff_storeW (v := .t _) (els := [_]) (els' := [_]) rfl rfl ti44 rfl rfl rfl rfl rfl rfl rfl rfl rfl) ?_
      refine RW.nil ?_
      refine awp_rw rfl ?_
      refine RW.op rfl rfl (eff_load rfl rfl ti25 rfl (.whole rfl rfl rfl rfl rfl rfl)) ?_
      refine RW.op rfl rfl (eff_fieldAddr rfl rfl tf44_5 (by decide) rfl rfl rfl (Nat.le_of_ble_eq_true rfl)) ?_
      refine RW.op rfl rfl (eff_loadS (ys := [_, _, _]) rfl rfl ti25 rfl rfl rfl rfl rfl rfl) ?_
      refine RW.op rfl rfl (eff_callT (plus_ret (sumL (b.ls.take k) (sumA b.accs b.sp)) (b.ls[k]'(by omega)).h (hN.sumL hB k) (hN.lea (by omega))) co19 rfl rfl rfl rfl) ?_
      refine RW.store rfl rfl (eff_storeW (v := .t _) (els := [_]) (els' := [_]) rfl rfl ti25 rfl rfl rfl rfl rfl rfl rfl rfl rfl) ?_
      refine RW.nil ?_
      refine awp_rw rfl ?_
      refine RW.op rfl rfl (eff_iop rfl rfl rfl rfl (iadd (by omega))) ?_
      refine RW.op rfl rfl (eff_move (v := .t _) rfl rfl rfl) ?_
      refine RW.nil ?_
      refine ⟨_, ?_, _, weak_keep (n := 35) (fr' := [(1, .ptr 1 0 0 0), (2, .ptr 2 0 0 0), (3, .ptr 3 0 0 0), (23, .t (.sl (b.ls.map encL) false)), (24, .t (encI b.ls.length)), (25, .t (encI ((k + 1) : Nat)))]) (st' := [(1, some ⟨5, 27, 0, [.t (encB b)]⟩), (2, some ⟨3, 25, 0, [.t z25]⟩), (3, some ⟨3, 25, 0, [.t (encP (sumL (b.ls.take (k + 1)) (sumA b.accs b.sp)))]⟩)]) ⟨rfl, rfl, rfl, rfl, rfl, rfl, rfl, rfl, rfl, rfl, rfl, rfl, trivial⟩ ⟨rfl, okE_one rfl, rfl, okE_one rfl, (by first | rfl | (rw [sumL_step (by omega)]; rfl)), okE_one rfl, trivial⟩, k + 1, (by omega), rfl, rfl⟩
      omega
    · try simp only [decide_eq_true_eq, decide_eq_false_iff_not, beq_iff_eq, bne_iff_ne, bne_eq_false_iff_eq, beq_eq_false_iff_ne, Bool.not_eq_true, Bool.not_eq_false, Bool.not_eq_true', Bool.not_eq_false', ne_eq] at h2
      refine awp_exit ?_
      refine awp_seq ?_
      refine awp_rw rfl ?_
      refine RW.op rfl rfl (eff_load rfl rfl ti25 rfl (.whole rfl rfl rfl rfl rfl rfl)) ?_
      refine RW.store rfl rfl (eff_storeW (v := .t _) (els := [_]) (els' := [_]) rfl rfl ti25 rfl rfl rfl rfl rfl rfl rfl rfl rfl) ?_
      refine RW.nil ?_
      refine awp_ret ?_
      obtain rfl : k = b.ls.length := by omega
      rw [List.take_length]
      exact ⟨Or.inr rfl, [_], ⟨.cell rfl ti25 (.whole rfl rfl rfl rfl rfl rfl) (.t _), trivial⟩, .refl _⟩

theorem total15_ret (b : Bank) (hB : BOK b) (hN : NB b) : Ret Try.prog 15 [encB b] (encP (total b)) := by
  refine ret_of_awp Try.func15 rfl (Nat.le_of_ble_eq_true rfl) ?_
  refine awp_seq ?_
  refine awp_rw rfl ?_
  refine RW.new rfl rfl (eff_boxK (v := .t _) (k := 5) (id := 1) rfl rfl rfl rfl rfl rfl) ?_
  refine RW.new rfl rfl (eff_allocK (k := 3) (id := 2) rfl rfl tz25 rfl rfl) ?_
  refine RW.nil ?_
  refine awp_seq ?_
  refine awp_rw rfl ?_
  refine RW.op rfl rfl (eff_fieldAddr rfl rfl tf27_2 (by decide) rfl rfl rfl (Nat.le_of_ble_eq_true rfl)) ?_
  refine RW.op rfl rfl (eff_loadS (ys := [_, _, _]) rfl rfl ti25 rfl rfl rfl rfl rfl rfl) ?_
  refine RW.new rfl rfl (eff_allocK (k := 3) (id := 3) rfl rfl tz25 rfl rfl) ?_
  refine RW.store rfl rfl (eff_storeW (v := .t _) (els := [_]) (els' := [_]) rfl rfl ti25 rfl rfl rfl rfl rfl rfl rfl rfl rfl) ?_
  refine RW.nil ?_
  refine awp_seq ?_
  refine awp_seq ?_
  refine awp_rw rfl ?_
  refine RW.op rfl rfl (eff_assign (v := .t _) rfl rfl rfl) ?_
  refine RW.nil ?_
  refine awp_block ?_
  refine awp_loopW (fun m s => ∃ (i : Nat), (i ≤ b.accs.length) ∧ m = b.accs.length - i ∧ s = ⟨39, [(1, .ptr 1 0 0 0), (2, .ptr 2 0 0 0), (3, .ptr 3 0 0 0), (4, .t (encI (i : Nat)))], [(1, some ⟨5, 27, 0, [.t (encB b)]⟩), (2, some ⟨3, 25, 0, [.t z25]⟩), (3, some ⟨3, 25, 0, [.t (encP (sumA (b.accs.take i) b.sp))]⟩)]⟩) (_) (⟨_, weak_keep (n := 39) (fr' := [(1, .ptr 1 0 0 0), (2, .ptr 2 0 0 0), (3, .ptr 3 0 0 0), (4, .t (encI (0 : Nat)))]) (st' := [(1, some ⟨5, 27, 0, [.t (encB b)]⟩), (2, some ⟨3, 25, 0, [.t z25]⟩), (3, some ⟨3, 25, 0, [.t (encP (sumA (b.accs.take 0) b.sp))]⟩)]) ⟨rfl, rfl, rfl, rfl, rfl, rfl, rfl, rfl, trivial⟩ ⟨rfl, okE_one rfl, rfl, okE_one rfl, (by first | rfl | (rw [sumA_step (by omega)]; rfl)), okE_one rfl, trivial⟩, 0, (by omega), rfl, rfl⟩) ?_
  rintro m s ⟨i, hi, rfl, rfl⟩
  have hL := hB.1
  have hL2 := hB.2
  refine awp_seq ?_
  refine awp_seq ?_
  refine awp_rw rfl ?_
  refine RW.op rfl rfl (eff_move (v := .t _) rfl rfl rfl) ?_
  refine RW.op rfl rfl (eff_fieldAddr rfl rfl tf27_0 (by decide) rfl rfl rfl (Nat.le_of_ble_eq_true rfl)) ?_
  refine RW.op rfl rfl (eff_load (y := .t _) rfl rfl ti22 rfl (.one rfl rfl rfl rfl)) ?_
  refine RW.op rfl rfl (eff_lenM rfl rfl te22 rfl) ?_
  refine RW.op rfl rfl (eff_iop rfl rfl rfl rfl rfl) ?_
  refine RW.nil ?_
  refine awp_cond rfl (fun h1 => ?_) (fun h1 => ?_)
  · try simp only [decide_eq_true_eq, decide_eq_false_iff_not, beq_iff_eq, bne_iff_ne, bne_eq_false_iff_eq, beq_eq_false_iff_ne, Bool.not_eq_true, Bool.not_eq_false, Bool.not_eq_true', Bool.not_eq_false', ne_eq] at h1
    refine awp_skip ?_
    refine awp_seq ?_
    refine awp_block ?_
    refine awp_rd [(some 15, []), (some 16, []), (some 17, []), (some 18, []), (some 19, []), (some 20, []), (some 21, []), (some 22, []), (none, [3])] [[], [], [1], [], [1, 2, 3], [1, 2, 3, 4], [1, 2, 3, 4, 5], [0, 1, 2, 3, 4, 5, 6], [0, 1, 2, 3, 4, 5, 6, 7]] tm rfl rfl rfl rfl ?_
    refine RD.op rfl rfl rfl (eff_load rfl rfl ti25 rfl (.whole rfl rfl rfl rfl rfl rfl)) ?_
    refine RD.op rfl rfl rfl (eff_fieldAddr rfl rfl tf27_0 (by decide) rfl rfl rfl (Nat.le_of_ble_eq_true rfl)) ?_
    refine RD.op rfl rfl rfl (eff_load (y := .t _) rfl rfl ti22 rfl (.one rfl rfl rfl rfl)) ?_
    refine RD.op rfl rfl rfl (eff_move (v := .t _) rfl rfl rfl) ?_
    refine RD.op rfl rfl rfl (eff_indexM rfl rfl te22 rfl rfl rfl (by first | assumption | exact List.getElem?_eq_getElem (by omega)) rfl (by decide)) ?_
    refine RD.op rfl rfl rfl (eff_fieldAddrT rfl rfl tf57_1 (by decide) rfl) ?_
    refine RD.op rfl rfl rfl (eff_loadT (ys := [_, _, _]) rfl rfl ti25 rfl rfl rfl) ?_
    refine RD.op rfl rfl rfl (eff_callT (plus20_ret (sumA (b.accs.take i) b.sp) (b.accs[i]'(by omega)).p (hN.sumA hB i) (hN.acc (by omega))) co20 rfl rfl rfl rfl) ?_
    refine RD.store rfl rfl rfl (eff_storeW (v := .t _) (els := [_]) (els' := [_]) rfl rfl ti25 rfl rfl rfl rfl rfl rfl rfl rfl rfl) ?_
    refine RD.nil ?_
    refine awp_rw rfl ?_
    refine RW.op rfl rfl (eff_move (v := .t _) rfl rfl rfl) ?_
    refine RW.op rfl rfl (eff_iop rfl rfl rfl rfl (iadd (by omega))) ?_
    refine RW.op rfl rfl (eff_assign (v := .t _) rfl rfl rfl) ?_
    refine RW.nil ?_
    refine ⟨_, ?_, _, weak_keep (n := 39) (fr' := [(1, .ptr 1 0 0 0), (2, .ptr 2 0 0 0), (3, .ptr 3 0 0 0), (4, .t (encI ((i + 1) : Nat)))]) (st' := [(1, some ⟨5, 27, 0, [.t (encB b)]⟩), (2, some ⟨3, 25, 0, [.t z25]⟩), (3, some ⟨3, 25, 0, [.t (encP (sumA (b.accs.take (i + 1)) b.sp))]⟩)]) ⟨rfl, rfl, rfl, rfl, rfl, rfl, rfl, rfl, trivial⟩ ⟨rfl, okE_one rfl, rfl, okE_one rfl, (by first | rfl | (rw [sumA_step (by omega)]; rfl)), okE_one rfl, trivial⟩, i + 1, (by omega), rfl, rfl⟩
    omega
  · try simp only [decide_eq_true_eq, decide_eq_false_iff_not, beq_iff_eq, bne_iff_ne, bne_eq_false_iff_eq, beq_eq_false_iff_ne, Bool.not_eq_true, Bool.not_eq_false, Bool.not_eq_true', Bool.not_eq_false', ne_eq] at h1
    refine awp_exit ?_
    refine awp_seq ?_
    refine awp_seq ?_
    refine awp_rw rfl ?_
    obtain rfl : i = b.accs.length := by omega
    rw [List.take_length]
    refine RW.op rfl rfl (eff_assign (v := .t _) rfl rfl rfl) ?_
    refine RW.nil ?_
    refine awp_block ?_
    refine awp_loopW (fun m s => ∃ (k : Nat), (k ≤ b.ls.length) ∧ m = b.ls.length - k ∧ s = ⟨39, [(1, .ptr 1 0 0 0), (2, .ptr 2 0 0 0), (3, .ptr 3 0 0 0), (5, .t (encI (k : Nat)))], [(1, some ⟨5, 27, 0, [.t (encB b)]⟩), (2, some ⟨3, 25, 0, [.t z25]⟩), (3, some ⟨3, 25, 0, [.t (encP (sumL (b.ls.take k) (sumA b.accs b.sp)))]⟩)]⟩) (_) (⟨_, weak_keep (n := 39) (fr' := [(1, .ptr 1 0 0 0), (2, .ptr 2 0 0 0), (3, .ptr 3 0 0 0), (5, .t (encI (0 : Nat)))]) (st' := [(1, some ⟨5, 27, 0, [.t (encB b)]⟩), (2, some ⟨3, 25, 0, [.t z25]⟩), (3, some ⟨3, 25, 0, [.t (encP (sumL (b.ls.take 0) (sumA b.accs b.sp)))]⟩)]) ⟨rfl, rfl, rfl, rfl, rfl, rfl, rfl, rfl, trivial⟩ ⟨rfl, okE_one rfl, rfl, okE_one rfl, (by first | rfl | (rw [sumL_step (by omega)]; rfl)), okE_one rfl, trivial⟩, 0, (by omega), rfl, rfl⟩) ?_
    rintro m s ⟨k, hk, rfl, rfl⟩
    refine awp_seq ?_
    refine awp_seq ?_
    refine awp_rw rfl ?_
    refine RW.op rfl rfl (eff_move (v := .t _) rfl rfl rfl) ?_
    refine RW.op rfl rfl (eff_fieldAddr rfl rfl tf27_1 (by decide) rfl rfl rfl (Nat.le_of_ble_eq_true rfl)) ?_
    refine RW.op rfl rfl (eff_load (y := .t _) rfl rfl ti23 rfl (.one rfl rfl rfl rfl)) ?_
    refine RW.op rfl rfl (eff_lenM rfl rfl te23 rfl) ?_
    refine RW.op rfl rfl (eff_iop rfl rfl rfl rfl rfl) ?_
    refine RW.nil ?_
    refine awp_cond rfl (fun h2 => ?_) (fun h2 => ?_)
    · try simp only [decide_eq_true_eq, decide_eq_false_iff_not, beq_iff_eq, bne_iff_ne, bne_eq_false_iff_eq, beq_eq_false_iff_ne, Bool.not_eq_true, Bool.not_eq_false, Bool.not_eq_true', Bool.not_eq_false', ne_eq] at h2
      refine awp_skip ?_
      refine awp_seq ?_
      refine awp_block ?_
      refine awp_rd [(some 30, []), (some 31, []), (some 32, []), (some 33, []), (some 34, []), (some 35, []), (some 36, []), (some 37, []), (none, [3])] [[], [], [1], [], [1, 2, 3], [1, 2, 3, 4], [1, 2, 3, 4, 5], [0, 1, 2, 3, 4, 5, 6], [0, 1, 2, 3, 4, 5, 6, 7]] tm rfl rfl rfl rfl ?_
      refine RD.op rfl rfl rfl (eff_load rfl rfl ti25 rfl (.whole rfl rfl rfl rfl rfl rfl)) ?_
      refine RD.op rfl rfl rfl (eff_fieldAddr rfl rfl tf27_1 (by decide) rfl rfl rfl (Nat.le_of_ble_eq_true rfl)) ?_
      refine RD.op rfl rfl rfl (eff_load (y := .t _) rfl rfl ti23 rfl (.one rfl rfl rfl rfl)) ?_
      refine RD.op rfl rfl rfl (eff_move (v := .t _) rfl rfl rfl) ?_
      refine RD.op rfl rfl rfl (eff_indexM rfl rfl te23 rfl rfl rfl (by first | assumption | exact List.getElem?_eq_getElem (by omega)) rfl (by decide)) ?_
      refine RD.op rfl rfl rfl (eff_fieldAddrT rfl rfl tf44_5 (by decide) rfl) ?_
      refine RD.op rfl rfl rfl (eff_loadT (ys := [_, _, _]) rfl rfl ti25 rfl rfl rfl) ?_
      refine RD.op rfl rfl rfl (eff_callT (plus20_ret (sumL (b.ls.take k) (sumA b.accs b.sp)) (b.ls[k]'(by omega)).h (hN.sumL hB k) (hN.lea (by omega))) co20 rfl rfl rfl rfl) ?_
      refine RD.store rfl rfl rfl (eff_storeW (v := .t _) (els := [_]) (els' := [_]) rfl rfl ti25 rfl rfl rfl rfl rfl rfl rfl rfl rfl) ?_
      refine RD.nil ?_
      refine awp_rw rfl ?_
      refine RW.op rfl rfl (eff_move (v := .t _) rfl rfl rfl) ?_
      refine RW.op rfl rfl (eff_iop rfl rfl rfl rfl (iadd (by omega))) ?_
      refine RW.op rfl rfl (eff_assign (v := .t _) rfl rfl rfl) ?_
      refine RW.nil ?_
      refine ⟨_, ?_, _, weak_keep (n := 39) (fr' := [(1, .ptr 1 0 0 0), (2, .ptr 2 0 0 0), (3, .ptr 3 0 0 0), (5, .t (encI ((k + 1) : Nat)))]) (st' := [(1, some ⟨5, 27, 0, [.t (encB b)]⟩), (2, some ⟨3, 25, 0, [.t z25]⟩), (3, some ⟨3, 25, 0, [.t (encP (sumL (b.ls.take (k + 1)) (sumA b.accs b.sp)))]⟩)]) ⟨rfl, rfl, rfl, rfl, rfl, rfl, rfl, rfl, trivial⟩ ⟨rfl, okE_one rfl, rfl, okE_one rfl, (by first | rfl | (rw [sumL_step (by omega)]; rfl)), okE_one rfl, trivial⟩, k + 1, (by omega), rfl, rfl⟩
      omega
    · try simp only [decide_eq_true_eq, decide_eq_false_iff_not, beq_iff_eq, bne_iff_ne, bne_eq_false_iff_eq, beq_eq_false_iff_ne, Bool.not_eq_true, Bool.not_eq_false, Bool.not_eq_true', Bool.not_eq_false', ne_eq] at h2
      refine awp_exit ?_
      refine awp_seq ?_
      refine awp_rw rfl ?_
      refine RW.op rfl rfl (eff_load rfl rfl ti25 rfl (.whole rfl rfl rfl rfl rfl rfl)) ?_
      refine RW.store rfl rfl (eff_storeW (v := .t _) (els := [_]) (els' := [_]) rfl rfl ti25 rfl rfl rfl rfl rfl rfl rfl rfl rfl) ?_
      refine RW.nil ?_
      refine awp_ret ?_
      obtain rfl : k = b.ls.length := by omega
      rw [List.take_length]
      exact ⟨Or.inr rfl, [_], ⟨.cell rfl ti25 (.whole rfl rfl rfl rfl rfl rfl) (.t _), trivial⟩, .refl _⟩

theorem acc_eq {x y : Acc} (h : [x.c, x.p.e, x.p.b, x.p.d] = [y.c, y.p.e, y.p.b, y.p.d]) : x = y := by
  obtain ⟨c, e, b, d⟩ := x; obtain ⟨c', e', b', d'⟩ := y
  simp only [List.cons.injEq, and_true] at h
  obtain ⟨rfl, rfl, rfl, rfl⟩ := h; rfl
theorem lea_eq {x y : Lea} (h : [x.id, x.cu, x.dev, x.fr, x.un, x.h.e, x.h.b, x.h.d] = [y.id, y.cu, y.dev, y.fr, y.un, y.h.e, y.h.b, y.h.d]) : x = y := by
  obtain ⟨i, c, v, f, u, e, b, d⟩ := x; obtain ⟨i', c', v', f', u', e', b', d'⟩ := y
  simp only [List.cons.injEq, and_true] at h
  obtain ⟨rfl, rfl, rfl, rfl, rfl, rfl, rfl, rfl⟩ := h; rfl
theorem pur_eq {x y : Purse} (h : [x.e, x.b, x.d] = [y.e, y.b, y.d]) : x = y := by
  obtain ⟨e, b, d⟩ := x; obtain ⟨e', b', d'⟩ := y
  simp only [List.cons.injEq, and_true] at h
  obtain ⟨rfl, rfl, rfl⟩ := h; rfl
theorem bank_eq {a b : Bank} (h1 : a.accs = b.accs) (h2 : a.ls = b.ls) (h3 : a.sp = b.sp) : a = b := by
  obtain ⟨x, y, z⟩ := a; obtain ⟨x', y', z'⟩ := b
  simp only at h1 h2 h3
  subst h1 h2 h3; rfl

theorem same_ret (a b : Bank) (hA : BOK a) : Ret Try.prog 24 [encB a, encB b] (.bool (decide (a = b))) := by
  refine ret_of_awp Try.func24 rfl (Nat.le_of_ble_eq_true rfl) ?_
  refine awp_seq ?_
  refine awp_rw rfl ?_
  refine RW.new rfl rfl (eff_boxK (v := .t _) (k := 5) (id := 2) rfl rfl rfl rfl rfl rfl) ?_
  refine RW.new rfl rfl (eff_boxK (v := .t _) (k := 5) (id := 3) rfl rfl rfl rfl rfl rfl) ?_
  refine RW.op rfl rfl (eff_assign (v := .t _) rfl rfl rfl) ?_
  refine RW.nil ?_
  refine awp_seq ?_
  refine awp_seq ?_
  refine awp_rw rfl ?_
  refine RW.op rfl rfl (eff_fieldAddr rfl rfl tf27_0 (by decide) rfl rfl rfl (Nat.le_of_ble_eq_true rfl)) ?_
  refine RW.op rfl rfl (eff_load (y := .t _) rfl rfl ti22 rfl (.one rfl rfl rfl rfl)) ?_
  refine RW.op rfl rfl (eff_lenM rfl rfl te22 rfl) ?_
  refine RW.op rfl rfl (eff_fieldAddr rfl rfl tf27_0 (by decide) rfl rfl rfl (Nat.le_of_ble_eq_true rfl)) ?_
  refine RW.op rfl rfl (eff_load (y := .t _) rfl rfl ti22 rfl (.one rfl rfl rfl rfl)) ?_
  refine RW.op rfl rfl (eff_lenM rfl rfl te22 rfl) ?_
  refine RW.op rfl rfl (eff_iop rfl rfl rfl rfl rfl) ?_
  refine RW.op rfl rfl (eff_move (v := .t _) rfl rfl rfl) ?_
  refine RW.split 14 rfl (fun h1 => ?_) (fun h1 => ?_)
  · try simp only [decide_eq_true_eq, decide_eq_false_iff_not, beq_iff_eq, bne_iff_ne, bne_eq_false_iff_eq, beq_eq_false_iff_ne, Bool.not_eq_true, Bool.not_eq_false, Bool.not_eq_true', Bool.not_eq_false', ne_eq] at h1
    refine RW.gskip rfl rfl rfl rfl rfl (by decide) ?_
    refine RW.gskip rfl rfl rfl rfl rfl (by decide) ?_
    refine RW.gskip rfl rfl rfl rfl rfl (by decide) ?_
    refine RW.gskip rfl rfl rfl rfl rfl (by decide) ?_
    refine RW.gskip rfl rfl rfl rfl rfl (by decide) ?_
    refine RW.gskip rfl rfl rfl rfl rfl (by decide) ?_
    refine RW.gskip rfl rfl rfl rfl rfl (by decide) ?_
    refine RW.op rfl rfl (eff_pick (v := .t _) rfl rfl rfl rfl) ?_
    refine RW.op rfl rfl (eff_move (v := .t _) rfl rfl rfl) ?_
    refine RW.gskip rfl rfl rfl rfl rfl (by decide) ?_
    refine RW.gskip rfl rfl rfl rfl rfl (by decide) ?_
    refine RW.gskip rfl rfl rfl rfl rfl (by decide) ?_
    refine RW.gskip rfl rfl rfl rfl rfl (by decide) ?_
    refine RW.gskip rfl rfl rfl rfl rfl (by decide) ?_
    refine RW.op rfl rfl (eff_pick (v := .t _) rfl rfl rfl rfl) ?_
    refine RW.nil ?_
    refine awp_cond rfl (fun _ => ?_) (fun h => nomatch h)
    refine awp_seq ?_
    refine awp_rw rfl ?_
    refine RW.op rfl rfl (eff_assign (v := .t _) rfl rfl rfl) ?_
    refine RW.nil ?_
    refine awp_ret ?_
    rw [show decide (a = b) = false from decide_eq_false (fun e => by subst e; first | exact h1 rfl | exact h2 rfl | exact h3 rfl | exact h5 rfl | exact h7 rfl)]
    exact ⟨Or.inr rfl, [_], ⟨.tmp (.t _), trivial⟩, .refl _⟩
  · try simp only [decide_eq_true_eq, decide_eq_false_iff_not, beq_iff_eq, bne_iff_ne, bne_eq_false_iff_eq, beq_eq_false_iff_ne, Bool.not_eq_true, Bool.not_eq_false, Bool.not_eq_true', Bool.not_eq_false', ne_eq] at h1
    refine RW.gop rfl rfl rfl rfl rfl rfl (eff_fieldAddr rfl rfl tf27_1 (by decide) rfl rfl rfl (Nat.le_of_ble_eq_true rfl)) ?_
    refine RW.gop rfl rfl rfl rfl rfl rfl (eff_load (y := .t _) rfl rfl ti23 rfl (.one rfl rfl rfl rfl)) ?_
    refine RW.gop rfl rfl rfl rfl rfl rfl (eff_lenM rfl rfl te23 rfl) ?_
    refine RW.gop rfl rfl rfl rfl rfl rfl (eff_fieldAddr rfl rfl tf27_1 (by decide) rfl rfl rfl (Nat.le_of_ble_eq_true rfl)) ?_
    refine RW.gop rfl rfl rfl rfl rfl rfl (eff_load (y := .t _) rfl rfl ti23 rfl (.one rfl rfl rfl rfl)) ?_
    refine RW.gop rfl rfl rfl rfl rfl rfl (eff_lenM rfl rfl te23 rfl) ?_
    refine RW.gop rfl rfl rfl rfl rfl rfl (eff_iop rfl rfl rfl rfl rfl) ?_
    refine RW.op rfl rfl (eff_pick (v := .t _) rfl rfl rfl rfl) ?_
    refine RW.op rfl rfl (eff_move (v := .t _) rfl rfl rfl) ?_
    refine RW.split 23 rfl (fun h2 => ?_) (fun h2 => ?_)
    · try simp only [decide_eq_true_eq, decide_eq_false_iff_not, beq_iff_eq, bne_iff_ne, bne_eq_false_iff_eq, beq_eq_false_iff_ne, Bool.not_eq_true, Bool.not_eq_false, Bool.not_eq_true', Bool.not_eq_false', ne_eq] at h2
      refine RW.gskip rfl rfl rfl rfl rfl (by decide) ?_
      refine RW.gskip rfl rfl rfl rfl rfl (by decide) ?_
      refine RW.gskip rfl rfl rfl rfl rfl (by decide) ?_
      refine RW.gskip rfl rfl rfl rfl rfl (by decide) ?_
      refine RW.gskip rfl rfl rfl rfl rfl (by decide) ?_
      refine RW.op rfl rfl (eff_pick (v := .t _) rfl rfl rfl rfl) ?_
      refine RW.nil ?_
      refine awp_cond rfl (fun _ => ?_) (fun h => nomatch h)
      refine awp_seq ?_
      refine awp_rw rfl ?_
      refine RW.op rfl rfl (eff_assign (v := .t _) rfl rfl rfl) ?_
      refine RW.nil ?_
      refine awp_ret ?_
      rw [show decide (a = b) = false from decide_eq_false (fun e => by subst e; first | exact h1 rfl | exact h2 rfl | exact h3 rfl | exact h5 rfl | exact h7 rfl)]
      exact ⟨Or.inr rfl, [_], ⟨.tmp (.t _), trivial⟩, .refl _⟩
    · try simp only [decide_eq_true_eq, decide_eq_false_iff_not, beq_iff_eq, bne_iff_ne, bne_eq_false_iff_eq, beq_eq_false_iff_ne, Bool.not_eq_true, Bool.not_eq_false, Bool.not_eq_true', Bool.not_eq_false', ne_eq] at h2
      refine RW.gop rfl rfl rfl rfl rfl rfl (eff_fieldAddr rfl rfl tf27_2 (by decide) rfl rfl rfl (Nat.le_of_ble_eq_true rfl)) ?_
      refine RW.gop rfl rfl rfl rfl rfl rfl (eff_loadS (ys := [_, _, _]) rfl rfl ti25 rfl rfl rfl rfl rfl rfl) ?_
      refine RW.gop rfl rfl rfl rfl rfl rfl (eff_fieldAddr rfl rfl tf27_2 (by decide) rfl rfl rfl (Nat.le_of_ble_eq_true rfl)) ?_
      refine RW.gop rfl rfl rfl rfl rfl rfl (eff_loadS (ys := [_, _, _]) rfl rfl ti25 rfl rfl rfl rfl rfl rfl) ?_
      refine RW.gop rfl rfl rfl rfl rfl rfl (eff_structNeq (ns := [_, _, _]) (ms := [_, _, _]) rfl rfl tq25 ti25 th25 rfl rfl rfl rfl) ?_
      refine RW.op rfl rfl (eff_pick (v := .t _) rfl rfl rfl rfl) ?_
      refine RW.nil ?_
      refine awp_cond rfl (fun h3 => ?_) (fun h3 => ?_)
      · try simp only [decide_eq_true_eq, decide_eq_false_iff_not, beq_iff_eq, bne_iff_ne, bne_eq_false_iff_eq, beq_eq_false_iff_ne, Bool.not_eq_true, Bool.not_eq_false, Bool.not_eq_true', Bool.not_eq_false', ne_eq] at h3
        refine awp_seq ?_
        refine awp_rw rfl ?_
        refine RW.op rfl rfl (eff_assign (v := .t _) rfl rfl rfl) ?_
        refine RW.nil ?_
        refine awp_ret ?_
        rw [show decide (a = b) = false from decide_eq_false (fun e => by subst e; first | exact h1 rfl | exact h2 rfl | exact h3 rfl | exact h5 rfl | exact h7 rfl)]
        exact ⟨Or.inr rfl, [_], ⟨.tmp (.t _), trivial⟩, .refl _⟩
      · try simp only [decide_eq_true_eq, decide_eq_false_iff_not, beq_iff_eq, bne_iff_ne, bne_eq_false_iff_eq, beq_eq_false_iff_ne, Bool.not_eq_true, Bool.not_eq_false, Bool.not_eq_true', Bool.not_eq_false', ne_eq] at h3
        refine awp_skip ?_
        refine awp_seq ?_
        refine awp_seq ?_
        refine awp_rw rfl ?_
        refine RW.op rfl rfl (eff_assign (v := .t _) rfl rfl rfl) ?_
        refine RW.nil ?_
        refine awp_block ?_
        refine awp_loopW (fun m s => ∃ (i : Nat), (i ≤ a.accs.length) ∧ (a.accs.take i = b.accs.take i) ∧ m = a.accs.length - i ∧ s = ⟨66, [(2, .ptr 2 0 0 0), (3, .ptr 3 0 0 0), (5, .t (encI (i : Nat)))], [(2, some ⟨5, 27, 0, [.t (encB a)]⟩), (3, some ⟨5, 27, 0, [.t (encB b)]⟩)]⟩) (_) (⟨_, weak_keep (n := 66) (fr' := [(2, .ptr 2 0 0 0), (3, .ptr 3 0 0 0), (5, .t (encI (0 : Nat)))]) (st' := [(2, some ⟨5, 27, 0, [.t (encB a)]⟩), (3, some ⟨5, 27, 0, [.t (encB b)]⟩)]) ⟨rfl, rfl, rfl, rfl, rfl, rfl, trivial⟩ ⟨rfl, okE_one rfl, rfl, okE_one rfl, trivial⟩, 0, (by omega), (by simp), rfl, rfl⟩) ?_
        rintro m s ⟨i, hi, ha, rfl, rfl⟩
        have hL := hA.1
        have hL2 := hA.2
        refine awp_seq ?_
        refine awp_seq ?_
        refine awp_rw rfl ?_
        refine RW.op rfl rfl (eff_move (v := .t _) rfl rfl rfl) ?_
        refine RW.op rfl rfl (eff_fieldAddr rfl rfl tf27_0 (by decide) rfl rfl rfl (Nat.le_of_ble_eq_true rfl)) ?_
        refine RW.op rfl rfl (eff_load (y := .t _) rfl rfl ti22 rfl (.one rfl rfl rfl rfl)) ?_
        refine RW.op rfl rfl (eff_lenM rfl rfl te22 rfl) ?_
        refine RW.op rfl rfl (eff_iop rfl rfl rfl rfl rfl) ?_
        refine RW.nil ?_
        refine awp_cond rfl (fun h4 => ?_) (fun h4 => ?_)
        · try simp only [decide_eq_true_eq, decide_eq_false_iff_not, beq_iff_eq, bne_iff_ne, bne_eq_false_iff_eq, beq_eq_false_iff_ne, Bool.not_eq_true, Bool.not_eq_false, Bool.not_eq_true', Bool.not_eq_false', ne_eq] at h4
          refine awp_skip ?_
          refine awp_seq ?_
          refine awp_block ?_
          refine awp_seq ?_
          refine awp_rd [(some 37, []), (some 38, []), (some 39, []), (some 40, []), (some 41, []), (some 42, []), (some 43, []), (some 44, []), (some 45, []), (some 46, []), (some 47, [])] [[], [0], [], [0, 1, 2], [0, 1, 2, 3], [], [5], [], [5, 6, 7], [5, 6, 7, 8], [0, 1, 2, 3, 4, 5, 6, 7, 8, 9]] tm rfl rfl rfl rfl ?_
          refine RD.op rfl rfl rfl (eff_fieldAddr rfl rfl tf27_0 (by decide) rfl rfl rfl (Nat.le_of_ble_eq_true rfl)) ?_
          refine RD.op rfl rfl rfl (eff_load (y := .t _) rfl rfl ti22 rfl (.one rfl rfl rfl rfl)) ?_
          refine RD.op rfl rfl rfl (eff_move (v := .t _) rfl rfl rfl) ?_
          refine RD.op rfl rfl rfl (eff_indexM rfl rfl te22 rfl rfl rfl (by first | assumption | exact List.getElem?_eq_getElem (by omega)) rfl (by decide)) ?_
          refine RD.op rfl rfl rfl (eff_loadW rfl rfl ti57 rfl rfl rfl) ?_
          refine RD.op rfl rfl rfl (eff_fieldAddr rfl rfl tf27_0 (by decide) rfl rfl rfl (Nat.le_of_ble_eq_true rfl)) ?_
          refine RD.op rfl rfl rfl (eff_load (y := .t _) rfl rfl ti22 rfl (.one rfl rfl rfl rfl)) ?_
          refine RD.op rfl rfl rfl (eff_move (v := .t _) rfl rfl rfl) ?_
          refine RD.op rfl rfl rfl (eff_indexM rfl rfl te22 rfl rfl rfl (by first | assumption | exact List.getElem?_eq_getElem (by omega)) rfl (by decide)) ?_
          refine RD.op rfl rfl rfl (eff_loadW rfl rfl ti57 rfl rfl rfl) ?_
          refine RD.op rfl rfl rfl (eff_structNeq (ns := [_, _, _, _]) (ms := [_, _, _, _]) rfl rfl tq57 ti57 th57 rfl rfl rfl rfl) ?_
          refine RD.nil ?_
          refine awp_cond rfl (fun h5 => ?_) (fun h5 => ?_)
          · try simp only [decide_eq_true_eq, decide_eq_false_iff_not, beq_iff_eq, bne_iff_ne, bne_eq_false_iff_eq, beq_eq_false_iff_ne, Bool.not_eq_true, Bool.not_eq_false, Bool.not_eq_true', Bool.not_eq_false', ne_eq] at h5
            refine awp_seq ?_
            refine awp_rw rfl ?_
            refine RW.op rfl rfl (eff_assign (v := .t _) rfl rfl rfl) ?_
            refine RW.nil ?_
            refine awp_ret ?_
            rw [show decide (a = b) = false from decide_eq_false (fun e => by subst e; first | exact h1 rfl | exact h2 rfl | exact h3 rfl | exact h5 rfl | exact h7 rfl)]
            exact ⟨Or.inr rfl, [_], ⟨.tmp (.t _), trivial⟩, .refl _⟩
          · try simp only [decide_eq_true_eq, decide_eq_false_iff_not, beq_iff_eq, bne_iff_ne, bne_eq_false_iff_eq, beq_eq_false_iff_ne, Bool.not_eq_true, Bool.not_eq_false, Bool.not_eq_true', Bool.not_eq_false', ne_eq] at h5
            refine awp_skip ?_
            refine awp_rw rfl ?_
            refine RW.op rfl rfl (eff_move (v := .t _) rfl rfl rfl) ?_
            refine RW.op rfl rfl (eff_iop rfl rfl rfl rfl (iadd (by omega))) ?_
            refine RW.op rfl rfl (eff_assign (v := .t _) rfl rfl rfl) ?_
            refine RW.nil ?_
            refine ⟨_, ?_, _, weak_keep (n := 66) (fr' := [(2, .ptr 2 0 0 0), (3, .ptr 3 0 0 0), (5, .t (encI ((i + 1) : Nat)))]) (st' := [(2, some ⟨5, 27, 0, [.t (encB a)]⟩), (3, some ⟨5, 27, 0, [.t (encB b)]⟩)]) ⟨rfl, rfl, rfl, rfl, rfl, rfl, trivial⟩ ⟨rfl, okE_one rfl, rfl, okE_one rfl, trivial⟩, i + 1, (by omega), (by rw [take_succ_get (by omega), take_succ_get (by omega), ha, acc_eq (Classical.not_not.1 h5)]), rfl, rfl⟩
            omega
        · try simp only [decide_eq_true_eq, decide_eq_false_iff_not, beq_iff_eq, bne_iff_ne, bne_eq_false_iff_eq, beq_eq_false_iff_ne, Bool.not_eq_true, Bool.not_eq_false, Bool.not_eq_true', Bool.not_eq_false', ne_eq] at h4
          refine awp_exit ?_
          refine awp_seq ?_
          refine awp_seq ?_
          refine awp_rw rfl ?_
          refine RW.op rfl rfl (eff_assign (v := .t _) rfl rfl rfl) ?_
          refine RW.nil ?_
          refine awp_block ?_
          refine awp_loopW (fun m s => ∃ (k : Nat), (k ≤ a.ls.length) ∧ (a.ls.take k = b.ls.take k) ∧ m = a.ls.length - k ∧ s = ⟨66, [(2, .ptr 2 0 0 0), (3, .ptr 3 0 0 0), (6, .t (encI (k : Nat)))], [(2, some ⟨5, 27, 0, [.t (encB a)]⟩), (3, some ⟨5, 27, 0, [.t (encB b)]⟩)]⟩) (_) (⟨_, weak_keep (n := 66) (fr' := [(2, .ptr 2 0 0 0), (3, .ptr 3 0 0 0), (6, .t (encI (0 : Nat)))]) (st' := [(2, some ⟨5, 27, 0, [.t (encB a)]⟩), (3, some ⟨5, 27, 0, [.t (encB b)]⟩)]) ⟨rfl, rfl, rfl, rfl, rfl, rfl, trivial⟩ ⟨rfl, okE_one rfl, rfl, okE_one rfl, trivial⟩, 0, (by omega), (by simp), rfl, rfl⟩) ?_
          rintro m s ⟨k, hk, hb, rfl, rfl⟩
          refine awp_seq ?_
          refine awp_seq ?_
          refine awp_rw rfl ?_
          refine RW.op rfl rfl (eff_move (v := .t _) rfl rfl rfl) ?_
          refine RW.op rfl rfl (eff_fieldAddr rfl rfl tf27_1 (by decide) rfl rfl rfl (Nat.le_of_ble_eq_true rfl)) ?_
          refine RW.op rfl rfl (eff_load (y := .t _) rfl rfl ti23 rfl (.one rfl rfl rfl rfl)) ?_
          refine RW.op rfl rfl (eff_lenM rfl rfl te23 rfl) ?_
          refine RW.op rfl rfl (eff_iop rfl rfl rfl rfl rfl) ?_
          refine RW.nil ?_
          refine awp_cond rfl (fun h6 => ?_) (fun h6 => ?_)
          · try simp only [decide_eq_true_eq, decide_eq_false_iff_not, beq_iff_eq, bne_iff_ne, bne_eq_false_iff_eq, beq_eq_false_iff_ne, Bool.not_eq_true, Bool.not_eq_false, Bool.not_eq_true', Bool.not_eq_false', ne_eq] at h6
            refine awp_skip ?_
            refine awp_seq ?_
            refine awp_block ?_
            refine awp_seq ?_
            refine awp_rd [(some 55, []), (some 56, []), (some 57, []), (some 58, []), (some 59, []), (some 60, []), (some 61, []), (some 62, []), (some 63, []), (some 64, []), (some 65, [])] [[], [0], [], [0, 1, 2], [0, 1, 2, 3], [], [5], [], [5, 6, 7], [5, 6, 7, 8], [0, 1, 2, 3, 4, 5, 6, 7, 8, 9]] tm rfl rfl rfl rfl ?_
            refine RD.op rfl rfl rfl (eff_fieldAddr rfl rfl tf27_1 (by decide) rfl rfl rfl (Nat.le_of_ble_eq_true rfl)) ?_
            refine RD.op rfl rfl rfl (eff_load (y := .t _) rfl rfl ti23 rfl (.one rfl rfl rfl rfl)) ?_
            refine RD.op rfl rfl rfl (eff_move (v := .t _) rfl rfl rfl) ?_
            refine RD.op rfl rfl rfl (eff_indexM rfl rfl te23 rfl rfl rfl (by first | assumption | exact List.getElem?_eq_getElem (by omega)) rfl (by decide)) ?_
            refine RD.op rfl rfl rfl (eff_loadW rfl rfl ti44 rfl rfl rfl) ?_
            refine RD.op rfl rfl rfl (eff_fieldAddr rfl rfl tf27_1 (by decide) rfl rfl rfl (Nat.le_of_ble_eq_true rfl)) ?_
            refine RD.op rfl rfl rfl (eff_load (y := .t _) rfl rfl ti23 rfl (.one rfl rfl rfl rfl)) ?_
            refine RD.op rfl rfl rfl (eff_move (v := .t _) rfl rfl rfl) ?_
            refine RD.op rfl rfl rfl (eff_indexM rfl rfl te23 rfl rfl rfl (by first | assumption | exact List.getElem?_eq_getElem (by omega)) rfl (by decide)) ?_
            refine RD.op rfl rfl rfl (eff_loadW rfl rfl ti44 rfl rfl rfl) ?_
            refine RD.op rfl rfl rfl (eff_structNeq (ns := [_, _, _, _, _, _, _, _]) (ms := [_, _, _, _, _, _, _, _]) rfl rfl tq44 ti44 th44 rfl rfl rfl rfl) ?_
            refine RD.nil ?_
            refine awp_cond rfl (fun h7 => ?_) (fun h7 => ?_)
            · try simp only [decide_eq_true_eq, decide_eq_false_iff_not, beq_iff_eq, bne_iff_ne, bne_eq_false_iff_eq, beq_eq_false_iff_ne, Bool.not_eq_true, Bool.not_eq_false, Bool.not_eq_true', Bool.not_eq_false', ne_eq] at h7
              refine awp_seq ?_
              refine awp_rw rfl ?_
              refine RW.op rfl rfl (eff_assign (v := .t _) rfl rfl rfl) ?_
              refine RW.nil ?_
              refine awp_ret ?_
              rw [show decide (a = b) = false from decide_eq_false (fun e => by subst e; first | exact h1 rfl | exact h2 rfl | exact h3 rfl | exact h5 rfl | exact h7 rfl)]
              exact ⟨Or.inr rfl, [_], ⟨.tmp (.t _), trivial⟩, .refl _⟩
            · try simp only [decide_eq_true_eq, decide_eq_false_iff_not, beq_iff_eq, bne_iff_ne, bne_eq_false_iff_eq, beq_eq_false_iff_ne, Bool.not_eq_true, Bool.not_eq_false, Bool.not_eq_true', Bool.not_eq_false', ne_eq] at h7
              refine awp_skip ?_
              refine awp_rw rfl ?_
              refine RW.op rfl rfl (eff_move (v := .t _) rfl rfl rfl) ?_
              refine RW.op rfl rfl (eff_iop rfl rfl rfl rfl (iadd (by omega))) ?_
              refine RW.op rfl rfl (eff_assign (v := .t _) rfl rfl rfl) ?_
              refine RW.nil ?_
              refine ⟨_, ?_, _, weak_keep (n := 66) (fr' := [(2, .ptr 2 0 0 0), (3, .ptr 3 0 0 0), (6, .t (encI ((k + 1) : Nat)))]) (st' := [(2, some ⟨5, 27, 0, [.t (encB a)]⟩), (3, some ⟨5, 27, 0, [.t (encB b)]⟩)]) ⟨rfl, rfl, rfl, rfl, rfl, rfl, trivial⟩ ⟨rfl, okE_one rfl, rfl, okE_one rfl, trivial⟩, k + 1, (by omega), (by rw [take_succ_get (by omega), take_succ_get (by omega), hb, lea_eq (Classical.not_not.1 h7)]), rfl, rfl⟩
              omega
          · try simp only [decide_eq_true_eq, decide_eq_false_iff_not, beq_iff_eq, bne_iff_ne, bne_eq_false_iff_eq, beq_eq_false_iff_ne, Bool.not_eq_true, Bool.not_eq_false, Bool.not_eq_true', Bool.not_eq_false', ne_eq] at h6
            refine awp_exit ?_
            refine awp_seq ?_
            refine awp_rw rfl ?_
            refine RW.op rfl rfl (eff_assign (v := .t _) rfl rfl rfl) ?_
            refine RW.nil ?_
            refine awp_ret ?_
            rw [List.take_of_length_le (by omega), List.take_of_length_le (by omega)] at ha hb
            rw [show decide (a = b) = true from decide_eq_true (bank_eq ha hb (pur_eq (Classical.not_not.1 h3)))]
            exact ⟨Or.inr rfl, [_], ⟨.tmp (.t _), trivial⟩, .refl _⟩

end Go.Tv.C24

end
