/- Part of the proof that the laws of this seat return true for every input. No condition. -/
import Derived.Test.YtofiemifpgcfhaaDoorT1
import Derived.Shelf.SlSortCmp.NoneTotal
import Derived.Lib.QuietBelow
import Derived.LaidMore
import Derived.OpenShut
import Derived.Stop.Joined
import Derived.Laws.IdiomStrings
import Derived.Test.YtofiemifpgcfhaaDoorProg
import Derived.Lib.TrailingZeros
set_option linter.unnecessarySimpa false
set_option linter.unusedVariables false
set_option linter.unusedSimpArgs false
section
namespace Go.Tv
open Go.ChangeMaps (setBlock)
variable {P : Program} {o : Oper} {D : St} {F0 : Nat → Prop} {w0 : World} {kty : TypeId} {α β : Type}

/-- A tree that is this frozen map. -/
inductive IsMap (L : List (Value × Value)) : Tr → Prop
  | d : IsMap L (.mpd L)
  | x (b : Nat) : IsMap L (.mpx b L)

theorem IsMap.v {w : World} {F : Nat → Prop} {L : List (Value × Value)} {x : Tr} {v : Value} (h : IsMap L x) (hv : V w F x v) : ∃ b L', v = .map (some b) ∧ L'.Perm L ∧ w.heap[b]? = some (mapM L') := by
  cases h with
  | d => cases hv with | mpd L L' b hb hF hp hm => exact ⟨b, L', rfl, hp, hm⟩
  | x b => cases hv with | mpx b L hb hF hm => exact ⟨b, L, rfl, .refl _, hm⟩

theorem lookV_none {k : Value} : ∀ {L : List (Value × Value)}, lookV k L = none ↔ ∀ p, p ∈ L → p.1 ≠ k
  | [] => by simp [lookV]
  | e :: l => by
    unfold lookV
    by_cases h : k = e.1
    · rw [if_pos h]
      constructor
      · intro h; cases h
      · intro hh; exact absurd h.symm (hh e List.mem_cons_self)
    · rw [if_neg h, lookV_none]
      constructor
      · intro hh p hp
        rcases List.mem_cons.1 hp with rfl | hp
        · exact fun e => h e.symm
        · exact hh p hp
      · exact fun hh p hp => hh p (List.mem_cons_of_mem _ hp)
theorem lookV_some {k v : Value} : ∀ {L : List (Value × Value)}, (L.map (·.1)).Nodup → (lookV k L = some v ↔ (k, v) ∈ L)
  | [], _ => by simp [lookV]
  | e :: l, hn => by
    rw [List.map_cons, List.nodup_cons] at hn
    unfold lookV
    by_cases h : k = e.1
    · rw [if_pos h, Option.some.injEq]
      constructor
      · rintro rfl; rw [h]; exact List.mem_cons_self
      · intro hm
        rcases List.mem_cons.1 hm with hm | hm
        · rw [← hm]
        · exact absurd (List.mem_map.2 ⟨_, hm, rfl⟩) (by rw [← h] at hn; exact hn.1)
    · rw [if_neg h, lookV_some hn.2]
      constructor
      · exact List.mem_cons_of_mem _
      · intro hm
        rcases List.mem_cons.1 hm with hm | hm
        · exact absurd (by rw [← hm]) h
        · exact hm
theorem lookV_perm {k : Value} {L L' : List (Value × Value)} (hp : L'.Perm L) (hn : (L.map (·.1)).Nodup) : lookV k L' = lookV k L := by
  have hn' : (L'.map (·.1)).Nodup := (hp.map _).nodup_iff.2 hn
  cases h : lookV k L with
  | none => rw [lookV_none] at h ⊢; exact fun p hp' => h p (hp.mem_iff.1 hp')
  | some v => rw [lookV_some hn] at h; rw [lookV_some hn']; exact hp.mem_iff.2 h

theorem mapL_nodup (K : MapK P kty α) (X : MapX β) {l : List (α × β)} (h : (l.map (·.1)).Nodup) : ((mapL K X l).map (·.1)).Nodup := by
  unfold mapL
  rw [List.map_map, show ((·.1) ∘ fun p : α × β => (K.kv p.1, X.xv p.2)) = K.kv ∘ (·.1) from rfl, ← List.map_map]
  exact List.Pairwise.map _ (fun a b hab e => hab (K.inj _ _ e)) h

section
variable [DecidableEq α]
/-- A look into a frozen map. -/
theorem eff_getD (K : MapK P kty α) (X : MapX β) {t ety : TypeId} {m k : Operand} {mt : Tr} {a : α} {l : List (α × β)} {z : Tr} {zv : Value} (ht : P.underlying t = some (.map kty ety)) (hz : zeroOf P ety = some z) (hzf : Solid z zv) (hd : dstOK D.n o.dst = true) {ok : Bool} (ho : o.op = .lookup t m k ok)
    (hm : D.ev m = .t mt) (him : IsMap (mapL K X l) mt) (hnd : (l.map (·.1)).Nodup) (hk : D.ev k = .t (K.kt a)) {u : Tr} (hu : ((lookA a l).map X.xt).getD z = u) : Eff P o D ⟨.t (bif ok then .tup [u, .bool (lookA a l).isSome] else u), []⟩ :=
  Eff.pure hd fun s hs' F β' a' w hR => by
    obtain ⟨r, L', hmv, hperm, hb⟩ := him.v (hR.evT hs' hm)
    have hkv2 := (K.flat a).eq _ _ _ (hR.evT hs' hk)
    have hget : (getObj r).run P w = .ok (.map (entsFrom 0 L').toArray L'.length) w := by simp [getObj, Sem.run, hb, mapM]
    have hfind := K.law.find w (K.kv a) (entsFrom 0 L') ⟨a, rfl⟩ (mapM_good (good := fun v => ∃ a, v = K.kv a) (fun y hy => mapL_good K X l y (hperm.mem_iff.1 hy)))
    have hlp : lookV (K.kv a) L' = lookV (K.kv a) (mapL K X l) := lookV_perm hperm (mapL_nodup K X hnd)
    obtain ⟨zv', hzr, hzV, _, _⟩ := zeroOf_run hz w (fun _ => False)
    have := hzf.eq _ _ _ hzV
    subst this
    have huf : Solid u (((lookA a l).map X.xv).getD zv') := by
      subst hu
      cases lookA a l with
      | none => exact hzf
      | some b => exact X.flat b
    refine ⟨bif ok then .tuple #[((lookA a l).map X.xv).getD zv', .bool (lookA a l).isSome] else ((lookA a l).map X.xv).getD zv', ?_, .t ?_⟩
    · simp only [execOp, ho, hmv, hkv2, Instr.lookup, Sem.run_bind, run_underlying' w ht, Result.andThen_ok, hget, Sem.run_pure, K.law.chk _ w (K.kv a) ⟨a, rfl⟩, hfind]
      have hl := hlp.trans (look_map K X a l)
      cases hla : lookA a l with
      | none =>
        rw [hla] at hl
        simp only [findV_none _ 0 0 hl, Sem.run_bind, hzr, Sem.run_pure, Result.andThen_ok]
        cases ok <;> rfl
      | some b =>
        rw [hla] at hl
        obtain ⟨j, _, hf, _⟩ := findV_some _ 0 0 hl
        simp only [hf, Result.andThen_ok]
        cases ok <;> rfl
    · cases ok
      · exact huf.is _ _
      · exact .tup [u, .bool (lookA a l).isSome] [_, .bool (lookA a l).isSome] rfl (fun j c v hc hv => by
          match j with
          | 0 => simp at hc hv; subst hc hv; exact huf.is _ _
          | 1 => simp at hc hv; subst hc hv; exact .bool _
          | j + 2 => simp at hc)
end

/-- The length of a frozen map. -/
theorem eff_lenD {t kty ety : TypeId} {x : Operand} {mt : Tr} {L : List (Value × Value)} (hd : dstOK D.n o.dst = true) (ho : o.op = .call { callee := .builtin .len, args := #[x], argTypes := #[t] }) (ht : P.underlying t = some (.map kty ety))
    (hx : D.ev x = .t mt) (him : IsMap L mt) : Eff P o D ⟨.t (.int .i64 (L.length : Nat)), []⟩ :=
  Eff.pure hd fun s hs' F β a w hR => by
    obtain ⟨r, L', hmv, hperm, hb⟩ := him.v (hR.evT hs' hx)
    have hget : (getObj r).run P w = .ok (.map (entsFrom 0 L').toArray L'.length) w := by simp [getObj, Sem.run, hb, mapM]
    have hlen := hperm.length_eq
    refine ⟨.int .i64 (L.length : Nat), ?_, .t (.int _ _)⟩
    simp only [execOp, ho, resolve, hmv, invoke, builtin, Builtin.len_, List.map_toArray, List.map_cons, List.map_nil, Sem.run_bind, Sem.run_pure, Result.andThen_ok, List.getElem?_toArray, List.getElem?_cons_zero,
      run_underlying' w ht, goInt, hget]
    simp [ents_length, hlen]

/-! ### Ranging over a frozen map -/

theorem effJ_rangeX (K : MapK P kty α) (X : MapX β) {t ety : TypeId} {x : Operand} {m : Nat} {l : List (α × β)} {g : Gh} (ht : P.underlying t = some (.map kty ety)) (hd : dstOK D.n o.dst = true) (ho : o.op = .range t x) (hx : D.ev x = .t (.mpx m (mapL K X l))) :
    EffJ P none (JR F0 w0) o D g (fun e g' => ∃ r, gget g r = none ∧ e = ⟨.t (.adr r 0), []⟩ ∧ g' = (r, itM m l.length []) :: g) :=
  raw_op hd (by unfold noDefer; rw [ho]) fun F β a w hr hgw => by
    have hev := hr.ev x
    rw [hx] at hev
    obtain ⟨hmv, hb⟩ : a.eval x = .map (some m) ∧ w.heap[m]? = some (mapM (mapL K X l)) := by
      generalize a.eval x = v at hev
      cases hev with | t h => cases h with | mpx b L hb hF hm => exact ⟨rfl, hm⟩
    unfold mapM at hb
    rw [mapL_length] at hb
    have hget : (getObj m).run P w = .ok (.map (entsFrom 0 (mapL K X l)).toArray l.length) w := by simp [getObj, Sem.run, hb]
    obtain ⟨h1, h2⟩ := rawStep_new (q := itM m l.length []) (v := .pointer (some ⟨w.heap.size, 0, none⟩)) (x := .adr w.heap.size 0) (fun _ _ => .adr _ _) hgw
    refine ⟨_, _, _, _, ?_, ⟨_, h1, rfl, rfl⟩, h2⟩
    simp only [execOp, ho, hmv, Instr.range, Sem.run_bind, run_underlying' w ht, Result.andThen_ok, hget, Sem.run_pure, run_newObj, World.alloc_eq]
    rfl

theorem effJ_nextX (K : MapK P kty α) (X : MapX β) {x y : Operand} {r m : Nat} {seen : List Nat} {l : List (α × β)} {g : Gh} (hy : D.ev y = .t (.mpx m (mapL K X l))) (hd : dstOK D.n o.dst = true) (ho : o.op = .next x false) (hx : D.ev x = .t (.adr r 0))
    (hr0 : gget g r = some (itM m l.length seen)) :
    EffJ P none (JR F0 w0) o D g (fun e g' => (e = ⟨.t (.tup [.bool false]), []⟩ ∧ g' = g ∧ ∀ i, i < l.length → i ∈ seen) ∨
      ∃ (i : Nat) (hi : i < l.length), i ∉ seen ∧ e = ⟨.t (.tup [.bool true, K.kt l[i].1, X.xt l[i].2]), []⟩ ∧ g' = (r, itM m l.length (seen ++ [i])) :: g) :=
  raw_op hd (by unfold noDefer; rw [ho]) fun F β' a w hr hgw => by
    have hxv := hr.solid hx (solid_adr r 0)
    have hev := hr.ev y
    rw [hy] at hev
    have hb : w.heap[m]? = some (.map (entsFrom 0 (mapL K X l)).toArray (mapL K X l).length) := by
      generalize a.eval y = v at hev
      cases hev with | t h => cases h with | mpx b L hb hF hm => exact hm
    have hit : w.heap[r]? = some (.mapIter (some m) l.length seen.toArray l.length) := hgw r _ hr0
    rw [mapL_length] at hb
    have hold : ∀ y ∈ (entsFrom 0 (mapL K X l)).toArray.toList, y.born < l.length := fun y hy => by
      obtain ⟨i, hi, rfl⟩ := ents_mem (by simpa using hy)
      simpa [mapL_length] using hi
    rcases run_next_at (P := P) w o.type r m l.length l.length seen.toArray _ _ hit hb hold (Nat.le_refl _) with ⟨h0, hrun⟩ | ⟨e, he, w1, hw1, hrun⟩
    · refine ⟨.tuple #[.bool false], w, .tup [.bool false], g, ?_, .inl ⟨rfl, rfl, fun i hi => ?_⟩, RawStep.refl (fun _ _ => ?_) hgw⟩
      · simp only [execOp, ho, hxv, Sem.run_bind, hrun, Result.andThen_ok, Sem.run_pure]
      · refine Classical.byContradiction fun hn => ?_
        have : ({ key := K.kv l[i].1, val := X.xv l[i].2, born := i } : MapEntry) ∈ (leftOf (entsFrom 0 (mapL K X l)).toArray seen.toArray).toList := by
          unfold leftOf
          rw [Array.toList_filter]
          refine List.mem_filter.2 ⟨?_, by simpa using hn⟩
          refine List.mem_iff_getElem?.2 ⟨i, ?_⟩
          simp only []
          rw [ents_get]; simp [hi, mapL]
        rw [Array.size_eq_zero_iff.1 h0] at this
        simp at this
      · exact .tup [.bool false] [.bool false] rfl (fun j c v hc hv => by
          match j with
          | 0 => simp at hc hv; subst hc hv; exact .bool _
          | j + 1 => simp at hc)
    · unfold leftOf at he
      rw [Array.toList_filter] at he
      obtain ⟨he1, he2⟩ := List.mem_filter.1 he
      obtain ⟨i, hi, rfl⟩ := ents_mem (by simpa using he1)
      have hi' : i < l.length := by simpa [mapL_length] using hi
      have hk : (mapL K X l)[i] = (K.kv l[i].1, X.xv l[i].2) := by simp [mapL]
      refine ⟨.tuple #[.bool true, K.kv l[i].1, X.xv l[i].2], setBlock w1 r (itM m l.length (seen ++ [i])), .tup [.bool true, K.kt l[i].1, X.xt l[i].2], (r, itM m l.length (seen ++ [i])) :: g, ?_, .inr ⟨i, hi', by simpa using he2, rfl, rfl⟩, ?_⟩
      · simp only [execOp, ho, hxv, Sem.run_bind, hrun, Result.andThen_ok, Sem.run_pure, hk]
        unfold itM
        rw [show seen.toArray.push i = (seen ++ [i]).toArray from by simp]
      · exact rawStep_put hw1 (fun W F => v_pairB ((K.flat _).is W F) ((X.flat _).is W F)) hgw hr0

theorem effJ_entryX (K : MapK P kty α) (X : MapX β) {x y : Operand} {r m : Nat} {seen : List Nat} {l : List (α × β)} {g : Gh} {i : Nat} (hi : i < l.length) (hy : D.ev y = .t (.mpx m (mapL K X l))) (hd : dstOK D.n o.dst = true) (ho : o.op = .entry x) (hx : D.ev x = .t (.adr r 0))
    (hr0 : gget g r = some (itM m l.length (seen ++ [i]))) :
    EffJ P none (JR F0 w0) o D g (fun e g' => e = ⟨.t (.tup [K.kt l[i].1, X.xt l[i].2]), []⟩ ∧ g' = g) :=
  raw_op hd (by unfold noDefer; rw [ho]) fun F β' a w hr hgw => by
    have hxv := hr.solid hx (solid_adr r 0)
    have hev := hr.ev y
    rw [hy] at hev
    have hb : w.heap[m]? = some (.map (entsFrom 0 (mapL K X l)).toArray (mapL K X l).length) := by
      generalize a.eval y = v at hev
      cases hev with | t h => cases h with | mpx b L hb hF hm => exact hm
    rw [mapL_length] at hb
    have hit : w.heap[r]? = some (.mapIter (some m) l.length (seen.toArray.push i) l.length) := by
      have h := hgw r _ hr0
      unfold itM at h
      rwa [show (seen ++ [i]).toArray = seen.toArray.push i from by simp] at h
    have hmem : ({ key := K.kv l[i].1, val := X.xv l[i].2, born := i } : MapEntry) ∈ (entsFrom 0 (mapL K X l)).toArray.toList := by
      refine List.mem_iff_getElem?.2 ⟨i, ?_⟩
      simp only []
      rw [ents_get]; simp [hi, mapL]
    have hnd : ((entsFrom 0 (mapL K X l)).toArray.toList.map (·.born)).Nodup := by
      simp only []
      rw [ents_born]
      exact List.nodup_range'
    have hrun := run_entry_at (P := P) w r m l.length seen.toArray _ _ _ hit hb hmem hnd
    refine ⟨.tuple #[K.kv l[i].1, X.xv l[i].2], w, .tup [K.kt l[i].1, X.xt l[i].2], g, by simp only [execOp, ho, hxv, Sem.run_bind, hrun, Result.andThen_ok, Sem.run_pure], ⟨rfl, rfl⟩, RawStep.refl (fun W F => ?_) hgw⟩
    exact .tup [K.kt l[i].1, X.xt l[i].2] [K.kv l[i].1, X.xv l[i].2] rfl (fun j c v hc hv => by
      match j with
      | 0 => simp at hc hv; subst hc hv; exact (K.flat _).is W F
      | 1 => simp at hc hv; subst hc hv; exact (X.flat _).is W F
      | j + 2 => simp at hc)

/-! ### In regions -/
section
variable {all l : List Oper} {n : Nat} {fr : Fra} {st : Sto} {g : Gh} {K' : St → Gh → Prop}

theorem RJ.rMake {t : TypeId} {d : Tmp} (hg : o.guard = none) (hd : o.dst = some d) (hdn : dstOK n (some d) = true) (ho : o.op = .makeMap t none)
    (h : ∀ r, gget g r = none → RJ P none (JR F0 w0) all l ⟨n, (d, .t (.mp r)) :: fr, st⟩ ((r, mapM []) :: g) K') : RJ P none (JR F0 w0) all (o :: l) ⟨n, fr, st⟩ g K' :=
  RJ.many (.inl hg) (effJ_makeMap (by rw [hd]; exact hdn) ho) (by
    rintro e g' ⟨r, h1, rfl, rfl⟩
    rw [hd]
    exact h r h1)

theorem RJ.rPut [DecidableEq α] (K : MapK P kty α) (X : MapX β) {t ety : TypeId} {m k x : Operand} {r : Nat} {a : α} {b : β} {lm : List (α × β)} (hg : o.guard = none) (hd : o.dst = none) (ho : o.op = .mapUpdate t m k x ∨ o.op = .insert t m k x) (ht : P.underlying t = some (.map kty ety))
    (hm : (St.mk n fr st).ev m = .t (.mp r)) (hk : (St.mk n fr st).ev k = .t (K.kt a)) (hx : (St.mk n fr st).ev x = .t (X.xt b)) (hgm : gget g r = some (mapO K X lm))
    (h : RJ P none (JR F0 w0) all l ⟨n, fr, st⟩ ((r, mapO K X (putA a b lm)) :: g) K') : RJ P none (JR F0 w0) all (o :: l) ⟨n, fr, st⟩ g K' :=
  RJ.many (.inl hg) (effJ_put K X ht hd ho hm hk hx hgm) (by
    rintro e g' ⟨rfl, rfl⟩
    rw [hd]
    exact h)

theorem RJ.rRange (K : MapK P kty α) (X : MapX β) {t ety : TypeId} {x : Operand} {m : Nat} {lm : List (α × β)} {d : Tmp} (hg : o.guard = none) (hd : o.dst = some d) (hdn : dstOK n (some d) = true) (ho : o.op = .range t x) (ht : P.underlying t = some (.map kty ety))
    (hx : (St.mk n fr st).ev x = .t (.mpx m (mapL K X lm)))
    (h : ∀ r, gget g r = none → RJ P none (JR F0 w0) all l ⟨n, (d, .t (.adr r 0)) :: fr, st⟩ ((r, itM m lm.length []) :: g) K') : RJ P none (JR F0 w0) all (o :: l) ⟨n, fr, st⟩ g K' :=
  RJ.many (.inl hg) (effJ_rangeX K X ht (by rw [hd]; exact hdn) ho hx) (by
    rintro e g' ⟨r, h1, rfl, rfl⟩
    rw [hd]
    exact h r h1)

theorem RJ.rNext (K : MapK P kty α) (X : MapX β) (y : Operand) {x : Operand} {r m : Nat} {seen : List Nat} {lm : List (α × β)} {d : Tmp} (hg : o.guard = none) (hd : o.dst = some d) (hdn : dstOK n (some d) = true) (ho : o.op = .next x false)
    (hx : (St.mk n fr st).ev x = .t (.adr r 0)) (hy : (St.mk n fr st).ev y = .t (.mpx m (mapL K X lm))) (hr0 : gget g r = some (itM m lm.length seen))
    (hf : (∀ i, i < lm.length → i ∈ seen) → RJ P none (JR F0 w0) all l ⟨n, (d, .t (.tup [.bool false])) :: fr, st⟩ g K')
    (h : ∀ (i : Nat) (hi : i < lm.length), i ∉ seen → RJ P none (JR F0 w0) all l ⟨n, (d, .t (.tup [.bool true, K.kt lm[i].1, X.xt lm[i].2])) :: fr, st⟩ ((r, itM m lm.length (seen ++ [i])) :: g) K') : RJ P none (JR F0 w0) all (o :: l) ⟨n, fr, st⟩ g K' :=
  RJ.many (.inl hg) (effJ_nextX K X hy (by rw [hd]; exact hdn) ho hx hr0) (by
    rintro e g' (⟨rfl, rfl, h1⟩ | ⟨i, hi, h1, rfl, rfl⟩)
    · rw [hd]; exact hf h1
    · rw [hd]; exact h i hi h1)

theorem RJ.rEntry (K : MapK P kty α) (X : MapX β) (y : Operand) {x : Operand} {r m : Nat} {seen : List Nat} {lm : List (α × β)} {d : Tmp} {i : Nat} (hi : i < lm.length) (hg : o.guard = none) (hd : o.dst = some d) (hdn : dstOK n (some d) = true) (ho : o.op = .entry x)
    (hx : (St.mk n fr st).ev x = .t (.adr r 0)) (hy : (St.mk n fr st).ev y = .t (.mpx m (mapL K X lm))) (hr0 : gget g r = some (itM m lm.length (seen ++ [i])))
    (h : RJ P none (JR F0 w0) all l ⟨n, (d, .t (.tup [K.kt lm[i].1, X.xt lm[i].2])) :: fr, st⟩ g K') : RJ P none (JR F0 w0) all (o :: l) ⟨n, fr, st⟩ g K' :=
  RJ.many (.inl hg) (effJ_entryX K X hi hy (by rw [hd]; exact hdn) ho hx hr0) (by
    rintro e g' ⟨rfl, rfl⟩
    rw [hd]
    exact h)
end

/-! ### Opening and freezing -/

/-- A frozen map in a slot: its block gets a name. -/
theorem awj_open {γ : Type} {X : JP γ} {ro : Option Nat} {kp : Nat → Bool} {c : Code} {n : Nat} {fr : Fra} {st : Sto} {g : γ} {Q : Exit → St → γ → Prop} (i : Nat) {L : List (Value × Value)} (hi : fget fr i = .t (.mpd L))
    (h : ∀ b L', L'.Perm L → AWJ P ro kp X c ⟨n, (i, .t (.mpx b L')) :: fr, st⟩ g Q) : AWJ P ro kp X c ⟨n, fr, st⟩ g Q := by
  intro nn F β a w hr hJ
  have hv := hr.fr i
  rw [hi] at hv
  obtain ⟨b, L', hperm, hbv, hV⟩ : ∃ b L', L'.Perm L ∧ vAt a i = .map (some b) ∧ V w (G F β st) (.mpx b L') (vAt a i) := by
    generalize vAt a i = v at hv
    cases hv with
    | t h => cases h with | mpd L L' b hb hF hp hm => exact ⟨b, L', hp, rfl, .mpx b L' hb hF hm⟩
  have hr2 : Rel F β ⟨n, (i, .t (.mpx b L')) :: fr, st⟩ a w := by
    refine ⟨hr.defers, hr.size, fun j => ?_, hr.ob, hr.inj, hr.notF, hr.ltF⟩
    show VA w _ _ _ (cond (Nat.beq i j) (.t (.mpx b L')) (fget fr j)) _
    cases hij : Nat.beq i j with
    | true =>
      obtain rfl := Nat.eq_of_beq_eq_true hij
      exact .t hV
    | false => exact hr.fr j
  exact h b L' hperm nn F β a w hr2 hJ

def gdel (r : Nat) : Gh → Gh
  | [] => []
  | x :: l => if x.1 = r then gdel r l else x :: gdel r l
theorem gget_gdel (r b : Nat) : ∀ g : Gh, gget (gdel r g) b = if b = r then none else gget g b
  | [] => by simp [gdel, gget]
  | x :: l => by
    unfold gdel
    by_cases h : x.1 = r
    · rw [if_pos h, gget_gdel r b l]
      by_cases hb : b = r
      · simp [hb]
      · rw [if_neg hb, if_neg hb]
        show gget l b = if x.1 = b then some x.2 else gget l b
        rw [if_neg (fun e => hb (by rw [← e, h]))]
    · rw [if_neg h]
      unfold gget
      by_cases hb : x.1 = b
      · rw [if_pos hb, if_pos hb, if_neg (fun e => h (by rw [hb, e]))]
      · rw [if_neg hb, if_neg hb]; exact gget_gdel r b l

/-- A raw map becomes data. -/
theorem awj_freeze {kp : Nat → Bool} {c : Code} {n : Nat} {fr : Fra} {st : Sto} {g : Gh} {Q : Exit → St → Gh → Prop} (i : Nat) {r : Nat} {L0 : List (Value × Value)} (L : List (Value × Value)) (hi : fget fr i = .t (.mp r)) (hg : gget g r = some (mapM L0)) (hperm : L0.Perm L)
    (h : AWJ P none kp (JR F0 w0) c ⟨n, (i, .t (.mpd L)) :: fr, st⟩ (gdel r g) Q) : AWJ P none kp (JR F0 w0) c ⟨n, fr, st⟩ g Q := by
  intro nn F β a w hr hJ
  obtain ⟨j1, j2, j3, j4⟩ := hJ
  obtain ⟨hm, hno⟩ := j3 r _ hg
  have hF' : ∀ b, (F0 b ∨ (gget (gdel r g) b).isSome = true) → F b := fun b hb => (j1 b).2 (hb.imp id (fun h => by
    rw [gget_gdel] at h
    by_cases e : b = r
    · rw [if_pos e] at h; cases h
    · rw [if_neg e] at h; exact h))
  have hr1 : Rel (fun b => F0 b ∨ (gget (gdel r g) b).isSome = true) β ⟨n, fr, st⟩ a w := hr.party (Nat.le_refl _) (fun b _ hn => ⟨rfl, fun h => hn (hF' b h)⟩) (fun b hb => hr.ltF b (hF' b hb))
  have hv := hr.fr i
  rw [hi] at hv
  have hav : vAt a i = .map (some r) := by
    generalize vAt a i = v at hv
    cases hv with | t h => cases h; rfl
  have hr2 : Rel (fun b => F0 b ∨ (gget (gdel r g) b).isSome = true) β ⟨n, (i, .t (.mpd L)) :: fr, st⟩ a w := by
    refine ⟨hr1.defers, hr1.size, fun j => ?_, hr1.ob, hr1.inj, hr1.notF, hr1.ltF⟩
    show VA w _ _ _ (cond (Nat.beq i j) (.t (.mpd L)) (fget fr j)) _
    cases hij : Nat.beq i j with
    | true =>
      obtain rfl := Nat.eq_of_beq_eq_true hij
      rw [hav]
      refine .t (.mpd L L0 r (lt_of_heap hm) (fun hG => ?_) hperm hm)
      rcases hG with (h | h) | h
      · have := (j2 r h).2.2.2; rw [hg] at this; cases this
      · rw [gget_gdel, if_pos rfl] at h; cases h
      · exact hno h
    | false => exact hr1.fr j
  have hJ2 : (JR F0 w0).J (gdel r g) (Owned β st) (fun b => F0 b ∨ (gget (gdel r g) b).isSome = true) w := by
    refine ⟨fun b => Iff.rfl, fun b hb => ?_, fun b q hq => ?_, j4⟩
    · obtain ⟨g1, g2, g3, g4⟩ := j2 b hb
      refine ⟨g1, g2, g3, ?_⟩
      rw [gget_gdel]
      by_cases e : b = r
      · rw [if_pos e]
      · rw [if_neg e]; exact g4
    · rw [gget_gdel] at hq
      by_cases e : b = r
      · rw [if_pos e] at hq; cases hq
      · rw [if_neg e] at hq; exact j3 b q hq
  refine wpIn_mono (h nn _ β a w hr2 hJ2) ?_
  rintro e a' w' ⟨s', β', g', F', a'', hq, hr', rfl, hj', hev, hke⟩
  exact ⟨s', β', g', F', a'', hq, hr', rfl, hj', ⟨hev.os, hev.tape, hev.output, hev.size, fun b hb hn hno' => hev.keep b hb (fun h => hn (hF' b h)) hno', hev.own, fun b hb => (hev.fn b hb).imp (hF' b) id, hev.shp⟩, hke⟩

/-- A contract out of a body that works on raw blocks of its own. -/
theorem retT_of_awr {f : FuncId} {fn : Func} {c : Code} {ts : List (Nat × Tr)} {xs : List Tr} {r : Tr} (hf : P.funcs[f]? = some fn) (hb : fn.body = some c) (hn : xs.length ≤ fn.ntmps)
    (h : ∀ F0 w0, AWJ P none (fun _ => false) (JR F0 w0) c ⟨fn.ntmps, initFr 0 xs ++ tabFr fn.ntmps ts, []⟩ [] (fun e s _ => (e = .normal ∨ e = .ret) ∧ ∃ rs, RVars P s fn.results.toList rs ∧ Wk (packT rs) r)) : RetT P f ts xs r :=
  RetRT.pure (retRT_of_awj hf hb hn fun F0 w0 => by
    have h1 := h F0 w0
    intro nn F β a w hr hJ
    refine wpIn_mono (h1 nn F β a w hr hJ) ?_
    rintro e a' w' ⟨s', β', g', F', a'', ⟨he, rs, hrs, hwk⟩, hr', rfl, hj', hev, hke⟩
    exact ⟨s', β', g', F', a'', ⟨he, rs, r, [], hrs, hwk, rfl, fun b o ho => by simp [gget] at ho⟩, hr', rfl, hj', hev, hke⟩)
theorem ret_of_awr {f : FuncId} {fn : Func} {c : Code} {xs : List Tr} {r : Tr} (hf : P.funcs[f]? = some fn) (hb : fn.body = some c) (hn : xs.length ≤ fn.ntmps)
    (h : ∀ F0 w0, AWJ P none (fun _ => false) (JR F0 w0) c ⟨fn.ntmps, initFr 0 xs, []⟩ [] (fun e s _ => (e = .normal ∨ e = .ret) ∧ ∃ rs, RVars P s fn.results.toList rs ∧ Wk (packT rs) r)) : Ret P f xs r :=
  RetT.ret (retT_of_awr hf hb hn fun F0 w0 => by
    have := h F0 w0
    rwa [show initFr 0 xs ++ tabFr fn.ntmps [] = initFr 0 xs from by simp [tabFr]])

/-- A permutation of images is the image of a permutation. -/
theorem perm_of_map {α β : Type} {f : α → β} : ∀ (l : List α) {m : List β}, m.Perm (l.map f) → ∃ l' : List α, l'.Perm l ∧ m = l'.map f
  | [], m, h => ⟨[], .refl _, by simpa using h.eq_nil⟩
  | a :: l, m, h => by
    have hm : f a ∈ m := h.mem_iff.2 (by simp)
    obtain ⟨s, t, rfl⟩ := List.append_of_mem hm
    have h2 : (s ++ t).Perm (l.map f) := by
      have h3 : (f a :: (s ++ t)).Perm (f a :: l.map f) := List.perm_middle.symm.trans (by simpa using h)
      exact h3.cons_inv
    obtain ⟨l', hp, e⟩ := perm_of_map l h2
    obtain ⟨s', t', rfl, rfl, rfl⟩ : ∃ s' t', l' = s' ++ t' ∧ s = s'.map f ∧ t = t'.map f := by
      obtain ⟨s', t', e1, e2, e3⟩ := List.map_eq_append_iff.1 e.symm
      exact ⟨s', t', e1, e2.symm, e3.symm⟩
    exact ⟨s' ++ a :: t', List.perm_middle.trans (hp.cons a), by simp⟩

section
variable {all l : List Oper} {n : Nat} {fr : Fra} {st : Sto} {K : St → Prop} {tch : Tch} {cl : List (List Nat)} {i : Nat}
theorem RD.new2 {v : AV} {d : Tmp} {i1 i2 : Nat} {o1 o2 : Ob} (hg : o.guard = none) (hd : o.dst = some d) (ht : tch.getD i (none, []) = (some d, [i1, i2])) (he : Eff P o (forget (hid tch cl i) ⟨n, fr, st⟩) ⟨v, [(i1, o1), (i2, o2)]⟩)
    (h : RD P all tch cl (i + 1) l ((St.mk n fr st).app (some d) ⟨v, [(i1, o1), (i2, o2)]⟩) K) : RD P all tch cl i (o :: l) ⟨n, fr, st⟩ K :=
  ⟨_, by rw [ht, hd]; rfl, .inl ⟨hg, he⟩, by rw [hd]; exact h⟩
end
end Go.Tv

end
section
namespace Go.Tv

variable {P : Program} {o : Oper} {D : St}

inductive SK where
  | int (k : IntKind)
  | bool
  deriving DecidableEq
inductive Sc where
  | int (k : IntKind) (n : Int)
  | bool (b : Bool)
  deriving DecidableEq
def Sc.kind : Sc → SK
  | .int k _ => .int k
  | .bool _ => .bool
def Sc.v : Sc → Value
  | .int k n => .int k n
  | .bool b => .bool b
def Sc.tr : Sc → Tr
  | .int k n => .int k n
  | .bool b => .bool b
theorem Sc.solid (s : Sc) : Solid s.tr s.v := by cases s <;> first | exact solid_int _ _ | exact solid_bool _
theorem Sc.v_inj {a b : Sc} (h : a.v = b.v) : a = b := by
  cases a <;> cases b <;> simp [Sc.v] at h <;> simp [h]

/-- The fields of a struct from an offset on hold scalars, cell by cell. -/
def scFs (P : Program) (rec : TypeId → Option (List SK)) : Nat → List Field → Option (List SK)
  | _, [] => some []
  | off, f :: fs => match rec f.type with
    | some ks => if f.name ≠ "_" ∧ f.offset = off then (scFs P rec (off + ks.length) fs).map (ks ++ ·) else none
    | none => none

/-- The kinds of the cells of a type that holds scalars alone. -/
def scCells (P : Program) : Nat → TypeId → Option (List SK)
  | 0, _ => none
  | d + 1, t => match P.underlying t with
    | some (.int k) => match tinf P t with
      | some (1, false) => some [.int k]
      | _ => none
    | some .bool => match tinf P t with
      | some (1, false) => some [.bool]
      | _ => none
    | some (.struct fs) => match tinf P t, scFs P (scCells P d) 0 fs.toList with
      | some (k, true), some ks => if P.stoodInHeld t = false ∧ ks.length = k then some ks else none
      | _, _ => none
    | _ => none

/-- The cells of a part of an aggregate, as the value that it is. -/
def packS (g : Bool) (ns : List Sc) : Value := if g then .agg (ns.map Sc.v).toArray else (ns.headD (.bool false)).v

theorem scCells_tinf {d : Nat} {t : TypeId} {ks : List SK} (h : scCells P d t = some ks) : ∃ g, tinf P t = some (ks.length, g) ∧ (g = false → ks.length = 1) := by
  cases d with
  | zero => simp [scCells] at h
  | succ d =>
    unfold scCells at h
    split at h
    · split at h
      · rename_i h2; cases h; exact ⟨false, h2, fun _ => rfl⟩
      · cases h
    · split at h
      · rename_i h2; cases h; exact ⟨false, h2, fun _ => rfl⟩
      · cases h
    · split at h
      · rename_i h2 h3
        split at h
        · rename_i hc; cases h; exact ⟨true, by rw [h2, hc.2], fun h => by cases h⟩
        · cases h
      · cases h
    · cases h

theorem partS_run {t : TypeId} {k : Nat} {g : Bool} (h : tinf P t = some (k, g)) (hg : g = false → k = 1) (w : World) (ns : List Sc) (off : Nat) (hb : off + k ≤ ns.length) :
    (part t (ns.map Sc.v).toArray off).run P w = .ok (packS g ((ns.drop off).take k)) w := by
  unfold part
  cases g with
  | true =>
    simp only [Sem.run_bind, run_isAgg' w h, Result.andThen_ok, if_true, run_sizeOf' w h, Sem.run_pure]
    congr 2
    apply Array.ext'
    simp [List.map_take, List.map_drop, List.extract_eq_take_drop]
  | false =>
    have hk := hg rfl
    subst hk
    have hlt : off < ns.length := by omega
    simp only [Sem.run_bind, run_isAgg' w h, Result.andThen_ok, Bool.false_eq_true, if_false]
    have h2 : (List.map Sc.v ns).toArray[off]? = some (ns[off].v) := by simp [hlt]
    rw [h2]
    simp only [Sem.run_pure]
    have h3 : (ns.drop off).take 1 = [ns[off]] := by
      rw [List.drop_eq_getElem_cons hlt]; rfl
    rw [h3]; rfl

/-- The comparison of the fields of a struct, one after another. -/
theorem fieldsS_run {d : Nat} (e : Nat) (ih : ∀ (t : TypeId) (ks : List SK) (g : Bool), scCells P d t = some ks → tinf P t = some (ks.length, g) → ∀ (w : World) (ns ms : List Sc), ns.map Sc.kind = ks → ms.map Sc.kind = ks →
      (Op.equalIn (d + e) t (packS g ns) (packS g ms)).run P w = .ok (decide (ns = ms)) w) (w : World) (ns ms : List Sc) (hl : ns.map Sc.kind = ms.map Sc.kind) :
    ∀ (fs : List Field) (off : Nat), scFs P (scCells P d) off fs = some ((ns.map Sc.kind).drop off) → off ≤ ns.length →
      (do
        let r ← forIn (m := Sem) fs ((none, ()) : Option Bool × Unit) fun f _ => do
          if f.name ≠ "_" then
            if !(← Op.equalIn (d + e) f.type (← part f.type (ns.map Sc.v).toArray f.offset) (← part f.type (ms.map Sc.v).toArray f.offset)) then pure (ForInStep.done (some false, ())) else pure (ForInStep.yield (none, ()))
          else pure (ForInStep.yield (none, ()))
        match r.1 with
        | none => pure true
        | some b => pure b : Sem Bool).run P w = .ok (decide (ns.drop off = ms.drop off)) w
  | [], off, h, hoff => by
    have hlen : ns.length = ms.length := by simpa using congrArg List.length hl
    simp only [scFs, Option.some.injEq] at h
    have h0 := congrArg List.length h
    simp at h0
    have h1 : ns.drop off = [] := List.drop_eq_nil_of_le (by omega)
    have h2 : ms.drop off = [] := List.drop_eq_nil_of_le (by omega)
    rw [h1, h2]
    simp only [List.forIn_nil, Sem.run_bind, Sem.run_pure, Result.andThen_ok]
    rfl
  | f :: fs, off, h, hoff => by
    have hlen : ns.length = ms.length := by simpa using congrArg List.length hl
    unfold scFs at h
    split at h
    · rename_i ks hk
      split at h
      · rename_i hc
        obtain ⟨hn, ho⟩ := hc
        subst ho
        obtain ⟨g, ht, hg⟩ := scCells_tinf hk
        obtain ⟨rest, hrest, happ⟩ := Option.map_eq_some_iff.1 h
        have hb : f.offset + ks.length ≤ ns.length := by
          have := congrArg List.length happ
          simp at this; omega
        have hks : ((ns.drop f.offset).take ks.length).map Sc.kind = ks := by
          rw [List.map_take, List.map_drop, ← happ]; simp
        have hks2 : ((ms.drop f.offset).take ks.length).map Sc.kind = ks := by
          rw [List.map_take, List.map_drop, ← hl, ← happ]; simp
        have hrest2 : scFs P (scCells P d) (f.offset + ks.length) fs = some ((ns.map Sc.kind).drop (f.offset + ks.length)) := by
          rw [hrest, ← List.drop_drop, ← happ]; simp
        have hr := fieldsS_run e ih w ns ms hl fs (f.offset + ks.length) hrest2 hb
        have h1 := partS_run ht hg w ns f.offset hb
        have h2 := partS_run ht hg w ms f.offset (by omega)
        have h3 := ih f.type ks g hk ht w ((ns.drop f.offset).take ks.length) ((ms.drop f.offset).take ks.length) hks hks2
        have hsp : (ns.drop f.offset = ms.drop f.offset) ↔ ((ns.drop f.offset).take ks.length = (ms.drop f.offset).take ks.length ∧ ns.drop (f.offset + ks.length) = ms.drop (f.offset + ks.length)) := by
          constructor
          · intro he; rw [he]; refine ⟨rfl, ?_⟩
            rw [← List.drop_drop, ← List.drop_drop, he]
          · rintro ⟨ha, hb⟩
            rw [← List.take_append_drop ks.length (ns.drop f.offset), ← List.take_append_drop ks.length (ms.drop f.offset), ha, List.drop_drop, List.drop_drop, hb]
        rw [List.forIn_cons]
        by_cases he : (ns.drop f.offset).take ks.length = (ms.drop f.offset).take ks.length
        · have e1 : decide ((ns.drop f.offset).take ks.length = (ms.drop f.offset).take ks.length) = true := decide_eq_true he
          rw [e1] at h3
          have e2 : decide (ns.drop f.offset = ms.drop f.offset) = decide (ns.drop (f.offset + ks.length) = ms.drop (f.offset + ks.length)) := decide_eq_decide.2 (by rw [hsp]; exact ⟨fun h => h.2, fun h => ⟨he, h⟩⟩)
          rw [e2, ← hr]
          simp only [ne_eq, hn, not_false_eq_true, if_true, bind_assoc, Sem.run_bind, h1, h2, h3, Result.andThen_ok, Bool.not_true, Bool.false_eq_true, if_false, Sem.run_pure]
        · have e1 : decide ((ns.drop f.offset).take ks.length = (ms.drop f.offset).take ks.length) = false := decide_eq_false he
          rw [e1] at h3
          have e2 : decide (ns.drop f.offset = ms.drop f.offset) = false := decide_eq_false (fun h => he (hsp.1 h).1)
          rw [e2]
          simp only [ne_eq, hn, not_false_eq_true, if_true, bind_assoc, Sem.run_bind, h1, h2, h3, Result.andThen_ok, Bool.not_false, Sem.run_pure]
      · cases h
    · cases h

theorem equalS_run : ∀ (d e : Nat) (t : TypeId) (ks : List SK) (g : Bool), scCells P d t = some ks → tinf P t = some (ks.length, g) → ∀ (w : World) (ns ms : List Sc), ns.map Sc.kind = ks → ms.map Sc.kind = ks →
    (Op.equalIn (d + e) t (packS g ns) (packS g ms)).run P w = .ok (decide (ns = ms)) w
  | 0, _, _, _, _, h, _, _, _, _, _, _ => by simp [scCells] at h
  | d + 1, e, t, ks, g, h, ht, w, ns, ms, hn, hm => by
    have hde : d + 1 + e = (d + e) + 1 := by omega
    rw [hde]
    have hone : ∀ {k : SK} {l : List Sc}, l.map Sc.kind = [k] → ∃ s, l = [s] ∧ s.kind = k := by
      intro k l h
      match l, h with
      | [s], h => exact ⟨s, rfl, by simpa using h⟩
    unfold scCells at h
    split at h
    · rename_i k hu
      split at h
      · rename_i h2
        cases h
        rw [h2] at ht; cases ht
        obtain ⟨a, rfl, ha⟩ := hone hn
        obtain ⟨b, rfl, hb⟩ := hone hm
        cases a <;> simp [Sc.kind] at ha
        cases b <;> simp [Sc.kind] at hb
        subst ha; subst hb
        rename_i n k' m
        show (Op.equalIn (d + e + 1) t (.int k' n) (.int k' m)).run P w = _
        simp only [Op.equalIn, Sem.run_bind, run_underlying' w hu, Result.andThen_ok, if_true, Sem.run_pure]
        congr 1
        by_cases hnm : n = m
        · subst hnm; simp
        · simp [hnm]
      · cases h
    · rename_i hu
      split at h
      · rename_i h2
        cases h
        rw [h2] at ht; cases ht
        obtain ⟨a, rfl, ha⟩ := hone hn
        obtain ⟨b, rfl, hb⟩ := hone hm
        cases a <;> simp [Sc.kind] at ha
        cases b <;> simp [Sc.kind] at hb
        rename_i n m
        show (Op.equalIn (d + e + 1) t (.bool n) (.bool m)).run P w = _
        simp only [Op.equalIn, Sem.run_bind, run_underlying' w hu, Result.andThen_ok, Sem.run_pure]
        congr 1
        by_cases hnm : n = m
        · subst hnm; simp
        · simp [hnm]
      · cases h
    · rename_i fs hu
      split at h
      · rename_i k' ks' h2 hfs
        split at h
        · rename_i hc
          cases h
          obtain ⟨hst, hlen⟩ := hc
          rw [h2, hlen] at ht; cases ht
          rw [← hn] at hfs
          have := fieldsS_run e (fun t k g hk ht w ns ms hn hm => equalS_run d e t k g hk ht w ns ms hn hm) w ns ms (hn.trans hm.symm) fs.toList 0 (by simpa using hfs) (Nat.zero_le _)
          simp only [List.drop_zero] at this
          rw [← this]
          show (Op.equalIn (d + e + 1) t (.agg (ns.map Sc.v).toArray) (.agg (ms.map Sc.v).toArray)).run P w = _
          simp only [Op.equalIn, Sem.run_bind, run_underlying' w hu, Result.andThen_ok, run_program, hst, Bool.false_eq_true, if_false]
          rw [← Array.forIn_toList]
          congr 1
          funext a w'
          rcases a with ⟨_ | b, _⟩ <;> rfl
        · cases h
      · cases h
    · cases h

theorem solid_scs (ns : List Sc) : Solid (.agg (ns.map Sc.tr)) (packS true ns) := by
  refine solid_agg (by simp) (fun j x hx => ?_) (fun j x v hx hv => ?_)
  · rw [List.getElem?_map] at hx
    obtain ⟨s, _, rfl⟩ := Option.map_eq_some_iff.1 hx
    cases s <;> rfl
  · rw [List.getElem?_map] at hx hv
    obtain ⟨s, hs, rfl⟩ := Option.map_eq_some_iff.1 hx
    rw [hs] at hv
    cases hv
    exact s.solid

/-- Structs of scalars: equal where all their cells are. -/
theorem eff_structEqS {t ty : TypeId} {op : BinOp} {x y : Operand} {ks : List SK} {ns ms : List Sc} (hd : dstOK D.n o.dst = true) (ho : o.op = .binOp op t x y ty) (hop : op = .eql ∨ op = .neq)
    (ht : scCells P 8 t = some ks) (hta : tinf P t = some (ks.length, true)) (hgd : P.eqGuardType P.depth t = false)
    (hx : D.ev x = .t (.agg (ns.map Sc.tr))) (hy : D.ev y = .t (.agg (ms.map Sc.tr))) (hn : ns.map Sc.kind = ks) (hm : ms.map Sc.kind = ks) :
    Eff P o D ⟨.t (.bool (if op = .eql then decide (ns = ms) else decide (ns ≠ ms))), []⟩ :=
  Eff.pure hd fun s hs' F β a w hR => by
    have h1 := (solid_scs ns).eq _ _ _ (hR.evT hs' hx)
    have h2 := (solid_scs ms).eq _ _ _ (hR.evT hs' hy)
    refine ⟨.bool (if op = .eql then decide (ns = ms) else decide (ns ≠ ms)), ?_, .t (.bool _)⟩
    have he : (Op.equal t (packS true ns) (packS true ms)).run P w = .ok (decide (ns = ms)) w := equalS_run 8 9992 t ks true ht hta w ns ms hn hm
    have hg : ∀ op', (eqGuard op' t x y (packS true ns) (packS true ms)).run P w = .ok () w := by
      intro op'
      unfold eqGuard packS
      cases op' <;> simp [hgd]
    have hb1 : (binOp .eql t (packS true ns) (packS true ms)).run P w = .ok (.bool (decide (ns = ms))) w := by
      show (do pure (Value.bool (← Op.equal t (packS true ns) (packS true ms))) : Sem Value).run P w = _
      simp only [Sem.run_bind, he, Result.andThen_ok, Sem.run_pure]
    have hb2 : (binOp .neq t (packS true ns) (packS true ms)).run P w = .ok (.bool (decide (ns ≠ ms))) w := by
      show (do pure (Value.bool (!(← Op.equal t (packS true ns) (packS true ms)))) : Sem Value).run P w = _
      simp only [Sem.run_bind, he, Result.andThen_ok, Sem.run_pure]
      congr 2
      by_cases h : ns = ms <;> simp [h]
    rcases hop with rfl | rfl <;> simp only [execOp, ho, h1, h2, Sem.run_bind, hg, Result.andThen_ok, hb1, hb2, Sem.run_pure] <;> rfl

theorem eff_structEqlS {t ty : TypeId} {x y : Operand} {ks : List SK} {ns ms : List Sc} (hd : dstOK D.n o.dst = true) (ho : o.op = .binOp .eql t x y ty)
    (ht : scCells P 8 t = some ks) (hta : tinf P t = some (ks.length, true)) (hgd : P.eqGuardType P.depth t = false)
    (hx : D.ev x = .t (.agg (ns.map Sc.tr))) (hy : D.ev y = .t (.agg (ms.map Sc.tr))) (hn : ns.map Sc.kind = ks) (hm : ms.map Sc.kind = ks) :
    Eff P o D ⟨.t (.bool (decide (ns = ms))), []⟩ := eff_structEqS hd ho (.inl rfl) ht hta hgd hx hy hn hm
theorem eff_structNeqS {t ty : TypeId} {x y : Operand} {ks : List SK} {ns ms : List Sc} (hd : dstOK D.n o.dst = true) (ho : o.op = .binOp .neq t x y ty)
    (ht : scCells P 8 t = some ks) (hta : tinf P t = some (ks.length, true)) (hgd : P.eqGuardType P.depth t = false)
    (hx : D.ev x = .t (.agg (ns.map Sc.tr))) (hy : D.ev y = .t (.agg (ms.map Sc.tr))) (hn : ns.map Sc.kind = ks) (hm : ms.map Sc.kind = ks) :
    Eff P o D ⟨.t (.bool (decide (ns ≠ ms))), []⟩ := eff_structEqS hd ho (.inr rfl) ht hta hgd hx hy hn hm

theorem eff_structEqlA {α : Type} [DecidableEq α] {cells : α → List Sc} {t ty : TypeId} {x y : Operand} {ks : List SK} {a b : α} (hd : dstOK D.n o.dst = true) (ho : o.op = .binOp .eql t x y ty)
    (ht : scCells P 8 t = some ks) (hta : tinf P t = some (ks.length, true)) (hgd : P.eqGuardType P.depth t = false) (hinj : ∀ a b, cells a = cells b → a = b) (hk : ∀ a, (cells a).map Sc.kind = ks)
    (hx : D.ev x = .t (.agg ((cells a).map Sc.tr))) (hy : D.ev y = .t (.agg ((cells b).map Sc.tr))) : Eff P o D ⟨.t (.bool (decide (a = b))), []⟩ := by
  have := eff_structEqlS (P := P) hd ho ht hta hgd hx hy (hk a) (hk b)
  rwa [show decide (cells a = cells b) = decide (a = b) from decide_eq_decide.2 ⟨hinj a b, fun h => by rw [h]⟩] at this
theorem eff_structNeqA {α : Type} [DecidableEq α] {cells : α → List Sc} {t ty : TypeId} {x y : Operand} {ks : List SK} {a b : α} (hd : dstOK D.n o.dst = true) (ho : o.op = .binOp .neq t x y ty)
    (ht : scCells P 8 t = some ks) (hta : tinf P t = some (ks.length, true)) (hgd : P.eqGuardType P.depth t = false) (hinj : ∀ a b, cells a = cells b → a = b) (hk : ∀ a, (cells a).map Sc.kind = ks)
    (hx : D.ev x = .t (.agg ((cells a).map Sc.tr))) (hy : D.ev y = .t (.agg ((cells b).map Sc.tr))) : Eff P o D ⟨.t (.bool (decide (a ≠ b))), []⟩ := by
  have := eff_structNeqS (P := P) hd ho ht hta hgd hx hy (hk a) (hk b)
  rwa [show decide (cells a ≠ cells b) = decide (a ≠ b) from decide_eq_decide.2 ⟨fun h e => h (by rw [e]), fun h e => h (hinj a b e)⟩] at this

/-! ### Keys -/

theorem checkS_run : ∀ (d e : Nat) (t : TypeId) (ks : List SK) (g : Bool), scCells P d t = some ks → tinf P t = some (ks.length, g) → ∀ (b : Bool) (w : World) (ns : List Sc), ns.map Sc.kind = ks →
    (Instr.checkKey b (d + e) t (packS g ns)).run P w = .ok () w
  | 0, _, _, _, _, h, _, _, _, _, _ => by simp [scCells] at h
  | d + 1, e, t, ks, g, h, ht, b, w, ns, hn => by
    have hde : d + 1 + e = (d + e) + 1 := by omega
    rw [hde]
    unfold scCells at h
    split at h
    · rename_i k hu
      unfold Instr.checkKey
      simp only [Sem.run_bind, run_underlying' w hu, Result.andThen_ok, Sem.run_pure]
    · rename_i hu
      unfold Instr.checkKey
      simp only [Sem.run_bind, run_underlying' w hu, Result.andThen_ok, Sem.run_pure]
    · rename_i fs hu
      split at h
      · rename_i k' ks' h2 hfs
        split at h
        · rename_i hc
          cases h
          obtain ⟨hst, hlen⟩ := hc
          rw [h2, hlen] at ht; cases ht
          have key : ∀ (fs : List Field) (off : Nat), scFs P (scCells P d) off fs = some (ks.drop off) → off ≤ ks.length →
              (forIn (m := Sem) fs PUnit.unit fun f (_ : PUnit) =>
                if f.name ≠ "_" then do
                  Instr.checkKey b (d + e) f.type (← part f.type (ns.map Sc.v).toArray f.offset)
                  pure (ForInStep.yield PUnit.unit)
                else pure (ForInStep.yield PUnit.unit)).run P w = .ok () w := by
            intro fs
            induction fs with
            | nil => intro off _ _; simp only [List.forIn_nil, Sem.run_pure]
            | cons f fs ih2 =>
              intro off h hoff
              unfold scFs at h
              split at h
              · rename_i ks2 hk2
                split at h
                · rename_i hc2
                  obtain ⟨hnm, ho⟩ := hc2
                  subst ho
                  obtain ⟨g2, ht2, hg2⟩ := scCells_tinf hk2
                  obtain ⟨rest, hrest, happ⟩ := Option.map_eq_some_iff.1 h
                  have hnl : ns.length = ks.length := by rw [← hn]; simp
                  have hb : f.offset + ks2.length ≤ ns.length := by
                    have := congrArg List.length happ
                    simp at this; omega
                  have hks : ((ns.drop f.offset).take ks2.length).map Sc.kind = ks2 := by
                    rw [List.map_take, List.map_drop, hn, ← happ]; simp
                  have hrest2 : scFs P (scCells P d) (f.offset + ks2.length) fs = some (ks.drop (f.offset + ks2.length)) := by
                    rw [hrest, ← List.drop_drop, ← happ]; simp
                  have h1 := partS_run ht2 hg2 w ns f.offset hb
                  have h3 := checkS_run d e f.type ks2 g2 hk2 ht2 b w _ hks
                  have hr := ih2 _ hrest2 (by omega)
                  rw [List.forIn_cons]
                  simp only [ne_eq, hnm, not_false_eq_true, if_true, bind_assoc, Sem.run_bind, h1, h3, Result.andThen_ok, Sem.run_pure, pure_bind]
                  simpa only [ne_eq, bind_assoc] using hr
                · cases h
              · cases h
          show (Instr.checkKey b (d + e + 1) t (.agg (ns.map Sc.v).toArray)).run P w = _
          unfold Instr.checkKey
          simp only [Sem.run_bind, run_underlying' w hu, Result.andThen_ok]
          rw [← Array.forIn_toList]
          have hk := key fs.toList 0 (by simpa using hfs) (Nat.zero_le _)
          rw [hk]
          simp only [Result.andThen_ok, Sem.run_pure]
        · cases h
      · cases h
    · cases h

theorem sameBits_sc (n : Nat) (s : Sc) : Instr.sameBits n s.v s.v = true := by cases s <;> cases n <;> simp [Sc.v, Instr.sameBits]

open Classical in
theorem findAsking_scs {t : TypeId} {ks : List SK} (ht : scCells P 8 t = some ks) (hta : tinf P t = some (ks.length, true)) (w : World) (k : List Sc) (hk : k.map Sc.kind = ks) :
    ∀ (es : List MapEntry) (i : Nat), (∀ e, e ∈ es → ∃ ns : List Sc, ns.map Sc.kind = ks ∧ e.key = packS true ns) → (Instr.findAsking t (packS true k) es i).run P w = .ok (findV (packS true k) es i) w
  | [], i, _ => by simp [Instr.findAsking, findV, Sem.run_pure]
  | e :: es, i, h => by
    obtain ⟨ns, hns, hkey⟩ := h e List.mem_cons_self
    have he : (Op.equal t (packS true k) e.key).run P w = .ok (decide (k = ns)) w := by
      rw [hkey]; exact equalS_run 8 9992 t ks true ht hta w k ns hk hns
    have hiff : packS true k = e.key ↔ k = ns := by
      rw [hkey]
      constructor
      · intro h
        have h2 : (k.map Sc.v) = (ns.map Sc.v) := by
          have h3 : Value.agg (k.map Sc.v).toArray = .agg (ns.map Sc.v).toArray := h
          simpa using h3
        exact List.map_inj_right (fun a b h => Sc.v_inj h) |>.1 h2
      · intro h; rw [h]
    unfold Instr.findAsking findV
    simp only [Sem.run_bind, he, Result.andThen_ok]
    by_cases hkn : k = ns
    · rw [if_pos (hiff.2 hkn), decide_eq_true hkn]; simp only [if_true, Sem.run_pure]
    · rw [if_neg (fun h => hkn (hiff.1 h)), decide_eq_false hkn]
      simp only [Bool.false_eq_true, if_false]
      exact findAsking_scs ht hta w k hk es (i + 1) (fun e he => h e (List.mem_cons_of_mem _ he))

theorem keyT_scs {t : TypeId} {ks : List SK} {fs : Array Field} (hu : P.underlying t = some (.struct fs)) (ht : scCells P 8 t = some ks) (hta : tinf P t = some (ks.length, true)) {good : Value → Prop} (hgood : ∀ v, good v → ∃ ns : List Sc, ns.map Sc.kind = ks ∧ v = packS true ns) : KeyT P t good where
  chk := fun b w v hv => by
    obtain ⟨ns, hns, rfl⟩ := hgood v hv
    exact checkS_run 8 9992 t ks true ht hta b w ns hns
  find := fun w k es hk hes => by
    obtain ⟨ns, hns, rfl⟩ := hgood k hk
    have hrun := findAsking_scs ht hta w ns hns es 0 (fun e he => hgood _ (hes e he))
    unfold Instr.findKey
    simp only [Sem.run_bind, run_underlying' w hu, Result.andThen_ok]
    cases es with
    | nil => simp [Instr.findNow, findV, Sem.run_pure]
    | cons e es =>
      have h0 : Instr.findNow (.struct fs) (packS true ns) (e :: es) 0 = none := by
        unfold Instr.findNow Instr.sameNow
        rfl
      rw [h0]
      exact hrun
  same := fun v hv => by
    obtain ⟨ns, _, rfl⟩ := hgood v hv
    show Instr.sameBits 10000 (.agg (ns.map Sc.v).toArray) (.agg (ns.map Sc.v).toArray) = true
    unfold Instr.sameBits
    simp only [beq_self_eq_true, Bool.true_and, List.all_eq_true]
    intro x hx
    have : ∃ s : Sc, x = (s.v, s.v) := by
      have h2 : ∀ (l : List Value) (y : Value × Value), y ∈ l.zip l → ∃ z, z ∈ l ∧ y = (z, z) := by
        intro l
        induction l with
        | nil => intro y hy; simp at hy
        | cons a l ih =>
          intro y hy
          rw [List.zip_cons_cons] at hy
          rcases List.mem_cons.1 hy with h | h
          · exact ⟨a, List.mem_cons_self, h⟩
          · obtain ⟨z, hz, e⟩ := ih y h
            exact ⟨z, List.mem_cons_of_mem _ hz, e⟩
      obtain ⟨z, hz, e⟩ := h2 _ x hx
      obtain ⟨s, _, rfl⟩ := List.mem_map.1 hz
      exact ⟨s, e⟩
    obtain ⟨s, rfl⟩ := this
    exact sameBits_sc _ s

open Classical in
theorem findNow_int {ik : IntKind} (k : Int) : ∀ (es : List MapEntry) (i : Nat), (∀ e, e ∈ es → ∃ n, e.key = .int ik n) → Instr.findNow (.int ik) (.int ik k) es i = some (findV (.int ik k) es i)
  | [], i, _ => by simp [Instr.findNow, findV]
  | e :: es, i, h => by
    obtain ⟨n, hn⟩ := h e List.mem_cons_self
    unfold Instr.findNow findV Instr.sameNow
    rw [hn]
    by_cases hkn : k = n
    · subst hkn; simp
    · have : ¬ Value.int ik k = .int ik n := fun h => hkn (by simpa using h)
      simp only [if_true, if_neg this]
      rw [show (k == n) = false by simpa using hkn]
      exact findNow_int k es (i + 1) (fun e he => h e (List.mem_cons_of_mem _ he))

theorem keyT_int {t : TypeId} {ik : IntKind} (hu : P.underlying t = some (.int ik)) : KeyT P t (fun v => ∃ n : Int, v = .int ik n) where
  chk := fun b w v _ => by
    unfold Instr.checkKey
    simp only [Sem.run_bind, run_underlying' w hu, Result.andThen_ok, Sem.run_pure]
  find := fun w k es hk hes => by
    obtain ⟨n, rfl⟩ := hk
    unfold Instr.findKey
    simp only [Sem.run_bind, run_underlying' w hu, Result.andThen_ok, findNow_int n es 0 hes, Sem.run_pure]
  same := fun v hv => by obtain ⟨n, rfl⟩ := hv; simp [Instr.sameBits]

/-- int keys. -/
def MapK.int {t : TypeId} {ik : IntKind} (hu : P.underlying t = some (.int ik)) : MapK P t Int :=
  ⟨.int ik, .int ik, fun a => solid_int _ _, fun a b h => by simpa using h, keyT_int hu⟩

/-- Structs of scalars as keys. -/
def MapK.scs {t : TypeId} {ks : List SK} {fs : Array Field} {α : Type} (hu : P.underlying t = some (.struct fs)) (ht : scCells P 8 t = some ks) (hta : tinf P t = some (ks.length, true)) (cells : α → List Sc) (hc : ∀ a, (cells a).map Sc.kind = ks) (hinj : ∀ a b, cells a = cells b → a = b) : MapK P t α :=
  ⟨fun a => .agg ((cells a).map Sc.tr), fun a => packS true (cells a), fun a => solid_scs _, fun a b h => hinj a b (by
    have h2 : ((cells a).map Sc.v) = ((cells b).map Sc.v) := by
      have h3 : Value.agg ((cells a).map Sc.v).toArray = .agg ((cells b).map Sc.v).toArray := h
      simpa using h3
    exact List.map_inj_right (fun a b h => Sc.v_inj h) |>.1 h2), keyT_scs hu ht hta (fun v ⟨a, e⟩ => ⟨cells a, hc a, e⟩)⟩
end Go.Tv

end
section
namespace Go.Tv
open Go.Shelf Go.Proofs
variable {P : Program} {ρ : Ren} {α : Type} [Inhabited α]

/-- What slices.SortFunc makes of a list. -/
def sortA (cf : α → α → Int) (l : List α) : List α := (Sort.pdq (ltOf cf) l.toArray 0 l.length (Lib.bitLen l.length) true true).toList

theorem sortA_perm {cf : α → α → Int} (hO : Sort.SWO (ltOf cf)) (l : List α) : (sortA cf l).Perm l := by
  have h := (Sort.pdq_sorts (ltOf cf) hO l.toArray 0 l.length (Lib.bitLen l.length) true true (Nat.zero_le _) (by simp) (Or.inl rfl)).1
  obtain ⟨hs, _, hp⟩ := h
  have h1 : (Sort.pdq (ltOf cf) l.toArray 0 l.length (Lib.bitLen l.length) true true).size = l.length := by simpa using hs
  unfold sortA
  have e1 : ∀ (a : Array α), a.size = l.length → (a.extract 0 l.length) = a := by
    intro a ha; rw [← ha]; simp
  rw [e1 _ h1, e1 l.toArray (by simp)] at hp
  simpa using hp

theorem sortA_length {cf : α → α → Int} (hO : Sort.SWO (ltOf cf)) (l : List α) : (sortA cf l).length = l.length := (sortA_perm hO l).length_eq

theorem sortA_sorted {cf : α → α → Int} (hO : Sort.SWO (ltOf cf)) (l : List α) : (sortA cf l).Pairwise (fun a b => ¬ cf b a < 0) := by
  have h := (Sort.pdq_sorts (ltOf cf) hO l.toArray 0 l.length (Lib.bitLen l.length) true true (Nat.zero_le _) (by simp) (Or.inl rfl))
  obtain ⟨⟨hs, _, _⟩, hsort⟩ := h
  have h1 : (Sort.pdq (ltOf cf) l.toArray 0 l.length (Lib.bitLen l.length) true true).size = l.length := by simpa using hs
  unfold sortA
  rw [List.pairwise_iff_getElem]
  intro i j hi hj hij
  have hi' : i < l.length := by simpa [h1] using hi
  have hj' : j < l.length := by simpa [h1] using hj
  have := hsort i j (Nat.zero_le _) hij hj'
  have hlt : ∀ x y, ltOf cf x y = false → ¬ cf x y < 0 := fun x y h => by unfold ltOf at h; simpa using h
  rw [getElem!_pos _ i (by omega), getElem!_pos _ j (by omega)] at this
  exact hlt _ _ (by simpa using this)

/-- What the row's cells are. -/
def scs (cells : α → List Sc) (x : α) : List Value := (cells x).map Sc.v

theorem cmpLays_of_ret {cells : α → List Sc} {k : Nat} {cf : α → α → Int} {g : FuncId} (hret : ∀ a b, Ret P g [.agg ((cells a).map Sc.tr), .agg ((cells b).map Sc.tr)] (.int .i64 (cf a b))) (blk off size : Nat) (w : World) :
    CmpLays P g #[] (scs cells) k cf blk off size w := by
  intro m os dk _ x y
  generalize sortWorldK (scs cells) k w blk off m dk os = W
  have hV : VL W (fun _ => False) [.agg ((cells x).map Sc.tr), .agg ((cells y).map Sc.tr)] [packS true (cells x), packS true (cells y)] :=
    vl_cons ((solid_scs _).is _ _) (vl_cons ((solid_scs _).is _ _) vl_nil)
  have h := hret x y (fun _ => False) W _ (fun _ h => h.elim) hV
  refine Calls.mono h ?_
  rintro e w' ⟨v, rfl, hv, hb⟩
  cases hv
  refine ⟨rfl, ?_⟩
  obtain ⟨p, hp⟩ := regrown_of_below hb.toBelow
  refine ⟨w'.drawn - W.drawn, w'.heap.extract W.heap.size w'.heap.size, ?_⟩
  have hd := hb.drawn
  obtain ⟨heap', tape', drawn', os', output'⟩ := w'
  have hdr : drawn' = p.d := congrArg World.drawn hp
  have hbel := hb.toBelow
  have e1 : os' = W.os := hbel.os
  have e2 : tape' = W.tape := hbel.tape
  have e3 : output' = W.output := hbel.output
  have hs : W.heap.size ≤ heap'.size := hbel.size
  have hbk : ∀ k, k < W.heap.size → heap'[k]? = W.heap[k]? := hbel.block
  have hd' : W.drawn ≤ drawn' := hd
  have eh : heap' = W.heap ++ heap'.extract W.heap.size heap'.size := by
    apply Array.ext_getElem?
    intro k
    by_cases hk : k < W.heap.size
    · rw [Array.getElem?_append_left hk]; exact hbk k hk
    · rw [Array.getElem?_append_right (by omega), Array.getElem?_extract]
      by_cases hk2 : k < heap'.size
      · rw [if_pos (by omega)]; congr 1; omega
      · rw [if_neg (by omega), Array.getElem?_eq_none (by omega)]
  subst e1 e2 e3
  have e4 : drawn' = W.drawn + (drawn' - W.drawn) := by omega
  show World.mk heap' W.tape drawn' W.os W.output = World.mk (W.heap ++ heap'.extract W.heap.size heap'.size) W.tape (W.drawn + (drawn' - W.drawn)) W.os W.output
  rw [← eh]
  congr 1

def sortEls (cells : α → List Sc) (l : List α) : List AV := l.map fun x => .t (.agg ((cells x).map Sc.tr))

theorem flatK_get {cells : α → List Sc} {k : Nat} (hk : ∀ x, (cells x).length = k) (d : Array α) {i j : Nat} (hi : i < d.size) (hj : j < k) {x : α} {y : Sc} (hx : d[i]? = some x) (hy : (cells x)[j]? = some y) :
    (Sort.flatK (scs cells) k d)[i * k + j]! = y.v := by
  have hk0 : 0 < k := by omega
  have h1 : i * k + j < d.size * k := by
    have : (i + 1) * k ≤ d.size * k := Nat.mul_le_mul_right k hi
    rw [Nat.add_mul] at this; omega
  rw [Sort.get_flatK _ _ _ _ h1]
  have e1 : (i * k + j) / k = i := by
    rw [Nat.mul_comm, Nat.mul_add_div hk0, Nat.div_eq_of_lt hj]; omega
  have e2 : (i * k + j) % k = j := by
    rw [Nat.mul_comm, Nat.mul_add_mod, Nat.mod_eq_of_lt hj]
  rw [e1, e2, getElem!_pos _ i hi]
  have : d[i] = x := by rw [Array.getElem?_eq_getElem hi] at hx; exact Option.some.inj hx
  rw [this]
  unfold scs
  have h2 : ((cells x).map Sc.v)[j]? = some y.v := by rw [List.getElem?_map, hy]; rfl
  rw [getElem!_def, h2]

/-- A call of slices.SortFunc: the object's elements are sorted in place; what points to it stays good. -/
theorem eff_sortFunc {o : Oper} {D : St} (L : SlLaysF0.n6 P ρ) {cells : α → List Sc} {k : Nat} (hk : ∀ x, (cells x).length = k) (hk0 : 0 < k) {cf : α → α → Int} (hO : Sort.SWO (ltOf cf)) {g : FuncId}
    (hret : ∀ a b, Ret P g [.agg ((cells a).map Sc.tr), .agg ((cells b).map Sc.tr)] (.int .i64 (cf a b))) (hg : callOK P g = true) (hti : tinf P (ρ.t 24) = some (k, true)) {id gen : Nat} {ty : TypeId} (l : List α) (hl : l.length < 4611686018427387904)
    {f : FuncId} {x y z : Operand} {ats : Array TypeId} {n0 : Nat} {els els' : List AV} (hfe : ρ.f 6 = f) (hf : callOK P f = true) (hd : dstOK D.n o.dst = true) (ho : o.op = .call { callee := .value x, args := #[y, z], argTypes := ats })
    (hx : D.ev x = .t (.fn f [])) (hy : D.ev y = .own id gen 0 n0) (hz : D.ev z = .t (.fn g [])) (hs : sget D.st id = some ⟨k, ty, gen, els⟩) (he : els = sortEls cells l) (hn0 : n0 = l.length) (he' : sortEls cells (sortA cf l) = els') :
    Eff P o D ⟨.t (.tup []), [(id, ⟨k, ty, gen, els'⟩)]⟩ := by
  subst hfe he hn0 he'
  intro s hs' _ F β a w hr next Q hnext
  have hst := hs'.st _ _ hs
  have hyv := hr.evA hs' hy
  have hzv : a.eval z = .func (.func g) #[] #[] := (solid_fn g).eq _ _ _ (hr.evT hs' hz)
  have hxv : a.eval x = .func (.func (ρ.f 6)) #[] #[] := (solid_fn _).eq _ _ _ (hr.evT hs' hx)
  have elen : (sortEls cells l).length = l.length := by simp [sortEls]
  have hsl : (sortA cf l).length = l.length := sortA_length hO l
  unfold Oper.wp
  rw [execCall (vs := []) ho (by simpa using hxv) hf w, Oper.upon_enter]
  rw [show (#[y, z].map a.eval ++ ([] : List Value).toArray) = #[a.eval y, a.eval z] from by simp, hzv]
  have hempty : l = [] → ∀ p cap, a.eval y = .slice p 0 cap → Calls P (ρ.f 6) #[a.eval y, .func (.func g) #[] #[]] w (fun e w' => ∃ v, e = .returned v ∧ next (a.put o.dst v) w') := by
    intro hnil p cap hv
    rw [hv]
    refine Calls.mono (AnyF.slices_SortFunc_none L p cap (.func (.func g) #[] #[]) w) ?_
    rintro e w' ⟨rfl, rfl⟩
    refine ⟨_, rfl, ?_⟩
    subst hnil
    have hs0 : sortA cf ([] : List α) = [] := List.length_eq_zero_iff.1 hsl
    rw [hs0] at hnext
    have hid : ∀ m, sget (sput s.st id (some ⟨k, ty, gen, sortEls cells ([] : List α)⟩)) m = sget s.st m := fun m => by
      rw [sget_sput]; split
      · rename_i e; rw [e, hst]
      · rfl
    have hrel : Rel F β { n := s.n, fr := s.fr, st := sput s.st id (some ⟨k, ty, gen, sortEls cells ([] : List α)⟩) } a w' := hr.ext rfl (fun _ => rfl) hid
    exact hnext β _ _ (hrel.put (by show dstOK s.n o.dst = true; rw [hs'.n]; exact hd) (.t (.tup [] [] rfl (fun j c v h => by simp at h)))) ((Evo.refl _ _ _).ext hid)
  have hfin : Calls P (ρ.f 6) #[a.eval y, .func (.func g) #[] #[]] w (fun e w' => ∃ v, e = .returned v ∧ next (a.put o.dst v) w') := by
    generalize hv0 : a.eval y = v0 at hyv
    generalize hn : l.length = n0 at hyv
    rw [hv0] at hempty
    cases hyv with
    | ownNil hs2 hg' hb he2 =>
      exact hempty (List.length_eq_zero_iff.1 hn) _ _ rfl
    | ownZ hs2 hg' hb hl' hlt =>
      exact hempty (List.length_eq_zero_iff.1 hn) _ _ rfl
    | ownE hs2 hg' hb he2 =>
      exact hempty (List.length_eq_zero_iff.1 hn) _ _ rfl
    | stale hs2 hg' h1 => rw [hst] at hs2; cases hs2; exact absurd hg' (Nat.lt_irrefl _)
    | @own _ _ _ _ b cap ob c hs2 hg' hb hl' hcap hh hc =>
      rw [hst] at hs2; cases hs2
      subst hn
      rcases hr.ob id _ hst with ⟨h1, _⟩ | ⟨b2, c2, h1, h2, h3, h4, h5⟩
      · rw [hb] at h1; cases h1
      rw [hb] at h1; cases h1
      rw [hh] at h2; cases h2
      have hbs : b < w.heap.size := lt_of_heap hh
      have hsz : (Sort.flatK (scs cells) k l.toArray).size = l.length * k := by simp
      have hc2 : l.length * k ≤ c.size := by rw [← elen]; exact h3
      have hcell : ∀ j, j < l.length * k → c[j]? = some ((Sort.flatK (scs cells) k l.toArray)[j]!) := by
        intro j hj
        have hk' : j / k < l.length := (Nat.div_lt_iff_lt_mul hk0).2 hj
        have hmod : j % k < k := Nat.mod_lt _ hk0
        have hx : l[j / k]? = some l[j / k] := List.getElem?_eq_getElem hk'
        have hyl : j % k < (cells l[j / k]).length := by rw [hk]; exact hmod
        have hy : (cells l[j / k])[j % k]? = some (cells l[j / k])[j % k] := List.getElem?_eq_getElem hyl
        obtain ⟨_, v, hv, hvv⟩ := h5 (j / k) (.t (.agg ((cells l[j / k]).map Sc.tr))) (j % k) (.t ((cells l[j / k])[j % k]).tr) (by show (sortEls cells l)[j / k]? = _; unfold sortEls; rw [List.getElem?_map, hx]; rfl) (by
          show (((cells l[j / k]).map Sc.tr).map AV.t)[j % k]? = _
          rw [List.getElem?_map, List.getElem?_map, hy]; rfl)
        have hjk : j / k * k + j % k = j := by rw [Nat.mul_comm]; exact Nat.div_add_mod j k
        have hv' : c[j]? = some v := by
          have : (Ob.mk k ty gen (sortEls cells l)).k = k := rfl
          rw [this] at hv; rw [← hjk]; exact hv
        rw [hv']
        have hvs : v = ((cells l[j / k])[j % k]).v := by
          cases hvv with
          | t h => exact (Sc.solid _).eq _ _ _ h
        have := flatK_get hk l.toArray (i := j / k) (j := j % k) (by simpa using hk') hmod (x := l[j / k]) (by simpa using hx) hy
        rw [hjk] at this
        rw [hvs, this]
      have hH : Sort.HoldsK (scs cells) k w b 0 l.toArray := by
        intro j hj
        rw [hsz] at hj
        refine ⟨?_, ?_⟩
        · unfold World.cell?
          simp only [hh, Nat.zero_add]
          have := hcell j hj
          simpa using this
        · unfold World.frozen?
          simp [hh]
      have hrun := AnyQ.slices_SortFunc_eq L k (fun w => run_isAgg' w hti) (fun w => run_sizeOf' w hti) (scs cells) (fun x => by simp [scs, hk]) (fun x v hv => by
          obtain ⟨s, _, rfl⟩ := List.mem_map.1 hv
          cases s <;> rfl) cf hO g #[] b 0 cap l.toArray w (fun args w => run_callFunc hg w args) (cmpLays_of_ret hret b 0 _ w) hH hbs (by simpa using hl)
      have hvals : (#[.slice (some ⟨b, 0 * (Ob.mk k ty gen (sortEls cells l)).k, none⟩) l.length cap, .func (.func g) #[] #[]] : Array Value) = #[.slice (some ⟨b, 0, none⟩) l.toArray.size cap, .func (.func g) #[] #[]] := by simp
      rw [hvals]
      refine Calls.mono hrun ?_
      rintro e w' ⟨rfl, n, os, rfl⟩
      refine ⟨_, rfl, ?_⟩
      have hpdq : Sort.pdq (ltOf cf) l.toArray 0 l.toArray.size (Lib.bitLen l.toArray.size) true true = (sortA cf l).toArray := by
        unfold sortA; simp
      rw [hpdq]
      -- the cells behind
      have hpsz : (Sort.putCells _root_.id 0 (Sort.flatK (scs cells) k (sortA cf l).toArray) c).size = c.size := by simp [Sort.putCells]
      have hpc : ∀ (i j : Nat) (x : α) (y : Sc), (sortA cf l)[i]? = some x → (cells x)[j]? = some y → (Sort.putCells _root_.id 0 (Sort.flatK (scs cells) k (sortA cf l).toArray) c)[i * k + j]? = some y.v := by
        intro i j x y hx hy
        have hi : i < (sortA cf l).length := (List.getElem?_eq_some_iff.1 hx).1
        have hj : j < k := by have := (List.getElem?_eq_some_iff.1 hy).1; rw [hk] at this; exact this
        have h6 : i * k + j < l.length * k := by
          have : (i + 1) * k ≤ l.length * k := Nat.mul_le_mul_right k (by omega)
          rw [Nat.add_mul] at this; omega
        have h7 : i * k + j < c.size := by omega
        unfold Sort.putCells
        rw [Array.getElem?_mapIdx, Array.getElem?_eq_getElem h7]
        simp only [Option.map_some, Nat.zero_le, true_and, Nat.zero_add, Nat.sub_zero, Sort.size_flatK, List.size_toArray, _root_.id]
        rw [if_pos (by rw [hsl]; exact h6)]
        have := flatK_get hk (sortA cf l).toArray (i := i) (j := j) (by simpa using hi) hj (x := x) (by simpa using hx) hy
        rw [this]
      obtain ⟨hrel, hev, _⟩ := hr.upd (g' := gen) (els' := sortEls cells (sortA cf l)) (c' := Sort.putCells _root_.id 0 (Sort.flatK (scs cells) k (sortA cf l).toArray) c) hst hb hh hpsz (.inl ⟨rfl, by simp [sortEls, hsl]⟩) (by show (sortEls cells (sortA cf l)).length * k ≤ _; unfold sortEls; rw [List.length_map, hsl]; exact hc2)
        (fun i x hx => by
          unfold sortEls at hx
          rw [List.getElem?_map] at hx
          obtain ⟨z, _, rfl⟩ := Option.map_eq_some_iff.1 hx
          exact ⟨rfl, by show (((cells z).map Sc.tr).map AV.t).length = k; simp [hk]⟩)
        (fun i x j y hx hy => by
          unfold sortEls at hx
          rw [List.getElem?_map] at hx
          obtain ⟨z, hz, rfl⟩ := Option.map_eq_some_iff.1 hx
          change (((cells z).map Sc.tr).map AV.t)[j]? = some y at hy
          rw [List.getElem?_map, List.getElem?_map] at hy
          obtain ⟨u, hu, rfl⟩ := Option.map_eq_some_iff.1 hy
          obtain ⟨s, hs, rfl⟩ := Option.map_eq_some_iff.1 hu
          exact ⟨by cases s <;> rfl, s.v, hpc i j z s hz hs, .t (s.solid.is _ _)⟩)
      have hbel : BelowD (setB w b (.cells (Sort.putCells _root_.id 0 (Sort.flatK (scs cells) k (sortA cf l).toArray) c) ty (0, 0))).heap.size (setB w b (.cells (Sort.putCells _root_.id 0 (Sort.flatK (scs cells) k (sortA cf l).toArray) c) ty (0, 0))) (sortWorldK (scs cells) k w b 0 n (sortA cf l).toArray os) := by
        refine ⟨⟨rfl, rfl, rfl, ?_, fun i hi => ?_⟩, Nat.le_add_right _ _⟩
        · rw [setB_size]
          show _ ≤ ((w.heap.modify b _) ++ os).size
          simp
        · rw [setB_size] at hi
          show ((w.heap.modify b _) ++ os)[i]? = (w.heap.setIfInBounds b _)[i]?
          rw [Array.getElem?_append_left (by simpa using hi), Array.getElem?_modify]
          by_cases e : b = i
          · subst e
            rw [if_pos rfl, hh, Array.getElem?_setIfInBounds_self_of_lt hbs]
            rfl
          · rw [if_neg e, Array.getElem?_setIfInBounds_ne e]
      obtain ⟨hrel2, hev2, _⟩ := hrel.below hbel
      exact hnext β _ _ (hrel2.put (by show dstOK s.n o.dst = true; rw [hs'.n]; exact hd) (.t (.tup [] [] rfl (fun j c v h => by simp at h)))) (hev.trans hev2)
  exact Calls.mono hfin (fun e w' ⟨v, h1, h2⟩ => by subst h1; exact h2)
end Go.Tv

end
section
namespace Go.Tv
open Go.ChangeShapes Go.WideShapes Go.ChangeAt Go.RowKit
variable {P : Program}

def intsD {H : Type} (k : IntKind) (l : List Int) : DataW H := .agg (l.map (fun n => .lit (.int k n)))

theorem laidVars_mem {W : World} {n : String} {d : DataW Unit} : ∀ {laid : List (String × DataW Unit)} {ps : List MemPlace}, DataW.LaidVars P W laid ps → (n, d) ∈ laid →
    ∃ g t cs fuel p, P.globalNamed n = some g ∧ (P.globals[g]?).map (·.type) = some t ∧ W.var? P n = some cs ∧ DataW.trod (fun _ => ()) P W 0 (fun _ => true) false fuel t cs.toList = some (d, p)
  | [], _, _, h => by simp at h
  | (n', d') :: r, ps, h, hm => by
    obtain ⟨g, t, cs, fuel, p, q, h1, h2, h3, h4, h5, _⟩ := h
    rcases List.mem_cons.1 hm with hm | hm
    · cases hm; exact ⟨g, t, cs, fuel, p, h1, h2, h3, h4⟩
    · exact laidVars_mem h5 hm

theorem tab_cells {H : Type} {enc : TypeId × Value → H} {W : World} {spare : Nat → Bool} {held : Bool} {n : String} {g : Nat} {t e : TypeId} {N : Nat} {k : IntKind} {l : List Int} {cs : Array Value} {fuel : Nat} {p : List MemPlace}
    (hne : l ≠ []) (hg : P.globalNamed n = some g) (hv : W.var? P n = some cs) (ht : P.underlying t = some (.array N e)) (he : P.underlying e = some (.int k)) (hce : P.cellsOf e = 1)
    (hd : DataW.trod enc P W 0 spare held fuel t cs.toList = some (intsD k l, p)) : V W (fun _ => False) (.ptr (l.map (Tr.int k))) (.pointer (some ⟨g, 0, none⟩)) := by
  obtain ⟨xs, m, rfl, hx, hlen, hn, hel⟩ := DataW.trod_array ht hd
  simp only [intsD, Prod.mk.injEq, DataW.agg.injEq] at hx
  obtain ⟨hx1, _⟩ := hx
  have hl : l.length = N := by
    have := congrArg List.length hx1
    simpa [hn] using this
  have key : ∀ i : Nat, ∀ hi : i < l.length, cs[i]? = some (.int k (l[i])) := by
    intro i hi
    have hiN : i < N := by omega
    have h1 := hel i hiN
    have hix : i < xs.length := by omega
    rw [List.getElem?_eq_getElem hix] at h1
    obtain ⟨z, e1, e2, _⟩ := DataW.trod_int he h1
    rw [hce] at e1
    have h2 : (l.map (fun n => (DataW.lit (.int k n) : DataW H)))[i]? = (xs.map (·.1))[i]? := by rw [hx1]
    rw [List.getElem?_map, List.getElem?_map, List.getElem?_eq_getElem hi, List.getElem?_eq_getElem hix, e2] at h2
    simp only [Option.map_some, Option.some.injEq, DataW.lit.injEq, Lit.int.injEq, true_and] at h2
    have h3 : (List.take 1 (List.drop (i * 1) cs.toList))[0]? = some (.int k z) := by rw [e1]; rfl
    rw [List.getElem?_take, if_pos (by omega), List.getElem?_drop] at h3
    simp only [Nat.mul_one, Nat.add_zero, Array.getElem?_toList] at h3
    rw [h3, h2]
  have hcell : ∀ i : Nat, ∀ hi : i < l.length, W.cell? ⟨g, i, none⟩ = some (.int k (l[i])) := fun i hi => (World.var?_cell hg hv i).trans (key i hi)
  have hb : g < W.heap.size := by
    have h0 : 0 < l.length := List.length_pos_iff.2 hne
    have h1 := hcell 0 h0
    rcases Nat.lt_or_ge g W.heap.size with h | h
    · exact h
    · unfold World.cell? at h1
      rw [Array.getElem?_eq_none h] at h1
      simp at h1
  refine .ptr _ g 0 (fun j => .int k (l.getD j 0)) hb (fun h => h) ?_ ?_ ?_
  · intro j c hc
    rw [List.getElem?_map] at hc
    obtain ⟨z, _, rfl⟩ := Option.map_eq_some_iff.1 hc
    rfl
  · intro j c hc
    rw [List.getElem?_map] at hc
    obtain ⟨z, hz, rfl⟩ := Option.map_eq_some_iff.1 hc
    obtain ⟨hj, rfl⟩ := List.getElem?_eq_some_iff.1 hz
    rw [Nat.zero_add, hcell j hj]
    simp [List.getD_eq_getElem?_getD, hj]
  · intro j c hc
    rw [List.getElem?_map] at hc
    obtain ⟨z, hz, rfl⟩ := Option.map_eq_some_iff.1 hc
    obtain ⟨hj, rfl⟩ := List.getElem?_eq_some_iff.1 hz
    simp only [List.getD_eq_getElem?_getD, hz, Option.getD_some]
    exact .int _ _

/-- A table of numbers that a row lists. -/
theorem tab_of_laid {W : World} {laid : List (String × DataW Unit)} {n : String} {g : Nat} {t e : TypeId} {N : Nat} {k : IntKind} {l : List Int} (h : laidMetH P laid W)
    (hp : (laid.filter fun x => x.2.handleName?.isSome) = []) (hm : (n, intsD k l) ∈ laid) (hne : l ≠ []) (hg : P.globalNamed n = some g) (htt : (P.globals[g]?).map (·.type) = some t)
    (ht : P.underlying t = some (.array N e)) (he : P.underlying e = some (.int k)) (hce : P.cellsOf e = 1) : V W (fun _ => False) (.ptr (l.map (Tr.int k))) (.pointer (some ⟨g, 0, none⟩)) := by
  unfold laidMetH at h
  rw [hp] at h
  obtain ⟨ps, hL, _⟩ := h
  obtain ⟨g', t', cs, fuel, p, h1, h2, h3, h4⟩ := laidVars_mem hL hm
  obtain rfl := Option.some.inj (h1.symm.trans hg)
  obtain rfl := Option.some.inj (h2.symm.trans htt)
  exact tab_cells hne hg h3 ht he hce h4

end Go.Tv

end
section
namespace Go.Tv
variable {P : Program} {o : Oper} {D : St}

end Go.Tv

end
section
namespace Go.Tv
variable {P : Program}

theorem okA_1 {σ : Sto} {x : AV} (h : okA1 σ x = true) : okA σ x = true := by
  cases x <;> first | exact h | (simp [okA1] at h)

theorem VA.sub1 {w : World} {H H' : Nat → Prop} {β : Nat → Option Nat} {st st1 : Sto} {x : AV} {v : Value} (hH : ∀ b, H' b → H b) (hs : ∀ id ob, sget st1 id = some ob → sget st id = some ob)
    (h1 : okA1 st1 x = true) (h : VA w H β st x v) : VA w H' β st1 x v := by
  have hsub : ∀ id ob, (sget st1 id).isSome = true → sget st id = some ob → sget st1 id = some ob := fun id ob h2 h3 => by
    obtain ⟨o, ho⟩ := Option.isSome_iff_exists.1 h2
    have := hs id o ho
    rw [h3] at this; cases this; exact ho
  cases h with
  | t h => exact .t (h.same hH)
  | own a b c d e f g => exact .own (hsub _ _ h1 a) b c d e f g
  | ownNil a b c d => exact .ownNil (hsub _ _ h1 a) b c d
  | ownZ a b c d e => exact .ownZ (hsub _ _ h1 a) b c d e
  | ownE a b c d => exact .ownE (hsub _ _ h1 a) b c d
  | stale a b c => exact .stale (hsub _ _ h1 a) b c
  | ptr a b c d e => exact .ptr (hsub _ _ h1 a) b c d e
  | stalep a b c => exact .stalep (hsub _ _ h1 a) b c
  | agg _ _ _ => simp [okA1] at h1
  | tup _ _ => simp [okA1] at h1
  | fn _ _ => simp [okA1] at h1
  | junk v => exact .junk _

theorem VA.sub {w : World} {H H' : Nat → Prop} {β : Nat → Option Nat} {st st1 : Sto} {x : AV} {v : Value} (hH : ∀ b, H' b → H b) (hs : ∀ id ob, sget st1 id = some ob → sget st id = some ob)
    (h1 : okA st1 x = true) (h : VA w H β st x v) : VA w H' β st1 x v := by
  cases x with
  | agg cs =>
    cases h with
    | agg hl h2 hv =>
      simp only [okA, Bool.and_eq_true] at h1
      exact .agg hl h2 (fun j c v hc hv' => VA.sub1 hH hs (List.all_eq_true.1 h1.1 c (List.mem_of_getElem? hc)) (hv j c v hc hv'))
  | fn f cs =>
    cases h with
    | fn hl hv => exact .fn hl (fun j c v hc hv' => VA.sub1 hH hs (List.all_eq_true.1 (show cs.all (okA1 st1) = true from h1) c (List.mem_of_getElem? hc)) (hv j c v hc hv'))
  | tup cs => simp [okA, okA1] at h1
  | t x => exact VA.sub1 hH hs h1 h
  | own id g off len => exact VA.sub1 hH hs h1 h
  | ptr id g i j => exact VA.sub1 hH hs h1 h
  | junk => exact .junk _

theorem okA_cell {σ : Sto} {x : AV} (h : okA σ x = true) {j : Nat} {y : AV} (hy : x.cells[j]? = some y) : okA σ y = true := by
  have one : ∀ (z : AV), z.cells = [z] → okA σ z = true → ∀ (j : Nat) (y : AV), z.cells[j]? = some y → okA σ y = true := by
    intro z hz hr j y hy
    rw [hz] at hy
    match j with
    | 0 => simp at hy; subst hy; exact hr
    | j + 1 => simp at hy
  cases x with
  | t x =>
    simp only [AV.cells, List.getElem?_map, Option.map_eq_some_iff] at hy
    obtain ⟨y', _, rfl⟩ := hy
    rfl
  | agg cs =>
    simp only [okA, Bool.and_eq_true] at h
    exact okA_1 (List.all_eq_true.1 h.1 y (List.mem_of_getElem? hy))
  | own id g off len => exact one _ rfl h j y hy
  | ptr id g i k => exact one _ rfl h j y hy
  | tup vs => exact one _ rfl h j y hy
  | fn f cs => exact one _ rfl h j y hy
  | junk => exact one _ rfl h j y hy

/-- A part of the objects is put aside: into the memory that is not touched. -/
theorem Rel.split {F : Nat → Prop} {β : Nat → Option Nat} {n : Nat} {fr fr1 : Fra} {st st1 : Sto} {a : Act} {w : World} (h : Rel F β ⟨n, fr, st⟩ a w) (hf : KeF st1 fr fr1) (hs : KeS st st1 st1) :
    Rel (fun b => F b ∨ (Owned β st b ∧ ¬ Owned β st1 b)) β ⟨n, fr1, st1⟩ a w := by
  have hsub : ∀ id ob, sget st1 id = some ob → sget st id = some ob := fun id ob ho => (hs.get _ id ob ho).1
  have hG : ∀ b, G (fun b => F b ∨ (Owned β st b ∧ ¬ Owned β st1 b)) β st1 b → G F β st b := by
    rintro b ((h | h) | ⟨id, ob, h1, h2⟩)
    · exact .inl h
    · exact .inr h.1
    · exact .inr ⟨id, ob, hsub id ob h1, h2⟩
  refine ⟨h.defers, h.size, fun i => ?_, fun id ob ho => ?_, fun i j oi oj b hi hj => h.inj i j oi oj b (hsub i oi hi) (hsub j oj hj), fun i oi b hi hb => ?_, fun b hb => ?_⟩
  · rcases hf.get _ i with h1 | ⟨h1, h2⟩
    · show VA w _ _ _ (fget fr1 i) _
      rw [h1]; exact .junk _
    · show VA w _ _ _ (fget fr1 i) _
      refine VA.sub hG hsub h2 ?_
      rw [← h1]; exact h.fr i
  · obtain ⟨h1, h2⟩ := hs.get _ id ob ho
    rcases h.ob id ob h1 with h0 | ⟨b, c, g1, g2, g3, g4, g5⟩
    · exact .inl h0
    · refine .inr ⟨b, c, g1, g2, g3, g4, fun i x j y hx hy => ?_⟩
      obtain ⟨q1, u, hu, hva⟩ := g5 i x j y hx hy
      exact ⟨q1, u, hu, VA.sub hG hsub (okA_cell (h2 x (List.mem_of_getElem? hx)) hy) hva⟩
  · rintro (h1 | ⟨_, h1⟩)
    · exact h.notF i oi b (hsub i oi hi) hb h1
    · exact h1 ⟨i, oi, hi, hb⟩
  · rcases hb with h1 | ⟨h1, _⟩
    · exact h.ltF b h1
    · exact (h.owned_cells h1).1

/-- As Iter, of a function that captures memory which is its own from now on. -/
def IterO (P : Program) (f : FuncId) (σ0 : Sto) (caps : List AV) (xs : List Tr) : Prop :=
  ∀ (γ : Type) (X : JP γ) (_ : ∀ g, X.ds g = [] ∧ ¬ X.q) (At : Nat → γ → Prop) (Stop : γ → Prop) (l : Nat)
    (_ : ∀ (i : Nat) x g, xs[i]? = some x → At i g → YOK P X l g x (fun b g' => (b = true ∧ At (i + 1) g') ∨ (b = false ∧ Stop g')))
    (g : γ) (F : Nat → Prop) (β : Nat → Option Nat) (w : World) (vals : List Value), At 0 g → Mem F β σ0 w → vals.length = caps.length →
    (∀ (i : Nat) (x : AV) (v : Value), caps[i]? = some x → vals[i]? = some v → VA w (G F β σ0) β σ0 x v) → X.J g (Owned β σ0) F w →
    Calls P f (#[.func (.yield l) #[] #[]] ++ vals.toArray) w fun e w' => (∃ v, e = .returned v) ∧ ∃ g' M' F', (At xs.length g' ∨ Stop g') ∧ X.J g' M' F' w'

theorem iterO_of_awj {f : FuncId} {fn : Func} {c : Code} {σ0 : Sto} {caps : List AV} {xs : List Tr} (hf : P.funcs[f]? = some fn) (hb : fn.body = some c) (hn : caps.length + 1 ≤ fn.ntmps) (hres : fn.results = #[])
    (h : ∀ (γ : Type) (X : JP γ) (_ : ∀ g, X.ds g = [] ∧ ¬ X.q) (At : Nat → γ → Prop) (Stop : γ → Prop) (l : Nat)
      (_ : ∀ (i : Nat) x g, xs[i]? = some x → At i g → YOK P X l g x (fun b g' => (b = true ∧ At (i + 1) g') ∨ (b = false ∧ Stop g'))) (g : γ), At 0 g →
      AWJ P none (fun _ => false) X c ⟨fn.ntmps, initFrA 0 (.t (.yld l) :: caps), σ0⟩ g (fun e _ g' => (e = .normal ∨ e = .ret) ∧ (At xs.length g' ∨ Stop g'))) : IterO P f σ0 caps xs := by
  intro γ X hds At Stop l hy g F β w vals hAt hm hl hV hJ
  refine (callsIn_wide (n := 0)).1 (callsIn_of_wp (F := Fence.wide) hf hb trivial ?_)
  obtain ⟨vl, hvl⟩ : ∃ vl : List Value, vl = .func (.yield l) #[] #[] :: vals := ⟨_, rfl⟩
  have hVl : ∀ (i : Nat) (x : AV) (v : Value), (AV.t (.yld l) :: caps)[i]? = some x → vl[i]? = some v → VA w (G F β σ0) β σ0 x v := by
    rw [hvl]
    intro i x v hx hv
    cases i with
    | zero => simp at hx hv; subst hx hv; exact .t (.yld l)
    | succ i => exact hV i x v (by simpa using hx) (by simpa using hv)
  have hll : vl.length = (AV.t (.yld l) :: caps).length := by rw [hvl]; simp [hl]
  have h0 : Rel F β ⟨fn.ntmps, initFrA 0 (.t (.yld l) :: caps), σ0⟩ { tmps := vl.toArray ++ Array.replicate (fn.ntmps - vl.toArray.size) undef, defers := [] } w := by
    refine ⟨rfl, by simp [hll]; omega, fun i => ?_, hm.ob, hm.inj, hm.notF, hm.ltF⟩
    show VA w _ _ _ (fget (initFrA 0 (.t (.yld l) :: caps)) i) _
    rw [initFrA_get, if_pos (Nat.zero_le _), Nat.sub_zero]
    cases hx : (AV.t (.yld l) :: caps)[i]? with
    | none => exact .junk _
    | some x =>
      have hi : i < vl.length := by rw [hll]; exact lt_get hx
      have hg : (vl.toArray ++ Array.replicate (fn.ntmps - vl.toArray.size) undef).getD i undef = vl[i] := by
        simp [hi, Array.getElem?_append]
      rw [vAt_lt (by simp; omega), hg]
      exact hVl i x vl[i] hx (List.getElem?_eq_getElem hi)
  have ha : (#[Value.func (.yield l) #[] #[]] ++ vals.toArray) = vl.toArray := by rw [hvl]; simp
  rw [ha]
  have := h γ X hds At Stop l hy g hAt 0 F _ _ w h0 hJ
  rw [(hds g).1] at this
  refine wpIn_mono this ?_
  rintro e a' w' ⟨s', β', g', F', a'', ⟨he, hend⟩, hr', rfl, hJ'', hev, _⟩
  have hpost : ∃ v, (results fn (shift (X.ds g') a'').tmps).run P w' = .ok v w' := by
    have hm : ((#[] : Array ResultVar).mapM (resOf (shift (X.ds g') a'').tmps)).run P w' = .ok #[] w' := by
      rw [Array.mapM_eq_mapM_toList, Sem.run_map]; rfl
    rw [results_eq, hres]
    refine ⟨.tuple #[], ?_⟩
    rw [Sem.run_bind, hm]; rfl
  obtain ⟨v, hv⟩ := hpost
  have hdf : (shift (X.ds g') a'').defers = [] := by rw [(hds g').1]; simp [shift, hr'.defers]
  rcases he with rfl | rfl <;> exact ⟨hdf, v, hv, ⟨v, rfl⟩, g', _, F', hend, hJ''⟩

structure LoopO (F M0 : Nat → Prop) (s0 : St) (β0 : Nat → Option Nat) (w0 : World) (a : Act) (L D : Nat) (rec : LoopState → Option Code → Loop) (I : Nat → St → Prop) (Ix : Code → St → Prop)
    (g : Option Code × Nat × St) (M C : Nat → Prop) (W : World) (β : Nat → Option Nat) : Prop where
  rel : Rel (fun b => F b ∨ M b ∨ b = L ∨ b = D) β g.2.2 a W
  inv : match g.1 with | none => I g.2.1 g.2.2 | some c => Ix c g.2.2
  rc : W.heap[L]? = some (.loop (rec (if g.1.isNone then .ready else .done) g.1))
  df : W.heap[D]? = some (.deferred (some []))
  ciff : ∀ b, C b ↔ (F b ∨ Owned β g.2.2.st b ∨ b = L ∨ b = D)
  os : W.os = w0.os
  tape : TapeLe w0 W
  output : W.output = w0.output
  size : w0.heap.size ≤ W.heap.size
  keep : ∀ b, b < w0.heap.size → (F b ∨ ¬ Owned β0 s0.st b) → W.heap[b]? = w0.heap[b]?
  own : ∀ b, Owned β g.2.2.st b → w0.heap.size ≤ b ∨ Owned β0 s0.st b
  mnew : ∀ b, M b → (w0.heap.size ≤ b ∨ M0 b) ∧ b ≠ L ∧ b ≠ D

def LOP (F M0 : Nat → Prop) (s0 : St) (β0 : Nat → Option Nat) (w0 : World) (a : Act) (L D : Nat) (rec : LoopState → Option Code → Loop) (I : Nat → St → Prop) (Ix : Code → St → Prop)
    (hF : ∀ b, F b → b < w0.heap.size) (hM0 : ∀ b, M0 b → ¬ F b ∧ Owned β0 s0.st b) : JP (Option Code × Nat × St) where
  J := fun g M C W => ∃ β, LoopO F M0 s0 β0 w0 a L D rec I Ix g M C W β
  ds := fun _ => []
  stable := by
    rintro g M C W M' W' ⟨β, h⟩ hs h1 h2 h3 hk hM
    have hLM : ¬ M L := fun hm => (h.mnew L hm).2.1 rfl
    have hDM : ¬ M D := fun hm => (h.mnew D hm).2.2 rfl
    have hLs := lt_of_heap h.rc
    have hDs := lt_of_heap h.df
    have hM'L : ∀ b, M' b → M b ∨ W.heap.size ≤ b := fun b hb => (hM b hb).1
    refine ⟨β, ⟨?_, h.inv, (hk L hLs hLM).trans h.rc, (hk D hDs hDM).trans h.df, h.ciff, h1.trans h.os, h2.trans h.tape, h3.trans h.output, Nat.le_trans h.size hs, ?_, h.own, ?_⟩⟩
    · refine h.rel.party hs (fun b hb hn => ?_) (fun b hb => ?_)
      · have hn' : ¬ F b ∧ ¬ M b ∧ b ≠ L ∧ b ≠ D := ⟨fun h => hn (.inl h), fun h => hn (.inr (.inl h)), fun h => hn (.inr (.inr (.inl h))), fun h => hn (.inr (.inr (.inr h)))⟩
        refine ⟨hk b hb hn'.2.1, ?_⟩
        rintro (h | h | h | h)
        · exact hn'.1 h
        · exact (hM'L b h).elim hn'.2.1 (fun h => by omega)
        · exact hn'.2.2.1 h
        · exact hn'.2.2.2 h
      · rcases hb with h0 | h0 | h0 | h0
        · exact Nat.lt_of_lt_of_le (h.rel.ltF b (.inl h0)) hs
        · exact (hM b h0).2.1
        · rw [h0]; exact Nat.lt_of_lt_of_le hLs hs
        · rw [h0]; exact Nat.lt_of_lt_of_le hDs hs
    · intro b hb hn
      rw [hk b (Nat.lt_of_lt_of_le hb h.size) (fun hm => by
        rcases (h.mnew b hm).1 with h9 | h9
        · omega
        · exact hn.elim (hM0 b h9).1 (fun h8 => h8 (hM0 b h9).2))]
      exact h.keep b hb hn
    · intro b hb
      rcases hM'L b hb with h0 | h0
      · exact h.mnew b h0
      · have := h.size
        exact ⟨.inl (by omega), fun e => by subst e; omega, fun e => by subst e; omega⟩

set_option maxHeartbeats 1000000 in
theorem awj_rangeFuncO {kp kp' : Nat → Bool} {F0 : Nat → Prop} {w0 : World} {gop : Operand} {ps : Array Tmp} {assign body : Code} {s : St} {Ds : List Nat} {Q : Exit → St → List Nat → Prop} {f : FuncId} {σ0 : Sto} {caps : List AV} {xs : List Tr} {p : Tmp} {fr1 : Fra} {st1 : Sto}
    (hg : s.ev gop = .fn f caps) (hc : callOK P f = true) (hI : IterO P f σ0 caps xs) (hca : caps.all (okA1 σ0) = true) (hk0 : KeS s.st σ0 σ0) (hk1 : KeS s.st st1 st1) (hkf : KeF st1 s.fr fr1) (hdj : AllS (fun id _ => (sget st1 id).isNone = true) σ0) (hps : ps = #[p]) (hp : dstOK s.n (some p) = true) (hkp : kp' p = false)
    (I : Nat → St → Prop) (Ix : Code → St → Prop) (h0 : I 0 ⟨s.n, fr1, st1⟩)
    (hn : ∀ i s1, I i s1 → s1.n = s.n ∧ ∀ j, fget s1.fr j = .junk ∨ kp' j = true) (hnx : ∀ c s1, Ix c s1 → s1.n = s.n ∧ ∀ j, fget s1.fr j = .junk ∨ kp' j = true)
    (hround : ∀ l (i : Nat) x s1, I i s1 → xs[i]? = some x → ∀ F1 w1, AWJ P (some l) kp' (JC F1 w1) assign ⟨s1.n, (p, .t x) :: s1.fr, s1.st⟩ [] (fun e s2 Ds2 => e = .normal ∧ Ds2 = [] ∧
      ∀ F2 w2, AWJ P (some l) kp' (JC F2 w2) body s2 [] (roundEnd I Ix i)))
    (hdone : ∀ D s1, I xs.length s1 → Q .normal s1 (D :: Ds))
    (hstop : ∀ D c s1, Ix c s1 → AWJ P none kp (JC F0 w0) c s1 (D :: Ds) Q) : AWJ P none kp (JC F0 w0) (.rangeFunc gop ps assign body) s Ds Q := by
  subst hps
  intro n F β a w hr hJ
  have hV := hr.ev gop
  rw [hg] at hV
  obtain ⟨vs, hvs, hcl, hcv⟩ : ∃ vs : List Value, a.eval gop = .func (.func f) #[] vs.toArray ∧ vs.length = caps.length ∧ ∀ (j : Nat) (c : AV) (v : Value), caps[j]? = some c → vs[j]? = some v → VA w (G F β s.st) β s.st c v := by
    generalize a.eval gop = v at hV
    cases hV with
    | fn hl hv => exact ⟨_, rfl, hl, hv⟩
  have hd : ∀ id ob, sget σ0 id = some ob → sget s.st id = some ob ∧ sget st1 id = none := fun id ob h => ⟨(hk0.get _ id ob h).1, Option.isNone_iff_eq_none.1 (hdj.get id ob h)⟩
  refine wpIn_rangeFunc (F := FW none) (fun fn _ => ?_)
  obtain ⟨L, hL⟩ : ∃ L, L = w.heap.size + 1 := ⟨_, rfl⟩
  obtain ⟨D, hD⟩ : ∃ D, D = w.heap.size := ⟨_, rfl⟩
  obtain ⟨rec, hrec⟩ : ∃ rec : LoopState → Option Code → Loop, rec = fun st pe => { state := st, pending := pe, fn, tmps := a.tmps, params := #[p], assign, body, defers := w.heap.size } := ⟨_, rfl⟩
  obtain ⟨W1, hW1⟩ : ∃ W1, W1 = (w.alloc (.deferred (some []))).alloc (.loop (rec .ready none)) := ⟨_, rfl⟩
  have hs1 : W1.heap.size = w.heap.size + 2 := by rw [hW1]; simp
  have hL1 : W1.heap[L]? = some (.loop (rec .ready none)) := by
    rw [hW1, hL]; have := World.alloc_heap_new (w.alloc (.deferred (some []))) (.loop (rec .ready none)); rwa [World.size_alloc] at this
  have hD1 : W1.heap[D]? = some (.deferred (some [])) := by
    rw [hW1, hD]; exact (RowKit.Below.heap_alloc _ _ _ (by simp)).trans (World.alloc_heap_new w _)
  have hold : ∀ b, b < w.heap.size → W1.heap[b]? = w.heap[b]? := fun b hb => by
    rw [hW1, RowKit.Below.heap_alloc _ _ _ (by simp; omega), RowKit.Below.heap_alloc _ _ _ hb]
  have hsh : (shift ((JC F0 w0).ds Ds) a).tmps = a.tmps := rfl
  -- the caller's state, what it hands over, and its party
  obtain ⟨s1, hs1e⟩ : ∃ s1 : St, s1 = ⟨s.n, fr1, st1⟩ := ⟨_, rfl⟩
  have hI0 : I 0 s1 := by rw [hs1e]; exact h0
  obtain ⟨M0, hM0e⟩ : ∃ M0, M0 = Owned β σ0 := ⟨_, rfl⟩
  have hM0 : ∀ b, M0 b → ¬ F b ∧ Owned β s.st b := by
    rw [hM0e]; rintro b ⟨id, ob, h1, h2⟩
    exact ⟨hr.notF id ob b (hd id ob h1).1 h2, id, ob, (hd id ob h1).1, h2⟩
  have hM1 : ∀ b, M0 b → ¬ Owned β st1 b := by
    rw [hM0e]; rintro b ⟨id, ob, h1, h2⟩ ⟨id', ob', h3, h4⟩
    have := hr.inj id id' ob ob' b (hd id ob h1).1 (hk1.get _ id' ob' h3).1 h2 h4
    subst this
    rw [(hd id ob h1).2] at h3; cases h3
  have ho1 : ∀ b, Owned β s1.st b → Owned β s.st b := by rw [hs1e]; rintro b ⟨id, ob, h1, h2⟩; exact ⟨id, ob, (hk1.get _ id ob h1).1, h2⟩
  have hr1 : Rel (fun b => F b ∨ M0 b) β s1 a w := by
    rw [hs1e]
    refine (Rel.split (n := s.n) (fr := s.fr) (st := s.st) hr hkf hk1).party (Nat.le_refl _) (fun b hb hn => ⟨rfl, fun h => hn (h.imp (fun h => h) (fun h => ⟨(hM0 b h).2, hM1 b h⟩))⟩) (fun b hb => hb.elim (hr.ltF b) (fun h => (hr.owned_cells (hM0 b h).2).1))
  have β1e : True := trivial
  have hXF : ∀ b, F b → b < w.heap.size := hr.ltF
  obtain ⟨X, hX⟩ : ∃ X, X = LOP F M0 s β w a L D rec I Ix hXF hM0 := ⟨_, rfl⟩
  have hM0lt : ∀ b, M0 b → b < w.heap.size := fun b hb => (hr.owned_cells (hM0 b hb).2).1
  have hr2 : Rel (fun b => F b ∨ M0 b ∨ b = L ∨ b = D) β s1 a W1 := hr1.party (by omega) (fun b hb hn => ⟨hold b hb, fun h => by
      rcases h with h | h | h | h
      · exact hn (.inl h)
      · exact hn (.inr h)
      · omega
      · omega⟩) (fun b hb => by
      rcases hb with h | h | h | h
      · have := hr.ltF b h; omega
      · have := hM0lt b h; omega
      · omega
      · omega)
  have hJ1 : X.J (none, 0, s1) M0 (fun b => F b ∨ Owned β s1.st b ∨ b = L ∨ b = D) W1 := by
    rw [hX]
    refine ⟨β, ⟨hr2, hI0, hL1, hD1, fun b => Iff.rfl, by rw [hW1]; rfl, by rw [hW1]; exact TapeLe.refl w, by rw [hW1]; rfl, by omega, fun b hb _ => hold b hb, fun b hb => .inr (ho1 b hb), fun b hb => ⟨.inr hb, by have := hM0lt b hb; omega, by have := hM0lt b hb; omega⟩⟩⟩
  have hrc : Rel (fun b => F b ∨ Owned β s1.st b ∨ b = L ∨ b = D) β ⟨vs.length, initFrA 0 caps, σ0⟩ { tmps := vs.toArray, defers := [] } W1 := by
    have hsp := Rel.split (n := s.n) (fr := s.fr) (st := s.st) (fr1 := []) hr trivial hk0
    have hrw : Rel (fun b => F b ∨ (Owned β s.st b ∧ ¬ Owned β σ0 b)) β ⟨vs.length, initFrA 0 caps, σ0⟩ { tmps := vs.toArray, defers := [] } w := by
      refine ⟨rfl, by simp, fun i => ?_, hsp.ob, hsp.inj, hsp.notF, hsp.ltF⟩
      show VA w _ _ _ (fget (initFrA 0 caps) i) _
      rw [initFrA_get, if_pos (Nat.zero_le _), Nat.sub_zero]
      cases hx : caps[i]? with
      | none => exact .junk _
      | some x =>
        have hi : i < vs.length := by rw [hcl]; exact lt_get hx
        rw [vAt_lt (by simpa using hi), show (vs.toArray).getD i undef = vs[i] from by simp [hi]]
        refine VA.sub1 (st := s.st) (H := G F β s.st) (fun b hb => ?_) (fun id ob h => (hd id ob h).1) (List.all_eq_true.1 hca x (List.mem_of_getElem? hx)) (hcv i x vs[i] hx (List.getElem?_eq_getElem hi))
        rcases hb with (h | h) | ⟨id, ob, h1, h2⟩
        · exact .inl h
        · exact .inr h.1
        · exact .inr ⟨id, ob, (hd id ob h1).1, h2⟩
    refine hrw.party (by omega) (fun b hb hn => ⟨hold b hb, fun h => ?_⟩) (fun b hb => ?_)
    · rcases h with h | h | h | h
      · exact hn (.inl h)
      · refine hn (.inr ⟨ho1 b h, fun h9 => ?_⟩)
        rw [hs1e] at h
        exact hM1 b (by rw [hM0e]; exact h9) h
      · omega
      · omega
    · rcases hb with h | h | h | h
      · have := hr.ltF b h; omega
      · have := (hr.owned_cells (ho1 b h)).1; omega
      · omega
      · omega
  refine ⟨L, [mark D], W1, { target := .fn (.func f) vs.toArray, args := #[.func (.yield L) #[] #[]] }, W1, f, #[.func (.yield L) #[] #[]] ++ vs.toArray, W1, ?_, ?_, fun _ _ => trivial, ?_, (fun h => by cases h), ?_⟩
  · rw [hW1, hL, hD, hrec]; exact run_enterLoop_outer _ _ _ _ _
  · have hev : (shift ((JC F0 w0).ds Ds) a).eval gop = .func (.func f) #[] vs.toArray := hvs
    simp only [resolve, hev]
    simp [go_sem]
  · simp [invoke, go_sem, run_callFunc hc]
  · have hVc : ∀ (i : Nat) (x : AV) (v : Value), caps[i]? = some x → vs[i]? = some v → VA W1 (G (fun b => F b ∨ Owned β s1.st b ∨ b = L ∨ b = D) β σ0) β σ0 x v := fun i x v hx hv => by
      have := hrc.fr i
      rw [show fget (St.mk vs.length (initFrA 0 caps) σ0).fr i = fget (initFrA 0 caps) i from rfl, initFrA_get, if_pos (Nat.zero_le _), Nat.sub_zero, hx] at this
      rw [vAt_lt (by simpa using lt_get hv), show (vs.toArray).getD i undef = v from by
        have hi := lt_get hv
        rw [List.getElem?_eq_getElem hi] at hv
        cases hv
        simp [hi]] at this
      exact this
    refine callsFW (ro := none) (Calls.mono (hI _ X (fun g => by rw [hX]; exact ⟨rfl, id⟩) (fun i g => g.1 = none ∧ g.2.1 = i) (fun g => ∃ c, g.1 = some c) L ?_ (none, 0, s1)
      (fun b => F b ∨ Owned β s1.st b ∨ b = L ∨ b = D) β W1 vs ⟨rfl, rfl⟩ hrc.mem hcl hVc (by rw [← hM0e]; exact hJ1)) ?_)
    · -- a round
      rintro i x ⟨pe, i', si⟩ hx ⟨hpe, hi⟩
      simp only at hpe hi
      subst hpe hi
      intro m M C W v hJW hCM hVx
      rw [hX] at hJW
      obtain ⟨βi, hj⟩ := hJW
      have hrecL := hj.rc
      simp only [Option.isNone_none, if_true] at hrecL
      have hy := run_yield (P := P) (args := #[v]) hrecL (by rw [hrec]; rfl)
      rw [hrec] at hy
      refine ⟨fn, _, assign, body, hy, roundIn_of_wpIn (F := Fence.wide) trivial ?_⟩
      obtain ⟨hni, hki⟩ := hn i' si hj.inv
      have hF1lt : ∀ b, (F b ∨ M b ∨ b = L ∨ b = D) → b < W.heap.size ∧ ¬ Owned βi si.st b := fun b hb => ⟨hj.rel.ltF b hb, fun ⟨id, ob, hs, hbe⟩ => hj.rel.notF id ob b hs hbe hb⟩
      have hVx' : V W (G (fun b => F b ∨ M b ∨ b = L ∨ b = D) βi si.st) x v := hVx.free (fun b _ hn h => hn (by
        rcases h with (h | h | h | h) | h
        · exact .inl ((hj.ciff b).2 (.inl h))
        · exact .inr h
        · exact .inl ((hj.ciff b).2 (.inr (.inr (.inl h))))
        · exact .inl ((hj.ciff b).2 (.inr (.inr (.inr h))))
        · exact .inl ((hj.ciff b).2 (.inr (.inl h)))))
      have hput := hj.rel.put (d := some p) (by show dstOK si.n (some p) = true; rw [hni]; exact hp) (x := .t x) (v := v) (.t hVx')
      have hact : ((#[p].zip #[v]).foldl (fun tmps (x : Nat × Value) => tmps.setIfInBounds x.1 x.2) a.tmps) = (a.put (some p) v).tmps := by simp [Act.put]
      have hassign := hround L i' x si hj.inv hx (fun b => F b ∨ M b ∨ b = L ∨ b = D) W m _ βi (a.put (some p) v) W hput (jc_start hF1lt)
      have e0 : shift ((JC (fun b => F b ∨ M b ∨ b = L ∨ b = D) W).ds []) (a.put (some p) v) = { tmps := (a.put (some p) v).tmps, defers := [] } := by
        simp [shift, JC, hput.defers]
      rw [e0] at hassign
      have e1 : { tmps := ((#[p].zip #[v]).foldl (fun tmps (x : Nat × Value) => tmps.setIfInBounds x.1 x.2) a.tmps), defers := [] } = ({ tmps := (a.put (some p) v).tmps, defers := [] } : Act) := by rw [hact]
      rw [show ((#[p].zip #[v]).foldl (fun tmps x => match x with | (t, a) => tmps.setIfInBounds t a) a.tmps) = (a.put (some p) v).tmps from hact]
      refine wpIn_mono hassign ?_
      rintro e2 a2' W2 ⟨s2, β2, Ds2, F2, a2, ⟨rfl, rfl, hbody⟩, hrel2, rfl, ⟨k1, k2, k3, _, k5⟩, hev2, hke2⟩
      show ∃ w₂, _ ∧ _
      have hF2 : F2 = (fun b => F b ∨ M b ∨ b = L ∨ b = D) := by funext b; exact propext (by simpa using k1 b)
      subst hF2
      have hL2 : W2.heap[L]? = some (.loop (rec .ready none)) := (k2 L (.inr (.inr (.inl rfl)))).2.1.trans hrecL
      refine ⟨_, run_beginRound hL2 (by rw [hrec]), ?_⟩
      obtain ⟨W3, hW3⟩ : ∃ W3, W3 = W2.putObj L (.loop { rec .ready none with state := .busy }) := ⟨_, rfl⟩
      rw [← hW3]
      have hcell3 : ∀ (b : Nat) q, dataObj q = true → W2.heap[b]? = some q → W3.heap[b]? = W2.heap[b]? := by rw [hW3]; exact putObj_cells hL2 rfl
      have hsz3 : W3.heap.size = W2.heap.size := by rw [hW3]; simp
      have hrel3 := hrel2.others (by rw [hsz3]; exact Nat.le_refl _) hcell3
      have hL3 : W3.heap[L]? = some (.loop { rec .ready none with state := .busy }) := by rw [hW3]; exact World.putObj_heap_same (lt_of_heap hL2)
      have hJ3 : (JC (fun b => F b ∨ M b ∨ b = L ∨ b = D) W3).J [] (Owned β2 s2.st) (fun b => F b ∨ M b ∨ b = L ∨ b = D) W3 :=
        jc_start (fun b hb => ⟨hrel3.ltF b hb, fun ⟨id, ob, hs, hbe⟩ => hrel3.notF id ob b hs hbe hb⟩)
      have hb3 := hbody (fun b => F b ∨ M b ∨ b = L ∨ b = D) W3 m _ β2 a2 W3 hrel3 hJ3
      have e3 : shift ((JC (fun b => F b ∨ M b ∨ b = L ∨ b = D) W3).ds []) a2 = shift ((JC (fun b => F b ∨ M b ∨ b = L ∨ b = D) W).ds []) a2 := rfl
      rw [← e3]
      refine wpIn_mono hb3 ?_
      rintro e4 a4' W4 ⟨s4, β4, Ds4, F4, a4, hend, hrel4, rfl, ⟨q1, q2, q3, _, q5⟩, hev4, hke4⟩
      -- what every end has in common
      have fin : ∀ (pe : Option Code) (s5 : St), Weak s4 s5 → Ds4 = [] → (s5.n = s.n ∧ ∀ j, fget s5.fr j = .junk ∨ kp' j = true) → (match pe with | none => I (i' + 1) s5 | some c => Ix c s5) →
          ∃ v' w', (Instr.endRound L pe).run P W4 = .ok v' w' ∧ ∃ b g' F', Ending.returned v' = .returned (.bool b) ∧ ((b = true ∧ g'.1 = none ∧ g'.2.1 = i' + 1) ∨ (b = false ∧ ∃ c, g'.1 = some c)) ∧ X.J g' M F' w' ∧
            w'.os = W.os ∧ TapeLe W w' ∧ w'.output = W.output ∧ W.heap.size ≤ w'.heap.size ∧ (∀ b, b < W.heap.size → ¬ C b → w'.heap[b]? = W.heap[b]?) ∧ (∀ b, F' b → (C b ∨ W.heap.size ≤ b) ∧ b < w'.heap.size) := by
        intro pe s5 hw5 hDs4 hk5 hinv
        subst hDs4
        have hF4 : F4 = (fun b => F b ∨ M b ∨ b = L ∨ b = D) := by funext b; exact propext (by simpa using q1 b)
        subst hF4
        have hL4 : W4.heap[L]? = some (.loop { rec .ready none with state := .busy }) := (q2 L (.inr (.inr (.inl rfl)))).2.1.trans hL3
        obtain ⟨β5, hrel5, ho5⟩ := hw5 _ β4 a4 W4 hrel4
        obtain ⟨W5, hW5⟩ : ∃ W5, W5 = W4.putObj L (.loop (rec (if pe.isNone then .ready else .done) pe)) := ⟨_, rfl⟩
        have hrun : (Instr.endRound L pe).run P W4 = .ok (.bool pe.isNone) W5 := by
          have := run_endRound (P := P) pe hL4
          rw [hrec] at this hW5
          rw [hW5]; exact this
        have hsz5 : W5.heap.size = W4.heap.size := by rw [hW5]; simp
        have hcell5 : ∀ (b : Nat) q, dataObj q = true → W4.heap[b]? = some q → W5.heap[b]? = W4.heap[b]? := by rw [hW5]; exact putObj_cells hL4 rfl
        have hrel6 := hrel5.others (by rw [hsz5]; exact Nat.le_refl _) hcell5
        have hLD : L ≠ D := by omega
        have hother5 : ∀ b, b ≠ L → W5.heap[b]? = W4.heap[b]? := fun b hb => by rw [hW5]; exact World.putObj_heap_other hb
        have hother3 : ∀ b, b ≠ L → W3.heap[b]? = W2.heap[b]? := fun b hb => by rw [hW3]; exact World.putObj_heap_other hb
        have hprot : ∀ b, (F b ∨ M b ∨ b = D) → b ≠ L → W5.heap[b]? = W.heap[b]? := fun b hb hne => by
          have hb' : F b ∨ M b ∨ b = L ∨ b = D := hb.elim .inl (fun h => h.elim (fun h => .inr (.inl h)) (fun h => .inr (.inr (.inr h))))
          rw [hother5 b hne, (q2 b hb').2.1, hother3 b hne, (k2 b hb').2.1]
        have hFL : ∀ b, F b → b ≠ L := fun b hb e => by have := hr.ltF b hb; omega
        have hkeepW : ∀ b, b < W.heap.size → b ≠ L → ¬ Owned βi si.st b → W5.heap[b]? = W.heap[b]? := fun b hb hne hno => by
          by_cases hp : F b ∨ M b ∨ b = D
          · exact hprot b hp hne
          · have hnb : ¬ (F b ∨ M b ∨ b = L ∨ b = D) := fun h => by
              rcases h with h | h | h | h
              · exact hp (.inl h)
              · exact hp (.inr (.inl h))
              · exact hne h
              · exact hp (.inr (.inr h))
            have hno2 : ¬ Owned β2 s2.st b := fun h => (hev2.own b h).elim (fun h => by omega) hno
            have hb2 : b < W2.heap.size := Nat.lt_of_lt_of_le hb hev2.size
            rw [hother5 b hne, hev4.keep b (by rw [hsz3]; exact hb2) hnb hno2, hother3 b hne, hev2.keep b hb hnb hno]
        have hown5 : ∀ b, Owned β5 s5.st b → W.heap.size ≤ b ∨ Owned βi si.st b := fun b hb => by
          rcases hev4.own b (ho5 b hb) with h | h
          · exact .inl (by rw [hsz3] at h; exact Nat.le_trans hev2.size h)
          · exact hev2.own b h
        have hszW : W.heap.size ≤ W5.heap.size := by rw [hsz5]; have h1 := hev4.size; rw [hsz3] at h1; exact Nat.le_trans hev2.size h1
        -- the activation of the caller again
        have hrel7 : Rel (fun b => F b ∨ M b ∨ b = L ∨ b = D) β5 s5 a W5 := by
          refine ⟨hr.defers, by rw [hr.size, hk5.1], fun j => ?_, hrel6.ob, hrel6.inj, hrel6.notF, hrel6.ltF⟩
          rcases hk5.2 j with h | h
          · rw [h]; exact .junk _
          · have hjp : j ≠ p := fun e => by rw [e, hkp] at h; cases h
            have e5 : a4.tmps[j]? = a.tmps[j]? := by
              rw [hke4 j h, hke2 j h]
              show (a.tmps.setIfInBounds p v)[j]? = _
              rw [Array.getElem?_setIfInBounds_ne (Ne.symm hjp)]
            have e6 : vAt a4 j = vAt a j := by
              have e8 : a4.tmps.size = a.tmps.size := hrel6.size.trans (hk5.1.trans hr.size.symm)
              unfold vAt; rw [e8]; simp only [Array.getD_eq_getD_getElem?, e5]
            have := hrel6.fr j
            rw [e6] at this; exact this
        have hDsame : W5.heap[D]? = some (.deferred (some [])) := (hprot D (.inr (.inr rfl)) (Ne.symm hLD)).trans hj.df
        have hLfin : W5.heap[L]? = some (.loop (rec (if pe.isNone then .ready else .done) pe)) := by rw [hW5]; exact World.putObj_heap_same (lt_of_heap hL4)
        refine ⟨_, W5, hrun, pe.isNone, (pe, i' + 1, s5), (fun b => F b ∨ Owned β5 s5.st b ∨ b = L ∨ b = D), rfl, ?_, ?_, ?_, ?_, ?_, hszW, ?_, ?_⟩
        · cases pe with
          | none => exact .inl ⟨rfl, rfl, rfl⟩
          | some c => exact .inr ⟨rfl, c, rfl⟩
        · rw [hX]
          refine ⟨β5, ⟨hrel7, hinv, hLfin, hDsame, fun b => Iff.rfl, ?_, ?_, ?_, Nat.le_trans hj.size hszW, ?_, ?_, hj.mnew⟩⟩
          · rw [hW5]; show W4.os = _; rw [hev4.os, hW3]; show W2.os = _; rw [hev2.os]; exact hj.os
          · rw [hW5]; exact TapeLe.trans (b := W4) (.refl W4) (hev4.tape.trans (by rw [hW3]; exact TapeLe.trans (b := W2) (.refl W2) (hev2.tape.trans hj.tape)))
          · rw [hW5]; show W4.output = _; rw [hev4.output, hW3]; show W2.output = _; rw [hev2.output]; exact hj.output
          · intro b hb hno
            have hbL : b ≠ L := by omega
            have hbW := Nat.lt_of_lt_of_le hb hj.size
            rw [← hj.keep b hb hno]
            rcases hno with h | h
            · exact hprot b (.inl h) hbL
            · exact hkeepW b hbW hbL (fun ho => (hj.own b ho).elim (fun h => by omega) h)
          · intro b hb
            rcases hown5 b hb with h | h
            · exact .inl (Nat.le_trans hj.size h)
            · exact hj.own b h
        · rw [hW5]; show W4.os = _; rw [hev4.os, hW3]; exact hev2.os
        · rw [hW5]; exact TapeLe.trans (b := W4) (.refl W4) (hev4.tape.trans (by rw [hW3]; exact TapeLe.trans (b := W2) (.refl W2) hev2.tape))
        · rw [hW5]; show W4.output = _; rw [hev4.output, hW3]; exact hev2.output
        · intro b hb hnC
          have h1 : ¬ Owned βi si.st b := fun h => hnC ((hj.ciff b).2 (.inr (.inl h)))
          have h2 : b ≠ L := fun h => hnC ((hj.ciff b).2 (.inr (.inr (.inl h))))
          exact hkeepW b hb h2 h1
        · intro b hb
          rcases hb with h | h | h | h
          · exact ⟨.inl ((hj.ciff b).2 (.inl h)), Nat.lt_of_lt_of_le (hj.rel.ltF b (.inl h)) hszW⟩
          · exact ⟨(hown5 b h).elim .inr (fun h => .inl ((hj.ciff b).2 (.inr (.inl h)))), (hrel7.owned_cells h).1⟩
          · exact ⟨.inl ((hj.ciff b).2 (.inr (.inr (.inl h)))), by rw [h]; exact lt_of_heap hLfin⟩
          · exact ⟨.inl ((hj.ciff b).2 (.inr (.inr (.inr h)))), by rw [h]; exact lt_of_heap hDsame⟩
      cases e4 with
      | normal =>
        obtain ⟨hd4, s5, hw5, hi5⟩ := hend
        exact fin none s5 hw5 hd4 (hn _ _ hi5) hi5
      | ret =>
        obtain ⟨hd4, s5, hw5, hi5⟩ := hend
        exact fin (some .ret) s5 hw5 hd4 (hnx _ _ hi5) hi5
      | exit id =>
        obtain ⟨hd4, s5, hw5, hi5⟩ := hend
        exact fin (some (.exit id)) s5 hw5 hd4 (hnx _ _ hi5) hi5
      | goto t => exact hend.elim
      | panic ch => exact hend.elim
      | outgrown => exact hend.elim
    · -- behind the iterator
      rintro e W5 ⟨⟨v, rfl⟩, ⟨pe, i', si⟩, M', C', hfin, hJ5⟩
      rw [hX] at hJ5
      obtain ⟨β5, hj⟩ := hJ5
      have hrc := hj.rc
      simp only at hrc
      have hbusy : (rec (if pe.isNone then LoopState.ready else LoopState.done) pe).state ≠ .busy := by rw [hrec]; cases pe <;> simp
      have hend := run_endLoop (P := P) hrc hbusy
      obtain ⟨W6, hW6⟩ : ∃ W6, W6 = W5.putObj L (.loop { rec (if pe.isNone then .ready else .done) pe with state := .exhausted }) := ⟨_, rfl⟩
      replace hend : (Instr.endLoop L).run P W5 = .ok pe W6 := by rw [hW6]; rw [hrec] at hend ⊢; exact hend
      have hsz6 : W6.heap.size = W5.heap.size := by rw [hW6]; simp
      have hoth6 : ∀ b, b ≠ L → W6.heap[b]? = W5.heap[b]? := fun b hb => by rw [hW6]; exact World.putObj_heap_other hb
      have hrel6 := hj.rel.others (w' := W6) (by rw [hsz6]; exact Nat.le_refl _) (by rw [hW6]; exact putObj_cells hrc rfl)
      have hDlt := lt_of_heap hj.df
      have hrel7 : Rel (fun b => F b ∨ b = D) β5 si a W6 := hrel6.party (Nat.le_refl _) (fun b _ hn => ⟨rfl, fun h => hn (h.elim .inl (fun h => .inr (.inr (.inr h))))⟩) (fun b hb => by
        rcases hb with h | h
        · rw [hsz6]; exact hj.rel.ltF b (.inl h)
        · rw [hsz6, h]; exact hDlt)
      obtain ⟨j1, j2, j3, j4, j5⟩ := hJ
      have hkeep6 : ∀ b, b < w.heap.size → (F b ∨ ¬ Owned β s.st b) → W6.heap[b]? = w.heap[b]? := fun b hb h => by rw [hoth6 b (by omega)]; exact hj.keep b hb h
      have hJ7 : (JC F0 w0).J (D :: Ds) (Owned β5 si.st) (fun b => F b ∨ b = D) W6 := by
        refine ⟨fun b => ?_, fun b hb => ?_, fun E hE => ?_, ?_, ?_⟩
        · show (F b ∨ b = D) ↔ _
          rw [j1 b, List.mem_cons]
          constructor
          · rintro ((h | h) | h)
            · exact .inl h
            · exact .inr (.inr h)
            · exact .inr (.inl h)
          · rintro (h | h | h)
            · exact .inl (.inl h)
            · exact .inr h
            · exact .inl (.inr h)
        · obtain ⟨g1, g2, g3⟩ := j2 b hb
          have hFb : F b := (j1 b).2 (.inl hb)
          refine ⟨by rw [hsz6]; exact Nat.lt_of_lt_of_le g1 hj.size, (hkeep6 b g1 (.inl hFb)).trans g2, ?_⟩
          rintro ⟨id, ob, hs, hbe⟩
          exact hrel7.notF id ob b hs hbe (.inl hFb)
        · rcases List.mem_cons.1 hE with rfl | hE
          · refine ⟨fun h => ?_, ?_, ?_, ?_⟩
            · have := (j2 _ h).1; omega
            · rintro ⟨id, ob, hs, hbe⟩
              exact hrel7.notF id ob _ hs hbe (.inr rfl)
            · omega
            · rw [hoth6 _ (by omega)]; exact hj.df
          · obtain ⟨g1, g2, g3, g4⟩ := j3 E hE
            have hFE : F E := (j1 E).2 (.inr hE)
            refine ⟨g1, ?_, g3, (hkeep6 E (lt_of_heap g4) (.inl hFE)).trans g4⟩
            rintro ⟨id, ob, hs, hbe⟩
            exact hrel7.notF id ob E hs hbe (.inl hFE)
        · refine List.nodup_cons.2 ⟨fun h => ?_, j4⟩
          have := lt_of_heap (j3 D h).2.2.2
          omega
        · rw [hsz6]; exact Nat.le_trans j5 hj.size
      have hev7 : EvoJ (JC F0 w0).q F s.st β w (fun b => F b ∨ b = D) si.st β5 W6 := by
        refine ⟨?_, ?_, ?_, by rw [hsz6]; exact hj.size, fun b hb hF hno => hkeep6 b hb (.inr hno), hj.own, fun b hb => hb.imp id (fun h => by omega), fun hq => hq.elim⟩
        · rw [hW6]; exact hj.os
        · rw [hW6]; exact hj.tape
        · rw [hW6]; exact hj.output
      have hact : ({ shift ((JC F0 w0).ds Ds) a with defers := [mark D] ++ (shift ((JC F0 w0).ds Ds) a).defers } : Act) = shift ((JC F0 w0).ds (D :: Ds)) a := by
        simp [shift, JC, hr.defers]
      show rangePost _ _ _ _ _ _ _ _
      rw [hact]
      refine ⟨pe, W6, hend, ?_⟩
      cases pe with
      | none =>
        rcases hfin with ⟨_, hi⟩ | ⟨c, hc⟩
        · simp only at hi
          subst hi
          exact ⟨si, β5, D :: Ds, _, a, hdone D si hj.inv, hrel7, rfl, hJ7, hev7, Keeps.refl _ _⟩
        · cases hc
      | some c =>
        refine wpIn_mono (hstop D c si hj.inv n _ β5 a W6 hrel7 hJ7) ?_
        rintro e8 a8 W8 ⟨s8, β8, D8, F8, a9, hq, hr8, e9, hJ8, hev8, hke8⟩
        exact ⟨s8, β8, D8, F8, a9, hq, hr8, e9, hJ8, hev7.trans hev8, hke8⟩

end Go.Tv

end
section
namespace Go.Tv
variable {P : Program} {o : Oper} {D : St}

theorem eff_convStr {src dst e : TypeId} {x : Operand} {s : ByteArray} {ns : List Int} {k : Nat} {ag : Bool} (hd : dstOK D.n o.dst = true) (ho : o.op = .convert src dst x) (hsr : P.underlying src = some .string)
    (hdt : elemOf P dst = some (e, k, ag)) (he : P.underlying e = some (.int .u8)) (hx : D.ev x = .t (.str s)) (hns : s.data.toList.map (fun b => (b.toNat : Int)) = ns) : Eff P o D ⟨.t (.sl (ns.map fun n => .int .u8 n) false), []⟩ := by
  intro s0 hs hfresh F β a w hr next Q hnext
  have hxv := hr.evT hs hx
  generalize hxe : a.eval x = xv at hxv
  cases hxv
  obtain ⟨cap, hcap⟩ : ∃ cap, cap = grownCap w s.size 0 e := ⟨_, rfl⟩
  obtain ⟨W, hW⟩ : ∃ W, W = w.drew.alloc (.cells (bytesRow s cap) e ((bytesRow s cap).size, (bytesRow s cap).size + 1)) := ⟨_, rfl⟩
  have hnl : ns.length = s.data.size := by rw [← hns]; simp
  have hbel : BelowD w.heap.size w W := by
    rw [hW]
    refine ⟨⟨rfl, rfl, rfl, ?_, fun b hb => ?_⟩, Nat.le_succ _⟩
    · show w.heap.size ≤ (w.heap.push _).size
      rw [Array.size_push]; exact Nat.le_succ _
    · exact RowKit.Below.heap_alloc w.drew _ b hb
  obtain ⟨hrel, hev, hmono⟩ := hr.below hbel
  have hrun : (execOp a.eval o).run P w = .ok (.value (.slice (some ⟨w.heap.size, 0, none⟩) s.size cap)) W := by
    simp only [execOp, ho, Sem.run_bind, hxe]
    rw [run_bytes_of_string w src dst e s hsr (elemOf_spec hdt).1 he, hW, hcap]
    rfl
  have hheap : W.heap[w.heap.size]? = some (.cells (bytesRow s cap) e ((bytesRow s cap).size, (bytesRow s cap).size + 1)) := by
    rw [hW]; exact World.alloc_heap_new w.drew _
  have hV : V W (G F β s0.st) (.sl (ns.map fun n => .int .u8 n) false) (.slice (some ⟨w.heap.size, 0, none⟩) s.size cap) := by
    have hl : (ns.map fun n => Tr.int .u8 n).length = s.size := by rw [List.length_map, hnl]; rfl
    rw [← hl]
    refine V.sl _ false 1 w.heap.size 0 cap (fun i _ => .int .u8 (ns.getD i 0)) (lt_of_heap hheap) ?_ (fun h => by cases h) ?_ ?_ ?_ ?_ ?_
    · rintro (h | h)
      · exact absurd (hr.ltF _ h) (Nat.lt_irrefl _)
      · exact absurd (hr.owned_cells h).1 (Nat.lt_irrefl _)
    · rw [hl, hcap]; exact grownCap_ge _ _ _ _
    · intro i x hx
      rw [List.getElem?_map, Option.map_eq_some_iff] at hx
      obtain ⟨n, _, rfl⟩ := hx
      exact ⟨rfl, rfl⟩
    · intro i x j c hx hc
      rw [List.getElem?_map, Option.map_eq_some_iff] at hx
      obtain ⟨n, _, rfl⟩ := hx
      match j with
      | 0 => simp [Tr.cells] at hc; subst hc; rfl
      | j + 1 => simp [Tr.cells] at hc
    · intro i x j c hx hc
      rw [List.getElem?_map, Option.map_eq_some_iff] at hx
      obtain ⟨n, hn, rfl⟩ := hx
      match j with
      | 0 =>
        have hi : i < s.data.size := by rw [← hnl]; exact lt_get hn
        have hb := bytesRow_at s cap i hi
        have hni : n = (s.data[i].toNat : Int) := by
          have h9 := hn
          rw [← hns, List.getElem?_map, List.getElem?_eq_getElem (by simpa using hi)] at h9
          simp at h9
          exact h9.symm
        have hg : ns.getD i 0 = n := by rw [List.getD_eq_getElem?_getD, hn]; rfl
        show W.cell? _ = some (.int .u8 (ns.getD i 0))
        rw [hg]
        unfold World.cell?
        rw [hheap]
        simp only [Nat.zero_add, Nat.mul_one, Nat.add_zero]
        rw [hni]; exact hb
      | j + 1 => simp [Tr.cells] at hc
    · intro i x j c hx hc
      rw [List.getElem?_map, Option.map_eq_some_iff] at hx
      obtain ⟨n, hn, rfl⟩ := hx
      match j with
      | 0 =>
        simp [Tr.cells] at hc; subst hc
        have hg : ns.getD i 0 = n := by rw [List.getD_eq_getElem?_getD, hn]; rfl
        show V W _ _ (.int .u8 (ns.getD i 0))
        rw [hg]; exact .int _ _
      | j + 1 => simp [Tr.cells] at hc
  unfold Oper.wp
  rw [hrun]
  exact hnext β _ _ (hrel.put (by rw [hs.n]; exact hd) (.t hV)) hev

/-- The length of a string. -/
theorem eff_lenStr {t : TypeId} {x : Operand} {s : ByteArray} {n : Int} (hd : dstOK D.n o.dst = true)
    (ho : o.op = .call { callee := .builtin .len, args := #[x], argTypes := #[t] }) (ht : P.underlying t = some .string) (hx : D.ev x = .t (.str s)) (hn : (s.size : Int) = n) :
    Eff P o D ⟨.t (.int .i64 n), []⟩ :=
  Eff.pure hd fun s0 hs' F β a w hR => by
    have h := hR.evT hs' hx
    generalize hv : a.eval x = v at h
    cases h
    subst hn
    refine ⟨.int .i64 s.size, ?_, .t (.int _ _)⟩
    simp only [execOp, ho, resolve, hv, invoke, builtin, Builtin.len_, List.map_toArray, List.map_cons, List.map_nil, Sem.run_bind, Sem.run_pure, Result.andThen_ok, List.getElem?_toArray, List.getElem?_cons_zero,
      run_underlying' w ht, goInt]

/-- A slice literal as data: nothing lies behind its last element. -/
theorem eff_buildSliceT {t e : TypeId} {len : Nat} {ag : Bool} {parts : Array (Nat × Operand)} {z : Tr} {xs : List Tr} (hd : dstOK D.n o.dst = true) (ho : o.op = .buildSlice t len parts)
    (ht : elemOf P t = some (e, 1, ag)) (hz : zeroOf P e = some z) (hzk : z.cells.length = 1) (hlim : len * 1 ≤ 16777216)
    (hf : fillA (fun i => some (i * 1, 1)) (zeroCellsA z (len * 1)) (parts.toList.map fun p => (p.1, D.ev p.2)) = some (xs.map .t))
    (h1 : xs.all Tr.one = true) (hel : xs.length = len) (h0 : len * 1 ≠ 0) : Eff P o D ⟨.t (.sl xs true), []⟩ := by
  intro s hs hfresh F β a w hR next Q hnext
  obtain ⟨hu, hte⟩ := elemOf_spec ht
  obtain ⟨zv, hzr, hzV, hzn, hzs⟩ := zeroOf_run hz w (G F β s.st)
  have hcr := zero_cr (β := β) (σ := s.st) hzV hzn (by rw [hzk]; decide) (len * 1)
  obtain ⟨c', hc', hcr'⟩ := fill_run _ _ _ _ (xs.map .t) hcr (by simp) (map_parts hR hs parts) hf
  obtain ⟨W, hW⟩ : ∃ W, W = w.alloc (.cells c' e) := ⟨_, rfl⟩
  have hbel : BelowD w.heap.size w W := by
    rw [hW]
    exact ⟨⟨rfl, rfl, rfl, by simp, fun b hb => RowKit.Below.heap_alloc w _ b hb⟩, Nat.le_refl _⟩
  obtain ⟨hrel, hev, hmono⟩ := hR.below hbel
  have hrun : (execOp a.eval o).run P w = .ok (.value (.slice (some ⟨w.heap.size, 0, none⟩) len len)) W := by
    have hc'' : Instr.fill (fun i => some (i * 1, 1)) ((Array.range (len * 1)).map fun i => zv.cells[i % zv.cells.size]!) (Array.map (fun (x : Nat × Operand) => (x.1, a.eval x.2)) parts).toList = some c' := by
      rw [Array.toList_map]; exact hc'
    rw [hW]
    simp only [execOp, ho, Instr.buildSlice, Sem.run_bind, run_underlying' w hu, Result.andThen_ok, run_sizeOf' w hte, show ¬ (len * 1 > 2 ^ 24) from by omega, if_false, h0, hzr, Sem.run_pure, hc'',
      newRow, run_newObj, World.alloc_eq]
  have hheap : W.heap[w.heap.size]? = some (.cells c' e) := by rw [hW]; exact World.alloc_heap_new w _
  have one : ∀ (i : Nat) x, xs[i]? = some x → x.one = true := fun i x hx => List.all_eq_true.1 h1 x (List.mem_of_getElem? hx)
  have ocells : ∀ x : Tr, x.one = true → x.cells = [x] ∧ x.noTup = true := fun x hx => by cases x <;> first | exact ⟨rfl, rfl⟩ | (simp [Tr.one] at hx)
  have hG : ¬ G F β s.st w.heap.size := by
    rintro (h | h)
    · exact absurd (hR.ltF _ h) (Nat.lt_irrefl _)
    · exact absurd (hR.owned_cells h).1 (Nat.lt_irrefl _)
  have hcell : ∀ (i : Nat) x, xs[i]? = some x → ∃ v, c'[i]? = some v ∧ V w (G F β s.st) x v := fun i x hx => by
    obtain ⟨v, hv, hva⟩ := (hcr'.2 i (.t x) (by rw [List.getElem?_map, hx]; rfl)).2
    cases hva with
    | t h => exact ⟨v, hv, h⟩
  have hV : V W (G F β s.st) (.sl xs true) (.slice (some ⟨w.heap.size, 0, none⟩) len len) := by
    rw [← hel]
    refine V.sl xs true 1 w.heap.size 0 xs.length (fun i _ => c'.getD i undef) (lt_of_heap hheap) hG (fun _ => rfl) (Nat.le_refl _) ?_ ?_ ?_ ?_
    · intro i x hx
      have := ocells x (one i x hx)
      exact ⟨this.2, by rw [this.1]; rfl⟩
    · intro i x j c hx hc
      rw [(ocells x (one i x hx)).1] at hc
      match j with
      | 0 => simp at hc; subst hc; exact one i _ hx
      | j + 1 => simp at hc
    · intro i x j c hx hc
      rw [(ocells x (one i x hx)).1] at hc
      match j with
      | 0 =>
        obtain ⟨v, hv, _⟩ := hcell i x hx
        unfold World.cell?
        rw [hheap]
        simp only [Nat.zero_add, Nat.mul_one, Nat.add_zero]
        rw [show (c'.getD i undef) = v from by rw [Array.getD_eq_getD_getElem?, hv]; rfl]
        exact hv
      | j + 1 => simp at hc
    · intro i x j c hx hc
      rw [(ocells x (one i x hx)).1] at hc
      match j with
      | 0 =>
        simp at hc; subst hc
        obtain ⟨v, hv, hvv⟩ := hcell i _ hx
        rw [show (c'.getD i undef) = v from by rw [Array.getD_eq_getD_getElem?, hv]; rfl]
        exact V.mono hbel.size (fun b hb hn => ⟨hn, hbel.block b hb⟩) hvv
      | j + 1 => simp at hc
  unfold Oper.wp
  rw [hrun]
  exact hnext β _ _ (hrel.put (by rw [hs.n]; exact hd) (.t hV)) hev
end Go.Tv

end
section
namespace Go.Tv
variable {P : Program}
section
variable {γ : Type} {X : JP γ} {ro : Option Nat} {all l : List Oper} {o : Oper} {n : Nat} {fr : Fra} {st : Sto} {g : γ} {K : St → γ → Prop}
theorem RJ.new2 {v : AV} {d : Tmp} {i1 i2 : Nat} {o1 o2 : Ob} (hg : o.guard = none) (hd : o.dst = some d) (he : Eff P o ⟨n, fr, st⟩ ⟨v, [(i1, o1), (i2, o2)]⟩) (h : RJ P ro X all l ⟨n, (d, v) :: fr, (i2, some o2) :: (i1, some o1) :: st⟩ g K) (hnd : noDefer o = true := by rfl) : RJ P ro X all (o :: l) ⟨n, fr, st⟩ g K :=
  ⟨_, Weak.refl _, rfl, .inl ⟨.inl hg, _, effJ_of hnd he, fun e g' ⟨h1, h2⟩ => by subst h1 h2; rw [hd]; exact h⟩⟩
end
end Go.Tv

end
section
namespace Go.Tv
set_option linter.unusedVariables false
variable {P : Program} {o : Oper} {D : St}

end Go.Tv

end
section
namespace Go.Tv
set_option linter.unusedVariables false
variable {P : Program}
section
variable {γ : Type} {X : JP γ} {ro : Option Nat} {all l : List Oper} {o : Oper} {n : Nat} {fr : Fra} {st : Sto} {g : γ} {K : St → γ → Prop}
theorem RJ.new3 {v : AV} {d : Tmp} {i1 i2 i3 : Nat} {o1 o2 o3 : Ob} (hg : o.guard = none) (hd : o.dst = some d) (he : Eff P o ⟨n, fr, st⟩ ⟨v, [(i1, o1), (i2, o2), (i3, o3)]⟩)
    (h : RJ P ro X all l ⟨n, (d, v) :: fr, (i3, some o3) :: (i2, some o2) :: (i1, some o1) :: st⟩ g K) (hnd : noDefer o = true := by rfl) : RJ P ro X all (o :: l) ⟨n, fr, st⟩ g K :=
  ⟨_, Weak.refl _, rfl, .inl ⟨.inl hg, _, effJ_of hnd he, fun e g' ⟨h1, h2⟩ => by subst h1 h2; rw [hd]; exact h⟩⟩
end
section
variable {all l : List Oper} {o : Oper} {n : Nat} {fr : Fra} {st : Sto} {K : St → Prop}
end
section
variable {D : St} {o : Oper}
end

theorem self_own {σ : Sto} {ren : Nat → Nat} {k g id gn off len : Nat} {ty : TypeId} (h : (sget σ id).isSome = true) (hn : ren id = id) : selfEls σ ren ⟨k, ty, g, [.own id gn off len]⟩ := fun x hx => by
  rw [List.mem_singleton.1 hx]; exact .own id gn off len h hn
theorem self_tree {σ : Sto} {ren : Nat → Nat} {k g : Nat} {ty : TypeId} {xs : List Tr} : selfEls σ ren ⟨k, ty, g, xs.map .t⟩ := fun x hx => by
  obtain ⟨y, _, rfl⟩ := List.mem_map.1 hx; exact .t y
end Go.Tv

end
section
open Go Go.Tv Go.Proofs
namespace Go.Tv.C34
set_option maxRecDepth 20000
theorem ti3 : tinf Tryd.prog 3 = some (1, false) := by kernel_rfl
theorem tu3 : Tryd.prog.underlying 3 = some (.int .i64) := by kernel_rfl
abbrev z3 : Tr := .int .i64 0
theorem tz3 : zeroOf Tryd.prog 3 = some z3 := by kernel_rfl
theorem tb3 : (Tryd.prog.info? 3).map (·.bytes) = some 8 := by kernel_rfl
theorem ti4 : tinf Tryd.prog 4 = some (1, false) := by kernel_rfl
abbrev z4 : Tr := .bool false
theorem tz4 : zeroOf Tryd.prog 4 = some z4 := by kernel_rfl
theorem ti5 : tinf Tryd.prog 5 = some (1, false) := by kernel_rfl
theorem tu5 : Tryd.prog.underlying 5 = some (.int .u8) := by kernel_rfl
abbrev z5 : Tr := .int .u8 0
theorem tz5 : zeroOf Tryd.prog 5 = some z5 := by kernel_rfl
theorem tb5 : (Tryd.prog.info? 5).map (·.bytes) = some 1 := by kernel_rfl
abbrev z9 : Tr := .str ⟨#[]⟩
abbrev z22 : Tr := .agg [.int .i64 0, .int .i64 0, .int .i64 0, .bool false]
theorem ti23 : tinf Tryd.prog 23 = some (4, true) := by kernel_rfl
theorem tf23_0 : fldOf Tryd.prog 23 0 = some (0, 1, false) := by kernel_rfl
theorem tf23_1 : fldOf Tryd.prog 23 1 = some (1, 1, false) := by kernel_rfl
theorem tf23_2 : fldOf Tryd.prog 23 2 = some (2, 1, false) := by kernel_rfl
theorem tf23_3 : fldOf Tryd.prog 23 3 = some (3, 1, false) := by kernel_rfl
theorem tg23 : fldsOf Tryd.prog 23 = some [(0, 1), (1, 1), (2, 1), (3, 1)] := by kernel_rfl
abbrev z23 : Tr := .agg [.int .i64 0, .int .i64 0, .int .i64 0, .bool false]
theorem tz23 : zeroOf Tryd.prog 23 = some z23 := by kernel_rfl
theorem tb23 : (Tryd.prog.info? 23).map (·.bytes) = some 32 := by kernel_rfl
theorem ti26 : tinf Tryd.prog 26 = some (1, false) := by kernel_rfl
theorem te26 : elemOf Tryd.prog 26 = some (3, 1, false) := by kernel_rfl
theorem ti27 : tinf Tryd.prog 27 = some (1, false) := by kernel_rfl
theorem te27 : elemOf Tryd.prog 27 = some (5, 1, false) := by kernel_rfl
abbrev z27 : Tr := .sl [] true
theorem tz27 : zeroOf Tryd.prog 27 = some z27 := by kernel_rfl
theorem tb27 : (Tryd.prog.info? 27).map (·.bytes) = some 24 := by kernel_rfl
theorem ti28 : tinf Tryd.prog 28 = some (1, false) := by kernel_rfl
theorem tu28 : Tryd.prog.underlying 28 = some (.int .u64) := by kernel_rfl
abbrev z28 : Tr := .int .u64 0
theorem tz28 : zeroOf Tryd.prog 28 = some z28 := by kernel_rfl
theorem tb28 : (Tryd.prog.info? 28).map (·.bytes) = some 8 := by kernel_rfl
theorem ti30 : tinf Tryd.prog 30 = some (5, true) := by kernel_rfl
theorem tf30_0 : fldOf Tryd.prog 30 0 = some (0, 1, false) := by kernel_rfl
theorem tf30_1 : fldOf Tryd.prog 30 1 = some (1, 1, false) := by kernel_rfl
theorem tf30_2 : fldOf Tryd.prog 30 2 = some (2, 1, false) := by kernel_rfl
theorem tf30_3 : fldOf Tryd.prog 30 3 = some (3, 1, false) := by kernel_rfl
theorem tf30_4 : fldOf Tryd.prog 30 4 = some (4, 1, false) := by kernel_rfl
theorem tg30 : fldsOf Tryd.prog 30 = some [(0, 1), (1, 1), (2, 1), (3, 1), (4, 1)] := by kernel_rfl
abbrev z30 : Tr := .agg [.int .i64 0, .int .i64 0, .bool false, .sl [] true, .int .u64 0]
theorem tz30 : zeroOf Tryd.prog 30 = some z30 := by kernel_rfl
theorem tb30 : (Tryd.prog.info? 30).map (·.bytes) = some 56 := by kernel_rfl
theorem ti34 : tinf Tryd.prog 34 = some (1, false) := by kernel_rfl
theorem te34 : elemOf Tryd.prog 34 = some (30, 5, true) := by kernel_rfl
theorem ti35 : tinf Tryd.prog 35 = some (1, false) := by kernel_rfl
theorem te35 : elemOf Tryd.prog 35 = some (23, 4, true) := by kernel_rfl
theorem ti37 : tinf Tryd.prog 37 = some (2, true) := by kernel_rfl
theorem tf37_0 : fldOf Tryd.prog 37 0 = some (0, 1, false) := by kernel_rfl
theorem tf37_1 : fldOf Tryd.prog 37 1 = some (1, 1, false) := by kernel_rfl
theorem tg37 : fldsOf Tryd.prog 37 = some [(0, 1), (1, 1)] := by kernel_rfl
abbrev z37 : Tr := .agg [.sl [] true, .sl [] true]
theorem tz37 : zeroOf Tryd.prog 37 = some z37 := by kernel_rfl
theorem ti60 : tinf Tryd.prog 60 = some (2, true) := by kernel_rfl
theorem tf60_0 : fldOf Tryd.prog 60 0 = some (0, 1, false) := by kernel_rfl
theorem tf60_1 : fldOf Tryd.prog 60 1 = some (1, 1, false) := by kernel_rfl
theorem tg60 : fldsOf Tryd.prog 60 = some [(0, 1), (1, 1)] := by kernel_rfl
abbrev z60 : Tr := .agg [.int .u64 0, .int .i64 0]
theorem tz60 : zeroOf Tryd.prog 60 = some z60 := by kernel_rfl
theorem ti62 : tinf Tryd.prog 62 = some (5, true) := by kernel_rfl
theorem tf62_0 : fldOf Tryd.prog 62 0 = some (0, 1, false) := by kernel_rfl
theorem tf62_1 : fldOf Tryd.prog 62 1 = some (1, 1, false) := by kernel_rfl
theorem tf62_2 : fldOf Tryd.prog 62 2 = some (2, 1, false) := by kernel_rfl
theorem tf62_3 : fldOf Tryd.prog 62 3 = some (3, 2, true) := by kernel_rfl
theorem tg62 : fldsOf Tryd.prog 62 = some [(0, 1), (1, 1), (2, 1), (3, 2)] := by kernel_rfl
abbrev z62 : Tr := .agg [.int .i64 0, .sl [] true, .bool false, .int .u64 0, .int .i64 0]
theorem tz62 : zeroOf Tryd.prog 62 = some z62 := by kernel_rfl
theorem te67 : elemOf Tryd.prog 67 = some (27, 1, false) := by kernel_rfl
theorem tu75 : Tryd.prog.underlying 75 = some (.int .u64) := by kernel_rfl
theorem tf90_0 : fldOf Tryd.prog 90 0 = some (0, 1, false) := by kernel_rfl
theorem tf92_0 : fldOf Tryd.prog 92 0 = some (0, 1, true) := by kernel_rfl
abbrev z92 : Tr := .agg [.sl [] true]
theorem tz92 : zeroOf Tryd.prog 92 = some z92 := by kernel_rfl
theorem te109 : elemOf Tryd.prog 109 = some (28, 1, false) := by kernel_rfl
theorem ta26 : AppT Tryd.prog 26 26 3 1 8 := ⟨⟨_, te26⟩, ⟨_, _, _, te26⟩, tb3, z3, tz3, by kernel_rfl⟩
theorem ta27 : AppT Tryd.prog 27 27 5 1 1 := ⟨⟨_, te27⟩, ⟨_, _, _, te27⟩, tb5, z5, tz5, by kernel_rfl⟩
theorem ta34 : AppT Tryd.prog 34 34 30 5 56 := ⟨⟨_, te34⟩, ⟨_, _, _, te34⟩, tb30, z30, tz30, by kernel_rfl⟩
theorem ta35 : AppT Tryd.prog 35 35 23 4 32 := ⟨⟨_, te35⟩, ⟨_, _, _, te35⟩, tb23, z23, tz23, by kernel_rfl⟩
theorem ta67 : AppT Tryd.prog 67 67 27 1 24 := ⟨⟨_, te67⟩, ⟨_, _, _, te67⟩, tb27, z27, tz27, by kernel_rfl⟩
theorem ta109 : AppT Tryd.prog 109 109 28 1 8 := ⟨⟨_, te109⟩, ⟨_, _, _, te109⟩, tb28, z28, tz28, by kernel_rfl⟩
theorem th23 : Program.eqGuardType Tryd.prog (Program.depth Tryd.prog) 23 = false := by kernel_rfl
theorem ts23s : scCells Tryd.prog 8 23 = some [.int .i64, .int .i64, .int .i64, .bool] := by kernel_rfl
theorem tm : Tryd.prog.follows .mixedOrders = true := by kernel_rfl
theorem co13 : callOK Tryd.prog 13 = true := by kernel_rfl
theorem co14 : callOK Tryd.prog 14 = true := by kernel_rfl
theorem co16 : callOK Tryd.prog 16 = true := by kernel_rfl
theorem co17 : callOK Tryd.prog 17 = true := by kernel_rfl
theorem co19 : callOK Tryd.prog 19 = true := by kernel_rfl
theorem co20 : callOK Tryd.prog 20 = true := by kernel_rfl
theorem co22 : callOK Tryd.prog 22 = true := by kernel_rfl
theorem co25 : callOK Tryd.prog 25 = true := by kernel_rfl
theorem co29 : callOK Tryd.prog 29 = true := by kernel_rfl
theorem co33 : callOK Tryd.prog 33 = true := by kernel_rfl
theorem co34 : callOK Tryd.prog 34 = true := by kernel_rfl
theorem co35 : callOK Tryd.prog 35 = true := by kernel_rfl
theorem co36 : callOK Tryd.prog 36 = true := by kernel_rfl
theorem co37 : callOK Tryd.prog 37 = true := by kernel_rfl
theorem co38 : callOK Tryd.prog 38 = true := by kernel_rfl
theorem co39 : callOK Tryd.prog 39 = true := by kernel_rfl
theorem co43 : callOK Tryd.prog 43 = true := by kernel_rfl
theorem co44 : callOK Tryd.prog 44 = true := by kernel_rfl
theorem co45 : callOK Tryd.prog 45 = true := by kernel_rfl
theorem co46 : callOK Tryd.prog 46 = true := by kernel_rfl
theorem co48 : callOK Tryd.prog 48 = true := by kernel_rfl
theorem co50 : callOK Tryd.prog 50 = true := by kernel_rfl
theorem co51 : callOK Tryd.prog 51 = true := by kernel_rfl
theorem co52 : callOK Tryd.prog 52 = true := by kernel_rfl
theorem co53 : callOK Tryd.prog 53 = true := by kernel_rfl
theorem co54 : callOK Tryd.prog 54 = true := by kernel_rfl
theorem co55 : callOK Tryd.prog 55 = true := by kernel_rfl
theorem co56 : callOK Tryd.prog 56 = true := by kernel_rfl
theorem co57 : callOK Tryd.prog 57 = true := by kernel_rfl
theorem co58 : callOK Tryd.prog 58 = true := by kernel_rfl
theorem co59 : callOK Tryd.prog 59 = true := by kernel_rfl
theorem co60 : callOK Tryd.prog 60 = true := by kernel_rfl
theorem co61 : callOK Tryd.prog 61 = true := by kernel_rfl
theorem co62 : callOK Tryd.prog 62 = true := by kernel_rfl
theorem co64 : callOK Tryd.prog 64 = true := by kernel_rfl
theorem co65 : callOK Tryd.prog 65 = true := by kernel_rfl
theorem co66 : callOK Tryd.prog 66 = true := by kernel_rfl
theorem co68 : callOK Tryd.prog 68 = true := by kernel_rfl
theorem co69 : callOK Tryd.prog 69 = true := by kernel_rfl
theorem co70 : callOK Tryd.prog 70 = true := by kernel_rfl
theorem co71 : callOK Tryd.prog 71 = true := by kernel_rfl
theorem co72 : callOK Tryd.prog 72 = true := by kernel_rfl
theorem co73 : callOK Tryd.prog 73 = true := by kernel_rfl
theorem co74 : callOK Tryd.prog 74 = true := by kernel_rfl
theorem co75 : callOK Tryd.prog 75 = true := by kernel_rfl
theorem co76 : callOK Tryd.prog 76 = true := by kernel_rfl
theorem co77 : callOK Tryd.prog 77 = true := by kernel_rfl
theorem co80 : callOK Tryd.prog 80 = true := by kernel_rfl
theorem co81 : callOK Tryd.prog 81 = true := by kernel_rfl
theorem co82 : callOK Tryd.prog 82 = true := by kernel_rfl
theorem co83 : callOK Tryd.prog 83 = true := by kernel_rfl
theorem co84 : callOK Tryd.prog 84 = true := by kernel_rfl
theorem co85 : callOK Tryd.prog 85 = true := by kernel_rfl
theorem co86 : callOK Tryd.prog 86 = true := by kernel_rfl
theorem co97 : callOK Tryd.prog 97 = true := by kernel_rfl
theorem co98 : callOK Tryd.prog 98 = true := by kernel_rfl
theorem co99 : callOK Tryd.prog 99 = true := by kernel_rfl
theorem co105 : callOK Tryd.prog 105 = true := by kernel_rfl
end Go.Tv.C34

end
section
open Go Go.Tv Go.Proofs
namespace Go.Tv.C34

/-- A possible state. -/
structure Rep where
  next : Int
  have_ : Int
  key : Int
  locked : Bool
  deriving DecidableEq, Inhabited

structure Frm where
  seq : Int
  key : Int
  unlock : Bool
  body : List Int
  tag : Int
  deriving DecidableEq

structure Twn where
  sent : List Frm
  poss : List Rep
  deriving DecidableEq

def encI (n : Int) : Tr := .int .i64 n
def encBy (n : Int) : Tr := .int .u8 n
def encR (r : Rep) : Tr := .agg [encI r.next, encI r.have_, encI r.key, .bool r.locked]
def encF (f : Frm) : Tr := .agg [encI f.seq, encI f.key, .bool f.unlock, .sl (f.body.map encBy) false, .int .u64 f.tag]
def encT (t : Twn) : Tr := .agg [.sl (t.sent.map encF) false, .sl (t.poss.map encR) false]
def cellsR (r : Rep) : List Sc := [.int .i64 r.next, .int .i64 r.have_, .int .i64 r.key, .bool r.locked]
theorem cellsR_kind (r : Rep) : (cellsR r).map Sc.kind = [.int .i64, .int .i64, .int .i64, .bool] := rfl
theorem cellsR_inj (a b : Rep) (h : cellsR a = cellsR b) : a = b := by
  cases a; cases b
  simp only [cellsR, List.cons.injEq, Sc.int.injEq, Sc.bool.injEq, true_and, and_true] at h
  simp only [Rep.mk.injEq]
  exact h

abbrev zr : Rep := ⟨0, 0, 0, false⟩
abbrev zf : Frm := ⟨0, 0, false, [], 0⟩
abbrev zt : Twn := ⟨[], []⟩
abbrev w64 (n : Int) : Int := IntKind.i64.wrap n
def I64 (n : Int) : Prop := -9223372036854775808 ≤ n ∧ n ≤ 9223372036854775807

theorem take_succ_get {α : Type} {l : List α} {i : Nat} (h : i < l.length) : l.take (i + 1) = l.take i ++ [l[i]] := by
  rw [List.take_add_one, List.getElem?_eq_getElem h]; rfl
theorem mem_take_succ {α : Type} {l : List α} {i : Nat} (h : i < l.length) {x : α} : x ∈ l.take (i + 1) ↔ x ∈ l.take i ∨ x = l[i] := by
  rw [take_succ_get h, List.mem_append, List.mem_singleton]

/-- n modulo m, never negative. -/
def around (n m : Int) : Int := (if n < 0 then -(n + 1) else n) % m
theorem around_range {n m : Int} (hm : 0 < m) : 0 ≤ around n m ∧ around n m < m := by
  unfold around
  exact ⟨Int.emod_nonneg _ (by omega), Int.emod_lt_of_pos _ hm⟩
theorem tmod_pos {a m : Int} (h : 0 ≤ a) : a.tmod m = a % m := Int.tmod_eq_emod_of_nonneg h

def state (next have_ key : Int) (locked : Bool) : Rep := ⟨around next 600, around have_ 32768, around key 10000, locked⟩

/-! ### Apply -/
/-- What the counts of two numbers lie apart, modulo 256. -/
def dist (f : Frm) (s : Rep) : Int := (f.seq - s.next) % 256
/-- How many ones end a number. -/
def trl : Nat → Nat → Nat
  | 0, _ => 0
  | f + 1, h => if h % 2 = 1 then 1 + trl f (h / 2) else 0
def ones (n : Int) : Nat := trl 64 n.toNat

def apply (s : Rep) (f : Frm) : Rep :=
  if f.key < s.key ∨ w64 (s.key + 4096) < f.key then s
  else if f.unlock then ⟨if dist f s < 128 then w64 (s.next + dist f s) else s.next, 0, w64 (f.key + 1), false⟩
  else if s.locked then ⟨s.next, s.have_, w64 (f.key + 1), true⟩
  else if dist f s = 0 then ⟨w64 (s.next + (1 + (ones s.have_ : Nat))), (s.have_.toNat / 2 ^ (1 + ones s.have_) : Nat), w64 (f.key + 1), false⟩
  else if dist f s < 16 then ⟨s.next, (s.have_.toNat ||| 2 ^ (dist f s - 1).toNat : Nat), w64 (f.key + 1), false⟩
  else ⟨s.next, s.have_, w64 (f.key + 1), decide (dist f s < 128)⟩

/-- The numbers of a state that arise. -/
def HP (s : Rep) : Prop := 0 ≤ s.have_ ∧ s.have_ < 32768

/-! ### Order -/
def less (a b : Rep) : Bool :=
  if a.next ≠ b.next then decide (a.next < b.next)
  else if a.have_ ≠ b.have_ then decide (a.have_ < b.have_)
  else if a.key ≠ b.key then decide (a.key < b.key)
  else !a.locked && b.locked
def cmpI (a b : Int) : Int := if a < b then -1 else if b < a then 1 else 0
def orI : List Int → Int
  | [] => 0
  | x :: l => if x ≠ 0 then x else orI l
def flag (b : Bool) : Int := if b then 1 else 0
def cmpR (a b : Rep) : Int := orI [cmpI a.next b.next, cmpI a.have_ b.have_, cmpI a.key b.key, cmpI (flag a.locked) (flag b.locked)]

def put (l : List Rep) (s : Rep) : List Rep := match l with
  | [] => [s]
  | x :: m => if less x s then x :: put m s else if x = s then x :: m else s :: x :: m

/-! ### Maps of states -/
noncomputable def KR : MapK Tryd.prog 23 Rep := MapK.scs Tryd.underlying23 ts23s ti23 cellsR cellsR_kind cellsR_inj
abbrev XU : MapX Unit := MapX.unit
def setL (l : List Rep) : List (Rep × Unit) := l.map fun r => (r, ())
def ins (l : List Rep) (r : Rep) : List Rep := if r ∈ l then l else l ++ [r]
theorem put_set (l : List Rep) (r : Rep) : putA r () (setL l) = setL (ins l r) := by
  induction l with
  | nil => rfl
  | cons a l ih =>
    unfold setL at *
    rw [List.map_cons]
    unfold putA
    by_cases h : r = a
    · subst h; rw [if_pos rfl]; unfold ins; rw [if_pos List.mem_cons_self]; rfl
    · rw [if_neg h, ih]
      unfold ins
      by_cases h2 : r ∈ l
      · rw [if_pos h2, if_pos (List.mem_cons_of_mem _ h2)]; rfl
      · rw [if_neg h2, if_neg (by simp [h, h2])]; rfl
theorem look_set (l : List Rep) (r : Rep) : lookA r (setL l) = if r ∈ l then some () else none := by
  induction l with
  | nil => rfl
  | cons a l ih =>
    unfold setL at *
    rw [List.map_cons]
    unfold lookA
    by_cases h : r = a
    · subst h; rw [if_pos rfl, if_pos List.mem_cons_self]
    · rw [if_neg h, ih]; simp [h]
theorem ins_nodup {l : List Rep} {r : Rep} (h : l.Nodup) : (ins l r).Nodup := by
  unfold ins
  split
  · exact h
  · rename_i hr
    rw [List.nodup_append]
    exact ⟨h, by simp, fun a ha b hb => by simp at hb; subst hb; exact fun e => hr (e ▸ ha)⟩
theorem ins_mem {l : List Rep} {r x : Rep} : x ∈ ins l r ↔ x ∈ l ∨ x = r := by
  unfold ins
  split
  · exact ⟨.inl, fun h => h.elim id (fun e => by rw [e]; assumption)⟩
  · simp

/-- A frozen set of states. -/
noncomputable def mset (l : List Rep) : Tr := .mpd (mapL KR XU (setL l))
end Go.Tv.C34

end
section
open Go Go.Tv Go.Proofs
namespace Go.Tv.C34

theorem w8 (n : Int) : IntKind.u8.wrap n = n % 256 := by simp [IntKind.wrap, IntKind.bits, IntKind.signed]
theorem wu64 (n : Int) : IntKind.u64.wrap n = n % 18446744073709551616 := by simp [IntKind.wrap, IntKind.bits, IntKind.signed]
theorem wi64 (n : Int) : IntKind.i64.wrap n = (n + 9223372036854775808) % 18446744073709551616 - 9223372036854775808 := by
  show (if (true && decide (n % 2 ^ 64 ≥ 2 ^ (64 - 1))) = true then n % 2 ^ 64 - 2 ^ 64 else n % 2 ^ 64) = _
  simp only [Bool.true_and, decide_eq_true_eq, ge_iff_le]
  split <;> omega
theorem dist_range (f : Frm) (s : Rep) : 0 ≤ dist f s ∧ dist f s < 256 := by
  unfold dist
  exact ⟨Int.emod_nonneg _ (by decide), Int.emod_lt_of_pos _ (by decide)⟩
theorem dist_u8 (f : Frm) (s : Rep) : IntKind.u8.wrap (IntKind.u8.wrap f.seq - IntKind.u8.wrap s.next) = dist f s := by
  simp only [w8]; unfold dist; omega
theorem dist_i64 (f : Frm) (s : Rep) : IntKind.i64.wrap (dist f s) = dist f s := by
  have := dist_range f s
  rw [wi64]; omega

theorem ofInt_nat (x : Nat) : BitVec.ofInt 64 (x : Int) = BitVec.ofNat 64 x := by
  apply BitVec.eq_of_toNat_eq
  simp

/-- What ^ gives at uint64. -/
theorem xor_ones {x : Nat} (hx : x < 18446744073709551616) : uop .xor (.int .u64 (x : Int)) = some (.int .u64 ((18446744073709551615 - x : Nat) : Int)) := by
  have h1 : BitVec.ofInt 64 (18446744073709551615 : Int) = BitVec.allOnes 64 := by decide
  have h2 : (BitVec.ofInt 64 (18446744073709551615 : Int) ^^^ BitVec.ofInt 64 (x : Int)).toNat = 18446744073709551615 - x := by
    rw [h1, ofInt_nat, BitVec.allOnes_xor, BitVec.toNat_not, BitVec.toNat_ofNat, Nat.mod_eq_of_lt hx]
  show some (Tr.int .u64 (IntKind.u64.wrap ((BitVec.ofInt 64 (18446744073709551615 : Int) ^^^ BitVec.ofInt 64 (x : Int)).toNat : Int))) = _
  rw [h2, wu64, show ((18446744073709551615 - x : Nat) : Int) % 18446744073709551616 = ((18446744073709551615 - x : Nat) : Int) from by omega]

theorem and_nat {x y : Nat} (hx : x < 18446744073709551616) (hy : y < 18446744073709551616) : iop .and .u64 (x : Int) (y : Int) = some (.int .u64 ((x &&& y : Nat) : Int)) := by
  have h2 : (BitVec.ofInt 64 (x : Int) &&& BitVec.ofInt 64 (y : Int)).toNat = x &&& y := by
    rw [ofInt_nat, ofInt_nat, BitVec.toNat_and, BitVec.toNat_ofNat, BitVec.toNat_ofNat, Nat.mod_eq_of_lt hx, Nat.mod_eq_of_lt hy]
  show some (Tr.int .u64 (IntKind.u64.wrap ((BitVec.ofInt 64 (x : Int) &&& BitVec.ofInt 64 (y : Int)).toNat : Int))) = _
  have h3 : x &&& y ≤ x := Nat.and_le_left
  rw [h2, wu64]
  generalize x &&& y = z at h3 ⊢
  rw [show (z : Int) % 18446744073709551616 = (z : Int) from by omega]

theorem or_nat {x y : Nat} (hx : x < 9223372036854775808) (hy : y < 9223372036854775808) : iop .or .i64 (x : Int) (y : Int) = some (.int .i64 ((x ||| y : Nat) : Int)) := by
  have h3 : x ||| y < 2 ^ 63 := Nat.or_lt_two_pow (by omega) (by omega)
  have h2 : (BitVec.ofInt 64 (x : Int) ||| BitVec.ofInt 64 (y : Int)).toNat = x ||| y := by
    rw [ofInt_nat, ofInt_nat, BitVec.toNat_or, BitVec.toNat_ofNat, BitVec.toNat_ofNat, Nat.mod_eq_of_lt (by omega), Nat.mod_eq_of_lt (by omega)]
  show some (Tr.int .i64 (IntKind.i64.wrap ((BitVec.ofInt 64 (x : Int) ||| BitVec.ofInt 64 (y : Int)).toNat : Int))) = _
  rw [h2, wi64]
  generalize x ||| y = z at h3 ⊢
  rw [show ((z : Int) + 9223372036854775808) % 18446744073709551616 - 9223372036854775808 = (z : Int) from by omega]

theorem neg_nat {x : Nat} (h0 : x ≠ 0) (hx : x < 18446744073709551616) : uop .neg (.int .u64 (x : Int)) = some (.int .u64 ((18446744073709551616 - x : Nat) : Int)) := by
  show some (Tr.int .u64 (IntKind.u64.wrap (0 - (x : Int)))) = _
  rw [wu64, show (0 - (x : Int)) % 18446744073709551616 = ((18446744073709551616 - x : Nat) : Int) from by omega]

/-- The table of math/bits. -/
def deB : List Int := [0, 1, 56, 2, 57, 49, 28, 3, 61, 58, 42, 50, 38, 29, 17, 4, 62, 47, 59, 36, 45, 43, 51, 22, 53, 39, 33, 30, 24, 18, 12, 5,
  63, 55, 48, 27, 60, 41, 37, 16, 46, 35, 44, 21, 52, 32, 23, 11, 54, 26, 40, 15, 34, 20, 31, 10, 25, 14, 19, 9, 13, 8, 7, 6]
def deT : Tr := .ptr (deB.map (Tr.int .u8))
def dix (k : Nat) : Nat := 2 ^ k * 285870213051353865 % 18446744073709551616 / 288230376151711744
theorem dix_lt {k : Nat} (h : k < 64) : dix k < 64 := (Lib.deBruijn64_at k h).1
theorem deB_get {k : Nat} (h : k < 64) : (deB.map (Tr.int .u8))[dix k * 1]? = some (.int .u8 (k : Int)) := by
  have : ∀ k, k < 64 → deB[dix k]? = some (k : Int) := by decide +kernel
  rw [Nat.mul_one, List.getElem?_map, this k h]; rfl

theorem ctzFrom_not : ∀ (f h : Nat), h < 2 ^ f → Lib.ctzFrom f (2 ^ f - 1 - h) = trl f h
  | 0, _, _ => rfl
  | f + 1, h, hh => by
    unfold Lib.ctzFrom trl
    have hp : 2 ^ (f + 1) = 2 * 2 ^ f := by rw [Nat.pow_succ, Nat.mul_comm]
    have hpos : 0 < 2 ^ f := Nat.pos_of_ne_zero (by simp)
    by_cases h1 : h % 2 = 1
    · rw [if_neg (by omega), if_pos h1]
      have e : (2 ^ (f + 1) - 1 - h) / 2 = 2 ^ f - 1 - h / 2 := by omega
      rw [e, ctzFrom_not f (h / 2) (by omega)]
    · rw [if_pos (by omega), if_neg h1]

theorem tz_not {s : Rep} (h : HP s) : (Lib.ctz 64 (18446744073709551615 - s.have_.toNat) : Nat) = ones s.have_ := by
  unfold HP at h
  unfold Lib.ctz ones
  rw [if_neg (by omega)]
  exact ctzFrom_not 64 s.have_.toNat (by omega)

theorem trl_le : ∀ (f h : Nat), trl f h ≤ f
  | 0, _ => Nat.le_refl _
  | f + 1, h => by
    unfold trl
    split
    · have := trl_le f (h / 2); omega
    · omega
theorem ones_le (n : Int) : ones n ≤ 64 := trl_le 64 _

section
variable {P : Program} {o : Oper} {D : St}
theorem eff_shlE {t ty : TypeId} {x y : Operand} {k yk : IntKind} {n m r : Int} (hd : dstOK D.n o.dst = true) (ho : o.op = .binOp .shl t x y ty)
    (hx : D.ev x = .t (.int k n)) (hy : D.ev y = .t (.int yk m)) (hm : 0 ≤ m) (hr : k.wrap (n * 2 ^ (min m.toNat k.bits)) = r) : Eff P o D ⟨.t (.int k r), []⟩ := by
  subst hr; exact eff_shl hd ho hx hy hm
end

theorem shl_one {d : Int} (h : 0 < d) (h2 : d < 16) : IntKind.i64.wrap (1 * 2 ^ (min (d - 1).toNat IntKind.i64.bits)) = ((2 ^ (d - 1).toNat : Nat) : Int) := by
  have e : min (d - 1).toNat IntKind.i64.bits = (d - 1).toNat := Nat.min_eq_left (by show (d - 1).toNat ≤ 64; omega)
  have hp : 2 ^ (d - 1).toNat < 2 ^ 15 := Nat.pow_lt_pow_right (by decide) (by omega)
  have hc : ((2 ^ (d - 1).toNat : Nat) : Int) = (2 : Int) ^ (d - 1).toNat := by simp
  rw [e, Int.one_mul, ← hc, wi64]
  generalize 2 ^ (d - 1).toNat = p at hp ⊢
  omega

theorem shr_have {s : Rep} (h : HP s) (n : Nat) (hn : n ≤ 65) : s.have_.fdiv (2 ^ (min (1 + (n : Int)).toNat IntKind.i64.bits)) = ((s.have_.toNat / 2 ^ (1 + n) : Nat) : Int) := by
  unfold HP at h
  have hs : s.have_ = (s.have_.toNat : Int) := by omega
  have hc : ∀ m : Nat, (2 : Int) ^ m = ((2 ^ m : Nat) : Int) := fun m => by simp
  have hlt : s.have_.toNat < 2 ^ 15 := by omega
  rw [hs, hc, Int.fdiv_eq_ediv_of_nonneg _ (Int.natCast_nonneg _), ← Int.natCast_ediv, Int.toNat_natCast]
  congr 1
  rcases Nat.lt_or_ge (1 + n) 64 with h1 | h1
  · congr 2
    show min _ 64 = _
    omega
  · rw [Nat.div_eq_of_lt, Nat.div_eq_of_lt]
    · exact Nat.lt_of_lt_of_le hlt (Nat.pow_le_pow_right (by decide) (by omega))
    · refine Nat.lt_of_lt_of_le hlt (Nat.pow_le_pow_right (by decide) ?_)
      show 15 ≤ min _ 64
      omega

/-! ### The ways through Apply -/
theorem apply_stay {s : Rep} {f : Frm} (h : f.key < s.key ∨ w64 (s.key + 4096) < f.key) : apply s f = s := by unfold apply; rw [if_pos h]
theorem apply_unl {s : Rep} {f : Frm} {n : Int} (h : ¬ (f.key < s.key ∨ w64 (s.key + 4096) < f.key)) (hu : f.unlock = true) (hn : (if dist f s < 128 then w64 (s.next + dist f s) else s.next) = n) : apply s f = ⟨n, 0, w64 (f.key + 1), false⟩ := by
  unfold apply; rw [if_neg h, if_pos hu, hn]
theorem apply_lock {s : Rep} {f : Frm} (h : ¬ (f.key < s.key ∨ w64 (s.key + 4096) < f.key)) (hu : f.unlock = false) (hl : s.locked = true) : apply s f = ⟨s.next, s.have_, w64 (f.key + 1), s.locked⟩ := by
  unfold apply; rw [if_neg h, if_neg (by rw [hu]; decide), if_pos hl, hl]
theorem apply_zero {s : Rep} {f : Frm} (h : ¬ (f.key < s.key ∨ w64 (s.key + 4096) < f.key)) (hu : f.unlock = false) (hl : s.locked = false) (hd : dist f s = 0) : apply s f = ⟨w64 (s.next + (1 + (ones s.have_ : Nat))), (s.have_.toNat / 2 ^ (1 + ones s.have_) : Nat), w64 (f.key + 1), s.locked⟩ := by
  unfold apply; rw [if_neg h, if_neg (by rw [hu]; decide), if_neg (by rw [hl]; decide), if_pos hd, hl]
theorem apply_near {s : Rep} {f : Frm} (h : ¬ (f.key < s.key ∨ w64 (s.key + 4096) < f.key)) (hu : f.unlock = false) (hl : s.locked = false) (hd : dist f s ≠ 0) (hd2 : dist f s < 16) : apply s f = ⟨s.next, (s.have_.toNat ||| 2 ^ (dist f s - 1).toNat : Nat), w64 (f.key + 1), s.locked⟩ := by
  unfold apply; rw [if_neg h, if_neg (by rw [hu]; decide), if_neg (by rw [hl]; decide), if_neg hd, if_pos hd2, hl]
theorem apply_far {s : Rep} {f : Frm} {b : Bool} (h : ¬ (f.key < s.key ∨ w64 (s.key + 4096) < f.key)) (hu : f.unlock = false) (hl : s.locked = false) (hd2 : ¬ dist f s < 16) (hb : decide (dist f s < 128) = b) : apply s f = ⟨s.next, s.have_, w64 (f.key + 1), b⟩ := by
  unfold apply; rw [if_neg h, if_neg (by rw [hu]; decide), if_neg (by rw [hl]; decide), if_neg (by omega), if_neg hd2, hb]

theorem apply_hp {s : Rep} {f : Frm} (h : HP s) : HP (apply s f) := by
  unfold apply
  split
  · exact h
  · split
    · exact ⟨Int.le_refl _, by show (0 : Int) < 32768; decide⟩
    · split
      · exact h
      · split
        · unfold HP at h ⊢
          have : s.have_.toNat / 2 ^ (1 + ones s.have_) ≤ s.have_.toNat := Nat.div_le_self _ _
          constructor
          · exact Int.natCast_nonneg _
          · show ((s.have_.toNat / 2 ^ (1 + ones s.have_) : Nat) : Int) < 32768
            omega
        · split
          · rename_i hd0 hd
            unfold HP at h ⊢
            have hr := dist_range f s
            have h1 : s.have_.toNat < 2 ^ 15 := by omega
            have h2 : 2 ^ (dist f s - 1).toNat < 2 ^ 15 := Nat.pow_lt_pow_right (by decide) (by omega)
            have h3 := Nat.or_lt_two_pow h1 h2
            constructor
            · exact Int.natCast_nonneg _
            · show ((s.have_.toNat ||| 2 ^ (dist f s - 1).toNat : Nat) : Int) < 32768
              omega
          · exact h

/-! ### Lists -/
/-- Where the first element with a property stands, or -1. -/
def fIx {α : Type} (p : α → Bool) (l : List α) : Int := match l.findIdx? p with
  | some i => (i : Int)
  | none => -1
theorem fIx_hit {α : Type} {p : α → Bool} {l : List α} {i : Nat} (hi : i < l.length) (h : ∀ b, b ∈ l.take i → p b = false) (he : p l[i] = true) : fIx p l = (i : Int) := by
  unfold fIx
  have : l.findIdx? p = some i := by
    rw [List.findIdx?_eq_some_iff_getElem]
    refine ⟨hi, he, fun j hj => ?_⟩
    have := h l[j] (by
      rw [List.mem_iff_getElem]
      exact ⟨j, by simp; omega, by simp⟩)
    simp [this]
  rw [this]
theorem fIx_none {α : Type} {p : α → Bool} {l : List α} (h : ∀ b, b ∈ l → p b = false) : fIx p l = -1 := by
  unfold fIx
  have : l.findIdx? p = none := by
    rw [List.findIdx?_eq_none_iff]
    intro b hb
    exact h b hb
  rw [this]
theorem fIx_neg {α : Type} {p : α → Bool} {l : List α} : fIx p l < 0 ↔ ∀ b, b ∈ l → p b = false := by
  constructor
  · intro h b hb
    cases hp : p b with
    | false => rfl
    | true =>
      exfalso
      unfold fIx at h
      cases hf : l.findIdx? p with
      | none => rw [List.findIdx?_eq_none_iff] at hf; rw [hf b hb] at hp; cases hp
      | some i => rw [hf] at h; simp only at h; omega
  · intro h
    rw [fIx_none h]; decide
theorem fIx_mem {l : List Rep} {r : Rep} : decide (fIx (fun x => decide (r = x)) l ≥ 0) = decide (r ∈ l) := by
  refine decide_eq_decide.2 ⟨fun h => ?_, fun h => ?_⟩
  · refine Classical.byContradiction fun hn => ?_
    have := fIx_neg.2 (fun b hb => (decide_eq_false (fun e => hn (by rw [e]; exact hb)) : decide (r = b) = false))
    omega
  · refine Classical.byContradiction fun hn => ?_
    have := fIx_neg.1 (show fIx (fun x => decide (r = x)) l < 0 by omega) r h
    simp at this

theorem orI_hit : ∀ {l : List Int} {i : Nat} (hi : i < l.length), (∀ y, y ∈ l.take i → y = 0) → l[i] ≠ 0 → orI l = l[i]
  | [], i, hi, _, _ => by simp at hi
  | x :: l, 0, _, _, h => by unfold orI; exact if_pos h
  | x :: l, i + 1, hi, h0, h => by
    unfold orI
    rw [if_neg (by have := h0 x (by simp); omega)]
    exact orI_hit (l := l) (i := i) (by simpa using hi) (fun y hy => h0 y (by simp [hy])) h
theorem orI_none : ∀ {l : List Int}, (∀ y, y ∈ l → y = 0) → orI l = 0
  | [], _ => rfl
  | x :: l, h => by unfold orI; rw [if_neg (by have := h x List.mem_cons_self; omega)]; exact orI_none fun y hy => h y (List.mem_cons_of_mem _ hy)

theorem tmod_range (n : Int) : -256 < n.tmod 256 ∧ n.tmod 256 < 256 := by
  rcases Int.le_total 0 n with h | h
  · rw [Int.tmod_eq_emod_of_nonneg h]; omega
  · have : n.tmod 256 = -((-n).tmod 256) := by rw [Int.neg_tmod, Int.neg_neg]
    rw [this, Int.tmod_eq_emod_of_nonneg (by omega)]; omega
theorem tmod_fix (n : Int) : (if n.tmod 256 < 0 then n.tmod 256 + 256 else n.tmod 256) = n % 256 := by
  rcases Int.le_total 0 n with h | h
  · rw [Int.tmod_eq_emod_of_nonneg h, if_neg (by omega)]
  · have : n.tmod 256 = -((-n).tmod 256) := by rw [Int.neg_tmod, Int.neg_neg]
    rw [this, Int.tmod_eq_emod_of_nonneg (by omega)]
    split <;> omega

theorem mul_u64 (a b : Nat) : iop .mul .u64 (a : Int) (b : Int) = some (.int .u64 ((a * b % 18446744073709551616 : Nat) : Int)) := by
  show some (Tr.int .u64 (IntKind.u64.wrap ((a : Int) * (b : Int)))) = _
  rw [wu64, ← Int.natCast_mul]
  congr 2
theorem shr58 (k : Nat) : ((2 ^ k * 285870213051353865 % 18446744073709551616 : Nat) : Int).fdiv (2 ^ (min (58 : Int).toNat IntKind.u64.bits)) = ((dix k : Nat) : Int) := by
  rw [Int.fdiv_eq_ediv_of_nonneg _ (by decide)]
  have e : (2 : Int) ^ (min (58 : Int).toNat IntKind.u64.bits) = ((288230376151711744 : Nat) : Int) := by decide
  rw [e, ← Int.natCast_ediv]
  rfl

theorem uneg {n : Int} (h : -9223372036854775807 ≤ n ∧ n ≤ 9223372036854775807) : uop .neg (.int .i64 n) = some (.int .i64 (-n)) := by
  show some (Tr.int .i64 (IntKind.i64.wrap (0 - n))) = _
  rw [wrap64 (by omega) (by omega), Int.zero_sub]
def hv (h : Nat) : Nat → Nat
  | 0 => h
  | k + 1 => hv h k / 2
theorem weak_raise {n : Nat} {fr : Fra} {st : Sto} {id g k : Nat} {ty : TypeId} {els : List AV} (g' : Nat) (hs : sget st id = some ⟨k, ty, g, els⟩) (hg : g < g') :
    Weak ⟨n, fr, st⟩ ⟨n, fr, (id, some ⟨k, ty, g', els⟩) :: st⟩ := by
  intro F β a w hr
  obtain ⟨q1, _, q3⟩ := hr.bump (g' := g') (ob := ⟨k, ty, g, els⟩) hs hg
  refine ⟨β, ⟨q1.defers, q1.size, fun i => q1.fr i, q1.ob, q1.inj, q1.notF, q1.ltF⟩, fun b hb => ?_⟩
  obtain ⟨m, ob, hm, hb⟩ := hb
  change sget (sput st id (some ⟨k, ty, g', els⟩)) m = some ob at hm
  rw [sget_sput] at hm
  split at hm
  · rename_i e; rw [e] at hb; exact ⟨id, _, hs, hb⟩
  · exact ⟨m, ob, hm, hb⟩

theorem elF {l : List Frm} {i : Nat} (h : i < l.length) : ((l.map encF).map AV.t)[i]? = some (.t (encF l[i])) := by simp [h]
theorem setF_same {l : List Frm} {i : Nat} (h : i < l.length) : ((l.map encF).map AV.t).set i (.t (.agg [encI l[i].seq, encI l[i].key, .bool l[i].unlock, .sl (l[i].body.map encBy) false, .int .u64 l[i].tag])) = (l.map encF).map AV.t := by
  apply List.ext_getElem?
  intro j
  rw [List.getElem?_set]
  split
  · rename_i e; subst e
    rw [elF h]
    simp [h]
    rfl
  · rfl
theorem tz_ones {h : Nat} (hh : h < 32768) : (Lib.ctz 64 (18446744073709551615 - h) : Nat) = ones ((h : Nat) : Int) := tz_not (s := ⟨0, ((h : Nat) : Int), 0, false⟩) ⟨Int.natCast_nonneg _, by show ((h : Nat) : Int) < 32768; omega⟩

/-- A tree in a slot may be weakened. -/
theorem weak_slot {n : Nat} {fr : Fra} {st : Sto} (d : Nat) {x y : Tr} (h : fget fr d = .t x) (hw : Wk x y) : Weak ⟨n, fr, st⟩ ⟨n, (d, .t y) :: fr, st⟩ := by
  intro F β a w hr
  refine ⟨β, ⟨hr.defers, hr.size, fun i => ?_, hr.ob, hr.inj, hr.notF, hr.ltF⟩, fun b hb => hb⟩
  show VA w _ _ _ (fget (fput fr d (.t y)) i) _
  rw [fget_fput]
  split
  · rename_i e
    have hv := hr.fr d
    rw [show fget (St.mk n fr st).fr d = fget fr d from rfl, h] at hv
    rw [e]
    cases hv with
    | t h => exact .t (hw.v h)
  · exact hr.fr i
end Go.Tv.C34

end
section
open Go Go.Tv Go.Proofs
namespace Go.Tv.C34

def xorU (a b : Int) : Int := IntKind.u64.wrap (((BitVec.ofInt IntKind.u64.bits a) ^^^ (BitVec.ofInt IntKind.u64.bits b)).toNat)
def mix1 (x y : Int) : Int := IntKind.u64.wrap (xorU x y * 15485907386658061715)
def mixF (x y : Int) : Int := xorU (mix1 x y) (mix1 x y / 4294967296)
def stepF1 (k : Int) : Int := mixF k 11400714819323198485
theorem wu_range (n : Int) : 0 ≤ IntKind.u64.wrap n ∧ IntKind.u64.wrap n < 18446744073709551616 := by rw [wu64]; omega
theorem mix1_range (x y : Int) : 0 ≤ mix1 x y ∧ mix1 x y < 18446744073709551616 := wu_range _
theorem mix_quo (x y : Int) : IntKind.u64.wrap ((mix1 x y).tdiv 4294967296) = mix1 x y / 4294967296 := by
  have h := mix1_range x y
  rw [Int.tdiv_eq_ediv_of_nonneg h.1, wu64]
  omega
theorem mix_shr (x y : Int) : (mix1 x y).fdiv (2 ^ (min (32 : Int).toNat IntKind.u64.bits)) = mix1 x y / 4294967296 := by
  rw [show (2 : Int) ^ (min (32 : Int).toNat IntKind.u64.bits) = 4294967296 from by decide]
  exact Int.fdiv_eq_ediv_of_nonneg _ (by decide)

/-! ### Words -/
def Byt (d : List Int) : Prop := ∀ b, b ∈ d → 0 ≤ b ∧ b < 256
/-- A number out of its bytes, the least one first. -/
def leN : List Int → Int
  | [] => 0
  | b :: l => b + 256 * leN l
theorem leN_range : ∀ (l : List Int), Byt l → 0 ≤ leN l ∧ leN l < 256 ^ l.length
  | [], _ => by simp [leN]
  | b :: l, h => by
    have h1 := leN_range l (fun x hx => h x (List.mem_cons_of_mem _ hx))
    have h2 := h b List.mem_cons_self
    rw [leN, List.length_cons, Int.pow_succ]
    generalize (256 : Int) ^ l.length = z at *
    omega
theorem pow256_le {n : Nat} (h : n ≤ 8) : (256 : Int) ^ n ≤ 18446744073709551616 := by
  have : (256 : Nat) ^ n ≤ 256 ^ 8 := Nat.pow_le_pow_right (by decide) h
  have h2 : ((256 ^ n : Nat) : Int) ≤ ((256 ^ 8 : Nat) : Int) := Int.ofNat_le.2 this
  simpa using h2
theorem leN_drop {l : List Int} {i : Nat} (h : i < l.length) : leN (l.drop i) = l[i] + 256 * leN (l.drop (i + 1)) := by
  rw [List.drop_eq_getElem_cons h, leN]
theorem leN_append : ∀ (l m : List Int), leN (l ++ m) = leN l + 256 ^ l.length * leN m
  | [], m => by simp [leN]
  | b :: l, m => by
    rw [List.cons_append, leN, leN, leN_append l m, List.length_cons, Int.pow_succ, Int.mul_add, Int.mul_comm (256 ^ l.length) 256, Int.mul_assoc, Int.add_assoc]
theorem leN_take {l : List Int} {i : Nat} (h : i < l.length) : leN (l.take (i + 1)) = leN (l.take i) + 256 ^ i * l[i] := by
  rw [List.take_add_one, List.getElem?_eq_getElem h]
  show leN (l.take i ++ [l[i]]) = _
  rw [leN_append, List.length_take, Nat.min_eq_left (by omega)]
  simp [leN]
def wordsA : Nat → List Int → List Int
  | 0, _ => []
  | n + 1, d => match d with
    | [] => []
    | b :: l => leN ((b :: l).take 8) :: wordsA n ((b :: l).drop 8)
def wordsF (d : List Int) : List Int := wordsA d.length d
theorem wordsA_more : ∀ (n : Nat) (d : List Int), d.length ≤ n → wordsA n d = wordsA d.length d := by
  intro n
  induction n using Nat.strongRecOn with
  | _ n ih =>
    intro d h
    cases d with
    | nil => cases n <;> rfl
    | cons b l =>
      cases n with
      | zero => simp at h
      | succ n =>
        have h1 : ((b :: l).drop 8).length ≤ l.length := by simp
        rw [List.length_cons, wordsA, wordsA]
        rw [ih n (by omega) _ (by simp at h; omega)]
        rcases Nat.lt_or_ge l.length (n + 1) with h2 | h2
        · rw [ih l.length (by simp at h; omega) _ h1]
        · simp at h; omega
theorem wordsF_cons {d : List Int} (h : d ≠ []) : wordsF d = leN (d.take 8) :: wordsF (d.drop 8) := by
  cases d with
  | nil => exact absurd rfl h
  | cons b l =>
    unfold wordsF
    rw [List.length_cons, wordsA, wordsA_more l.length _ (by simp)]
/-! ### Sums and tags -/
def toU (n : Int) : Int := IntKind.u64.wrap n
def toI (n : Int) : Int := IntKind.i64.wrap n
def sumF (nm : List Int) (l : List Int) : Int := l.foldl (fun h x => mixF h (toU x)) (mixF (mixF ((wordsF nm).foldl mixF 0) (toU nm.length)) (toU l.length))
def listF (l d : List Int) : List Int := l ++ (wordsF d).map toI ++ [(d.length : Int)]
def tagName : List Int := [116, 97, 103]
def tagF (k : Int) (d : List Int) : Int := sumF tagName (listF [toI k] d)

/-! ### In the walks -/
def encU (n : Int) : Tr := .int .u64 n
def chkW (d : List Int) (j : Nat) : List Int := (d.drop (8 * j)).take 8
theorem chkW_len (d : List Int) (j : Nat) : (chkW d j).length = min (8 * j + 8) d.length - 8 * j := by unfold chkW; simp; omega
theorem chkW_get {d : List Int} {j i : Nat} (h : i < (chkW d j).length) (h2 : 8 * j + i < d.length) : (chkW d j)[i] = d[8 * j + i] := by
  have h8 : i < 8 := by have := chkW_len d j; omega
  have e : (chkW d j)[i]? = some d[8 * j + i] := by
    unfold chkW
    rw [List.getElem?_take, if_pos h8, List.getElem?_drop, List.getElem?_eq_getElem h2]
  rw [List.getElem?_eq_getElem h] at e
  exact Option.some.inj e
theorem chkW_byt {d : List Int} (h : Byt d) (j : Nat) : Byt (chkW d j) := fun b hb => h b (List.mem_of_mem_drop (List.mem_of_mem_take hb))
theorem words_step {d : List Int} {j : Nat} (h : 8 * j < d.length) : wordsF (d.drop (8 * j)) = leN (chkW d j) :: wordsF (d.drop (8 * (j + 1))) := by
  rw [wordsF_cons (fun e => by have := congrArg List.length e; simp at this; omega), List.drop_drop]
  rfl
theorem words_done {d : List Int} {j : Nat} (h : d.length ≤ 8 * j) : wordsF (d.drop (8 * j)) = [] := by
  rw [List.drop_eq_nil_of_le h]; rfl
/-- The number of the last c bytes. -/
def tailN (l : List Int) (c : Nat) : Int := leN (l.drop (l.length - c))
theorem tailN_0 (l : List Int) : tailN l 0 = 0 := by unfold tailN; simp [leN]
theorem tailN_all (l : List Int) : tailN l l.length = leN l := by unfold tailN; simp
theorem tailN_step {l : List Int} {c : Nat} (h : c < l.length) : tailN l (c + 1) = l[l.length - 1 - c]'(by omega) + 256 * tailN l c := by
  unfold tailN
  rw [leN_drop (i := l.length - (c + 1)) (by omega)]
  rw [show l.length - (c + 1) + 1 = l.length - c from by omega]
  congr 2
  omega
theorem tailN_range {l : List Int} (h : Byt l) (c : Nat) (hc : c ≤ l.length) : 0 ≤ tailN l c ∧ tailN l c < 256 ^ c := by
  have := leN_range (l.drop (l.length - c)) (fun x hx => h x (List.mem_of_mem_drop hx))
  rw [List.length_drop, show l.length - (l.length - c) = c from by omega] at this
  exact this
theorem tailN_u {l : List Int} (h : Byt l) {c : Nat} (hc : c ≤ l.length) (h8 : c ≤ 8) : 0 ≤ tailN l c ∧ tailN l c < 18446744073709551616 := by
  have h1 := tailN_range h c hc
  have h2 := pow256_le h8
  omega
theorem tailN_u7 {l : List Int} (h : Byt l) {c : Nat} (hc : c ≤ l.length) (h8 : c ≤ 7) : 0 ≤ 256 * tailN l c ∧ 256 * tailN l c < 18446744073709551616 := by
  have h1 := tailN_range h c hc
  have h2 : (256 : Int) ^ (c + 1) ≤ 18446744073709551616 := pow256_le (by omega)
  rw [Int.pow_succ] at h2
  generalize (256 : Int) ^ c = z at *
  omega
theorem mulU {a b : Int} (h : 0 ≤ a * b ∧ a * b < 18446744073709551616) : iop .mul .u64 a b = some (encU (a * b)) := by
  show some (Tr.int .u64 (IntKind.u64.wrap (a * b))) = _; rw [wrapU64 h.1 h.2]; rfl
theorem addU {a b r : Int} (hr : a + b = r) (h : 0 ≤ r ∧ r < 18446744073709551616) : iop .add .u64 a b = some (encU r) := by
  show some (Tr.int .u64 (IntKind.u64.wrap (a + b))) = _; rw [hr, wrapU64 h.1 h.2]; rfl
theorem or_u64 {a x : Int} {c : Nat} (hc : c ≤ 7) (ha : 0 ≤ a ∧ a < 256 ^ c) (hx : 0 ≤ x ∧ x < 256) : iop .or .u64 a (256 ^ c * x) = some (encU (a + 256 ^ c * x)) := by
  obtain ⟨A, rfl⟩ : ∃ A : Nat, a = (A : Int) := ⟨a.toNat, by omega⟩
  obtain ⟨X, rfl⟩ : ∃ X : Nat, x = (X : Int) := ⟨x.toNat, by omega⟩
  have e : (256 : Int) ^ c * (X : Int) = ((256 ^ c * X : Nat) : Int) := by simp
  have hA : A < 2 ^ (8 * c) := by
    have h1 := ha.2
    have h2 : (256 : Int) ^ c = ((2 ^ (8 * c) : Nat) : Int) := by rw [Nat.pow_mul]; simp
    rw [h2] at h1; omega
  have h8 : 2 ^ (8 * c) ≤ 2 ^ 56 := Nat.pow_le_pow_right (by decide) (by omega)
  have hm : 256 ^ c * X < 2 ^ 64 := by
    have h1 : 256 ^ c = 2 ^ (8 * c) := by rw [Nat.pow_mul]
    rw [h1]
    calc 2 ^ (8 * c) * X ≤ 2 ^ 56 * 255 := Nat.mul_le_mul h8 (by omega)
      _ < 2 ^ 64 := by decide
  rw [e]
  have h3 : (BitVec.ofInt 64 (A : Int) ||| BitVec.ofInt 64 ((256 ^ c * X : Nat) : Int)).toNat = A + 256 ^ c * X := by
    rw [ofInt_nat, ofInt_nat, BitVec.toNat_or, BitVec.toNat_ofNat, BitVec.toNat_ofNat, Nat.mod_eq_of_lt (by omega), Nat.mod_eq_of_lt hm]
    have h4 := Nat.two_pow_add_eq_or_of_lt hA X
    have h1 : 256 ^ c = 2 ^ (8 * c) := by rw [Nat.pow_mul]
    rw [h1, Nat.or_comm, ← h4, Nat.add_comm]
  show some (Tr.int .u64 (IntKind.u64.wrap ((BitVec.ofInt 64 (A : Int) ||| BitVec.ofInt 64 ((256 ^ c * X : Nat) : Int)).toNat : Int))) = _
  have h5 : A + 256 ^ c * X < 2 ^ 64 := by
    have h1 : 256 ^ c = 2 ^ (8 * c) := by rw [Nat.pow_mul]
    rw [h1]
    calc A + 2 ^ (8 * c) * X < 2 ^ (8 * c) + 2 ^ (8 * c) * 255 := by
          have := Nat.mul_le_mul_left (2 ^ (8 * c)) (show X ≤ 255 by omega)
          omega
      _ = 2 ^ (8 * c) * 256 := by omega
      _ ≤ 2 ^ 56 * 256 := Nat.mul_le_mul_right _ h8
      _ = 2 ^ 64 := by decide
  rw [h3, wrapU64 (by omega) (by omega)]
  show some (Tr.int .u64 _) = some (Tr.int .u64 _)
  congr 2
theorem shl_u64 {x : Int} {c : Nat} (hc : c ≤ 7) (hx : 0 ≤ x ∧ x < 256) : IntKind.u64.wrap (x * 2 ^ (min (8 * (c : Int)).toNat IntKind.u64.bits)) = 256 ^ c * x := by
  have h1 : min (8 * (c : Int)).toNat IntKind.u64.bits = 8 * c := by
    show min _ 64 = _
    omega
  have h2 : (2 : Int) ^ (8 * c) = 256 ^ c := by rw [Int.pow_mul]; rfl
  rw [h1, h2, Int.mul_comm]
  have h3 : (256 : Int) ^ c ≤ 256 ^ 7 := by
    have : (256 : Nat) ^ c ≤ 256 ^ 7 := Nat.pow_le_pow_right (by decide) hc
    have h2 : ((256 ^ c : Nat) : Int) ≤ ((256 ^ 7 : Nat) : Int) := Int.ofNat_le.2 this
    simpa using h2
  have h0 : (0 : Int) < 256 ^ c := Int.pow_pos (by decide)
  have h4 : (256 : Int) ^ c * x ≤ 256 ^ 7 * 255 := Int.mul_le_mul h3 (by omega) hx.1 (by decide)
  exact wrapU64 (Int.mul_nonneg (by omega) hx.1) (by omega)
theorem chkW_take (d : List Int) (j : Nat) : (d.drop (8 * j)).take (chkW d j).length = chkW d j := by
  unfold chkW
  rw [List.length_take]
  exact List.take_eq_take_iff.2 (by omega)
theorem words_get {d ws : List Int} {j : Nat} (hw : wordsF d = ws ++ wordsF (d.drop (8 * j))) (hj : ws.length = j) (h : 8 * j < d.length) : (wordsF d)[j]? = some (leN (chkW d j)) := by
  rw [hw, words_step h, List.getElem?_append_right (by omega), hj, Nat.sub_self]; rfl
section
variable {P : Program} {D : St} {o : Oper}
theorem eff_minE {t t2 : TypeId} {x y : Operand} {k : IntKind} {n m r : Int} (hd : dstOK D.n o.dst = true)
    (ho : o.op = .call { callee := .builtin .min, args := #[x, y], argTypes := #[t, t2] }) (hx : D.ev x = .t (.int k n)) (hy : D.ev y = .t (.int k m)) (hr : imin n m = r) : Eff P o D ⟨.t (.int k r), []⟩ :=
  hr ▸ eff_min hd ho hx hy
end
theorem wordsA_len : ∀ (n : Nat) (d : List Int), (wordsA n d).length ≤ n
  | 0, _ => Nat.le_refl _
  | n + 1, [] => Nat.zero_le _
  | n + 1, b :: l => by rw [wordsA, List.length_cons]; have := wordsA_len n ((b :: l).drop 8); omega
theorem wordsF_len (d : List Int) : (wordsF d).length ≤ d.length := wordsA_len _ _
theorem listF_len (l d : List Int) : (listF l d).length = l.length + (wordsF d).length + 1 := by unfold listF; simp; omega
theorem le86 {k : Int} {d : List Int} {i : Nat} (hi : i < (wordsF d).length) : ((([k] ++ ((wordsF d).take (i + 1)).map toI).map encI).map AV.t) = ((([k] ++ ((wordsF d).take i).map toI).map encI).map AV.t) ++ [.t (encI (toI (wordsF d)[i]))] := by
  rw [take_succ_get hi]; simp only [List.map_append, List.map_cons, List.map_nil, List.append_assoc]
theorem tu9 : Tryd.prog.underlying 9 = some .string := by kernel_rfl
theorem chkW_drop (d : List Int) (j : Nat) : (d.drop (8 * j)).drop (chkW d j).length = d.drop (8 * (j + 1)) := by
  rw [List.drop_drop, chkW_len]
  by_cases h : 8 * j + 8 ≤ d.length
  · congr 1; omega
  · by_cases h2 : 8 * j ≤ d.length
    · rw [List.drop_eq_nil_of_le (by omega), List.drop_eq_nil_of_le (by omega)]
    · rw [List.drop_eq_nil_of_le (by omega), List.drop_eq_nil_of_le (by omega)]
end Go.Tv.C34

end
section
open Go Go.Tv Go.Proofs
namespace Go.Tv.C34

/-! ### put -/
theorem put_mem {l : List Rep} {x y : Rep} : y ∈ put l x ↔ y ∈ l ∨ y = x := by
  induction l with
  | nil => simp [put]
  | cons a l ih =>
    unfold put
    split
    · simp only [List.mem_cons, ih]
      constructor
      · rintro (h | h | h)
        · exact .inl (.inl h)
        · exact .inl (.inr h)
        · exact .inr h
      · rintro ((h | h) | h)
        · exact .inl h
        · exact .inr (.inl h)
        · exact .inr (.inr h)
    · split
      · rename_i h; subst h; simp only [List.mem_cons]; constructor
        · exact .inl
        · rintro (h | h)
          · exact h
          · exact .inl h
      · simp only [List.mem_cons]
        constructor
        · rintro (h | h | h)
          · exact .inr h
          · exact .inl (.inl h)
          · exact .inl (.inr h)
        · rintro ((h | h) | h)
          · exact .inr (.inl h)
          · exact .inr (.inr h)
          · exact .inl h
theorem put_len (l : List Rep) (x : Rep) : (put l x).length ≤ l.length + 1 := by
  induction l with
  | nil => simp [put]
  | cons a l ih =>
    unfold put
    split
    · simp only [List.length_cons]; omega
    · split <;> simp
theorem put_hp {l : List Rep} {x : Rep} (h : ∀ y, y ∈ l → HP y) (hx : HP x) : ∀ y, y ∈ put l x → HP y := fun y hy => by
  rcases put_mem.1 hy with h1 | rfl
  · exact h y h1
  · exact hx

/-- All states of now, also as f leads on from them, put into out. -/
def stepI (f : Frm) (out now : List Rep) : List Rep := now.foldl (fun o s => put o (apply s f)) out
def stepF (out : List Rep) (f : Frm) : List Rep := stepI f out out
theorem stepI_take {f : Frm} {out now : List Rep} {j : Nat} (h : j < now.length) : stepI f out (now.take (j + 1)) = put (stepI f out (now.take j)) (apply now[j] f) := by
  unfold stepI; rw [take_succ_get h, List.foldl_append]; rfl
theorem stepI_len (f : Frm) (out : List Rep) : ∀ (now : List Rep) (j : Nat), j ≤ now.length → (stepI f out (now.take j)).length ≤ out.length + j
  | now, 0, _ => by simp [stepI]
  | now, j + 1, h => by
    rw [stepI_take (by omega)]
    have := stepI_len f out now j (by omega)
    have := put_len (stepI f out (now.take j)) (apply now[j] f)
    omega
theorem stepI_hp {f : Frm} {out : List Rep} (ho : ∀ y, y ∈ out → HP y) : ∀ (now : List Rep) (_ : ∀ y, y ∈ now → HP y), ∀ y, y ∈ stepI f out now → HP y
  | [], _, y, hy => ho y hy
  | a :: l, hn, y, hy => by
    unfold stepI at hy
    rw [List.foldl_cons] at hy
    exact stepI_hp (put_hp ho (apply_hp (hn a List.mem_cons_self))) l (fun z hz => hn z (List.mem_cons_of_mem _ hz)) y hy
theorem stepI_mem {f : Frm} : ∀ (now out : List Rep) (y : Rep), y ∈ stepI f out now ↔ y ∈ out ∨ ∃ x, x ∈ now ∧ y = apply x f
  | [], out, y => by simp [stepI]
  | a :: l, out, y => by
    unfold stepI
    rw [List.foldl_cons]
    have := stepI_mem (f := f) l (put out (apply a f)) y
    unfold stepI at this
    rw [this, put_mem]
    constructor
    · rintro ((h | h) | ⟨x, hx, h⟩)
      · exact .inl h
      · exact .inr ⟨a, List.mem_cons_self, h⟩
      · exact .inr ⟨x, List.mem_cons_of_mem _ hx, h⟩
    · rintro (h | ⟨x, hx, h⟩)
      · exact .inl (.inl h)
      · rcases List.mem_cons.1 hx with rfl | hx
        · exact .inl (.inr h)
        · exact .inr ⟨x, hx, h⟩
theorem stepF_len (out : List Rep) (f : Frm) : (stepF out f).length ≤ 2 * out.length := by
  have := stepI_len f out out out.length (Nat.le_refl _)
  rw [List.take_length] at this
  unfold stepF; omega
theorem stepF_hp {out : List Rep} {f : Frm} (h : ∀ y, y ∈ out → HP y) : ∀ y, y ∈ stepF out f → HP y := stepI_hp h out h

def reachF (x : Rep) (l : List Frm) : List Rep := l.foldl stepF [x]
theorem reachF_take {x : Rep} {l : List Frm} {i : Nat} (h : i < l.length) : reachF x (l.take (i + 1)) = stepF (reachF x (l.take i)) l[i] := by
  unfold reachF; rw [take_succ_get h, List.foldl_append]; rfl

/-! ### Send and Hear -/
/-- f is not later than what was sent last. -/
def late (l : List Frm) (f : Frm) : Bool := match l.getLast? with
  | some x => decide (x.key ≥ f.key)
  | none => false
def send (t : Twn) (f : Frm) : Twn × Int :=
  if late t.sent f then (zt, 23)
  else if (stepF t.poss f).length > 256 then (zt, 2)
  else (⟨t.sent ++ [f], stepF t.poss f⟩, 0)
/-- The frames that a report leaves open. -/
def open_ (l : List Frm) (r : Rep) : List Frm := l.filter fun f => decide (r.key ≤ f.key)
def left_ (t : Twn) (r : Rep) : List Rep := t.poss.filter fun x => decide (x ∈ reachF r (open_ t.sent r))
def hear (t : Twn) (r : Rep) : Twn × Int := if left_ t r = [] then (zt, 45) else (⟨t.sent, left_ t r⟩, 0)

theorem late_at {l : List Frm} {f : Frm} (h : 0 < l.length) : late l f = decide (f.key ≤ (l[l.length - 1]).key) := by
  unfold late
  rw [List.getLast?_eq_getElem?, List.getElem?_eq_getElem (by omega)]
theorem late_nil {l : List Frm} {f : Frm} (h : ¬ 0 < l.length) : late l f = false := by
  obtain rfl : l = [] := List.length_eq_zero_iff.1 (by omega)
  rfl
theorem send_late {t : Twn} {f : Frm} (h : late t.sent f = true) : send t f = (zt, 23) := by unfold send; rw [if_pos h]
theorem send_many {t : Twn} {f : Frm} (h : late t.sent f = false) (h2 : ((stepF t.poss f).length : Int) > 256) : send t f = (zt, 2) := by unfold send; rw [if_neg (by rw [h]; decide), if_pos (by omega)]
theorem send_ok {t : Twn} {f : Frm} (h : late t.sent f = false) (h2 : ¬ ((stepF t.poss f).length : Int) > 256) : send t f = (⟨t.sent ++ [f], stepF t.poss f⟩, 0) := by unfold send; rw [if_neg (by rw [h]; decide), if_neg (by omega)]
theorem hear_no {t : Twn} {r : Rep} (h : ((left_ t r).length : Int) = 0) : hear t r = (zt, 45) := by unfold hear; rw [if_pos (List.length_eq_zero_iff.1 (by omega))]
theorem hear_ok {t : Twn} {r : Rep} (h : ¬ ((left_ t r).length : Int) = 0) : hear t r = (⟨t.sent, left_ t r⟩, 0) := by unfold hear; rw [if_neg (fun e => h (by rw [e]; rfl))]

theorem filter_take_succ {α : Type} {p : α → Bool} {l : List α} {i : Nat} (h : i < l.length) : (l.take (i + 1)).filter p = (l.take i).filter p ++ if p l[i] then [l[i]] else [] := by
  rw [take_succ_get h, List.filter_append]
  cases hp : p l[i] <;> simp [hp]
theorem open_skip {l : List Frm} {r : Rep} {i : Nat} (h : i < l.length) (hk : (l[i]).key < r.key) : open_ (l.take (i + 1)) r = open_ (l.take i) r := by
  unfold open_; rw [filter_take_succ h, if_neg (by simp; omega), List.append_nil]
theorem open_take {l : List Frm} {r : Rep} {i : Nat} (h : i < l.length) (hk : ¬ (l[i]).key < r.key) : open_ (l.take (i + 1)) r = open_ (l.take i) r ++ [l[i]] := by
  unfold open_; rw [filter_take_succ h, if_pos (by simp; omega)]
theorem reachF_hp {x : Rep} (hx : HP x) : ∀ (l : List Frm) (out : List Rep), (∀ y, y ∈ out → HP y) → ∀ y, y ∈ l.foldl stepF out → HP y
  | [], out, h => h
  | f :: l, out, h => reachF_hp hx l (stepF out f) (stepF_hp h)
theorem reach_hp {x : Rep} (hx : HP x) (l : List Frm) : ∀ y, y ∈ reachF x l → HP y := reachF_hp hx l [x] (by intro y hy; rw [List.mem_singleton.1 hy]; exact hx)
theorem open_len (l : List Frm) (r : Rep) (i : Nat) : (open_ (l.take i) r).length ≤ l.length := by
  unfold open_
  have := List.length_filter_le (fun f : Frm => decide (r.key ≤ f.key)) (l.take i)
  simp at this ⊢
  omega
theorem left_take {t : Twn} {r : Rep} {i : Nat} (h : i < t.poss.length) : (t.poss.take (i + 1)).filter (fun x => decide (x ∈ reachF r (open_ t.sent r))) = (t.poss.take i).filter (fun x => decide (x ∈ reachF r (open_ t.sent r))) ++ if t.poss[i] ∈ reachF r (open_ t.sent r) then [t.poss[i]] else [] := by
  rw [filter_take_succ h]; simp
end Go.Tv.C34

end
section
open Go Go.Tv Go.Proofs
namespace Go.Tv.C34

/-! ### The order -/
theorem less_iff {a b : Rep} : less a b = true ↔ a.next < b.next ∨ (a.next = b.next ∧ (a.have_ < b.have_ ∨ (a.have_ = b.have_ ∧ (a.key < b.key ∨ (a.key = b.key ∧ a.locked = false ∧ b.locked = true))))) := by
  unfold less
  by_cases h1 : a.next ≠ b.next
  · rw [if_pos h1]; simp only [decide_eq_true_eq]; omega
  · rw [if_neg h1]
    by_cases h2 : a.have_ ≠ b.have_
    · rw [if_pos h2]; simp only [decide_eq_true_eq]; omega
    · rw [if_neg h2]
      by_cases h3 : a.key ≠ b.key
      · rw [if_pos h3]; simp only [decide_eq_true_eq]; omega
      · rw [if_neg h3]
        cases a.locked <;> cases b.locked <;> simp <;> omega
theorem less_irrefl (a : Rep) : less a a = false := by
  rw [Bool.eq_false_iff]; intro h; rw [less_iff] at h
  rcases h with h | ⟨_, h | ⟨_, h | ⟨_, h, h2⟩⟩⟩
  · omega
  · omega
  · omega
  · rw [h] at h2; cases h2
theorem less_trans {a b c : Rep} (h : less a b = true) (k : less b c = true) : less a c = true := by
  rw [less_iff] at *
  rcases h with h | ⟨e1, h | ⟨e2, h | ⟨e3, h, h'⟩⟩⟩ <;> rcases k with k | ⟨f1, k | ⟨f2, k | ⟨f3, k, k'⟩⟩⟩
  all_goals first
    | (left; omega)
    | (right; refine ⟨by omega, ?_⟩; left; omega)
    | (right; refine ⟨by omega, ?_⟩; right; refine ⟨by omega, ?_⟩; left; omega)
    | (right; refine ⟨by omega, ?_⟩; right; refine ⟨by omega, ?_⟩; right; exact ⟨by omega, h, k'⟩)
theorem less_total {a b : Rep} (h : a ≠ b) : less a b = true ∨ less b a = true := by
  rw [less_iff, less_iff]
  rcases Int.lt_trichotomy a.next b.next with h1 | h1 | h1
  · exact .inl (.inl h1)
  · rcases Int.lt_trichotomy a.have_ b.have_ with h2 | h2 | h2
    · exact .inl (.inr ⟨h1, .inl h2⟩)
    · rcases Int.lt_trichotomy a.key b.key with h3 | h3 | h3
      · exact .inl (.inr ⟨h1, .inr ⟨h2, .inl h3⟩⟩)
      · obtain ⟨n, v, k, l⟩ := a
        obtain ⟨n', v', k', l'⟩ := b
        simp only at h1 h2 h3
        subst h1 h2 h3
        cases l <;> cases l' <;> simp_all
      · exact .inr (.inr ⟨h1.symm, .inr ⟨h2.symm, .inl h3⟩⟩)
    · exact .inr (.inr ⟨h1.symm, .inl h2⟩)
  · exact .inr (.inl h1)
theorem less_asymm {a b : Rep} (h : less a b = true) : less b a = false := by
  rw [Bool.eq_false_iff]; intro k
  have := less_trans h k
  rw [less_irrefl] at this; cases this

def Srt (l : List Rep) : Prop := l.Pairwise fun a b => less a b = true
theorem srt_nodup {l : List Rep} (h : Srt l) : l.Nodup := List.Pairwise.imp (fun {a b} hab e => by subst e; rw [less_irrefl] at hab; cases hab) h
theorem srt_put {l : List Rep} {x : Rep} (h : Srt l) : Srt (put l x) := by
  induction l with
  | nil => exact List.pairwise_singleton _ _
  | cons a l ih =>
    unfold Srt at h
    rw [List.pairwise_cons] at h
    unfold put
    split
    · rename_i hax
      refine List.pairwise_cons.2 ⟨fun y hy => ?_, ih h.2⟩
      rcases put_mem.1 hy with hy | rfl
      · exact h.1 y hy
      · exact hax
    · rename_i hax
      split
      · exact List.pairwise_cons.2 h
      · rename_i hne
        have hxa : less x a = true := (less_total hne).elim (fun e => absurd e hax) id
        refine List.pairwise_cons.2 ⟨fun y hy => ?_, List.pairwise_cons.2 h⟩
        rcases List.mem_cons.1 hy with rfl | hy
        · exact hxa
        · exact less_trans hxa (h.1 y hy)
theorem srt_stepI {f : Frm} : ∀ (now out : List Rep), Srt out → Srt (stepI f out now)
  | [], _, h => h
  | a :: l, out, h => by
    unfold stepI
    rw [List.foldl_cons]
    exact srt_stepI l _ (srt_put h)
theorem srt_stepF {out : List Rep} {f : Frm} (h : Srt out) : Srt (stepF out f) := srt_stepI out out h
theorem srt_reachF : ∀ (l : List Frm) (out : List Rep), Srt out → Srt (l.foldl stepF out)
  | [], _, h => h
  | f :: l, out, h => srt_reachF l _ (srt_stepF h)
theorem srt_reach (x : Rep) (l : List Frm) : Srt (reachF x l) := srt_reachF l [x] (List.pairwise_singleton _ _)
theorem stepF_mem {out : List Rep} {f : Frm} {y : Rep} : y ∈ stepF out f ↔ y ∈ out ∨ ∃ x, x ∈ out ∧ y = apply x f := stepI_mem out out y

theorem perm_of_mem {l m : List Rep} (hl : l.Nodup) (hm : m.Nodup) (h : ∀ x, x ∈ l ↔ x ∈ m) : l.Perm m := by
  induction l generalizing m with
  | nil =>
    cases m with
    | nil => exact .refl _
    | cons a m => exact absurd ((h a).2 List.mem_cons_self) (by simp)
  | cons a l ih =>
    have ha : a ∈ m := (h a).1 List.mem_cons_self
    obtain ⟨s, t, rfl⟩ := List.append_of_mem ha
    have hm2 : (a :: (s ++ t)).Nodup := (List.perm_middle.nodup_iff).1 hm
    rw [List.nodup_cons] at hl hm2
    refine ((ih hl.2 hm2.2 (fun x => ?_)).cons a).trans List.perm_middle.symm
    have hx := h x
    constructor
    · intro hxl
      have := hx.1 (List.mem_cons_of_mem _ hxl)
      rcases List.mem_append.1 this with h1 | h1
      · exact List.mem_append_left _ h1
      · rcases List.mem_cons.1 h1 with rfl | h1
        · exact absurd hxl hl.1
        · exact List.mem_append_right _ h1
    · intro hxm
      have : x ∈ a :: l := hx.2 (by
        rcases List.mem_append.1 hxm with h1 | h1
        · exact List.mem_append_left _ h1
        · exact List.mem_append_right _ (List.mem_cons_of_mem _ h1))
      rcases List.mem_cons.1 this with rfl | h1
      · exact absurd hxm hm2.1
      · exact h1

/-- Two sorted lists of the same states are one. -/
theorem srt_ext {l m : List Rep} (hl : Srt l) (hm : Srt m) (hp : l.Perm m) : l = m := by
  refine List.Perm.eq_of_pairwise (le := fun a b => less a b = true) ?_ hl hm hp
  intro a b _ _ h1 h2
  exact absurd h2 (by rw [less_asymm h1]; decide)

/-! ### compare -/
theorem cmpR_neg {a b : Rep} : cmpR a b < 0 ↔ less a b = true := by
  rw [less_iff]
  unfold cmpR orI orI orI orI orI cmpI flag
  cases a.locked <;> cases b.locked <;> simp <;> (repeat' split) <;> omega
theorem cmpR_swo : Sort.SWO (ltOf cmpR) where
  irrefl x := by unfold ltOf; rw [decide_eq_false]; rw [cmpR_neg, less_irrefl]; decide
  trans x y z h1 h2 := by
    unfold ltOf at *
    rw [decide_eq_true_eq] at *
    rw [cmpR_neg] at *
    exact less_trans h1 h2
  ntrans x y z h1 h2 := by
    unfold ltOf at *
    rw [decide_eq_false_iff_not] at *
    rw [cmpR_neg] at *
    intro h
    by_cases e : x = y
    · subst e; exact h2 h
    · rcases less_total e with h3 | h3
      · exact h1 h3
      · exact h2 (less_trans h3 h)
theorem sort_srt {l m : List Rep} (hm : Srt m) (hp : l.Perm m) : sortA cmpR l = m := by
  have h1 := sortA_perm cmpR_swo l
  have h2 := sortA_sorted cmpR_swo l
  have hnd : (sortA cmpR l).Nodup := (h1.trans hp).nodup_iff.2 (srt_nodup hm)
  refine srt_ext ?_ hm (h1.trans hp)
  have h3 := h2.and hnd
  refine List.Pairwise.imp (fun {a b} hab => ?_) h3
  obtain ⟨h4, h5⟩ := hab
  rw [cmpR_neg] at h4
  rcases less_total h5 with h | h
  · exact h
  · exact absurd h h4

/-! ### Maps of states -/
theorem setL_len (l : List Rep) : (setL l).length = l.length := by simp [setL]
theorem setL_at {l : List Rep} {i : Nat} (h : i < (setL l).length) : (setL l)[i] = (l[i]'(by rw [setL_len] at h; exact h), ()) := by simp [setL]
theorem setL_nodup {l : List Rep} (h : l.Nodup) : ((setL l).map (·.1)).Nodup := by
  unfold setL; rw [List.map_map, show ((·.1) ∘ fun r : Rep => (r, ())) = id from rfl, List.map_id]; exact h
theorem setL_perm {l m : List Rep} (h : l.Perm m) : (mapL KR XU (setL l)).Perm (mapL KR XU (setL m)) := (h.map _).map _

section
variable {all l : List Oper} {o : Oper} {n : Nat} {fr : Fra} {st : Sto} {g : Gh} {K' : St → Gh → Prop} {F0 : Nat → Prop} {w0 : World}
theorem RJ.sMake {t : TypeId} {d : Tmp} (hg : o.guard = none) (hd : o.dst = some d) (hdn : dstOK n (some d) = true) (ho : o.op = .makeMap t none)
    (h : ∀ r, gget g r = none → RJ Tryd.prog none (JR F0 w0) all l ⟨n, (d, .t (.mp r)) :: fr, st⟩ ((r, mapO KR XU (setL [])) :: g) K') : RJ Tryd.prog none (JR F0 w0) all (o :: l) ⟨n, fr, st⟩ g K' :=
  RJ.rMake hg hd hdn ho h
theorem RJ.sPut {t ety : TypeId} {m k x : Operand} {r : Nat} (a : Rep) (lm : List Rep) (hg : o.guard = none) (hd : o.dst = none) (ho : o.op = .mapUpdate t m k x ∨ o.op = .insert t m k x) (ht : Tryd.prog.underlying t = some (.map 23 ety))
    (hm : (St.mk n fr st).ev m = .t (.mp r)) (hk : (St.mk n fr st).ev k = .t (encR a)) (hx : (St.mk n fr st).ev x = .t (.bool true)) (hgm : gget g r = some (mapO KR XU (setL lm)))
    (h : RJ Tryd.prog none (JR F0 w0) all l ⟨n, fr, st⟩ ((r, mapO KR XU (setL (ins lm a))) :: g) K') : RJ Tryd.prog none (JR F0 w0) all (o :: l) ⟨n, fr, st⟩ g K' :=
  RJ.rPut KR XU (a := a) (b := ()) (lm := setL lm) hg hd ho ht hm hk hx hgm (by rw [put_set]; exact h)
theorem RJ.sRange {t ety : TypeId} {x : Operand} {m : Nat} {lm : List Rep} {d : Tmp} (hg : o.guard = none) (hd : o.dst = some d) (hdn : dstOK n (some d) = true) (ho : o.op = .range t x) (ht : Tryd.prog.underlying t = some (.map 23 ety))
    (hx : (St.mk n fr st).ev x = .t (.mpx m (mapL KR XU (setL lm))))
    (h : ∀ r, gget g r = none → RJ Tryd.prog none (JR F0 w0) all l ⟨n, (d, .t (.adr r 0)) :: fr, st⟩ ((r, itM m lm.length []) :: g) K') : RJ Tryd.prog none (JR F0 w0) all (o :: l) ⟨n, fr, st⟩ g K' :=
  RJ.rRange KR XU hg hd hdn ho ht hx (by rw [setL_len]; exact h)
theorem RJ.sNext (y : Operand) {x : Operand} {r m : Nat} {seen : List Nat} {lm : List Rep} {d : Tmp} (hg : o.guard = none) (hd : o.dst = some d) (hdn : dstOK n (some d) = true) (ho : o.op = .next x false)
    (hx : (St.mk n fr st).ev x = .t (.adr r 0)) (hy : (St.mk n fr st).ev y = .t (.mpx m (mapL KR XU (setL lm)))) (hr0 : gget g r = some (itM m lm.length seen))
    (hf : (∀ i, i < lm.length → i ∈ seen) → RJ Tryd.prog none (JR F0 w0) all l ⟨n, (d, .t (.tup [.bool false])) :: fr, st⟩ g K')
    (h : ∀ (i : Nat) (hi : i < lm.length), i ∉ seen → RJ Tryd.prog none (JR F0 w0) all l ⟨n, (d, .t (.tup [.bool true, encR lm[i], .bool true])) :: fr, st⟩ ((r, itM m lm.length (seen ++ [i])) :: g) K') : RJ Tryd.prog none (JR F0 w0) all (o :: l) ⟨n, fr, st⟩ g K' :=
  RJ.rNext KR XU y hg hd hdn ho hx hy (by rw [setL_len]; exact hr0) (fun hh => hf (fun i hi => hh i (by rw [setL_len]; exact hi))) (fun i hi hs => by
    have e : itM m (setL lm).length (seen ++ [i]) = itM m lm.length (seen ++ [i]) := by rw [setL_len]
    rw [setL_at hi, e]
    exact h i (by rw [setL_len] at hi; exact hi) hs)
theorem RJ.sEntry (y : Operand) {x : Operand} {r m : Nat} {seen : List Nat} {lm : List Rep} {d : Tmp} {i : Nat} (hi : i < lm.length) (hg : o.guard = none) (hd : o.dst = some d) (hdn : dstOK n (some d) = true) (ho : o.op = .entry x)
    (hx : (St.mk n fr st).ev x = .t (.adr r 0)) (hy : (St.mk n fr st).ev y = .t (.mpx m (mapL KR XU (setL lm)))) (hr0 : gget g r = some (itM m lm.length (seen ++ [i])))
    (h : RJ Tryd.prog none (JR F0 w0) all l ⟨n, (d, .t (.tup [encR lm[i], .bool true])) :: fr, st⟩ g K') : RJ Tryd.prog none (JR F0 w0) all (o :: l) ⟨n, fr, st⟩ g K' :=
  RJ.rEntry KR XU y (lm := setL lm) (by rw [setL_len]; exact hi) hg hd hdn ho hx hy (by rw [setL_len]; exact hr0) (by
    rw [setL_at (by rw [setL_len]; exact hi)]
    exact h)
end

theorem awj_openS {γ : Type} {X : JP γ} {ro : Option Nat} {kp : Nat → Bool} {c : Code} {n : Nat} {fr : Fra} {st : Sto} {g : γ} {Q : Exit → St → γ → Prop} (i : Nat) {l : List Rep} (hi : fget fr i = .t (mset l))
    (h : ∀ b l', l'.Perm l → AWJ Tryd.prog ro kp X c ⟨n, (i, .t (.mpx b (mapL KR XU (setL l')))) :: fr, st⟩ g Q) : AWJ Tryd.prog ro kp X c ⟨n, fr, st⟩ g Q :=
  awj_open i (L := mapL KR XU (setL l)) hi (fun b L' hp => by
    obtain ⟨l2, hp2, rfl⟩ := perm_of_map (setL l) hp
    obtain ⟨l3, hp3, rfl⟩ := perm_of_map l hp2
    exact h b l3 hp3)
theorem awj_freezeS {kp : Nat → Bool} {c : Code} {n : Nat} {fr : Fra} {st : Sto} {g : Gh} {Q : Exit → St → Gh → Prop} {F0 : Nat → Prop} {w0 : World} (i : Nat) {r : Nat} {l0 : List Rep} (l : List Rep) (hi : fget fr i = .t (.mp r)) (hg : gget g r = some (mapO KR XU (setL l0))) (hp : l0.Perm l)
    (h : AWJ Tryd.prog none kp (JR F0 w0) c ⟨n, (i, .t (mset l)) :: fr, st⟩ (gdel r g) Q) : AWJ Tryd.prog none kp (JR F0 w0) c ⟨n, fr, st⟩ g Q :=
  awj_freeze i (mapL KR XU (setL l)) hi hg (setL_perm hp) h

/-- What came of a map so far, and f's states of it. -/
def cameF (l : List Rep) (f : Frm) (seen : List Nat) (cur : List Rep) : Prop := cur.Nodup ∧ ∀ y, y ∈ cur ↔ ∃ (i : Nat) (hi : i < l.length), i ∈ seen ∧ (y = l[i] ∨ y = apply l[i] f)
theorem cameF_nil (l : List Rep) (f : Frm) : cameF l f [] [] := ⟨List.nodup_nil, fun y => by simp⟩
theorem cameF_step {l : List Rep} {f : Frm} {seen : List Nat} {cur : List Rep} {i : Nat} (h : cameF l f seen cur) (hi : i < l.length) : cameF l f (seen ++ [i]) (ins (ins cur l[i]) (apply l[i] f)) := by
  obtain ⟨h1, h2⟩ := h
  refine ⟨ins_nodup (ins_nodup h1), fun y => ?_⟩
  rw [ins_mem, ins_mem, h2]
  constructor
  · rintro ((⟨j, hj, hs, hy⟩ | hy) | hy)
    · exact ⟨j, hj, List.mem_append_left _ hs, hy⟩
    · exact ⟨i, hi, by simp, .inl hy⟩
    · exact ⟨i, hi, by simp, .inr hy⟩
  · rintro ⟨j, hj, hs, hy⟩
    rcases List.mem_append.1 hs with hs | hs
    · exact .inl (.inl ⟨j, hj, hs, hy⟩)
    · simp at hs; subst hs
      rcases hy with hy | hy
      · exact .inl (.inr hy)
      · exact .inr hy
theorem cameF_end {l m : List Rep} {f : Frm} {seen : List Nat} {cur : List Rep} (hm : Srt m) (hp : l.Perm m) (h : cameF l f seen cur) (hall : ∀ i, i < l.length → i ∈ seen) : cur.Perm (stepF m f) := by
  refine perm_of_mem h.1 (srt_nodup (srt_stepF hm)) (fun y => ?_)
  rw [h.2, stepF_mem]
  constructor
  · rintro ⟨i, hi, _, hy | hy⟩
    · exact .inl (hp.mem_iff.1 (by rw [hy]; exact List.getElem_mem _))
    · exact .inr ⟨l[i], hp.mem_iff.1 (List.getElem_mem _), hy⟩
  · rintro (hy | ⟨x, hx, hy⟩)
    · obtain ⟨i, hi, e⟩ := List.mem_iff_getElem.1 (hp.mem_iff.2 hy)
      exact ⟨i, hi, hall i hi, .inl e.symm⟩
    · obtain ⟨i, hi, e⟩ := List.mem_iff_getElem.1 (hp.mem_iff.2 hx)
      exact ⟨i, hi, hall i hi, .inr (by rw [e]; exact hy)⟩

theorem nodup_len : ∀ (n : Nat) (s : List Nat), s.Nodup → (∀ j, j ∈ s → j < n) → s.length ≤ n
  | 0, [], _, _ => Nat.le_refl _
  | 0, a :: s, _, h => absurd (h a List.mem_cons_self) (by omega)
  | n + 1, s, hn, h => by
    have h1 := nodup_len n (s.erase n) (hn.erase n) (fun j hj => by
      have h2 := (hn.mem_erase_iff).1 hj
      have h3 := h j h2.2
      have h4 := h2.1
      omega)
    rw [List.length_erase] at h1
    split at h1 <;> omega
theorem seen_lt {n : Nat} {seen : List Nat} {i : Nat} (hn : seen.Nodup) (hb : ∀ j, j ∈ seen → j < n) (hi : i < n) (hs : i ∉ seen) : seen.length < n := by
  have h2 := nodup_len n (i :: seen) (List.nodup_cons.2 ⟨hs, hn⟩) (fun x hx => by
    rcases List.mem_cons.1 hx with rfl | hx
    · exact hi
    · exact hb x hx)
  simp at h2; omega
theorem seen_nodup {seen : List Nat} {i : Nat} (hn : seen.Nodup) (hs : i ∉ seen) : (seen ++ [i]).Nodup := by
  rw [List.nodup_append]
  exact ⟨hn, by simp, fun a ha b hb => by simp at hb; subst hb; exact fun e => hs (e ▸ ha)⟩
theorem seen_bound {n : Nat} {seen : List Nat} {i : Nat} (hb : ∀ j, j ∈ seen → j < n) (hi : i < n) : ∀ j, j ∈ seen ++ [i] → j < n := fun j hj => by
  rcases List.mem_append.1 hj with h | h
  · exact hb j h
  · simp at h; omega

/-- What came of a map so far, in its order. -/
def pick (l : List Rep) (seen : List Nat) : List Rep := seen.filterMap fun i => l[i]?
theorem pick_step {l : List Rep} {seen : List Nat} {i : Nat} (hi : i < l.length) : pick l (seen ++ [i]) = pick l seen ++ [l[i]] := by
  unfold pick; rw [List.filterMap_append]; simp [hi]
theorem pick_len {l : List Rep} {seen : List Nat} (h : ∀ j, j ∈ seen → j < l.length) : (pick l seen).length = seen.length := by
  induction seen with
  | nil => rfl
  | cons a s ih =>
    have ha := h a List.mem_cons_self
    have := ih (fun j hj => h j (List.mem_cons_of_mem _ hj))
    unfold pick at *
    rw [List.filterMap_cons, List.getElem?_eq_getElem ha]
    simp [this]
theorem pick_all {l : List Rep} {seen : List Nat} (hn : seen.Nodup) (hb : ∀ j, j ∈ seen → j < l.length) (hall : ∀ i, i < l.length → i ∈ seen) (hl : l.Nodup) : (pick l seen).Perm l := by
  have h1 : ∀ x, x ∈ pick l seen ↔ x ∈ l := by
    intro x
    unfold pick
    rw [List.mem_filterMap]
    constructor
    · rintro ⟨i, _, hx⟩; exact List.mem_of_getElem? hx
    · intro hx
      obtain ⟨i, hi, e⟩ := List.mem_iff_getElem.1 hx
      exact ⟨i, hall i hi, by rw [List.getElem?_eq_getElem hi, e]⟩
  refine perm_of_mem ?_ hl h1
  unfold pick
  refine List.Pairwise.filterMap _ (fun a a' hne b hb' b' hb'' e => ?_) hn
  subst e
  change l[a]? = some b at hb'
  change l[a']? = some b at hb''
  obtain ⟨ha, e1⟩ := List.getElem?_eq_some_iff.1 hb'
  obtain ⟨ha', e2⟩ := List.getElem?_eq_some_iff.1 hb''
  have hpw := List.pairwise_iff_getElem.1 hl
  rcases Nat.lt_trichotomy a a' with h | h | h
  · exact hpw a a' ha ha' h (e1.trans e2.symm)
  · exact hne h
  · exact hpw a' a ha' ha h (e2.trans e1.symm)

theorem eff_lenS {o : Oper} {D : St} {t kty ety : TypeId} {x : Operand} {l : List Rep} (hd : dstOK D.n o.dst = true) (ho : o.op = .call { callee := .builtin .len, args := #[x], argTypes := #[t] }) (ht : Tryd.prog.underlying t = some (.map kty ety))
    (hx : D.ev x = .t (mset l)) : Eff Tryd.prog o D ⟨.t (encI (l.length : Nat)), []⟩ := by
  have := eff_lenD (P := Tryd.prog) (L := mapL KR XU (setL l)) hd ho ht hx .d
  rwa [show (mapL KR XU (setL l)).length = l.length from by rw [mapL_length, setL_len]] at this
theorem eff_hasS {o : Oper} {D : St} {t ety : TypeId} {m k : Operand} {l : List Rep} (a : Rep) (hl : l.Nodup) (ht : Tryd.prog.underlying t = some (.map 23 ety)) (hz : zeroOf Tryd.prog ety = some (.bool false)) (hd : dstOK D.n o.dst = true) (ho : o.op = .lookup t m k false)
    (hm : D.ev m = .t (mset l)) (hk : D.ev k = .t (encR a)) : Eff Tryd.prog o D ⟨.t (.bool (decide (a ∈ l))), []⟩ :=
  eff_getD (P := Tryd.prog) KR XU (a := a) (l := setL l) (z := .bool false) (zv := .bool false) (ok := false) ht hz (solid_bool _) hd ho hm .d (setL_nodup hl) hk (by
    rw [look_set]
    by_cases h : a ∈ l
    · rw [if_pos h, decide_eq_true h]; rfl
    · rw [if_neg h, decide_eq_false h]; rfl)
theorem ins_take {l : List Rep} {i : Nat} (hn : l.Nodup) (hi : i < l.length) : ins (l.take i) l[i] = l.take (i + 1) := by
  unfold ins
  rw [if_neg, ← take_succ_get hi]
  intro h
  obtain ⟨j, hj, e⟩ := List.mem_iff_getElem.1 h
  rw [List.getElem_take] at e
  have hj2 : j < i := by rw [List.length_take] at hj; omega
  exact List.pairwise_iff_getElem.1 hn j i (by omega) hi hj2 e
theorem sortEls_eq (l : List Rep) : sortEls cellsR l = (l.map encR).map .t := by unfold sortEls; rw [List.map_map]; rfl

/-- An owned slice that is not empty is not nil. -/
theorem eff_ownNotNil {o : Oper} {D : St} {t ty e : TypeId} {k : Nat} {ag : Bool} {x : Operand} {id g off len : Nat} {ob : Ob} (hd : dstOK D.n o.dst = true) (ho : o.op = .binOp .eql t x (.const (.slice none 0 0)) ty) (ht : elemOf Tryd.prog t = some (e, k, ag))
    (hx : D.ev x = .own id g off len) (hs : sget D.st id = some ob) (hg : ob.gen = g) (hl : 0 < len) : Eff Tryd.prog o D ⟨.t (.bool false), []⟩ := by
  intro s hs' hfr F β a w hr next Q hn
  refine effS_nilEq (P := Tryd.prog) (m := len) hd ho ht hx (.inr ⟨id, g, off, ob, rfl, hs, hg⟩) s hs' ?_ F β a w hr next Q ?_
  · rintro e ⟨b, rfl, _⟩ i q hm
    simp at hm
  · rintro e ⟨b, rfl, hb⟩
    cases b with
    | false => exact hn
    | true => have := hb rfl; omega
end Go.Tv.C34

end
section
open Go Go.Tv Go.Proofs
namespace Go.Tv.C34

def frm (x : Int) (i : Nat) (key : Int) : Frm :=
  if around x 1000000 / 7 % 12 = 0 then ⟨imax 0 ((i : Int) - 3) + around x 1000000 % 7, key, true, [], 0⟩
  else if around x 1000000 / 7 % 12 = 1 then ⟨around x 1000000 / 84 % 300, key, false, [], 0⟩
  else ⟨imax 0 ((i : Int) - 3) + around x 1000000 % 7, key, false, [], 0⟩
def nxt (x key : Int) : Int := key + 1 + around x 1000000 / 84 % 40 / 39 * 5000
def keyAt (l : List Int) : Nat → Int
  | 0 => 0
  | j + 1 => nxt (l.getD j 0) (keyAt l j)
def frameAt (l : List Int) (j : Nat) : Frm := frm (l.getD j 0) j (keyAt l j)
def frames (l : List Int) (m : Nat) : List Frm := (List.range (min l.length m)).map (frameAt l)

theorem range_succ {α : Type} (f : Nat → α) (i : Nat) : (List.range (i + 1)).map f = (List.range i).map f ++ [f i] := by rw [List.range_succ, List.map_append]; rfl
theorem getD_get {l : List Int} {i : Nat} (h : i < l.length) : l.getD i 0 = l[i] := by simp [List.getD_eq_getElem?_getD, h]
theorem nxt_range (x key : Int) : key < nxt x key ∧ nxt x key ≤ key + 5001 := by
  unfold nxt
  have := around_range (n := x) (m := 1000000) (by decide)
  omega
theorem keyAt_range (l : List Int) : ∀ j : Nat, 0 ≤ keyAt l j ∧ keyAt l j ≤ 5001 * j
  | 0 => by simp [keyAt]
  | j + 1 => by
    have h1 := keyAt_range l j
    have h2 := nxt_range (l.getD j 0) (keyAt l j)
    show 0 ≤ nxt _ _ ∧ nxt _ _ ≤ _
    omega
theorem keyAt_mono (l : List Int) : ∀ {i j : Nat}, i < j → keyAt l i < keyAt l j
  | i, j + 1, h => by
    have h2 := nxt_range (l.getD j 0) (keyAt l j)
    rcases Nat.lt_or_ge i j with h1 | h1
    · have := keyAt_mono l h1
      show _ < nxt _ _
      omega
    · obtain rfl : i = j := by omega
      exact h2.1
theorem frame_key (l : List Int) (j : Nat) : (frameAt l j).key = keyAt l j := by
  unfold frameAt frm; split
  · rfl
  · split <;> rfl
theorem frame_body (l : List Int) (j : Nat) : (frameAt l j).body = [] := by
  unfold frameAt frm; split
  · rfl
  · split <;> rfl
theorem frames_len (l : List Int) (m : Nat) : (frames l m).length = min l.length m := by simp [frames]
theorem frames_mem {l : List Int} {m : Nat} {f : Frm} (h : f ∈ frames l m) : ∃ j, j < min l.length m ∧ f = frameAt l j := by
  unfold frames at h
  obtain ⟨j, hj, rfl⟩ := List.mem_map.1 h
  exact ⟨j, List.mem_range.1 hj, rfl⟩
theorem quoN {n d : Int} (h : 0 ≤ n ∧ n ≤ 4000000000000000000) (hd : 0 < d) : IntKind.i64.wrap (n.tdiv d) = n / d := by
  rw [Int.tdiv_eq_ediv_of_nonneg h.1]
  have h1 := Int.ediv_nonneg h.1 (Int.le_of_lt hd)
  have h2 := Int.ediv_le_self d h.1
  rw [wi64]; omega
theorem frm_0 {x key : Int} {i : Nat} (h : around x 1000000 / 7 % 12 = 0) : frm x i key = ⟨imax 0 ((i : Int) - 3) + around x 1000000 % 7, key, true, [], 0⟩ := by unfold frm; rw [if_pos h]
theorem frm_1 {x key : Int} {i : Nat} (h : ¬ around x 1000000 / 7 % 12 = 0) (h2 : around x 1000000 / 7 % 12 = 1) : frm x i key = ⟨around x 1000000 / 84 % 300, key, false, [], 0⟩ := by unfold frm; rw [if_neg h, if_pos h2]
theorem frm_2 {x key : Int} {i : Nat} (h : ¬ around x 1000000 / 7 % 12 = 0) (h2 : ¬ around x 1000000 / 7 % 12 = 1) : frm x i key = ⟨imax 0 ((i : Int) - 3) + around x 1000000 % 7, key, false, [], 0⟩ := by unfold frm; rw [if_neg h, if_neg h2]
end Go.Tv.C34

end
section
open Go Go.Tv Go.Proofs
namespace Go.Tv.C34
abbrev f1 : Frm := ⟨1, 1, false, [], 0⟩
abbrev tA : Twn := ⟨[zf], [zr, ⟨1, 0, 1, false⟩]⟩
abbrev L4 : List Rep := [zr, ⟨0, 1, 2, false⟩, ⟨1, 0, 1, false⟩, ⟨2, 0, 2, false⟩]
abbrev tB : Twn := ⟨[zf, f1], L4⟩
abbrev tC : Twn := ⟨[zf, f1], [⟨1, 0, 1, false⟩, ⟨2, 0, 2, false⟩]⟩
theorem liv1 : send ⟨[], [zr]⟩ zf = (tA, 0) := by decide +kernel
theorem liv2 : send tA f1 = (tB, 0) := by decide +kernel
theorem liv3 : hear tB ⟨1, 0, 1, false⟩ = (tC, 0) := by decide +kernel
theorem liv4 : hear tB ⟨3, 0, 2, false⟩ = (zt, 45) := by decide +kernel
theorem srtA : Srt tA.poss := by unfold Srt; decide +kernel
theorem hp0 : ∀ y, y ∈ [zr] → HP y := by intro y hy; rw [List.mem_singleton.1 hy]; exact ⟨by decide, by decide⟩
theorem srt0 : Srt [zr] := List.pairwise_singleton _ _
theorem hpA : ∀ y, y ∈ tA.poss → HP y := by
  intro y hy
  have : y = zr ∨ y = ⟨1, 0, 1, false⟩ := by simpa using hy
  rcases this with rfl | rfl <;> exact ⟨by decide, by decide⟩
end Go.Tv.C34

end
section
open Go Go.Tv Go.Proofs
namespace Go.Tv.C34

structure Good (l : List Int) (m : Nat) (T : Twn) : Prop where
  srt : Srt T.poss
  hp : ∀ y, y ∈ T.poss → HP y
  len : T.poss.length ≤ 256
  ne : 0 < T.poss.length
  bod : ∀ x, x ∈ T.sent → x.body.length ≤ 1000000
  last : ∀ x, T.sent.getLast? = some x → ∃ j, j < (frames l m).length ∧ x.key = keyAt l j ∧ T.sent.length ≤ j + 1
theorem Good.sent {l m T} (h : Good l m T) : T.sent.length ≤ (frames l m).length := by
  rcases e : T.sent.getLast? with _ | x
  · rw [List.getLast?_eq_none_iff.1 e]; exact Nat.zero_le _
  · obtain ⟨j, hj, _, hs⟩ := h.last x e; omega
theorem good0 (l : List Int) (m : Nat) : Good l m ⟨[], [zr]⟩ where
  srt := srt0
  hp := hp0
  len := by decide
  ne := by decide
  bod := by intro x hx; cases hx
  last := by intro x hx; cases hx

/-- A step's answer: the twin stays good, or there is an error and the twin is empty. -/
def StepOK (l : List Int) (m : Nat) (p : Twn × Int) : Prop := (p.2 = 0 → Good l m p.1) ∧ (p.2 ≠ 0 → p.1 = zt)

theorem stepF_ne {out : List Rep} {f : Frm} (h : 0 < out.length) : 0 < (stepF out f).length :=
  List.length_pos_of_mem ((stepI_mem (f := f) out out out[0]).2 (.inl (List.getElem_mem h)))
theorem frames_bod {l : List Int} {m : Nat} {f : Frm} (h : f ∈ frames l m) : f.body.length ≤ 1000000 := by
  obtain ⟨j, _, rfl⟩ := frames_mem h
  rw [frame_body]; decide
theorem send_step {l m T} (h : Good l m T) {f : Frm} (hf : f ∈ frames l m) : StepOK l m (send T f) := by
  unfold send
  split
  · exact ⟨fun e => by simp at e, fun _ => rfl⟩
  · rename_i hlt
    split
    · exact ⟨fun e => by simp at e, fun _ => rfl⟩
    · rename_i hle
      refine ⟨fun _ => ⟨srt_stepF h.srt, stepF_hp h.hp, by show (stepF T.poss f).length ≤ 256; omega, stepF_ne h.ne, ?_, ?_⟩, fun e => absurd rfl e⟩
      · intro x hx
        rcases List.mem_append.1 hx with hx | hx
        · exact h.bod x hx
        · rw [List.mem_singleton.1 hx]; exact frames_bod hf
      · intro x hx
        obtain ⟨j, hj, rfl⟩ := frames_mem hf
        obtain rfl : frameAt l j = x := by simpa using hx
        refine ⟨j, by rw [frames_len]; exact hj, frame_key l j, ?_⟩
        rw [List.length_append, List.length_singleton]
        rcases e : T.sent.getLast? with _ | x
        · rw [List.getLast?_eq_none_iff.1 e]; simp
        · obtain ⟨i, hi, hk, hs⟩ := h.last x e
          have hlt2 : ¬ x.key ≥ (frameAt l j).key := by
            intro hge; apply hlt; unfold late; rw [e]; exact decide_eq_true hge
          rw [frame_key, hk] at hlt2
          rcases Nat.lt_or_ge i j with hij | hij
          · omega
          · rcases Nat.lt_or_ge j i with hji | hji
            · have := keyAt_mono l hji; omega
            · obtain rfl : i = j := by omega
              omega
theorem hear_step {l m T} (h : Good l m T) (r : Rep) : StepOK l m (hear T r) := by
  unfold hear
  split
  · exact ⟨fun e => by simp at e, fun _ => rfl⟩
  · rename_i hne
    have hle : (left_ T r).length ≤ T.poss.length := List.length_filter_le _ _
    exact ⟨fun _ => ⟨h.srt.filter _, fun y hy => h.hp y ((List.mem_filter.1 hy).1), Nat.le_trans hle h.len, List.length_pos_iff.2 hne, h.bod, h.last⟩, fun e => absurd rfl e⟩
end Go.Tv.C34

end
section
open Go Go.Tv Go.Proofs
namespace Go.Tv.C34
/-! ### Limits -/
def lf (i : Nat) : Frm := ⟨1 + (i : Int), (i : Int), false, [], 0⟩
def chk : Nat → Nat → Twn → Bool
  | 0, i, T => decide (send T (lf i) = (zt, 2))
  | k + 1, i, T => let p := send T (lf i); p.2 == 0 && p.1.poss.length == 2 ^ (i + 1) && p.1.sent.length == i + 1 && chk k (i + 1) p.1
end Go.Tv.C34

end
section
open Go Go.Tv Go.Proofs
namespace Go.Tv.C34

/-! ### Limits -/
structure LimG (i : Nat) (T : Twn) : Prop where
  srt : Srt T.poss
  hp : ∀ y, y ∈ T.poss → HP y
  len : T.poss.length = 2 ^ i
  sl : T.sent.length = i
  bod : ∀ x, x ∈ T.sent → x.body.length ≤ 1000000
  ok : chk (8 - i) i T = true
/-! ### Reads -/
/-! ### Sound -/
theorem stepF_self {f : Frm} {out : List Rep} {x : Rep} (h : x ∈ out) : x ∈ stepF out f := (stepI_mem out out x).2 (.inl h)
theorem reachF_self : ∀ (l : List Frm) (out : List Rep) (x : Rep), x ∈ out → x ∈ l.foldl stepF out
  | [], _, _, h => h
  | f :: l, out, x, h => reachF_self l (stepF out f) x (stepF_self h)
theorem reach_self (x : Rep) (l : List Frm) : x ∈ reachF x l := reachF_self l [x] x (List.mem_singleton.2 rfl)
section
variable {P : Program} {D : St} {o : Oper}
end
end Go.Tv.C34

end
section
open Go Go.Tv Go.Proofs
namespace Go.Tv.C34
set_option maxRecDepth 20000
set_option maxHeartbeats 2000000
set_option linter.unusedSimpArgs false
set_option linter.unusedVariables false
theorem mix52_ret (x y : Int) : Ret Tryd.prog 52 [encU x, encU y] (encU (mixF x y)) := by
  refine ret_of_awp Tryd.func52 rfl (Nat.le_of_ble_eq_true rfl) ?_
  refine awp_seq ?_
  refine awp_rw rfl ?_
  refine RW.op rfl rfl (eff_assign (v := .t _) rfl rfl rfl) ?_
  refine RW.nil ?_
  refine awp_seq ?_
  refine awp_rw rfl ?_
  refine RW.op rfl rfl (eff_move (v := .t _) rfl rfl rfl) ?_
  refine RW.op rfl rfl (eff_move (v := .t _) rfl rfl rfl) ?_
  refine RW.op rfl rfl (eff_iop (r := encU (xorU x y)) rfl rfl rfl rfl rfl) ?_
  refine RW.op rfl rfl (eff_iop (r := encU (mix1 x y)) rfl rfl rfl rfl rfl) ?_
  refine RW.op rfl rfl (eff_assign (v := .t _) rfl rfl rfl) ?_
  refine RW.nil ?_
  refine awp_seq ?_
  refine awp_rw rfl ?_
  refine RW.op rfl rfl (eff_move (v := .t _) rfl rfl rfl) ?_
  refine RW.op rfl rfl (eff_move (v := .t _) rfl rfl rfl) ?_
  refine RW.op rfl rfl (eff_quoE (r := mix1 x y / 4294967296) rfl rfl rfl rfl (by decide) (mix_quo x y)) ?_
  refine RW.op rfl rfl (eff_iop (r := encU (mixF x y)) rfl rfl rfl rfl rfl) ?_
  refine RW.op rfl rfl (eff_assign (v := .t _) rfl rfl rfl) ?_
  refine RW.nil ?_
  refine awp_ret ?_
  exact ⟨Or.inr rfl, [_], ⟨.tmp (.t _), trivial⟩, .refl _⟩

theorem mix98_ret (x y : Int) : Ret Tryd.prog 98 [encU x, encU y] (encU (mixF x y)) := by
  refine ret_of_awp Tryd.func98 rfl (Nat.le_of_ble_eq_true rfl) ?_
  refine awp_seq ?_
  refine awp_rw rfl ?_
  refine RW.op rfl rfl (eff_assign (v := .t _) rfl rfl rfl) ?_
  refine RW.nil ?_
  refine awp_seq ?_
  refine awp_rw rfl ?_
  refine RW.op rfl rfl (eff_move (v := .t _) rfl rfl rfl) ?_
  refine RW.op rfl rfl (eff_move (v := .t _) rfl rfl rfl) ?_
  refine RW.op rfl rfl (eff_iop (r := encU (xorU x y)) rfl rfl rfl rfl rfl) ?_
  refine RW.op rfl rfl (eff_iop (r := encU (mix1 x y)) rfl rfl rfl rfl rfl) ?_
  refine RW.op rfl rfl (eff_assign (v := .t _) rfl rfl rfl) ?_
  refine RW.nil ?_
  refine awp_seq ?_
  refine awp_rw rfl ?_
  refine RW.op rfl rfl (eff_move (v := .t _) rfl rfl rfl) ?_
  refine RW.op rfl rfl (eff_move (v := .t _) rfl rfl rfl) ?_
  refine RW.op rfl rfl (eff_shrE (r := mix1 x y / 4294967296) rfl rfl rfl rfl (by decide) (mix_shr x y)) ?_
  refine RW.op rfl rfl (eff_iop (r := encU (mixF x y)) rfl rfl rfl rfl rfl) ?_
  refine RW.op rfl rfl (eff_assign (v := .t _) rfl rfl rfl) ?_
  refine RW.nil ?_
  refine awp_ret ?_
  exact ⟨Or.inr rfl, [_], ⟨.tmp (.t _), trivial⟩, .refl _⟩

theorem step34_ret (k : Int) : Ret Tryd.prog 34 [encU k] (encU (stepF1 k)) := by
  refine ret_of_awp Tryd.func34 rfl (Nat.le_of_ble_eq_true rfl) ?_
  refine awp_seq ?_
  refine awp_rw rfl ?_
  refine RW.op rfl rfl (eff_assign (v := .t _) rfl rfl rfl) ?_
  refine RW.nil ?_
  refine awp_seq ?_
  refine awp_rw rfl ?_
  refine RW.op rfl rfl (eff_move (v := .t _) rfl rfl rfl) ?_
  refine RW.op rfl rfl (eff_callT (mix52_ret _ _) co52 rfl rfl rfl rfl) ?_
  refine RW.op rfl rfl (eff_assign (v := .t _) rfl rfl rfl) ?_
  refine RW.nil ?_
  refine awp_ret ?_
  exact ⟨Or.inr rfl, [_], ⟨.tmp (.t _), trivial⟩, .refl _⟩

theorem step84_ret (k : Int) : Ret Tryd.prog 84 [encU k] (encU (stepF1 k)) := by
  refine ret_of_awp Tryd.func84 rfl (Nat.le_of_ble_eq_true rfl) ?_
  refine awp_seq ?_
  refine awp_rw rfl ?_
  refine RW.op rfl rfl (eff_assign (v := .t _) rfl rfl rfl) ?_
  refine RW.nil ?_
  refine awp_seq ?_
  refine awp_rw rfl ?_
  refine RW.op rfl rfl (eff_move (v := .t _) rfl rfl rfl) ?_
  refine RW.op rfl rfl (eff_callT (mix98_ret _ _) co98 rfl rfl rfl rfl) ?_
  refine RW.op rfl rfl (eff_assign (v := .t _) rfl rfl rfl) ?_
  refine RW.nil ?_
  refine awp_ret ?_
  exact ⟨Or.inr rfl, [_], ⟨.tmp (.t _), trivial⟩, .refl _⟩

theorem words69_ret (d : List Int) (hb : Byt d) (hl : d.length ≤ 1000000) : Ret Tryd.prog 69 [.sl (d.map encBy) false] (.sl ((wordsF d).map encU) false) := by
  refine ret_of_awp Tryd.func69 rfl (Nat.le_of_ble_eq_true rfl) ?_
  refine awp_seq ?_
  refine awp_rw rfl ?_
  refine RW.op rfl rfl (eff_assign (v := .t _) rfl rfl rfl) ?_
  refine RW.nil ?_
  refine awp_seq ?_
  refine awp_rw rfl ?_
  refine RW.op rfl rfl (eff_assign (v := .t _) rfl rfl rfl) ?_
  refine RW.nil ?_
  show AWP _ _ _ _
  refine awp_weak (weak_adopt (d := 3) (id := 3) (k := 1) (ty := 28) rfl rfl) ?_
  refine awp_seq ?_
  refine awp_seq ?_
  refine awp_rw rfl ?_
  refine RW.op rfl rfl (eff_assign (v := .t _) rfl rfl rfl) ?_
  refine RW.nil ?_
  refine awp_block ?_
  refine awp_loopW (fun m s => ∃ (j : Nat) (gn : Nat) (n : Nat) (ws : List Int) (els : List AV), (wordsF d = ws ++ wordsF (d.drop (8 * j))) ∧ (n = ws.length) ∧ (els = (ws.map encU).map .t) ∧ (n ≤ j) ∧ m = d.length - 8 * j ∧ s = ⟨37, [(0, .t (.sl (d.map encBy) false)), (3, .own 3 gn 0 n), (4, .t (encI ((8 * j : Nat) : Int)))], [(3, some ⟨1, 28, gn, els⟩)]⟩) (_) (⟨_, weak_keep (n := 37) (fr' := [(0, .t (.sl (d.map encBy) false)), (3, .own 3 0 0 0), (4, .t (encI ((8 * 0 : Nat) : Int)))]) (st' := [(3, some ⟨1, 28, 0, ([])⟩)]) ⟨rfl, rfl, rfl, rfl, rfl, rfl, trivial⟩ ⟨rfl, (by first | exact okE_nil | (rw [he]; exact okE_t) | (rw [he]; intro x hx; simp only [List.mem_append, List.mem_map, List.mem_singleton] at hx; rcases hx with ⟨y, _, rfl⟩ | rfl <;> rfl)), trivial⟩, 0, 0, 0, [], [], (by rfl), (by rfl), (by rfl), (by omega), rfl, rfl⟩) ?_
  rintro m s ⟨j, gn, n, ws, els, hw, hnn, he, hwl, rfl, rfl⟩
  refine awp_seq ?_
  refine awp_seq ?_
  refine awp_rw rfl ?_
  refine RW.op rfl rfl (eff_move (v := .t _) rfl rfl rfl) ?_
  refine RW.op rfl rfl (eff_move (v := .t _) rfl rfl rfl) ?_
  refine RW.op rfl rfl (eff_lenM rfl rfl te27 rfl) ?_
  refine RW.op rfl rfl (eff_iop rfl rfl rfl rfl rfl) ?_
  refine RW.nil ?_
  refine awp_cond rfl (fun h1 => ?_) (fun h1 => ?_)
  · try simp only [decide_eq_true_eq, decide_eq_false_iff_not, beq_iff_eq, bne_iff_ne, bne_eq_false_iff_eq, beq_eq_false_iff_ne, Bool.not_eq_true, Bool.not_eq_false, Bool.not_eq_true', Bool.not_eq_false', ne_eq] at h1
    refine awp_skip ?_
    refine awp_seq ?_
    refine awp_block ?_
    refine awp_seq ?_
    refine awp_rw rfl ?_
    refine RW.op rfl rfl (eff_assign (v := .t (encU (tailN (chkW d j) 0))) rfl rfl (by rw [tailN_0]; rfl)) ?_
    refine RW.nil ?_
    refine awp_seq ?_
    refine awp_seq ?_
    refine awp_rw rfl ?_
    have hcl := chkW_len d j
    refine RW.op rfl rfl (eff_move (v := .t _) rfl rfl rfl) ?_
    refine RW.op rfl rfl (eff_iop rfl rfl rfl rfl (iadd (by omega))) ?_
    refine RW.op rfl rfl (eff_move (v := .t _) rfl rfl rfl) ?_
    refine RW.op rfl rfl (eff_lenM rfl rfl te27 rfl) ?_
    refine RW.op rfl rfl (eff_minE (r := (((min (8 * j + 8) d.length) : Nat) : Int)) rfl rfl rfl rfl (by unfold imin; split <;> omega)) ?_
    refine RW.op rfl rfl (eff_iop rfl rfl rfl rfl (isub (by omega))) ?_
    refine RW.op rfl rfl (eff_assign (v := .t (encI (((min (8 * j + 8) d.length) : Nat) - 1 - ((0 : Nat) : Int) : Int))) rfl rfl (by rw [show (((min (8 * j + 8) d.length) : Nat) - 1 - ((0 : Nat) : Int) : Int) = ((min (8 * j + 8) d.length) : Nat) - 1 from by omega]; rfl)) ?_
    refine RW.nil ?_
    refine awp_block ?_
    refine awp_loopW (fun m s => ∃ (c : Nat), (c ≤ (chkW d j).length) ∧ m = (chkW d j).length - c ∧ s = ⟨37, [(0, .t (.sl (d.map encBy) false)), (3, .own 3 gn 0 n), (4, .t (encI ((8 * j : Nat) : Int))), (5, .t (encU (tailN (chkW d j) c))), (6, .t (encI (((min (8 * j + 8) d.length) : Nat) - 1 - c : Int)))], [(3, some ⟨1, 28, gn, els⟩)]⟩) (_) (⟨_, weak_keep (n := 37) (fr' := [(0, .t (.sl (d.map encBy) false)), (3, .own 3 gn 0 n), (4, .t (encI ((8 * j : Nat) : Int))), (5, .t (encU (tailN (chkW d j) 0))), (6, .t (encI (((min (8 * j + 8) d.length) : Nat) - 1 - 0 : Int)))]) (st' := [(3, some ⟨1, 28, gn, els⟩)]) ⟨rfl, rfl, rfl, rfl, rfl, rfl, rfl, rfl, rfl, rfl, trivial⟩ ⟨rfl, (by first | exact okE_nil | (rw [he]; exact okE_t) | (rw [he]; intro x hx; simp only [List.mem_append, List.mem_map, List.mem_singleton] at hx; rcases hx with ⟨y, _, rfl⟩ | rfl <;> rfl)), trivial⟩, 0, (by omega), rfl, rfl⟩) ?_
    rintro m s ⟨c, hc, rfl, rfl⟩
    have hcl := chkW_len d j
    refine awp_seq ?_
    refine awp_seq ?_
    refine awp_rw rfl ?_
    refine RW.op rfl rfl (eff_move (v := .t _) rfl rfl rfl) ?_
    refine RW.op rfl rfl (eff_move (v := .t _) rfl rfl rfl) ?_
    refine RW.op rfl rfl (eff_iop rfl rfl rfl rfl rfl) ?_
    refine RW.nil ?_
    refine awp_cond rfl (fun h2 => ?_) (fun h2 => ?_)
    · try simp only [decide_eq_true_eq, decide_eq_false_iff_not, beq_iff_eq, bne_iff_ne, bne_eq_false_iff_eq, beq_eq_false_iff_ne, Bool.not_eq_true, Bool.not_eq_false, Bool.not_eq_true', Bool.not_eq_false', ne_eq] at h2
      refine awp_skip ?_
      refine awp_seq ?_
      refine awp_block ?_
      refine awp_rw rfl ?_
      have hcb := chkW_byt hb j
      have hc8 : (chkW d j).length ≤ 8 := by omega
      have hcc : c < (chkW d j).length := by omega
      have hix : ((min (8 * j + 8) d.length) - 1 - c) < d.length := by omega
      have hbx := hb _ (List.getElem_mem hix)
      have hts := tailN_step hcc
      have hge : (chkW d j)[(chkW d j).length - 1 - c]'(by omega) = d[((min (8 * j + 8) d.length) - 1 - c)]'hix := by
        rw [chkW_get (by omega) (by omega)]
        congr 1
        omega
      rw [hge] at hts
      have htu := tailN_u hcb (c := c + 1) (by omega) (by omega)
      refine RW.op rfl rfl (eff_move (v := .t _) rfl rfl rfl) ?_
      refine RW.op rfl rfl (eff_iop (r := encU (256 * tailN (chkW d j) c)) rfl rfl rfl rfl (mulU (tailN_u7 hcb (by omega) (by omega)))) ?_
      refine RW.op rfl rfl (eff_move (v := .t _) rfl rfl rfl) ?_
      refine RW.op rfl rfl (eff_move (v := .t _) rfl rfl rfl) ?_
      refine RW.op rfl rfl (eff_indexM (i := ((min (8 * j + 8) d.length) - 1 - c)) rfl rfl te27 rfl rfl (by first | rfl | omega) (by exact List.getElem?_eq_getElem hix) rfl (by decide)) ?_
      refine RW.op rfl rfl (eff_loadW1 rfl rfl ti5 rfl rfl) ?_
      refine RW.op rfl rfl (eff_convIntE (m := d[((min (8 * j + 8) d.length) - 1 - c)]'hix) rfl rfl (by rw [tu5]; rfl) tu28 rfl (wrapU64 hbx.1 (by omega))) ?_
      refine RW.op rfl rfl (eff_iop (r := encU (tailN (chkW d j) (c + 1))) rfl rfl rfl rfl (addU (by omega) htu)) ?_
      refine RW.op rfl rfl (eff_assign (v := .t _) rfl rfl rfl) ?_
      refine RW.nil ?_
      refine awp_rw rfl ?_
      refine RW.op rfl rfl (eff_move (v := .t _) rfl rfl rfl) ?_
      refine RW.op rfl rfl (eff_iop rfl rfl rfl rfl (isub (by omega))) ?_
      refine RW.op rfl rfl (eff_assign (v := .t (encI (((min (8 * j + 8) d.length) : Nat) - 1 - ((c + 1 : Nat) : Int) : Int))) rfl rfl (by rw [show (((min (8 * j + 8) d.length) : Nat) - 1 - ((c + 1 : Nat) : Int) : Int) = ((min (8 * j + 8) d.length) : Nat) - 1 - c - 1 from by omega]; rfl)) ?_
      refine RW.nil ?_
      refine ⟨_, ?_, _, weak_keep (n := 37) (fr' := [(0, .t (.sl (d.map encBy) false)), (3, .own 3 gn 0 n), (4, .t (encI ((8 * j : Nat) : Int))), (5, .t (encU (tailN (chkW d j) (c + 1)))), (6, .t (encI (((min (8 * j + 8) d.length) : Nat) - 1 - (c + 1) : Int)))]) (st' := [(3, some ⟨1, 28, gn, els⟩)]) ⟨rfl, rfl, rfl, rfl, rfl, rfl, rfl, rfl, rfl, rfl, trivial⟩ ⟨rfl, (by first | exact okE_nil | (rw [he]; exact okE_t) | (rw [he]; intro x hx; simp only [List.mem_append, List.mem_map, List.mem_singleton] at hx; rcases hx with ⟨y, _, rfl⟩ | rfl <;> rfl)), trivial⟩, c + 1, (by omega), rfl, rfl⟩
      omega
    · try simp only [decide_eq_true_eq, decide_eq_false_iff_not, beq_iff_eq, bne_iff_ne, bne_eq_false_iff_eq, beq_eq_false_iff_ne, Bool.not_eq_true, Bool.not_eq_false, Bool.not_eq_true', Bool.not_eq_false', ne_eq] at h2
      refine awp_exit ?_
      have hce : c = (chkW d j).length := by omega
      subst hce
      rw [tailN_all]
      refine awp_rw rfl ?_
      refine RW.op rfl rfl (eff_move (v := .own _ _ _ _) rfl rfl rfl) ?_
      refine RW.op rfl rfl (eff_move (v := .t _) rfl rfl rfl) ?_
      refine RW.new rfl rfl (eff_buildSlice1 (id := 34) (els := [_]) rfl rfl te109 tz28 rfl (by decide) rfl rfl rfl rfl) ?_
      refine RW.new rfl rfl (eff_append (id := 3) (ys := [_]) rfl rfl ta109 rfl rfl rfl (by rw [he, hnn]; simp) rfl rfl (srcOwn rfl rfl rfl rfl rfl rfl) (by simp) (by simp; omega) (by simp; omega)) ?_
      refine RW.op rfl rfl (eff_assign (v := .own _ _ _ _) rfl rfl rfl) ?_
      refine RW.nil ?_
      refine awp_rw rfl ?_
      refine RW.op rfl rfl (eff_move (v := .t _) rfl rfl rfl) ?_
      refine RW.op rfl rfl (eff_iop rfl rfl rfl rfl (iadd (by omega))) ?_
      refine RW.op rfl rfl (eff_assign (v := .t _) rfl rfl rfl) ?_
      refine RW.nil ?_
      refine ⟨_, ?_, _, weak_keep (n := 37) (fr' := [(0, .t (.sl (d.map encBy) false)), (3, .own 3 _ 0 _), (4, .t (encI ((8 * (j + 1) : Nat) : Int)))]) (st' := [(3, some ⟨1, 28, _, _⟩)]) ⟨rfl, rfl, rfl, rfl, rfl, rfl, trivial⟩ ⟨rfl, (by first | exact okE_nil | (rw [he]; exact okE_t) | (rw [he]; intro x hx; simp only [List.mem_append, List.mem_map, List.mem_singleton] at hx; rcases hx with ⟨y, _, rfl⟩ | rfl <;> rfl)), trivial⟩, j + 1, _, _, _, _, (by rw [hw, words_step (by omega), List.append_cons]), (by rw [hnn]; simp), (by rw [he]; simp <;> rfl), (by simp; omega), rfl, rfl⟩
      omega
  · try simp only [decide_eq_true_eq, decide_eq_false_iff_not, beq_iff_eq, bne_iff_ne, bne_eq_false_iff_eq, beq_eq_false_iff_ne, Bool.not_eq_true, Bool.not_eq_false, Bool.not_eq_true', Bool.not_eq_false', ne_eq] at h1
    refine awp_exit ?_
    refine awp_seq ?_
    refine awp_rw rfl ?_
    refine RW.op rfl rfl (eff_move (v := .own _ _ _ _) rfl rfl rfl) ?_
    refine RW.op rfl rfl (eff_assign (v := .own _ _ _ _) rfl rfl rfl) ?_
    refine RW.nil ?_
    refine awp_ret ?_
    rw [words_done (by omega), List.append_nil] at hw
    exact ⟨Or.inr rfl, [_], ⟨.tmp (Res.ownT (xs := (wordsF d).map encU) rfl rfl (by rw [hw]; exact he) (by rw [hw, hnn]; simp)), trivial⟩, .refl _⟩

end Go.Tv.C34

end
section
open Go Go.Tv Go.Proofs
namespace Go.Tv.C34
set_option maxRecDepth 20000
set_option maxHeartbeats 2000000
set_option linter.unusedSimpArgs false
set_option linter.unusedVariables false
theorem list54_retG (k : Int) (d : List Int) (g : Nat) (hb : Byt d) (hl : d.length ≤ 1000000) : RetG Tryd.prog 54 [(0, some ⟨1, 3, g, ([k].map encI).map .t⟩)] [.own 0 g 0 1, .t (.sl (d.map encBy) false)] [(0, some ⟨1, 3, g + (wordsF d).length + 1, ((listF [k] d).map encI).map .t⟩)] (.own 0 (g + (wordsF d).length + 1) 0 (listF [k] d).length) := by
  refine retG_of_awp Tryd.func54 rfl (Nat.le_of_ble_eq_true rfl) ?_
  refine awp_seq ?_
  refine awp_rw rfl ?_
  refine RW.op rfl rfl (eff_assign (v := .t _) rfl rfl rfl) ?_
  refine RW.nil ?_
  refine awp_seq ?_
  refine awp_rw rfl ?_
  refine RW.op rfl rfl (eff_move (v := .t _) rfl rfl rfl) ?_
  refine RW.op rfl rfl (eff_callT (words69_ret _ hb (by omega)) co69 rfl rfl rfl rfl) ?_
  refine RW.op rfl rfl (eff_assign (v := .t _) rfl rfl rfl) ?_
  refine RW.nil ?_
  refine awp_seq ?_
  refine awp_seq ?_
  refine awp_rw rfl ?_
  refine RW.op rfl rfl (eff_assign (v := .t _) rfl rfl rfl) ?_
  refine RW.nil ?_
  refine awp_block ?_
  refine awp_loopW (fun m s => ∃ (i : Nat) (gn : Nat) (n : Nat) (els : List AV), (i ≤ (wordsF d).length) ∧ (gn = g + i) ∧ (n = 1 + i) ∧ (els = ((([k] ++ ((wordsF d).take i).map toI).map encI).map AV.t)) ∧ m = (wordsF d).length - i ∧ s = ⟨28, [(0, .own 0 gn 0 n), (1, .t (.sl (d.map encBy) false)), (5, .t (.sl ((wordsF d).map encU) false)), (6, .t (encI (i : Nat)))], [(0, some ⟨1, 3, gn, els⟩)]⟩) (_) (⟨_, weak_keep (n := 28) (fr' := [(0, .own 0 g 0 1), (1, .t (.sl (d.map encBy) false)), (5, .t (.sl ((wordsF d).map encU) false)), (6, .t (encI (0 : Nat)))]) (st' := [(0, some ⟨1, 3, g, _⟩)]) ⟨rfl, rfl, rfl, rfl, rfl, rfl, rfl, rfl, trivial⟩ ⟨rfl, (by first | exact okE_t | exact okE_nil | (rw [he]; exact okE_t) | (rw [he]; intro x hx; simp only [List.mem_append, List.mem_map, List.mem_singleton] at hx; rcases hx with ⟨y, _, rfl⟩ | rfl <;> rfl)), trivial⟩, 0, g, 1, _, (by omega), (by rfl), (by rfl), (by rfl), rfl, rfl⟩) ?_
  rintro m s ⟨i, gn, n, els, hi, hgn, hnn, he, rfl, rfl⟩
  refine awp_seq ?_
  refine awp_seq ?_
  refine awp_rw rfl ?_
  refine RW.op rfl rfl (eff_move (v := .t _) rfl rfl rfl) ?_
  refine RW.op rfl rfl (eff_move (v := .t _) rfl rfl rfl) ?_
  refine RW.op rfl rfl (eff_lenM rfl rfl te109 rfl) ?_
  refine RW.op rfl rfl (eff_iop rfl rfl rfl rfl rfl) ?_
  refine RW.nil ?_
  refine awp_cond rfl (fun h1 => ?_) (fun h1 => ?_)
  · try simp only [decide_eq_true_eq, decide_eq_false_iff_not, beq_iff_eq, bne_iff_ne, bne_eq_false_iff_eq, beq_eq_false_iff_ne, Bool.not_eq_true, Bool.not_eq_false, Bool.not_eq_true', Bool.not_eq_false', ne_eq] at h1
    refine awp_skip ?_
    refine awp_seq ?_
    refine awp_block ?_
    refine awp_rw rfl ?_
    have hil : i < (wordsF d).length := by omega
    have hwl := wordsF_len d
    refine RW.op rfl rfl (eff_move (v := .own _ _ _ _) rfl rfl rfl) ?_
    refine RW.op rfl rfl (eff_move (v := .t _) rfl rfl rfl) ?_
    refine RW.op rfl rfl (eff_move (v := .t _) rfl rfl rfl) ?_
    refine RW.op rfl rfl (eff_indexM rfl rfl te109 rfl rfl rfl (by first | assumption | exact List.getElem?_eq_getElem (by omega)) rfl (by decide)) ?_
    refine RW.op rfl rfl (eff_loadW1 rfl rfl ti28 rfl rfl) ?_
    refine RW.op rfl rfl (eff_convIntE (m := toI ((wordsF d)[i]'hil)) rfl rfl (by rw [tu28]; rfl) tu3 rfl rfl) ?_
    refine RW.new rfl rfl (eff_buildSlice1 (id := 21) (els := [_]) rfl rfl te26 tz3 rfl (by decide) rfl rfl rfl rfl) ?_
    refine RW.new rfl rfl (eff_append (id := 0) (ys := [_]) rfl rfl ta26 rfl rfl rfl (by rw [he, hnn]; simp; omega) rfl rfl (srcOwn rfl rfl rfl rfl rfl rfl) (by simp) (by simp; omega) (by simp; omega)) ?_
    refine RW.op rfl rfl (eff_assign (v := .own _ _ _ _) rfl rfl rfl) ?_
    refine RW.nil ?_
    refine awp_rw rfl ?_
    refine RW.op rfl rfl (eff_move (v := .t _) rfl rfl rfl) ?_
    refine RW.op rfl rfl (eff_iop rfl rfl rfl rfl (iadd (by omega))) ?_
    refine RW.op rfl rfl (eff_assign (v := .t _) rfl rfl rfl) ?_
    refine RW.nil ?_
    refine ⟨_, ?_, _, weak_keep (n := 28) (fr' := [(0, .own 0 _ 0 _), (1, .t (.sl (d.map encBy) false)), (5, .t (.sl ((wordsF d).map encU) false)), (6, .t (encI ((i + 1) : Nat)))]) (st' := [(0, some ⟨1, 3, _, _⟩)]) ⟨rfl, rfl, rfl, rfl, rfl, rfl, rfl, rfl, trivial⟩ ⟨rfl, (by first | exact okE_t | exact okE_nil | (rw [he]; exact okE_t) | (rw [he]; intro x hx; simp only [List.mem_append, List.mem_map, List.mem_singleton] at hx; rcases hx with ⟨y, _, rfl⟩ | rfl <;> rfl)), trivial⟩, i + 1, _, _, _, (by omega), (by omega), (by simp; omega), (by rw [he, le86 (by omega)]; rfl), rfl, rfl⟩
    omega
  · try simp only [decide_eq_true_eq, decide_eq_false_iff_not, beq_iff_eq, bne_iff_ne, bne_eq_false_iff_eq, beq_eq_false_iff_ne, Bool.not_eq_true, Bool.not_eq_false, Bool.not_eq_true', Bool.not_eq_false', ne_eq] at h1
    refine awp_exit ?_
    refine awp_seq ?_
    have hi2 : i = (wordsF d).length := by omega
    subst hi2
    rw [List.take_length] at he
    have hwl := wordsF_len d
    refine awp_rw rfl ?_
    refine RW.op rfl rfl (eff_move (v := .own _ _ _ _) rfl rfl rfl) ?_
    refine RW.op rfl rfl (eff_move (v := .t _) rfl rfl rfl) ?_
    refine RW.op rfl rfl (eff_lenM rfl rfl te27 rfl) ?_
    refine RW.new rfl rfl (eff_buildSlice1 (id := 26) (els := [_]) rfl rfl te26 tz3 rfl (by decide) rfl rfl rfl rfl) ?_
    refine RW.new rfl rfl (eff_append (id := 0) (ys := [_]) rfl rfl ta26 rfl rfl rfl (by rw [he, hnn]; simp; omega) rfl rfl (srcOwn rfl rfl rfl rfl rfl rfl) (by simp) (by simp; omega) (by simp; omega)) ?_
    refine RW.op rfl rfl (eff_assign (v := .own _ _ _ _) rfl rfl rfl) ?_
    refine RW.nil ?_
    refine awp_ret ?_
    have hlf : (listF [k] d).length = n + 1 := by unfold listF; rw [hnn]; simp; omega
    have hle : ((listF [k] d).map encI).map AV.t = els ++ [.t (encI (d.length : Nat))] := by rw [he]; unfold listF; simp <;> rfl
    rw [hlf, hle]
    subst hgn
    exact ⟨Or.inr rfl, [_], [.own 0 (g + (wordsF d).length + 1) 0 (n + 1)], ⟨.tmp rfl, trivial⟩, rfl, weak_keep ⟨rfl, rfl, trivial⟩ ⟨rfl, (by rw [← hle]; exact okE_t), trivial⟩, rfl⟩

def mixL (l : List Int) : Int := l.foldl mixF 0
theorem mixL_take {l : List Int} {i : Nat} (h : i < l.length) : mixL (l.take (i + 1)) = mixF (mixL (l.take i)) l[i] := by
  unfold mixL; rw [take_succ_get h, List.foldl_append]; rfl
def mixM (h : Int) (l : List Int) : Int := l.foldl (fun h x => mixF h (toU x)) h
theorem mixM_take {h0 : Int} {l : List Int} {i : Nat} (h : i < l.length) : mixM h0 (l.take (i + 1)) = mixF (mixM h0 (l.take i)) (toU l[i]) := by
  unfold mixM; rw [take_succ_get h, List.foldl_append]; rfl

theorem sum53_ret (sb : ByteArray) (nm l : List Int) (hs : sb.data.toList.map (fun b => (b.toNat : Int)) = nm) (hb : Byt nm) (hn : nm.length ≤ 1000000) (hl : l.length ≤ 1000000) : Ret Tryd.prog 53 [.str sb, .sl (l.map encI) false] (encU (sumF nm l)) := by
  refine ret_of_awp Tryd.func53 rfl (Nat.le_of_ble_eq_true rfl) ?_
  refine awp_seq ?_
  refine awp_rw rfl ?_
  refine RW.op rfl rfl (eff_assign (v := .t _) rfl rfl rfl) ?_
  refine RW.nil ?_
  refine awp_seq ?_
  refine awp_rw rfl ?_
  refine RW.op rfl rfl (eff_assign (v := .t _) rfl rfl rfl) ?_
  refine RW.nil ?_
  refine awp_seq ?_
  refine awp_rw rfl ?_
  refine RW.op rfl rfl (eff_move (v := .t _) rfl rfl rfl) ?_
  refine RW.op rfl rfl (eff_convStr (ns := nm) rfl rfl tu9 te27 tu5 rfl hs) ?_
  refine RW.op rfl rfl (eff_callT (words69_ret nm hb hn) co69 rfl rfl rfl rfl) ?_
  refine RW.op rfl rfl (eff_assign (v := .t _) rfl rfl rfl) ?_
  refine RW.nil ?_
  refine awp_seq ?_
  refine awp_seq ?_
  refine awp_rw rfl ?_
  refine RW.op rfl rfl (eff_assign (v := .t _) rfl rfl rfl) ?_
  refine RW.nil ?_
  refine awp_block ?_
  refine awp_loopW (fun m s => ∃ (i : Nat), (i ≤ (wordsF nm).length) ∧ m = (wordsF nm).length - i ∧ s = ⟨48, [(0, .t (.str sb)), (1, .t (.sl (l.map encI) false)), (5, .t (encU (mixL ((wordsF nm).take i)))), (6, .t (.sl ((wordsF nm).map encU) false)), (7, .t (encI (i : Nat)))], []⟩) (_) (⟨_, weak_keep (n := 48) (fr' := [(0, .t (.str sb)), (1, .t (.sl (l.map encI) false)), (5, .t (encU (mixL ((wordsF nm).take 0)))), (6, .t (.sl ((wordsF nm).map encU) false)), (7, .t (encI (0 : Nat)))]) (st' := []) ⟨rfl, rfl, rfl, rfl, rfl, rfl, rfl, rfl, rfl, rfl, trivial⟩ trivial, 0, (by omega), rfl, rfl⟩) ?_
  rintro m s ⟨i, hi, rfl, rfl⟩
  have hwl := wordsF_len nm
  refine awp_seq ?_
  refine awp_seq ?_
  refine awp_rw rfl ?_
  refine RW.op rfl rfl (eff_move (v := .t _) rfl rfl rfl) ?_
  refine RW.op rfl rfl (eff_move (v := .t _) rfl rfl rfl) ?_
  refine RW.op rfl rfl (eff_lenM rfl rfl te109 rfl) ?_
  refine RW.op rfl rfl (eff_iop rfl rfl rfl rfl rfl) ?_
  refine RW.nil ?_
  refine awp_cond rfl (fun h1 => ?_) (fun h1 => ?_)
  · try simp only [decide_eq_true_eq, decide_eq_false_iff_not, beq_iff_eq, bne_iff_ne, bne_eq_false_iff_eq, beq_eq_false_iff_ne, Bool.not_eq_true, Bool.not_eq_false, Bool.not_eq_true', Bool.not_eq_false', ne_eq] at h1
    refine awp_skip ?_
    refine awp_seq ?_
    refine awp_block ?_
    refine awp_rw rfl ?_
    refine RW.op rfl rfl (eff_move (v := .t _) rfl rfl rfl) ?_
    refine RW.op rfl rfl (eff_move (v := .t _) rfl rfl rfl) ?_
    refine RW.op rfl rfl (eff_move (v := .t _) rfl rfl rfl) ?_
    refine RW.op rfl rfl (eff_indexM rfl rfl te109 rfl rfl rfl (by first | assumption | exact List.getElem?_eq_getElem (by omega)) rfl (by decide)) ?_
    refine RW.op rfl rfl (eff_loadW1 rfl rfl ti28 rfl rfl) ?_
    refine RW.op rfl rfl (eff_callT (mix52_ret _ _) co52 rfl rfl rfl rfl) ?_
    refine RW.op rfl rfl (eff_assign (v := .t (encU (mixL ((wordsF nm).take (i + 1))))) rfl rfl (by rw [mixL_take (by omega)]; rfl)) ?_
    refine RW.nil ?_
    refine awp_rw rfl ?_
    refine RW.op rfl rfl (eff_move (v := .t _) rfl rfl rfl) ?_
    refine RW.op rfl rfl (eff_iop rfl rfl rfl rfl (iadd (by omega))) ?_
    refine RW.op rfl rfl (eff_assign (v := .t _) rfl rfl rfl) ?_
    refine RW.nil ?_
    refine ⟨_, ?_, _, weak_keep (n := 48) (fr' := [(0, .t (.str sb)), (1, .t (.sl (l.map encI) false)), (5, .t (encU (mixL ((wordsF nm).take (i + 1))))), (6, .t (.sl ((wordsF nm).map encU) false)), (7, .t (encI ((i + 1) : Nat)))]) (st' := []) ⟨rfl, rfl, rfl, rfl, rfl, rfl, rfl, rfl, rfl, rfl, trivial⟩ trivial, i + 1, (by omega), rfl, rfl⟩
    omega
  · try simp only [decide_eq_true_eq, decide_eq_false_iff_not, beq_iff_eq, bne_iff_ne, bne_eq_false_iff_eq, beq_eq_false_iff_ne, Bool.not_eq_true, Bool.not_eq_false, Bool.not_eq_true', Bool.not_eq_false', ne_eq] at h1
    refine awp_exit ?_
    refine awp_seq ?_
    have hi2 : i = (wordsF nm).length := by omega
    subst hi2
    rw [List.take_length]
    refine awp_rw rfl ?_
    refine RW.op rfl rfl (eff_move (v := .t _) rfl rfl rfl) ?_
    refine RW.op rfl rfl (eff_move (v := .t _) rfl rfl rfl) ?_
    refine RW.op rfl rfl (eff_lenStr (n := (nm.length : Nat)) rfl rfl tu9 rfl (by rw [← hs]; simp <;> rfl)) ?_
    refine RW.op rfl rfl (eff_convIntE (m := toU (nm.length : Nat)) rfl rfl (by rw [tu3]; rfl) tu28 rfl rfl) ?_
    refine RW.op rfl rfl (eff_callT (mix52_ret _ _) co52 rfl rfl rfl rfl) ?_
    refine RW.op rfl rfl (eff_assign (v := .t _) rfl rfl rfl) ?_
    refine RW.nil ?_
    refine awp_seq ?_
    refine awp_rw rfl ?_
    refine RW.op rfl rfl (eff_move (v := .t _) rfl rfl rfl) ?_
    refine RW.op rfl rfl (eff_move (v := .t _) rfl rfl rfl) ?_
    refine RW.op rfl rfl (eff_lenM rfl rfl te26 rfl) ?_
    refine RW.op rfl rfl (eff_convIntE (m := toU (l.length : Nat)) rfl rfl (by rw [tu3]; rfl) tu28 rfl rfl) ?_
    refine RW.op rfl rfl (eff_callT (mix52_ret _ _) co52 rfl rfl rfl rfl) ?_
    refine RW.op rfl rfl (eff_assign (v := .t _) rfl rfl rfl) ?_
    refine RW.nil ?_
    refine awp_seq ?_
    refine awp_seq ?_
    refine awp_rw rfl ?_
    refine RW.op rfl rfl (eff_assign (v := .t _) rfl rfl rfl) ?_
    refine RW.nil ?_
    refine awp_block ?_
    refine awp_loopW (fun m s => ∃ (k : Nat), (k ≤ l.length) ∧ m = l.length - k ∧ s = ⟨48, [(1, .t (.sl (l.map encI) false)), (5, .t (encU (mixM (mixF (mixF (mixL (wordsF nm)) (toU nm.length)) (toU l.length)) (l.take k)))), (8, .t (encI (k : Nat)))], []⟩) (_) (⟨_, weak_keep (n := 48) (fr' := [(1, .t (.sl (l.map encI) false)), (5, .t (encU (mixM (mixF (mixF (mixL (wordsF nm)) (toU nm.length)) (toU l.length)) (l.take 0)))), (8, .t (encI (0 : Nat)))]) (st' := []) ⟨rfl, rfl, rfl, rfl, rfl, rfl, trivial⟩ trivial, 0, (by omega), rfl, rfl⟩) ?_
    rintro m s ⟨k, hk, rfl, rfl⟩
    refine awp_seq ?_
    refine awp_seq ?_
    refine awp_rw rfl ?_
    refine RW.op rfl rfl (eff_move (v := .t _) rfl rfl rfl) ?_
    refine RW.op rfl rfl (eff_move (v := .t _) rfl rfl rfl) ?_
    refine RW.op rfl rfl (eff_lenM rfl rfl te26 rfl) ?_
    refine RW.op rfl rfl (eff_iop rfl rfl rfl rfl rfl) ?_
    refine RW.nil ?_
    refine awp_cond rfl (fun h2 => ?_) (fun h2 => ?_)
    · try simp only [decide_eq_true_eq, decide_eq_false_iff_not, beq_iff_eq, bne_iff_ne, bne_eq_false_iff_eq, beq_eq_false_iff_ne, Bool.not_eq_true, Bool.not_eq_false, Bool.not_eq_true', Bool.not_eq_false', ne_eq] at h2
      refine awp_skip ?_
      refine awp_seq ?_
      refine awp_block ?_
      refine awp_rw rfl ?_
      have hkl : k < l.length := by omega
      refine RW.op rfl rfl (eff_move (v := .t _) rfl rfl rfl) ?_
      refine RW.op rfl rfl (eff_move (v := .t _) rfl rfl rfl) ?_
      refine RW.op rfl rfl (eff_move (v := .t _) rfl rfl rfl) ?_
      refine RW.op rfl rfl (eff_indexM rfl rfl te26 rfl rfl rfl (by first | assumption | exact List.getElem?_eq_getElem (by omega)) rfl (by decide)) ?_
      refine RW.op rfl rfl (eff_loadW1 rfl rfl ti3 rfl rfl) ?_
      refine RW.op rfl rfl (eff_convIntE (m := toU (l[k]'hkl)) rfl rfl (by rw [tu3]; rfl) tu28 rfl rfl) ?_
      refine RW.op rfl rfl (eff_callT (mix52_ret _ _) co52 rfl rfl rfl rfl) ?_
      refine RW.op rfl rfl (eff_assign (v := .t (encU (mixM (mixF (mixF (mixL (wordsF nm)) (toU nm.length)) (toU l.length)) (l.take (k + 1))))) rfl rfl (by rw [mixM_take (by omega)]; rfl)) ?_
      refine RW.nil ?_
      refine awp_rw rfl ?_
      refine RW.op rfl rfl (eff_move (v := .t _) rfl rfl rfl) ?_
      refine RW.op rfl rfl (eff_iop rfl rfl rfl rfl (iadd (by omega))) ?_
      refine RW.op rfl rfl (eff_assign (v := .t _) rfl rfl rfl) ?_
      refine RW.nil ?_
      refine ⟨_, ?_, _, weak_keep (n := 48) (fr' := [(1, .t (.sl (l.map encI) false)), (5, .t (encU (mixM (mixF (mixF (mixL (wordsF nm)) (toU nm.length)) (toU l.length)) (l.take (k + 1))))), (8, .t (encI ((k + 1) : Nat)))]) (st' := []) ⟨rfl, rfl, rfl, rfl, rfl, rfl, trivial⟩ trivial, k + 1, (by omega), rfl, rfl⟩
      omega
    · try simp only [decide_eq_true_eq, decide_eq_false_iff_not, beq_iff_eq, bne_iff_ne, bne_eq_false_iff_eq, beq_eq_false_iff_ne, Bool.not_eq_true, Bool.not_eq_false, Bool.not_eq_true', Bool.not_eq_false', ne_eq] at h2
      refine awp_exit ?_
      refine awp_seq ?_
      refine awp_rw rfl ?_
      refine RW.op rfl rfl (eff_move (v := .t _) rfl rfl rfl) ?_
      refine RW.op rfl rfl (eff_assign (v := .t _) rfl rfl rfl) ?_
      refine RW.nil ?_
      refine awp_ret ?_
      have hk2 : k = l.length := by omega
      subst hk2
      rw [show sumF nm l = mixM (mixF (mixF (mixL (wordsF nm)) (toU nm.length)) (toU l.length)) (l.take l.length) from by rw [List.take_length]; rfl]
      exact ⟨Or.inr rfl, [_], ⟨.tmp (.t _), trivial⟩, .refl _⟩

def tagB : ByteArray := ⟨#[116, 97, 103]⟩
theorem tagB_list : tagB.data.toList.map (fun b => (b.toNat : Int)) = tagName := by rfl
theorem tagName_byt : Byt tagName := by intro b hb; have : b = 116 ∨ b = 97 ∨ b = 103 := by simpa [tagName] using hb
                                        omega

theorem tag35_ret (k : Int) (d : List Int) (hb : Byt d) (hl : d.length ≤ 900000) : Ret Tryd.prog 35 [encU k, .sl (d.map encBy) false] (encU (tagF k d)) := by
  refine ret_of_awp Tryd.func35 rfl (Nat.le_of_ble_eq_true rfl) ?_
  refine awp_seq ?_
  refine awp_rw rfl ?_
  refine RW.op rfl rfl (eff_assign (v := .t _) rfl rfl rfl) ?_
  refine RW.nil ?_
  refine awp_seq ?_
  refine awp_rw rfl ?_
  refine RW.op rfl rfl (eff_move (v := .t _) rfl rfl rfl) ?_
  refine RW.op rfl rfl (eff_convIntE (m := toI k) rfl rfl (by rw [tu28]; rfl) tu3 rfl rfl) ?_
  refine RW.new rfl rfl (eff_buildSlice1 (id := 7) (els := [_]) rfl rfl te26 tz3 rfl (by decide) rfl rfl rfl rfl) ?_
  refine RW.op rfl rfl (eff_move (v := .t _) rfl rfl rfl) ?_
  refine RW.new rfl rfl (eff_callG (list54_retG (toI k) d 0 hb (by omega)) co54 (fun id => id + 7) rfl rfl rfl ⟨.own _ _ _ _ rfl rfl, .t _, trivial⟩ (.own _ _ _ _ rfl rfl) rfl ⟨⟨rfl, treeEls_t, ⟨_, rfl, (by show 0 < 0 + _ + 1; omega)⟩⟩, trivial⟩ ⟨⟨treeEls_t, .inl rfl⟩, trivial⟩) ?_
  refine RW.op rfl rfl (eff_callB (ys := [.str tagB, .sl ((listF [toI k] d).map encI) false]) (caps := []) rfl rfl rfl (.t _) co53 (ResL.cons (.t _) (.refl _) (ResL.cons (Res.ownM (xs := (listF [toI k] d).map encI) rfl (by simp)) (.refl _) .nil)) (by rw [List.append_nil]; exact sum53_ret tagB tagName _ tagB_list tagName_byt (by decide) (by rw [listF_len]; have := wordsF_len d; simp; omega)) rfl) ?_
  refine RW.op rfl rfl (eff_assign (v := .t _) rfl rfl rfl) ?_
  refine RW.nil ?_
  refine awp_ret ?_
  exact ⟨Or.inr rfl, [_], ⟨.tmp (.t _), trivial⟩, .refl _⟩

end Go.Tv.C34

end
section
open Go Go.Tv Go.Proofs
namespace Go.Tv.C34
set_option maxRecDepth 20000
set_option maxHeartbeats 2000000
set_option linter.unusedSimpArgs false
set_option linter.unusedVariables false
theorem words_iter (d : List Int) (hb : Byt d) (hl : d.length ≤ 1000000) (fl0 : Bool) : IterO Tryd.prog 105 [(1000, some ⟨1, 27, 0, [.t (.sl (d.map encBy) fl0)]⟩)] [.ptr 1000 0 0 0] ((wordsF d).map encU) := by
  refine iterO_of_awj Tryd.func105 rfl (Nat.le_of_ble_eq_true rfl) rfl ?_
  intro γ X hds At Stop yl hy g0 hAt
  refine awj_block ?_
  refine awj_loopW (fun m s g => ∃ (j : Nat) (fl : Bool) (ws : List Int), (wordsF d = ws ++ wordsF (d.drop (8 * j))) ∧ (ws.length = j) ∧ (At j g) ∧ m = d.length - 8 * j ∧ s = ⟨37, [(0, .t (.yld yl)), (1, .ptr 1000 0 0 0)], [(1000, some ⟨1, 27, 0, [.t (.sl ((d.drop (8 * j)).map encBy) fl)]⟩)]⟩) (_) (⟨_, weak_keep (n := 37) (fr' := [(0, .t (.yld yl)), (1, .ptr 1000 0 0 0)]) (st' := [(1000, some ⟨1, 27, 0, [.t (.sl ((d.drop (8 * 0)).map encBy) _)]⟩)]) ⟨rfl, rfl, rfl, rfl, trivial⟩ ⟨rfl, okE_one rfl, trivial⟩, 0, _, [], (by rfl), (by rfl), (by exact hAt), rfl, rfl⟩) ?_
  rintro m s g ⟨j, fl, ws, hw, hj, hA, rfl, rfl⟩
  have hdl : (d.drop (8 * j)).length = d.length - 8 * j := List.length_drop
  have hcl := chkW_len d j
  refine awj_seq ?_
  refine awj_seq ?_
  refine awj_rj rfl ?_
  refine RJ.op rfl rfl (eff_load (y := .t _) rfl rfl ti27 rfl (.one rfl rfl rfl rfl)) ?_
  refine RJ.op rfl rfl (eff_lenM rfl rfl te27 rfl) ?_
  refine RJ.op rfl rfl (eff_iop rfl rfl rfl rfl rfl) ?_
  refine RJ.nil ?_
  refine awj_cond rfl (fun h1 => ?_) (fun h1 => ?_)
  · try simp only [decide_eq_true_eq, decide_eq_false_iff_not, beq_iff_eq, bne_iff_ne, bne_eq_false_iff_eq, beq_eq_false_iff_ne, Bool.not_eq_true, Bool.not_eq_false, Bool.not_eq_true', Bool.not_eq_false', ne_eq] at h1
    refine awj_skip ?_
    refine awj_block ?_
    refine awj_seq ?_
    refine awj_rj rfl ?_
    refine RJ.op rfl rfl (eff_load (y := .t _) rfl rfl ti27 rfl (.one rfl rfl rfl rfl)) ?_
    refine RJ.op rfl rfl (eff_lenM rfl rfl te27 rfl) ?_
    refine RJ.op rfl rfl (eff_minE (r := (((chkW d j).length : Nat) : Int)) rfl rfl rfl rfl (by unfold imin; split <;> omega)) ?_
    refine RJ.op rfl rfl (eff_assign (v := .t _) rfl rfl rfl) ?_
    refine RJ.nil ?_
    refine awj_seq ?_
    refine awj_rj rfl ?_
    refine RJ.op rfl rfl (eff_assign (v := .t _) rfl rfl rfl) ?_
    refine RJ.nil ?_
    refine awj_seq ?_
    refine awj_seq ?_
    refine awj_rj rfl ?_
    refine RJ.op rfl rfl (eff_load (y := .t _) rfl rfl ti27 rfl (.one rfl rfl rfl rfl)) ?_
    refine RJ.op rfl rfl (eff_move (v := .t _) rfl rfl rfl) ?_
    refine RJ.op rfl rfl (eff_sliceM (g := encBy) (l := none) (h := some (chkW d j).length) (r := (chkW d j)) rfl rfl te27 rfl (fun _ => rfl) .no (.yes rfl rfl) (Nat.zero_le _) (by show (chkW d j).length ≤ _; omega) (by show (List.take (chkW d j).length _).drop 0 = _; rw [List.drop_zero, chkW_take])) ?_
    refine RJ.op rfl rfl (eff_lenM rfl rfl te27 rfl) ?_
    refine RJ.op rfl rfl (eff_move (v := .t _) rfl rfl rfl) ?_
    refine RJ.nil ?_
    refine awj_block ?_
    refine awj_loopW (fun m s g => ∃ (c : Nat), (c ≤ (chkW d j).length) ∧ (At j g) ∧ m = (chkW d j).length - c ∧ s = ⟨37, [(0, .t (.yld yl)), (1, .ptr 1000 0 0 0), (3, .t (encI ((chkW d j).length : Nat))), (4, .t (encU (leN ((chkW d j).take c)))), (15, .t (.sl ((chkW d j).map encBy) false)), (16, .t (encI (chkW d j).length)), (17, .t (encI (c : Nat)))], [(1000, some ⟨1, 27, 0, [.t (.sl ((d.drop (8 * j)).map encBy) fl)]⟩)]⟩) (_) (⟨_, weak_keep (n := 37) (fr' := [(0, .t (.yld yl)), (1, .ptr 1000 0 0 0), (3, .t (encI ((chkW d j).length : Nat))), (4, .t (encU (leN ((chkW d j).take 0)))), (15, .t (.sl ((chkW d j).map encBy) false)), (16, .t (encI (chkW d j).length)), (17, .t (encI (0 : Nat)))]) (st' := [(1000, some ⟨1, 27, 0, [.t (.sl ((d.drop (8 * j)).map encBy) fl)]⟩)]) ⟨rfl, rfl, rfl, rfl, rfl, rfl, rfl, rfl, rfl, rfl, rfl, rfl, rfl, rfl, trivial⟩ ⟨rfl, okE_one rfl, trivial⟩, 0, (by omega), (by exact hA), rfl, rfl⟩) ?_
    rintro m s g ⟨c, hc, hA, rfl, rfl⟩
    refine awj_seq ?_
    refine awj_rj rfl ?_
    refine RJ.op rfl rfl (eff_iop rfl rfl rfl rfl rfl) ?_
    refine RJ.nil ?_
    refine awj_seq ?_
    refine awj_cond rfl (fun h2 => ?_) (fun h2 => ?_)
    · try simp only [decide_eq_true_eq, decide_eq_false_iff_not, beq_iff_eq, bne_iff_ne, bne_eq_false_iff_eq, beq_eq_false_iff_ne, Bool.not_eq_true, Bool.not_eq_false, Bool.not_eq_true', Bool.not_eq_false', ne_eq] at h2
      refine awj_skip ?_
      refine awj_seq ?_
      refine awj_block ?_
      refine awj_seq ?_
      refine awj_rj rfl ?_
      refine RJ.op rfl rfl (eff_move (v := .t _) rfl rfl rfl) ?_
      refine RJ.op rfl rfl (eff_indexM rfl rfl te27 rfl rfl rfl (by first | assumption | exact List.getElem?_eq_getElem (by omega)) rfl (by decide)) ?_
      refine RJ.op rfl rfl (eff_loadW1 rfl rfl ti5 rfl rfl) ?_
      refine RJ.op rfl rfl (eff_assign (v := .t _) rfl rfl rfl) ?_
      refine RJ.op rfl rfl (eff_assign (v := .t _) rfl rfl rfl) ?_
      refine RJ.nil ?_
      refine awj_rj rfl ?_
      have hcb := chkW_byt hb j
      have hcc : c < (chkW d j).length := by omega
      have hc7 : c ≤ 7 := by omega
      have hbx := hcb _ (List.getElem_mem hcc)
      have hlt := leN_take hcc
      have hlr := leN_range ((chkW d j).take c) (fun x hx => hcb x (List.mem_of_mem_take hx))
      rw [List.length_take, Nat.min_eq_left (by omega)] at hlr
      refine RJ.op rfl rfl (eff_move (v := .t _) rfl rfl rfl) ?_
      refine RJ.op rfl rfl (eff_move (v := .t _) rfl rfl rfl) ?_
      refine RJ.op rfl rfl (eff_convIntE (m := (chkW d j)[c]'hcc) rfl rfl (by rw [tu5]; rfl) tu28 rfl (wrapU64 hbx.1 (by omega))) ?_
      refine RJ.op rfl rfl (eff_move (v := .t _) rfl rfl rfl) ?_
      refine RJ.op rfl rfl (eff_iop rfl rfl rfl rfl (imul (by omega))) ?_
      refine RJ.op rfl rfl (eff_shlE (r := 256 ^ c * (chkW d j)[c]'hcc) rfl rfl rfl rfl (by omega) (shl_u64 hc7 hbx)) ?_
      refine RJ.op rfl rfl (eff_iop (r := encU (leN ((chkW d j).take (c + 1)))) rfl rfl rfl rfl (by rw [hlt]; exact or_u64 hc7 hlr hbx)) ?_
      refine RJ.op rfl rfl (eff_assign (v := .t _) rfl rfl rfl) ?_
      refine RJ.nil ?_
      refine awj_rj rfl ?_
      refine RJ.op rfl rfl (eff_iop rfl rfl rfl rfl (iadd (by omega))) ?_
      refine RJ.op rfl rfl (eff_move (v := .t _) rfl rfl rfl) ?_
      refine RJ.nil ?_
      refine ⟨_, ?_, _, weak_keep (n := 37) (fr' := [(0, .t (.yld yl)), (1, .ptr 1000 0 0 0), (3, .t (encI ((chkW d j).length : Nat))), (4, .t (encU (leN ((chkW d j).take (c + 1))))), (15, .t (.sl ((chkW d j).map encBy) false)), (16, .t (encI (chkW d j).length)), (17, .t (encI ((c + 1) : Nat)))]) (st' := [(1000, some ⟨1, 27, 0, [.t (.sl ((d.drop (8 * j)).map encBy) fl)]⟩)]) ⟨rfl, rfl, rfl, rfl, rfl, rfl, rfl, rfl, rfl, rfl, rfl, rfl, rfl, rfl, trivial⟩ ⟨rfl, okE_one rfl, trivial⟩, c + 1, (by omega), (by exact hA), rfl, rfl⟩
      omega
    · try simp only [decide_eq_true_eq, decide_eq_false_iff_not, beq_iff_eq, bne_iff_ne, bne_eq_false_iff_eq, beq_eq_false_iff_ne, Bool.not_eq_true, Bool.not_eq_false, Bool.not_eq_true', Bool.not_eq_false', ne_eq] at h2
      refine awj_exit ?_
      refine awj_seq ?_
      refine awj_seq ?_
      have hce : c = (chkW d j).length := by omega
      subst hce
      rw [List.take_length]
      refine awj_rj rfl ?_
      refine RJ.op rfl rfl (eff_move (v := .t _) rfl rfl rfl) ?_
      refine RJ.op rfl rfl (eff_move (v := .t _) rfl rfl rfl) ?_
      have hpos : ((wordsF d).map encU)[j]? = some (encU (leN (chkW d j))) := by
        rw [List.getElem?_map, words_get hw hj (by omega)]; rfl
      refine RJ.many (.inl rfl) (eff_yield rfl rfl rfl rfl hds (hy _ _ _ hpos hA)) ?_
      rintro e g2 ⟨yb, rfl, hyb⟩
      show RJ _ _ _ _ _ ⟨_, (32, .t (.bool yb)) :: _, _⟩ _ _
      refine RJ.op rfl rfl (eff_unop rfl rfl rfl rfl) ?_
      refine RJ.nil ?_
      refine awj_cond rfl (fun h3 => ?_) (fun h3 => ?_)
      · try simp only [decide_eq_true_eq, decide_eq_false_iff_not, beq_iff_eq, bne_iff_ne, bne_eq_false_iff_eq, beq_eq_false_iff_ne, Bool.not_eq_true, Bool.not_eq_false, Bool.not_eq_true', Bool.not_eq_false', ne_eq] at h3
        refine awj_ret ?_
        rcases hyb with ⟨h, _⟩ | ⟨_, h⟩
        · rw [h] at h3; simp at h3
        · exact ⟨Or.inr rfl, Or.inr h⟩
      · try simp only [decide_eq_true_eq, decide_eq_false_iff_not, beq_iff_eq, bne_iff_ne, bne_eq_false_iff_eq, beq_eq_false_iff_ne, Bool.not_eq_true, Bool.not_eq_false, Bool.not_eq_true', Bool.not_eq_false', ne_eq] at h3
        refine awj_skip ?_
        refine awj_rj rfl ?_
        have hA2 : At (j + 1) g2 := by rcases hyb with ⟨_, h⟩ | ⟨h, _⟩; exact h; (rw [h] at h3; simp at h3)
        refine RJ.op rfl rfl (eff_load (y := .t _) rfl rfl ti27 rfl (.one rfl rfl rfl rfl)) ?_
        refine RJ.op rfl rfl (eff_move (v := .t _) rfl rfl rfl) ?_
        refine RJ.op rfl rfl (eff_sliceM (g := encBy) (l := some (chkW d j).length) (h := none) (r := d.drop (8 * (j + 1))) rfl rfl te27 rfl (fun _ => rfl) (.yes rfl rfl) .no (by show (chkW d j).length ≤ (d.drop (8 * j)).length; omega) (by show List.length _ ≤ _; exact Nat.le_refl _) (by show (List.take (List.length _) _).drop (chkW d j).length = _; rw [List.take_length]; exact chkW_drop d j)) ?_
        refine RJ.store rfl rfl (eff_storeW (v := .t _) (els := [_]) (els' := [_]) rfl rfl ti27 rfl rfl rfl rfl rfl rfl rfl rfl rfl) ?_
        refine RJ.nil ?_
        refine ⟨_, ?_, _, weak_keep (n := 37) (fr' := [(0, .t (.yld yl)), (1, .ptr 1000 0 0 0)]) (st' := [(1000, some ⟨1, 27, 0, [.t (.sl ((d.drop (8 * (j + 1))).map encBy) _)]⟩)]) ⟨rfl, rfl, rfl, rfl, trivial⟩ ⟨rfl, okE_one rfl, trivial⟩, j + 1, _, _, (by rw [hw, words_step (by omega), List.append_cons]), (by simp [hj]), (by exact hA2), rfl, rfl⟩
        omega
  · try simp only [decide_eq_true_eq, decide_eq_false_iff_not, beq_iff_eq, bne_iff_ne, bne_eq_false_iff_eq, beq_eq_false_iff_ne, Bool.not_eq_true, Bool.not_eq_false, Bool.not_eq_true', Bool.not_eq_false', ne_eq] at h1
    refine awj_exit ?_
    rw [words_done (by omega), List.append_nil] at hw
    exact ⟨Or.inl rfl, Or.inl (by rw [List.length_map, hw, hj]; exact hA)⟩

end Go.Tv.C34

end
section
open Go Go.Tv Go.Proofs
namespace Go.Tv.C34
set_option maxRecDepth 20000
set_option maxHeartbeats 2000000
set_option linter.unusedSimpArgs false
set_option linter.unusedVariables false
theorem words99_retG (d : List Int) (fl : Bool) : RetG Tryd.prog 99 [] [.t (.sl (d.map encBy) fl)] [(1, some ⟨1, 27, 0, [.t (.sl (d.map encBy) fl)]⟩)] (.fn 105 [.ptr 1 0 0 0]) := by
  refine retG_of_awp Tryd.func99 rfl (Nat.le_of_ble_eq_true rfl) ?_
  refine awp_seq ?_
  refine awp_rw rfl ?_
  refine RW.new rfl rfl (eff_boxK (v := .t _) (k := 1) (id := 1) rfl rfl rfl rfl rfl rfl) ?_
  refine RW.op rfl rfl (eff_assign (v := .t _) rfl rfl rfl) ?_
  refine RW.nil ?_
  refine awp_seq ?_
  refine awp_rw rfl ?_
  refine RW.op rfl rfl (eff_makeFunc rfl rfl rfl rfl) ?_
  refine RW.op rfl rfl (eff_assign (v := .fn _ _) rfl rfl rfl) ?_
  refine RW.nil ?_
  refine awp_ret ?_
  exact ⟨Or.inr rfl, [_], [.fn 105 [.ptr 1 0 0 0]], ⟨.tmp rfl, trivial⟩, rfl, weak_keep ⟨rfl, rfl, trivial⟩ ⟨rfl, okE_one rfl, trivial⟩, rfl⟩

theorem renA_fn1 {σ : Sto} {ren : Nat → Nat} {f : FuncId} {id g n : Nat} (h : (sget σ id).isSome = true) (hn : ren id = n) : RenA σ ren (.fn f [.ptr id g 0 0]) (.fn f [.ptr n g 0 0]) :=
  .fn f _ _ rfl (fun i c d hc hd => by
    match i with
    | 0 => simp at hc hd; subst hc hd; exact .ptr id g 0 0 h hn
    | i + 1 => simp at hc)
theorem words_at {ws : List Int} {i : Nat} {x : Tr} (h : (ws.map encU)[i]? = some x) : ∃ hi : i < ws.length, x = encU (ws[i]'hi) := by
  rw [List.getElem?_map, Option.map_eq_some_iff] at h
  obtain ⟨y, hy, rfl⟩ := h
  have hi : i < ws.length := by
    rcases Nat.lt_or_ge i ws.length with h | h
    · exact h
    · rw [List.getElem?_eq_none h] at hy; cases hy
  rw [List.getElem?_eq_getElem hi] at hy
  cases hy
  exact ⟨hi, rfl⟩

theorem treeEls_one {k g : Nat} {ty : TypeId} {x : Tr} : treeEls ⟨k, ty, g, [.t x]⟩ := fun y hy => by rw [List.mem_singleton.1 hy]; exact ⟨x, rfl⟩

theorem sum85_ret (sb : ByteArray) (nm l : List Int) (hs : sb.data.toList.map (fun b => (b.toNat : Int)) = nm) (hb : Byt nm) (hn : nm.length ≤ 1000000) (hl : l.length ≤ 1000000) : Ret Tryd.prog 85 [.str sb, .sl (l.map encI) false] (encU (sumF nm l)) := by
  refine ret_of_awj Tryd.func85 rfl (Nat.le_of_ble_eq_true rfl) ?_
  intro F0 w0
  refine awj_seq ?_
  refine awj_rj rfl ?_
  refine RJ.op rfl rfl (eff_assign (v := .t _) rfl rfl rfl) ?_
  refine RJ.nil ?_
  refine awj_seq ?_
  refine awj_rj rfl ?_
  refine RJ.new rfl rfl (eff_allocK (k := 1) (id := 5) rfl rfl tz28 rfl rfl) ?_
  refine RJ.store rfl rfl (eff_storeW (v := .t _) (els := [_]) (els' := [_]) rfl rfl ti28 rfl rfl rfl rfl rfl rfl rfl rfl rfl) ?_
  refine RJ.nil ?_
  refine awj_seq ?_
  refine awj_seq ?_
  refine awj_rj rfl ?_
  refine RJ.op rfl rfl (eff_move (v := .t _) rfl rfl rfl) ?_
  refine RJ.op rfl rfl (eff_convStr (ns := nm) rfl rfl tu9 te27 tu5 rfl hs) ?_
  refine RJ.new rfl rfl (eff_callG (words99_retG nm false) co99 (fun _ => 1000) rfl rfl rfl ⟨.t _, trivial⟩ (renA_fn1 rfl rfl) rfl trivial ⟨⟨treeEls_one, .inr rfl⟩, trivial⟩) ?_
  refine RJ.nil ?_
  refine awj_block ?_
  refine awj_rangeFuncO (kp' := fun j => [0, 1, 5].elem j) (f := 105) (fr1 := [(0, .t (.str sb)), (1, .t (.sl (l.map encI) false)), (5, .ptr 5 0 0 0)]) (st1 := [(5, some ⟨1, 28, 0, [.t (encU (mixL ((wordsF nm).take (0))))]⟩)]) rfl co105 (words_iter nm hb hn false) rfl ⟨rfl, okE_one rfl, trivial⟩ ⟨rfl, okE_one rfl, trivial⟩ ⟨rfl, rfl, rfl, rfl, rfl, rfl, trivial⟩ ⟨rfl, trivial⟩ rfl rfl rfl (fun i s1 => s1 = ⟨37, [(0, .t (.str sb)), (1, .t (.sl (l.map encI) false)), (5, .ptr 5 0 0 0)], [(5, some ⟨1, 28, 0, [.t (encU (mixL ((wordsF nm).take (i))))]⟩)]⟩) (fun c s => False) (rfl) (fun i s1 hI => by subst hI; exact ⟨rfl, kept_of rfl⟩) (fun c s1 hI => hI.elim) ?_ ?_ ?_
  · intro rl i x s1 hI hx F1 w1
    obtain ⟨hi, rfl⟩ := words_at hx
    have hmt := mixL_take hi
    subst hI
    show AWJ _ _ _ _ _ ⟨37, _, _⟩ _ _
    refine awj_rj rfl ?_
    refine RJ.op rfl rfl (eff_assign (v := .t _) rfl rfl rfl) ?_
    refine RJ.nil ?_
    refine ⟨rfl, rfl, fun F2 w2 => ?_⟩
    refine awj_block ?_
    refine awj_rj rfl ?_
    refine RJ.op rfl rfl (eff_load (y := .t _) rfl rfl ti28 rfl (.one rfl rfl rfl rfl)) ?_
    refine RJ.op rfl rfl (eff_move (v := .t _) rfl rfl rfl) ?_
    refine RJ.op rfl rfl (eff_callT (mix98_ret _ _) co98 rfl rfl rfl rfl) ?_
    refine RJ.store rfl rfl (eff_storeW (v := .t _) (els := [_]) (els' := [_]) rfl rfl ti28 rfl rfl rfl rfl rfl rfl rfl rfl rfl) ?_
    refine RJ.nil ?_
    exact ⟨rfl, ⟨37, [(0, .t (.str sb)), (1, .t (.sl (l.map encI) false)), (5, .ptr 5 0 0 0)], [(5, some ⟨1, 28, 0, [.t (encU (mixL ((wordsF nm).take (i + 1))))]⟩)]⟩, weak_keep (n := 37) ⟨rfl, rfl, rfl, rfl, rfl, rfl, trivial⟩ ⟨by rw [hmt]; rfl, okE_one rfl, trivial⟩, rfl⟩
  · intro D s1 hI
    rw [List.length_map, List.take_length] at hI
    subst hI
    refine awj_seq ?_
    refine awj_rj rfl ?_
    refine RJ.op rfl rfl (eff_load (y := .t _) rfl rfl ti28 rfl (.one rfl rfl rfl rfl)) ?_
    refine RJ.op rfl rfl (eff_move (v := .t _) rfl rfl rfl) ?_
    refine RJ.op rfl rfl (eff_lenStr (n := (nm.length : Nat)) rfl rfl tu9 rfl (by rw [← hs]; simp <;> rfl)) ?_
    refine RJ.op rfl rfl (eff_convIntE (m := toU (nm.length : Nat)) rfl rfl (by rw [tu3]; rfl) tu28 rfl rfl) ?_
    refine RJ.op rfl rfl (eff_callT (mix98_ret _ _) co98 rfl rfl rfl rfl) ?_
    refine RJ.op rfl rfl (eff_move (v := .t _) rfl rfl rfl) ?_
    refine RJ.op rfl rfl (eff_lenM rfl rfl te26 rfl) ?_
    refine RJ.op rfl rfl (eff_convIntE (m := toU (l.length : Nat)) rfl rfl (by rw [tu3]; rfl) tu28 rfl rfl) ?_
    refine RJ.op rfl rfl (eff_callT (mix98_ret _ _) co98 rfl rfl rfl rfl) ?_
    refine RJ.store rfl rfl (eff_storeW (v := .t _) (els := [_]) (els' := [_]) rfl rfl ti28 rfl rfl rfl rfl rfl rfl rfl rfl rfl) ?_
    refine RJ.nil ?_
    refine awj_seq ?_
    refine awj_seq ?_
    refine awj_rj rfl ?_
    refine RJ.op rfl rfl (eff_move (v := .t _) rfl rfl rfl) ?_
    refine RJ.op rfl rfl (eff_lenM rfl rfl te26 rfl) ?_
    refine RJ.op rfl rfl (eff_move (v := .t _) rfl rfl rfl) ?_
    refine RJ.nil ?_
    refine awj_block ?_
    refine awj_loopW (fun m s g => ∃ (k : Nat), (k ≤ l.length) ∧ m = l.length - k ∧ s = ⟨37, [(5, .ptr 5 0 0 0), (25, .t (.sl (l.map encI) false)), (26, .t (encI l.length)), (27, .t (encI (k : Nat)))], [(5, some ⟨1, 28, 0, [.t (encU (mixM (mixF (mixF (mixL (wordsF nm)) (toU nm.length)) (toU l.length)) (l.take k)))]⟩)]⟩) (_) (⟨_, weak_keep (n := 37) (fr' := [(5, .ptr 5 0 0 0), (25, .t (.sl (l.map encI) false)), (26, .t (encI l.length)), (27, .t (encI (0 : Nat)))]) (st' := [(5, some ⟨1, 28, 0, [.t (encU (mixM (mixF (mixF (mixL (wordsF nm)) (toU nm.length)) (toU l.length)) (l.take 0)))]⟩)]) ⟨rfl, rfl, rfl, rfl, rfl, rfl, rfl, rfl, trivial⟩ ⟨by first | rfl | (rw [hmt]; rfl), okE_one rfl, trivial⟩, 0, (by omega), rfl, rfl⟩) ?_
    rintro m s g ⟨k, hk, rfl, rfl⟩
    refine awj_seq ?_
    refine awj_rj rfl ?_
    refine RJ.op rfl rfl (eff_iop rfl rfl rfl rfl rfl) ?_
    refine RJ.nil ?_
    refine awj_seq ?_
    refine awj_cond rfl (fun h1 => ?_) (fun h1 => ?_)
    · try simp only [decide_eq_true_eq, decide_eq_false_iff_not, beq_iff_eq, bne_iff_ne, bne_eq_false_iff_eq, beq_eq_false_iff_ne, Bool.not_eq_true, Bool.not_eq_false, Bool.not_eq_true', Bool.not_eq_false', ne_eq] at h1
      refine awj_skip ?_
      refine awj_seq ?_
      refine awj_block ?_
      refine awj_seq ?_
      refine awj_rj rfl ?_
      refine RJ.op rfl rfl (eff_indexM rfl rfl te26 rfl rfl rfl (by first | assumption | exact List.getElem?_eq_getElem (by omega)) rfl (by decide)) ?_
      refine RJ.op rfl rfl (eff_loadW1 rfl rfl ti3 rfl rfl) ?_
      refine RJ.op rfl rfl (eff_assign (v := .t _) rfl rfl rfl) ?_
      refine RJ.nil ?_
      refine awj_rj rfl ?_
      have hkl : k < l.length := by omega
      refine RJ.op rfl rfl (eff_load (y := .t _) rfl rfl ti28 rfl (.one rfl rfl rfl rfl)) ?_
      refine RJ.op rfl rfl (eff_move (v := .t _) rfl rfl rfl) ?_
      refine RJ.op rfl rfl (eff_convIntE (m := toU (l[k]'hkl)) rfl rfl (by rw [tu3]; rfl) tu28 rfl rfl) ?_
      refine RJ.op rfl rfl (eff_callT (mix98_ret _ _) co98 rfl rfl rfl rfl) ?_
      refine RJ.store rfl rfl (eff_storeW (v := .t _) (els := [_]) (els' := [_]) rfl rfl ti28 rfl rfl rfl rfl rfl rfl rfl rfl rfl) ?_
      refine RJ.nil ?_
      refine awj_rj rfl ?_
      refine RJ.op rfl rfl (eff_iop rfl rfl rfl rfl (iadd (by omega))) ?_
      refine RJ.op rfl rfl (eff_move (v := .t _) rfl rfl rfl) ?_
      refine RJ.nil ?_
      have hmt := mixM_take (h0 := (mixF (mixF (mixL (wordsF nm)) (toU nm.length)) (toU l.length))) (l := l) (i := k) (by omega)
      refine ⟨_, ?_, _, weak_keep (n := 37) (fr' := [(5, .ptr 5 0 0 0), (25, .t (.sl (l.map encI) false)), (26, .t (encI l.length)), (27, .t (encI ((k + 1) : Nat)))]) (st' := [(5, some ⟨1, 28, 0, [.t (encU (mixM (mixF (mixF (mixL (wordsF nm)) (toU nm.length)) (toU l.length)) (l.take (k + 1))))]⟩)]) ⟨rfl, rfl, rfl, rfl, rfl, rfl, rfl, rfl, trivial⟩ ⟨by first | rfl | (rw [hmt]; rfl), okE_one rfl, trivial⟩, k + 1, (by omega), rfl, rfl⟩
      omega
    · try simp only [decide_eq_true_eq, decide_eq_false_iff_not, beq_iff_eq, bne_iff_ne, bne_eq_false_iff_eq, beq_eq_false_iff_ne, Bool.not_eq_true, Bool.not_eq_false, Bool.not_eq_true', Bool.not_eq_false', ne_eq] at h1
      refine awj_exit ?_
      refine awj_seq ?_
      refine awj_rj rfl ?_
      refine RJ.op rfl rfl (eff_load (y := .t _) rfl rfl ti28 rfl (.one rfl rfl rfl rfl)) ?_
      refine RJ.op rfl rfl (eff_assign (v := .t _) rfl rfl rfl) ?_
      refine RJ.nil ?_
      refine awj_ret ?_
      have hk2 : k = l.length := by omega
      subst hk2
      rw [show sumF nm l = mixM (mixF (mixF (mixL (wordsF nm)) (toU nm.length)) (toU l.length)) (l.take l.length) from by rw [List.take_length]; rfl]
      exact ⟨Or.inr rfl, [_], ⟨.tmp (.t _), trivial⟩, .refl _⟩
  · intro D c s1 hI
    exact hI.elim

theorem with86_ret (k : Int) (d : List Int) (hb : Byt d) (hl : d.length ≤ 1000000) (hd : d ≠ []) : Ret Tryd.prog 86 [.sl ([k].map encI) true, .sl (d.map encBy) false] (.sl ((listF [k] d).map encI) false) := by
  refine ret_of_awj Tryd.func86 rfl (Nat.le_of_ble_eq_true rfl) ?_
  intro F0 w0
  refine awj_seq ?_
  refine awj_rj rfl ?_
  refine RJ.new rfl rfl (eff_boxK (v := .t _) (k := 1) (id := 2) rfl rfl rfl rfl rfl rfl) ?_
  refine RJ.op rfl rfl (eff_assign (v := .t _) rfl rfl rfl) ?_
  refine RJ.nil ?_
  refine awj_seq ?_
  refine awj_seq ?_
  refine awj_rj rfl ?_
  refine RJ.op rfl rfl (eff_move (v := .t _) rfl rfl rfl) ?_
  refine RJ.new rfl rfl (eff_callG (words99_retG d false) co99 (fun _ => 1000) rfl rfl rfl ⟨.t _, trivial⟩ (renA_fn1 rfl rfl) rfl trivial ⟨⟨treeEls_one, .inr rfl⟩, trivial⟩) ?_
  refine RJ.nil ?_
  refine awj_block ?_
  refine awj_rangeFuncO (kp' := fun j => [1, 2].elem j) (f := 105) (fr1 := [(1, .t (.sl (d.map encBy) false)), (2, .ptr 2 0 0 0)]) (st1 := [(2, some ⟨1, 26, 0, [.t (.sl ([k].map encI) true)]⟩)]) rfl co105 (words_iter d hb hl false) rfl ⟨rfl, okE_one rfl, trivial⟩ ⟨rfl, okE_one rfl, trivial⟩ ⟨rfl, rfl, rfl, rfl, trivial⟩ ⟨rfl, trivial⟩ rfl rfl rfl (fun i s1 => (i = 0 ∧ s1 = ⟨19, [(1, .t (.sl (d.map encBy) false)), (2, .ptr 2 0 0 0)], [(2, some ⟨1, 26, 0, [.t (.sl ([k].map encI) true)]⟩)]⟩) ∨ (0 < i ∧ ∃ g, s1 = ⟨19, [(1, .t (.sl (d.map encBy) false)), (2, .ptr 2 0 0 0)], [(2, some ⟨1, 26, 0, [.own 13 g 0 (1 + (i))]⟩), (13, some ⟨1, 3, g, ((([k] ++ ((wordsF d).take (i)).map toI).map encI).map AV.t)⟩)]⟩)) (fun c s => False) (.inl ⟨rfl, rfl⟩) (fun i s1 hI => by rcases hI with ⟨_, rfl⟩ | ⟨_, g, rfl⟩ <;> exact ⟨rfl, kept_of rfl⟩) (fun c s1 hI => hI.elim) ?_ ?_ ?_
  · intro rl i x s1 hI hx F1 w1
    obtain ⟨hi, rfl⟩ := words_at hx
    have hle := le86 (k := k) hi
    have hwl := wordsF_len d
    rcases hI with ⟨hi0, rfl⟩ | ⟨hi0, g, rfl⟩
    · show AWJ _ _ _ _ _ ⟨19, _, _⟩ _ _
      refine awj_rj rfl ?_
      refine RJ.op rfl rfl (eff_assign (v := .t _) rfl rfl rfl) ?_
      refine RJ.nil ?_
      refine ⟨rfl, rfl, fun F2 w2 => ?_⟩
      refine awj_block ?_
      refine awj_rj rfl ?_
      refine RJ.op rfl rfl (eff_load (y := .t _) rfl rfl ti26 rfl (.one rfl rfl rfl rfl)) ?_
      refine RJ.op rfl rfl (eff_move (v := .t _) rfl rfl rfl) ?_
      refine RJ.op rfl rfl (eff_convIntE (m := toI ((wordsF d)[i]'hi)) rfl rfl (by rw [tu28]; rfl) tu3 rfl rfl) ?_
      refine RJ.new rfl rfl (eff_buildSlice1 (id := 12) (els := [_]) rfl rfl te26 tz3 rfl (by decide) rfl rfl rfl rfl) ?_
      refine RJ.new rfl rfl (eff_appendNew (id := 13) (ys := [_]) rfl rfl ta26 rfl rfl (fun z hz => by obtain ⟨q, _, rfl⟩ := List.mem_map.1 hz; rfl) (srcOwn rfl rfl rfl rfl rfl rfl) (Nat.le_of_ble_eq_true rfl) (by simp) (by simp)) ?_
      refine RJ.store rfl rfl (eff_storeW (v := .own _ _ _ _) (els := [_]) (els' := [_]) rfl rfl ti26 rfl rfl rfl rfl rfl rfl rfl rfl rfl) ?_
      refine RJ.nil ?_
      exact ⟨rfl, ⟨19, [(1, .t (.sl (d.map encBy) false)), (2, .ptr 2 0 0 0)], [(2, some ⟨1, 26, 0, [.own 13 0 0 (1 + (i + 1))]⟩), (13, some ⟨1, 3, 0, ((([k] ++ ((wordsF d).take (i + 1)).map toI).map encI).map AV.t)⟩)]⟩, weak_keep (n := 19) ⟨rfl, rfl, rfl, rfl, trivial⟩ ⟨by subst hi0; rfl, okE_one rfl, by rw [hle]; subst hi0; rfl, okE_t, trivial⟩, .inr ⟨by omega, 0, rfl⟩⟩
    · show AWJ _ _ _ _ _ ⟨19, _, _⟩ _ _
      refine awj_rj rfl ?_
      refine RJ.op rfl rfl (eff_assign (v := .t _) rfl rfl rfl) ?_
      refine RJ.nil ?_
      refine ⟨rfl, rfl, fun F2 w2 => ?_⟩
      refine awj_block ?_
      refine awj_rj rfl ?_
      refine RJ.op rfl rfl (eff_load (y := .own _ _ _ _) rfl rfl ti26 rfl (.one rfl rfl rfl rfl)) ?_
      refine RJ.op rfl rfl (eff_move (v := .t _) rfl rfl rfl) ?_
      refine RJ.op rfl rfl (eff_convIntE (m := toI ((wordsF d)[i]'hi)) rfl rfl (by rw [tu28]; rfl) tu3 rfl rfl) ?_
      refine RJ.new rfl rfl (eff_buildSlice1 (id := 12) (els := [_]) rfl rfl te26 tz3 rfl (by decide) rfl rfl rfl rfl) ?_
      refine RJ.new rfl rfl (eff_append (id := 13) (ys := [_]) rfl rfl ta26 rfl rfl rfl (by simp; omega) rfl rfl (srcOwn rfl rfl rfl rfl rfl rfl) (by simp) (by simp; omega) (by simp; omega)) ?_
      refine RJ.store rfl rfl (eff_storeW (v := .own _ _ _ _) (els := [_]) (els' := [_]) rfl rfl ti26 rfl rfl rfl rfl rfl rfl rfl rfl rfl) ?_
      refine RJ.nil ?_
      exact ⟨rfl, ⟨19, [(1, .t (.sl (d.map encBy) false)), (2, .ptr 2 0 0 0)], [(2, some ⟨1, 26, 0, [.own 13 (g + 1) 0 (1 + (i + 1))]⟩), (13, some ⟨1, 3, (g + 1), ((([k] ++ ((wordsF d).take (i + 1)).map toI).map encI).map AV.t)⟩)]⟩, weak_keep (n := 19) ⟨rfl, rfl, rfl, rfl, trivial⟩ ⟨rfl, okE_one rfl, by rw [hle]; rfl, okE_t, trivial⟩, .inr ⟨by omega, g + 1, rfl⟩⟩
  · intro D s1 hI
    have hw0 : wordsF d ≠ [] := by rw [wordsF_cons hd]; exact List.cons_ne_nil _ _
    have hwp := List.length_pos_iff.2 hw0
    have hwl := wordsF_len d
    rw [List.length_map] at hI
    obtain ⟨_, g, rfl⟩ : 0 < (wordsF d).length ∧ _ := hI.resolve_left (fun h => by omega)
    refine awj_seq ?_
    refine awj_rj rfl ?_
    refine RJ.op rfl rfl (eff_load (y := .own _ _ _ _) rfl rfl ti26 rfl (.one rfl rfl rfl rfl)) ?_
    refine RJ.op rfl rfl (eff_move (v := .t _) rfl rfl rfl) ?_
    refine RJ.op rfl rfl (eff_lenM rfl rfl te27 rfl) ?_
    refine RJ.new rfl rfl (eff_buildSlice1 (id := 17) (els := [_]) rfl rfl te26 tz3 rfl (by decide) rfl rfl rfl rfl) ?_
    refine RJ.new rfl rfl (eff_append (id := 13) (ys := [_]) rfl rfl ta26 rfl rfl rfl (by simp; omega) rfl rfl (srcOwn rfl rfl rfl rfl rfl rfl) (by simp) (by simp; omega) (by simp; omega)) ?_
    refine RJ.op rfl rfl (eff_assign (v := .own _ _ _ _) rfl rfl rfl) ?_
    refine RJ.nil ?_
    refine awj_ret ?_
    exact ⟨Or.inr rfl, [_], ⟨.tmp (Res.ownT (xs := (listF [k] d).map encI) rfl rfl (by rw [List.take_length]; unfold listF; simp <;> rfl) (by rw [List.length_map, listF_len]; simp <;> omega)), trivial⟩, .refl _⟩
  · intro D c s1 hI
    exact hI.elim

theorem tag74_ret (k : Int) (d : List Int) (hb : Byt d) (hl : d.length ≤ 900000) (hd : d ≠ []) : Ret Tryd.prog 74 [encU k, .sl (d.map encBy) false] (encU (tagF k d)) := by
  refine ret_of_awp Tryd.func74 rfl (Nat.le_of_ble_eq_true rfl) ?_
  refine awp_seq ?_
  refine awp_rw rfl ?_
  refine RW.op rfl rfl (eff_assign (v := .t _) rfl rfl rfl) ?_
  refine RW.nil ?_
  refine awp_seq ?_
  refine awp_rw rfl ?_
  refine RW.op rfl rfl (eff_move (v := .t _) rfl rfl rfl) ?_
  refine RW.op rfl rfl (eff_convIntE (m := toI k) rfl rfl (by rw [tu28]; rfl) tu3 rfl rfl) ?_
  refine RW.op rfl rfl (eff_buildSliceT (xs := [toI k].map encI) rfl rfl te26 tz3 rfl (by decide) rfl rfl rfl (by decide)) ?_
  refine RW.op rfl rfl (eff_move (v := .t _) rfl rfl rfl) ?_
  refine RW.op rfl rfl (eff_callT (with86_ret (toI k) d hb (by omega) hd) co86 rfl rfl rfl rfl) ?_
  refine RW.op rfl rfl (eff_callT (sum85_ret tagB tagName _ tagB_list tagName_byt (by decide) (by rw [listF_len]; have := wordsF_len d; simp; omega)) co85 rfl rfl rfl rfl) ?_
  refine RW.op rfl rfl (eff_assign (v := .t _) rfl rfl rfl) ?_
  refine RW.nil ?_
  refine awp_ret ?_
  exact ⟨Or.inr rfl, [_], ⟨.tmp (.t _), trivial⟩, .refl _⟩

end Go.Tv.C34

end
section
open Go Go.Tv Go.Proofs
namespace Go.Tv.C34

def u8w (n : Int) : Int := IntKind.u8.wrap n
def vb (v : Nat) : Int := IntKind.u8.wrap (((BitVec.ofInt IntKind.u8.bits (u8w v)) ||| (BitVec.ofInt IntKind.u8.bits 128)).toNat)
theorem u8_range (n : Int) : 0 ≤ IntKind.u8.wrap n ∧ IntKind.u8.wrap n < 256 := by
  have : IntKind.u8.wrap n = n % 256 := by simp [IntKind.wrap, IntKind.bits, IntKind.signed]
  rw [this]; omega
def varF (v : Nat) : List Int := if v ≥ 128 then vb v :: varF (v / 128) else [u8w v]
termination_by v
decreasing_by omega
theorem varF_more {v : Nat} (h : v ≥ 128) : varF v = vb v :: varF (v / 128) := by rw [varF, if_pos h]
theorem varF_end {v : Nat} (h : ¬ v ≥ 128) : varF v = [u8w v] := by rw [varF, if_neg h]
theorem varF_byt (v : Nat) : Byt (varF v) := by
  induction v using Nat.strongRecOn with
  | _ v ih =>
    by_cases h : v ≥ 128
    · rw [varF_more h]
      intro b hb
      rcases List.mem_cons.1 hb with rfl | hb
      · exact u8_range _
      · exact ih (v / 128) (by omega) b hb
    · rw [varF_end h]
      intro b hb
      rw [List.mem_singleton.1 hb]; exact u8_range _
theorem varF_ne (v : Nat) : varF v ≠ [] := by
  by_cases h : v ≥ 128
  · rw [varF_more h]; exact List.cons_ne_nil _ _
  · rw [varF_end h]; exact List.cons_ne_nil _ _
theorem varF_len : ∀ (n v : Nat), v < 128 ^ (n + 1) → (varF v).length ≤ n + 1
  | 0, v, h => by rw [varF_end (by simp at h; omega)]; simp
  | n + 1, v, h => by
    by_cases h1 : v ≥ 128
    · rw [varF_more h1, List.length_cons]
      have := varF_len n (v / 128) (by rw [Nat.pow_succ] at h; exact Nat.div_lt_of_lt_mul (by omega))
      omega
    · rw [varF_end h1]; simp
theorem varF_10 {v : Nat} (h : v < 18446744073709551616) : (varF v).length ≤ 10 := varF_len 9 v (Nat.lt_of_lt_of_le h (by decide))
theorem shr7 (v : Nat) : ((v : Nat) : Int).fdiv (2 ^ (min (7 : Int).toNat IntKind.u64.bits)) = ((v / 128 : Nat) : Int) := by
  rw [show (2 : Int) ^ (min (7 : Int).toNat IntKind.u64.bits) = 128 from by decide, Int.fdiv_eq_ediv_of_nonneg _ (by decide)]
  simp
end Go.Tv.C34

end
section
open Go Go.Tv Go.Proofs
namespace Go.Tv.C34
set_option maxRecDepth 20000
set_option maxHeartbeats 2000000
set_option linter.unusedSimpArgs false
set_option linter.unusedVariables false
theorem put83_retK (v ga : Nat) (bs : List Int) (hv : v < 18446744073709551616) (hb : bs.length ≤ 1000000) : RetK Tryd.prog 83 [(1000, some ⟨1, 92, 0, [.own 1001 ga 0 bs.length]⟩), (1001, some ⟨1, 5, ga, ((bs).map encBy).map .t⟩)] [.ptr 1000 0 0 0, .t (encU (v : Nat))] [(1000, some ⟨1, 92, 0, [.own 1001 (ga + (varF v).length) 0 (bs ++ varF v).length]⟩), (1001, some ⟨1, 5, (ga + (varF v).length), ((bs ++ varF v).map encBy).map .t⟩)] (.tup []) [(0, .ptr 1000 0 0 0)] := by
  refine retK_of_awj (kp := fun i => Nat.beq i 0) Tryd.func83 rfl (Nat.le_of_ble_eq_true rfl) (by simp) ?_
  intro F0 w0
  refine awj_seq ?_
  refine awj_block ?_
  refine awj_loopW (fun m s g => ∃ (cur : Nat) (gn : Nat) (n : Nat) (ps : List Int) (els : List AV), (cur ≤ v) ∧ (varF v = ps ++ varF cur) ∧ (gn = ga + ps.length) ∧ (n = bs.length + ps.length) ∧ (els = ((bs ++ ps).map encBy).map .t) ∧ m = 0 + cur ∧ s = ⟨31, [(0, .ptr 1000 0 0 0), (1, .t (encU (cur : Nat)))], [(1000, some ⟨1, 92, 0, [.own 1001 gn 0 n]⟩), (1001, some ⟨1, 5, gn, els⟩)]⟩) (_) (⟨_, weak_keep (n := 31) (fr' := [(0, .ptr 1000 0 0 0), (1, .t (encU (v : Nat)))]) (st' := [(1000, some ⟨1, 92, 0, [.own 1001 ga 0 _]⟩), (1001, some ⟨1, 5, ga, _⟩)]) ⟨rfl, rfl, rfl, rfl, trivial⟩ ⟨rfl, okE_one rfl, rfl, (by first | exact okE_t | exact okE_nil | (rw [he]; exact okE_t) | (rw [he]; intro x hx; simp only [List.mem_append, List.mem_map, List.mem_singleton] at hx; rcases hx with ⟨y, _, rfl⟩ | rfl <;> rfl)), trivial⟩, v, ga, _, [], _, (by omega), (by rfl), (by rfl), (by simp), (by simp), rfl, rfl⟩) ?_
  rintro m s g ⟨cur, gn, n, ps, els, hcv, hps, hgn, hnn, he, rfl, rfl⟩
  have hpl : ps.length ≤ 10 := by have h1 := congrArg List.length hps; have h2 := varF_10 hv; simp at h1; omega
  refine awj_seq ?_
  refine awj_seq ?_
  refine awj_rj rfl ?_
  refine RJ.op rfl rfl (eff_move (v := .t _) rfl rfl rfl) ?_
  refine RJ.op rfl rfl (eff_iop rfl rfl rfl rfl rfl) ?_
  refine RJ.nil ?_
  refine awj_cond rfl (fun h1 => ?_) (fun h1 => ?_)
  · try simp only [decide_eq_true_eq, decide_eq_false_iff_not, beq_iff_eq, bne_iff_ne, bne_eq_false_iff_eq, beq_eq_false_iff_ne, Bool.not_eq_true, Bool.not_eq_false, Bool.not_eq_true', Bool.not_eq_false', ne_eq] at h1
    refine awj_skip ?_
    refine awj_block ?_
    refine awj_seq ?_
    refine awj_rj rfl ?_
    refine RJ.op rfl rfl (eff_move (v := .ptr _ _ _ _) rfl rfl rfl) ?_
    refine RJ.op rfl rfl (eff_move (v := .ptr _ _ _ _) rfl rfl rfl) ?_
    refine RJ.op rfl rfl (eff_nilCheck (v := .ptr _ _ _ _) rfl rfl rfl rfl (fun _ _ _ _ e => by cases e; exact ⟨_, rfl, rfl⟩)) ?_
    refine RJ.op rfl rfl (eff_fieldAddr rfl rfl tf90_0 (by decide) rfl rfl rfl (Nat.le_of_ble_eq_true rfl)) ?_
    refine RJ.op rfl rfl (eff_load (y := .own _ _ _ _) rfl rfl ti27 rfl (.one rfl rfl rfl rfl)) ?_
    refine RJ.op rfl rfl (eff_move (v := .t _) rfl rfl rfl) ?_
    refine RJ.op rfl rfl (eff_convIntE (m := u8w (cur : Nat)) rfl rfl (by rw [tu28]; rfl) tu5 rfl rfl) ?_
    refine RJ.op rfl rfl (eff_iop (r := encBy (vb cur)) rfl rfl rfl rfl rfl) ?_
    refine RJ.new rfl rfl (eff_buildSlice1 (id := 14) (els := [_]) rfl rfl te27 tz5 rfl (by decide) rfl rfl rfl rfl) ?_
    refine RJ.new rfl rfl (eff_append (id := 1001) (ys := [_]) rfl rfl ta27 rfl rfl rfl (by rw [he, hnn]; simp) rfl rfl (srcOwn rfl rfl rfl rfl rfl rfl) (by simp) (by simp; omega) (by simp; omega)) ?_
    refine RJ.op rfl rfl (eff_nilCheck (v := .ptr _ _ _ _) rfl rfl rfl rfl (fun _ _ _ _ e => by cases e; exact ⟨_, rfl, rfl⟩)) ?_
    refine RJ.op rfl rfl (eff_fieldAddr rfl rfl tf90_0 (by decide) rfl rfl rfl (Nat.le_of_ble_eq_true rfl)) ?_
    refine RJ.store rfl rfl (eff_storeW (v := .own _ _ _ _) (els := [_]) (els' := [_]) rfl rfl ti27 rfl rfl rfl rfl rfl rfl rfl rfl rfl) ?_
    refine RJ.nil ?_
    refine awj_rj rfl ?_
    refine RJ.op rfl rfl (eff_move (v := .t _) rfl rfl rfl) ?_
    refine RJ.op rfl rfl (eff_shrE (r := ((cur / 128 : Nat) : Int)) rfl rfl rfl rfl (by decide) (shr7 cur)) ?_
    refine RJ.op rfl rfl (eff_assign (v := .t _) rfl rfl rfl) ?_
    refine RJ.nil ?_
    refine ⟨_, ?_, _, weak_keep (n := 31) (fr' := [(0, .ptr 1000 0 0 0), (1, .t (encU ((cur / 128) : Nat)))]) (st' := [(1000, some ⟨1, 92, 0, [.own 1001 _ 0 _]⟩), (1001, some ⟨1, 5, _, _⟩)]) ⟨rfl, rfl, rfl, rfl, trivial⟩ ⟨rfl, okE_one rfl, rfl, (by first | exact okE_t | exact okE_nil | (rw [he]; exact okE_t) | (rw [he]; intro x hx; simp only [List.mem_append, List.mem_map, List.mem_singleton] at hx; rcases hx with ⟨y, _, rfl⟩ | rfl <;> rfl)), trivial⟩, cur / 128, _, _, _, _, (by omega), (by rw [hps, varF_more (by omega), List.append_cons]), (by rw [hgn]; simp; omega), (by rw [hnn]; simp; omega), (by rw [he]; simp <;> rfl), rfl, rfl⟩
    omega
  · try simp only [decide_eq_true_eq, decide_eq_false_iff_not, beq_iff_eq, bne_iff_ne, bne_eq_false_iff_eq, beq_eq_false_iff_ne, Bool.not_eq_true, Bool.not_eq_false, Bool.not_eq_true', Bool.not_eq_false', ne_eq] at h1
    refine awj_exit ?_
    refine awj_rj rfl ?_
    refine RJ.op rfl rfl (eff_move (v := .ptr _ _ _ _) rfl rfl rfl) ?_
    refine RJ.op rfl rfl (eff_move (v := .ptr _ _ _ _) rfl rfl rfl) ?_
    refine RJ.op rfl rfl (eff_nilCheck (v := .ptr _ _ _ _) rfl rfl rfl rfl (fun _ _ _ _ e => by cases e; exact ⟨_, rfl, rfl⟩)) ?_
    refine RJ.op rfl rfl (eff_fieldAddr rfl rfl tf90_0 (by decide) rfl rfl rfl (Nat.le_of_ble_eq_true rfl)) ?_
    refine RJ.op rfl rfl (eff_load (y := .own _ _ _ _) rfl rfl ti27 rfl (.one rfl rfl rfl rfl)) ?_
    refine RJ.op rfl rfl (eff_move (v := .t _) rfl rfl rfl) ?_
    refine RJ.op rfl rfl (eff_convIntE (m := u8w (cur : Nat)) rfl rfl (by rw [tu28]; rfl) tu5 rfl rfl) ?_
    refine RJ.new rfl rfl (eff_buildSlice1 (id := 27) (els := [_]) rfl rfl te27 tz5 rfl (by decide) rfl rfl rfl rfl) ?_
    refine RJ.new rfl rfl (eff_append (id := 1001) (ys := [_]) rfl rfl ta27 rfl rfl rfl (by rw [he, hnn]; simp) rfl rfl (srcOwn rfl rfl rfl rfl rfl rfl) (by simp) (by simp; omega) (by simp; omega)) ?_
    refine RJ.op rfl rfl (eff_nilCheck (v := .ptr _ _ _ _) rfl rfl rfl rfl (fun _ _ _ _ e => by cases e; exact ⟨_, rfl, rfl⟩)) ?_
    refine RJ.op rfl rfl (eff_fieldAddr rfl rfl tf90_0 (by decide) rfl rfl rfl (Nat.le_of_ble_eq_true rfl)) ?_
    refine RJ.store rfl rfl (eff_storeW (v := .own _ _ _ _) (els := [_]) (els' := [_]) rfl rfl ti27 rfl rfl rfl rfl rfl rfl rfl rfl rfl) ?_
    refine RJ.nil ?_
    rw [varF_end (v := cur) (by omega)] at hps
    have hl : (varF v).length = ps.length + 1 := by rw [hps]; simp
    have hl2 : (bs ++ varF v).length = n + 1 := by rw [hps, hnn]; simp; omega
    have hl3 : ga + (varF v).length = gn + 1 := by omega
    have hle : ((bs ++ varF v).map encBy).map AV.t = els ++ [.t (encBy (u8w (cur : Nat)))] := by rw [hps, he]; simp <;> rfl
    rw [hl2, hl3, hle]
    exact ⟨Or.inl rfl, [], [], trivial, rfl, weak_keep ⟨rfl, rfl, trivial⟩ ⟨rfl, okE_one rfl, rfl, (by rw [← hle]; exact okE_t), trivial⟩, rfl⟩

end Go.Tv.C34

end
section
open Go Go.Tv Go.Proofs
namespace Go.Tv.C34
set_option maxRecDepth 20000
set_option maxHeartbeats 2000000
set_option linter.unusedSimpArgs false
set_option linter.unusedVariables false
theorem self_own {σ : Sto} {ren : Nat → Nat} {k g id gn off len : Nat} {ty : TypeId} (h : (sget σ id).isSome = true) (hn : ren id = id) : selfEls σ ren ⟨k, ty, g, [.own id gn off len]⟩ := fun x hx => by
  rw [List.mem_singleton.1 hx]; exact .own id gn off len h hn
theorem self_tree {σ : Sto} {ren : Nat → Nat} {k g : Nat} {ty : TypeId} {xs : List Tr} : selfEls σ ren ⟨k, ty, g, xs.map .t⟩ := fun x hx => by
  obtain ⟨y, _, rfl⟩ := List.mem_map.1 hx; exact .t y

theorem uint70_retK (v ga : Nat) (bs : List Int) (hv : v < 18446744073709551616) (hb : bs.length ≤ 1000000) : RetK Tryd.prog 70 [(1000, some ⟨1, 92, 0, [.own 1001 ga 0 bs.length]⟩), (1001, some ⟨1, 5, ga, ((bs).map encBy).map .t⟩)] [.ptr 1000 0 0 0, .t (encU (v : Nat))] [(1000, some ⟨1, 92, 0, [.own 1001 (ga + (varF v).length) 0 (bs ++ varF v).length]⟩), (1001, some ⟨1, 5, (ga + (varF v).length), ((bs ++ varF v).map encBy).map .t⟩)] (.tup []) [(0, .ptr 1000 0 0 0)] := by
  refine retK_of_awj (kp := fun i => Nat.beq i 0) Tryd.func70 rfl (Nat.le_of_ble_eq_true rfl) (by simp) ?_
  intro F0 w0
  refine awj_rj rfl ?_
  refine RJ.op rfl rfl (eff_move (v := .ptr _ _ _ _) rfl rfl rfl) ?_
  refine RJ.op rfl rfl (eff_nilCheck (v := .ptr _ _ _ _) rfl rfl rfl rfl (fun _ _ _ _ e => by cases e; exact ⟨_, rfl, rfl⟩)) ?_
  refine RJ.op rfl rfl (eff_fieldAddr rfl rfl tf92_0 (by decide) rfl rfl rfl (Nat.le_of_ble_eq_true rfl)) ?_
  refine RJ.op rfl rfl (eff_move (v := .t _) rfl rfl rfl) ?_
  refine RJ.new2 rfl rfl (eff_callKR (put83_retK v ga bs (by omega) (by first | omega | (simp; omega))) co83 (fun id => id) rfl rfl rfl ⟨.ptr _ _ _ _ rfl rfl, .t _, trivial⟩ (.tup _ _ rfl (fun i c d h _ => by simp at h)) rfl ⟨⟨rfl, self_own rfl rfl, ⟨_, rfl, .inr ⟨rfl, rfl, rfl, rfl, 0, rfl, List.mem_singleton.2 rfl⟩⟩⟩, ⟨rfl, self_tree, ⟨_, rfl, .inl (by have := List.length_pos_iff.2 (varF_ne (v)); show (ga) < (ga) + _; omega)⟩⟩, trivial⟩ ⟨⟨self_own rfl rfl, .inl rfl⟩, ⟨self_tree, .inl rfl⟩, trivial⟩) ?_
  refine RJ.nil ?_
  exact ⟨Or.inl rfl, [], [], trivial, rfl, weak_keep ⟨rfl, rfl, trivial⟩ ⟨rfl, okE_one rfl, rfl, okE_t, trivial⟩, rfl⟩

def zzI (n : Int) : Int := xorU (IntKind.u64.wrap (toU n * 2 ^ (min (1 : Int).toNat IntKind.u64.bits))) (toU (n.fdiv (2 ^ (min (63 : Int).toNat IntKind.i64.bits))))
def zzF (n : Int) : Nat := (zzI n).toNat
theorem zzF_lt (n : Int) : zzF n < 18446744073709551616 := by have := wu_range (((BitVec.ofInt IntKind.u64.bits (IntKind.u64.wrap (toU n * 2 ^ (min (1 : Int).toNat IntKind.u64.bits)))) ^^^ (BitVec.ofInt IntKind.u64.bits (toU (n.fdiv (2 ^ (min (63 : Int).toNat IntKind.i64.bits)))))).toNat); unfold zzF zzI xorU; omega
theorem zzF_eq (n : Int) : ((zzF n : Nat) : Int) = zzI n := by unfold zzF; have := wu_range (((BitVec.ofInt IntKind.u64.bits (IntKind.u64.wrap (toU n * 2 ^ (min (1 : Int).toNat IntKind.u64.bits)))) ^^^ (BitVec.ofInt IntKind.u64.bits (toU (n.fdiv (2 ^ (min (63 : Int).toNat IntKind.i64.bits)))))).toNat); unfold zzI xorU; omega

theorem int71_retK (x : Int) (ga : Nat) (bs : List Int) (hb : bs.length ≤ 1000000) : RetK Tryd.prog 71 [(1000, some ⟨1, 92, 0, [.own 1001 ga 0 bs.length]⟩), (1001, some ⟨1, 5, ga, ((bs).map encBy).map .t⟩)] [.ptr 1000 0 0 0, .t (encI x)] [(1000, some ⟨1, 92, 0, [.own 1001 (ga + (varF (zzF x)).length) 0 (bs ++ varF (zzF x)).length]⟩), (1001, some ⟨1, 5, (ga + (varF (zzF x)).length), ((bs ++ varF (zzF x)).map encBy).map .t⟩)] (.tup []) [(0, .ptr 1000 0 0 0)] := by
  refine retK_of_awj (kp := fun i => Nat.beq i 0) Tryd.func71 rfl (Nat.le_of_ble_eq_true rfl) (by simp) ?_
  intro F0 w0
  refine awj_rj rfl ?_
  refine RJ.op rfl rfl (eff_move (v := .ptr _ _ _ _) rfl rfl rfl) ?_
  refine RJ.op rfl rfl (eff_nilCheck (v := .ptr _ _ _ _) rfl rfl rfl rfl (fun _ _ _ _ e => by cases e; exact ⟨_, rfl, rfl⟩)) ?_
  refine RJ.op rfl rfl (eff_fieldAddr rfl rfl tf92_0 (by decide) rfl rfl rfl (Nat.le_of_ble_eq_true rfl)) ?_
  refine RJ.op rfl rfl (eff_move (v := .t _) rfl rfl rfl) ?_
  refine RJ.op rfl rfl (eff_convIntE (m := toU x) rfl rfl (by rw [tu3]; rfl) tu28 rfl rfl) ?_
  refine RJ.op rfl rfl (eff_shl rfl rfl rfl rfl (by first | decide | omega)) ?_
  refine RJ.op rfl rfl (eff_move (v := .t _) rfl rfl rfl) ?_
  refine RJ.op rfl rfl (eff_shr rfl rfl rfl rfl (by first | decide | omega)) ?_
  refine RJ.op rfl rfl (eff_convIntE (m := toU (x.fdiv (2 ^ (min (63 : Int).toNat IntKind.i64.bits)))) rfl rfl (by rw [tu3]; rfl) tu28 rfl rfl) ?_
  refine RJ.op rfl rfl (eff_iop (r := encU ((zzF x : Nat) : Int)) rfl rfl rfl rfl (by rw [zzF_eq]; rfl)) ?_
  have hzl := zzF_lt x
  refine RJ.new2 rfl rfl (eff_callKR (put83_retK (zzF x) ga bs (by omega) (by first | omega | (simp; omega))) co83 (fun id => id) rfl rfl rfl ⟨.ptr _ _ _ _ rfl rfl, .t _, trivial⟩ (.tup _ _ rfl (fun i c d h _ => by simp at h)) rfl ⟨⟨rfl, self_own rfl rfl, ⟨_, rfl, .inr ⟨rfl, rfl, rfl, rfl, 0, rfl, List.mem_singleton.2 rfl⟩⟩⟩, ⟨rfl, self_tree, ⟨_, rfl, .inl (by have := List.length_pos_iff.2 (varF_ne ((zzF x))); show (ga) < (ga) + _; omega)⟩⟩, trivial⟩ ⟨⟨self_own rfl rfl, .inl rfl⟩, ⟨self_tree, .inl rfl⟩, trivial⟩) ?_
  refine RJ.nil ?_
  exact ⟨Or.inl rfl, [], [], trivial, rfl, weak_keep ⟨rfl, rfl, trivial⟩ ⟨rfl, okE_one rfl, rfl, okE_t, trivial⟩, rfl⟩

theorem bytes72_retK (d : List Int) (ga : Nat) (bs : List Int) (hd : d.length ≤ 1000000) (hb : bs.length ≤ 1000000) : RetK Tryd.prog 72 [(1000, some ⟨1, 92, 0, [.own 1001 ga 0 bs.length]⟩), (1001, some ⟨1, 5, ga, ((bs).map encBy).map .t⟩)] [.ptr 1000 0 0 0, .t (.sl (d.map encBy) false)] [(1000, some ⟨1, 92, 0, [.own 1001 (ga + (varF d.length).length + 1) 0 (bs ++ (varF d.length) ++ d).length]⟩), (1001, some ⟨1, 5, (ga + (varF d.length).length + 1), ((bs ++ (varF d.length) ++ d).map encBy).map .t⟩)] (.tup []) [(0, .ptr 1000 0 0 0)] := by
  refine retK_of_awj (kp := fun i => Nat.beq i 0) Tryd.func72 rfl (Nat.le_of_ble_eq_true rfl) (by simp) ?_
  intro F0 w0
  refine awj_seq ?_
  refine awj_rj rfl ?_
  refine RJ.op rfl rfl (eff_move (v := .ptr _ _ _ _) rfl rfl rfl) ?_
  refine RJ.op rfl rfl (eff_nilCheck (v := .ptr _ _ _ _) rfl rfl rfl rfl (fun _ _ _ _ e => by cases e; exact ⟨_, rfl, rfl⟩)) ?_
  refine RJ.op rfl rfl (eff_fieldAddr rfl rfl tf92_0 (by decide) rfl rfl rfl (Nat.le_of_ble_eq_true rfl)) ?_
  refine RJ.op rfl rfl (eff_move (v := .t _) rfl rfl rfl) ?_
  refine RJ.op rfl rfl (eff_lenM rfl rfl te27 rfl) ?_
  refine RJ.op rfl rfl (eff_convIntE (m := ((d.length : Nat) : Int)) rfl rfl (by rw [tu3]; rfl) tu28 rfl (wrapU64 (by omega) (by omega))) ?_
  refine RJ.new2 rfl rfl (eff_callKR (put83_retK d.length ga bs (by omega) (by first | omega | (simp; omega))) co83 (fun id => id) rfl rfl rfl ⟨.ptr _ _ _ _ rfl rfl, .t _, trivial⟩ (.tup _ _ rfl (fun i c d h _ => by simp at h)) rfl ⟨⟨rfl, self_own rfl rfl, ⟨_, rfl, .inr ⟨rfl, rfl, rfl, rfl, 0, rfl, List.mem_singleton.2 rfl⟩⟩⟩, ⟨rfl, self_tree, ⟨_, rfl, .inl (by have := List.length_pos_iff.2 (varF_ne (d.length)); show (ga) < (ga) + _; omega)⟩⟩, trivial⟩ ⟨⟨self_own rfl rfl, .inl rfl⟩, ⟨self_tree, .inl rfl⟩, trivial⟩) ?_
  refine RJ.nil ?_
  refine awj_rj rfl ?_
  have hvl := varF_10 (v := d.length) (by omega)
  refine RJ.op rfl rfl (eff_move (v := .ptr _ _ _ _) rfl rfl rfl) ?_
  refine RJ.op rfl rfl (eff_move (v := .ptr _ _ _ _) rfl rfl rfl) ?_
  refine RJ.op rfl rfl (eff_nilCheck (v := .ptr _ _ _ _) rfl rfl rfl rfl (fun _ _ _ _ e => by cases e; exact ⟨_, rfl, rfl⟩)) ?_
  refine RJ.op rfl rfl (eff_fieldAddr rfl rfl tf92_0 (by decide) rfl rfl rfl (Nat.le_of_ble_eq_true rfl)) ?_
  refine RJ.op rfl rfl (eff_fieldAddr rfl rfl tf90_0 (by decide) rfl rfl rfl (Nat.le_of_ble_eq_true rfl)) ?_
  refine RJ.op rfl rfl (eff_load (y := .own _ _ _ _) rfl rfl ti27 rfl (.one rfl rfl rfl rfl)) ?_
  refine RJ.op rfl rfl (eff_move (v := .t _) rfl rfl rfl) ?_
  refine RJ.new rfl rfl (eff_appendAny (id := 1001) rfl rfl ta27 rfl rfl rfl (by simp) rfl rfl (srcM rfl (fun _ => rfl)) (by simp; omega) (by simp; omega)) ?_
  refine RJ.op rfl rfl (eff_nilCheck (v := .ptr _ _ _ _) rfl rfl rfl rfl (fun _ _ _ _ e => by cases e; exact ⟨_, rfl, rfl⟩)) ?_
  refine RJ.op rfl rfl (eff_fieldAddr rfl rfl tf92_0 (by decide) rfl rfl rfl (Nat.le_of_ble_eq_true rfl)) ?_
  refine RJ.op rfl rfl (eff_fieldAddr rfl rfl tf90_0 (by decide) rfl rfl rfl (Nat.le_of_ble_eq_true rfl)) ?_
  refine RJ.store rfl rfl (eff_storeW (v := .own _ _ _ _) (els := [_]) (els' := [_]) rfl rfl ti27 rfl rfl rfl rfl rfl rfl rfl rfl rfl) ?_
  refine RJ.nil ?_
  have hle : ((bs ++ (varF d.length) ++ d).map encBy).map AV.t = ((bs ++ (varF d.length)).map encBy).map AV.t ++ (d.map encBy).map AV.t := by simp
  have hll : (bs ++ (varF d.length) ++ d).length = (bs ++ (varF d.length)).length + ((d.map encBy).map AV.t).length := by simp; omega
  rw [hll, hle]
  exact ⟨Or.inl rfl, [], [], trivial, rfl, weak_keep ⟨rfl, rfl, trivial⟩ ⟨rfl, okE_one rfl, rfl, (by rw [← hle]; exact okE_t), trivial⟩, rfl⟩

end Go.Tv.C34

end
section
open Go Go.Tv Go.Proofs
namespace Go.Tv.C34
set_option maxRecDepth 20000
set_option maxHeartbeats 2000000
set_option linter.unusedSimpArgs false
set_option linter.unusedVariables false
theorem red_fix (n : Int) : (n.tmod 256 + 256).tmod 256 = n % 256 := by
  have h := tmod_fix n
  have hr := tmod_range n
  rw [tmod_pos (by omega)]
  split at h <;> omega

theorem reduced_ret (n : Int) : Ret Tryd.prog 60 [encI n] (encI (n % 256)) := by
  have ht := tmod_range n
  refine ret_of_awp Tryd.func60 rfl (Nat.le_of_ble_eq_true rfl) ?_
  refine awp_seq ?_
  refine awp_rw rfl ?_
  refine RW.op rfl rfl (eff_assign (v := .t _) rfl rfl rfl) ?_
  refine RW.nil ?_
  refine awp_seq ?_
  refine awp_rw rfl ?_
  refine RW.op rfl rfl (eff_move (v := .t _) rfl rfl rfl) ?_
  refine RW.op rfl rfl (eff_rem rfl rfl rfl rfl (by first | decide | omega)) ?_
  refine RW.op rfl rfl (eff_iop (r := encI (n.tmod 256 + 256)) rfl rfl rfl rfl (iadd (by omega))) ?_
  refine RW.op rfl rfl (eff_remE (r := n % 256) rfl rfl rfl rfl (by decide) (red_fix n)) ?_
  refine RW.op rfl rfl (eff_assign (v := .t _) rfl rfl rfl) ?_
  refine RW.nil ?_
  refine awp_ret ?_
  exact ⟨Or.inr rfl, [_], ⟨.tmp (.t _), trivial⟩, .refl _⟩

end Go.Tv.C34

end
