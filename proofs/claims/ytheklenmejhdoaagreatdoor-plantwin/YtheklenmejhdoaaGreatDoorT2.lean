/- Part of the proof that the laws of this seat return true for every input. No condition. -/
import Derived.Test.YtheklenmejhdoaaGreatDoorT1
import Derived.LaidMore
import Derived.OpenShut
import Derived.Stop.Joined
import Derived.Laws.IdiomStrings
import Derived.Shelf.SlSortCmp.NoneTotal
import Derived.Lib.QuietBelow
import Derived.Shelf.SortM.Plain
import Derived.Shelf.SortM.SortNone
import Derived.Test.YtheklenmejhdoaaGreatDoorProg
import Derived.Lib.TrailingZeros
set_option linter.unnecessarySimpa false
set_option linter.unusedVariables false
set_option linter.unusedSimpArgs false
section
namespace Go.Tv
variable {P : Program} {o : Oper} {D : St} {F0 : Nat → Prop} {w0 : World}

/-- The function f, at the trees xs over the raw blocks g0 and the tables ts: S: what it returns over which raw blocks. -/
def RetRT (P : Program) (f : FuncId) (ts : List (Nat × Tr)) (xs : List Tr) (g0 : Gh) (S : Tr → Gh → Prop) : Prop :=
  ∀ (F0 : Nat → Prop) (w : World) (vals : List Value), (∀ b, F0 b → b < w.heap.size ∧ gget g0 b = none) → (∀ b o, gget g0 b = some o → w.heap[b]? = some o) →
    TabOK w (fun b => F0 b ∨ (gget g0 b).isSome = true) ts → VL w (fun b => F0 b ∨ (gget g0 b).isSome = true) xs vals →
    Calls P f vals.toArray w fun e w' => ∃ v r g1, e = .returned v ∧ S r g1 ∧ V w' (fun b => F0 b ∨ (gget g1 b).isSome = true) r v ∧ (∀ b o, gget g1 b = some o → w'.heap[b]? = some o) ∧
      (∀ b, (gget g1 b).isSome = true → (gget g0 b).isSome = true ∨ w.heap.size ≤ b) ∧ w'.os = w.os ∧ TapeLe w w' ∧ w'.output = w.output ∧ w.heap.size ≤ w'.heap.size ∧
      ∀ b, b < w.heap.size → gget g0 b = none → w'.heap[b]? = w.heap[b]?

theorem RetR.t {f : FuncId} {ts : List (Nat × Tr)} {xs : List Tr} {g0 : Gh} {S : Tr → Gh → Prop} (h : RetR P f xs g0 S) : RetRT P f ts xs g0 S := fun F0 w vals h1 h2 _ h3 => h F0 w vals h1 h2 h3

/-- A contract over raw blocks, out of a body. -/
theorem retRT_of_awj {f : FuncId} {fn : Func} {c : Code} {ts : List (Nat × Tr)} {xs : List Tr} {g0 : Gh} {S : Tr → Gh → Prop} (hf : P.funcs[f]? = some fn) (hb : fn.body = some c) (hn : xs.length ≤ fn.ntmps)
    (h : ∀ F0 w0, AWJ P none (fun _ => false) (JR F0 w0) c ⟨fn.ntmps, initFr 0 xs ++ tabFr fn.ntmps ts, []⟩ g0 (fun e s g => (e = .normal ∨ e = .ret) ∧ ∃ rs r g1, RVars P s fn.results.toList rs ∧ Wk (packT rs) r ∧ S r g1 ∧ ∀ b o, gget g1 b = some o → gget g b = some o)) :
    RetRT P f ts xs g0 S := by
  intro F0 w vals hF hg hT hV
  refine (callsIn_wide (n := 0)).1 (callsIn_of_wp (F := Fence.wide) hf hb trivial ?_)
  have hlt : ∀ b, (F0 b ∨ (gget g0 b).isSome = true) → b < w.heap.size := fun b hb => hb.elim (fun h => (hF b h).1) (fun h => by
    obtain ⟨o, ho⟩ := Option.isSome_iff_exists.1 h
    exact lt_of_heap (hg b o ho))
  have h0 := ofVLT (n := fn.ntmps) hlt hT hV hn
  have hJ0 : (JR F0 w).J g0 (Owned (fun _ => none) ([] : Sto)) (fun b => F0 b ∨ (gget g0 b).isSome = true) w :=
    ⟨fun b => Iff.rfl, fun b hb => ⟨(hF b hb).1, rfl, not_owned_nil, (hF b hb).2⟩, fun b o ho => ⟨hg b o ho, not_owned_nil⟩, Nat.le_refl _⟩
  have hrun := h F0 w 0 _ _ _ w h0 hJ0
  refine wpIn_mono hrun ?_
  rintro e a' w' ⟨s', β', g', F', a'', ⟨he, rs, r, g1, hrs, hwk, hS, hsub⟩, hr', rfl, ⟨j1, j2, j3, j4⟩, hev, _⟩
  obtain ⟨vs, hvs, hvl, hvV⟩ := RVars.run hr' _ _ hrs
  have hres : ∃ v, (results fn a''.tmps).run P w' = .ok v w' ∧ V w' F' (packT rs) v := by
    have hm : (fn.results.mapM (resOf a''.tmps)).run P w' = .ok vs.toArray w' := by
      rw [Array.mapM_eq_mapM_toList, Sem.run_map, hvs]; rfl
    refine ⟨if h : vs.toArray.size = 1 then vs.toArray[0] else .tuple vs.toArray, ?_, ?_⟩
    · rw [results_eq, Sem.run_bind, hm]; rfl
    · match rs, vs, hvl with
      | [], [], _ => exact .tup [] [] rfl (fun j c v h => by simp at h)
      | [x], [v], _ => exact hvV 0 x v rfl rfl
      | x :: y :: rs, v :: u :: vs, hl => exact .tup _ _ hl (fun j c z hc hz => hvV j c z hc hz)
  obtain ⟨v, hv, hVv⟩ := hres
  have hsome : ∀ b, (gget g1 b).isSome = true → (gget g' b).isSome = true := fun b hb => by
    obtain ⟨o, ho⟩ := Option.isSome_iff_exists.1 hb
    rw [hsub b o ho]; rfl
  have hdf : (shift ((JR F0 w).ds g') a'').defers = [] := by simp [shift, hr'.defers, JR]
  have hfin : ∃ v', (results fn (shift ((JR F0 w).ds g') a'').tmps).run P w' = .ok v' w' ∧ ∃ v r g1, Ending.returned v' = .returned v ∧ S r g1 ∧ V w' (fun b => F0 b ∨ (gget g1 b).isSome = true) r v ∧ (∀ b o, gget g1 b = some o → w'.heap[b]? = some o) ∧
      (∀ b, (gget g1 b).isSome = true → (gget g0 b).isSome = true ∨ w.heap.size ≤ b) ∧ w'.os = w.os ∧ TapeLe w w' ∧ w'.output = w.output ∧ w.heap.size ≤ w'.heap.size ∧
      ∀ b, b < w.heap.size → gget g0 b = none → w'.heap[b]? = w.heap[b]? := by
    refine ⟨v, hv, v, r, g1, rfl, hS, ?_, fun b o ho => (j3 b o (hsub b o ho)).1, fun b hb => ?_, hev.os, hev.tape, hev.output, hev.size, fun b hb hn => ?_⟩
    · exact hwk.v (hVv.less (fun b hb => (j1 b).2 (hb.imp id (hsome b))))
    · rcases hev.fn b ((j1 b).2 (.inr (hsome b hb))) with h | h
      · rcases h with h | h
        · have := (j2 b h).2.2.2
          have h2 := hsome b hb
          rw [this] at h2; cases h2
        · exact .inl h
      · exact .inr h
    · by_cases hb0 : F0 b
      · exact (j2 b hb0).2.1
      · exact hev.keep b hb (fun h => h.elim hb0 (fun h => by rw [hn] at h; cases h)) not_owned_nil
  rcases he with rfl | rfl <;> exact ⟨hdf, hfin⟩

/-- A function whose raw blocks are its own business. -/
theorem RetRT.pure {f : FuncId} {ts : List (Nat × Tr)} {xs : List Tr} {r : Tr} (h : RetRT P f ts xs [] (fun r' _ => r' = r)) : RetT P f ts xs r := by
  intro F w vals hlt hT hV
  refine Calls.mono (h F w vals (fun b hb => ⟨hlt b hb, rfl⟩) (fun b o ho => by simp [gget] at ho) ?_ (hV.imp id fun h => fun i x v hx hv => (h i x v hx hv).less (fun b hb => hb.elim id (fun h => by simp [gget] at h)))) ?_
  · intro g x hm
    exact (hT g x hm).less (fun b hb => hb.elim id (fun h => by simp [gget] at h))
  · rintro e w' ⟨v, r', g1, rfl, rfl, hv, _, hdom, hos, htape, hout, hsz, hkeep⟩
    exact ⟨v, rfl, hv.less (fun b hb => .inl hb), ⟨⟨hos, htape.1, hout, hsz, fun b hb => hkeep b hb rfl⟩, htape.2⟩⟩

theorem RetT.ret {f : FuncId} {xs : List Tr} {r : Tr} (h : RetT P f [] xs r) : Ret P f xs r := fun F w vals hlt hV => h F w vals hlt (fun g x hm => by simp at hm) hV

end Go.Tv

end
section
namespace Go.Tv
open Go.ChangeMaps (setBlock)
variable {P : Program} {o : Oper} {D : St} {F0 : Nat → Prop} {w0 : World} {kty : TypeId} {α β : Type}

/-- A tree that is this frozen map. -/
inductive IsMap (L : List (Value × Value)) : Tr → Prop
  | d : IsMap L (.mpd L)
  | x (b : Nat) : IsMap L (.mpx b L)

theorem IsMap.v {w : World} {F : Nat → Prop} {L : List (Value × Value)} {x : Tr} {v : Value} (h : IsMap L x) (hv : V w F x v) : ∃ b L', v = .map (some b) ∧ L'.Perm L ∧ w.heap[b]? = some (mapM L') := by
  cases h with
  | d => cases hv with | mpd L L' b hb hF hp hm => exact ⟨b, L', rfl, hp, hm⟩
  | x b => cases hv with | mpx b L hb hF hm => exact ⟨b, L, rfl, .refl _, hm⟩

theorem lookV_none {k : Value} : ∀ {L : List (Value × Value)}, lookV k L = none ↔ ∀ p, p ∈ L → p.1 ≠ k
  | [] => by simp [lookV]
  | e :: l => by
    unfold lookV
    by_cases h : k = e.1
    · rw [if_pos h]
      constructor
      · intro h; cases h
      · intro hh; exact absurd h.symm (hh e List.mem_cons_self)
    · rw [if_neg h, lookV_none]
      constructor
      · intro hh p hp
        rcases List.mem_cons.1 hp with rfl | hp
        · exact fun e => h e.symm
        · exact hh p hp
      · exact fun hh p hp => hh p (List.mem_cons_of_mem _ hp)
theorem lookV_some {k v : Value} : ∀ {L : List (Value × Value)}, (L.map (·.1)).Nodup → (lookV k L = some v ↔ (k, v) ∈ L)
  | [], _ => by simp [lookV]
  | e :: l, hn => by
    rw [List.map_cons, List.nodup_cons] at hn
    unfold lookV
    by_cases h : k = e.1
    · rw [if_pos h, Option.some.injEq]
      constructor
      · rintro rfl; rw [h]; exact List.mem_cons_self
      · intro hm
        rcases List.mem_cons.1 hm with hm | hm
        · rw [← hm]
        · exact absurd (List.mem_map.2 ⟨_, hm, rfl⟩) (by rw [← h] at hn; exact hn.1)
    · rw [if_neg h, lookV_some hn.2]
      constructor
      · exact List.mem_cons_of_mem _
      · intro hm
        rcases List.mem_cons.1 hm with hm | hm
        · exact absurd (by rw [← hm]) h
        · exact hm
theorem lookV_perm {k : Value} {L L' : List (Value × Value)} (hp : L'.Perm L) (hn : (L.map (·.1)).Nodup) : lookV k L' = lookV k L := by
  have hn' : (L'.map (·.1)).Nodup := (hp.map _).nodup_iff.2 hn
  cases h : lookV k L with
  | none => rw [lookV_none] at h ⊢; exact fun p hp' => h p (hp.mem_iff.1 hp')
  | some v => rw [lookV_some hn] at h; rw [lookV_some hn']; exact hp.mem_iff.2 h

theorem mapL_nodup (K : MapK P kty α) (X : MapX β) {l : List (α × β)} (h : (l.map (·.1)).Nodup) : ((mapL K X l).map (·.1)).Nodup := by
  unfold mapL
  rw [List.map_map, show ((·.1) ∘ fun p : α × β => (K.kv p.1, X.xv p.2)) = K.kv ∘ (·.1) from rfl, ← List.map_map]
  exact List.Pairwise.map _ (fun a b hab e => hab (K.inj _ _ e)) h

section
variable [DecidableEq α]
/-- A look into a frozen map. -/
theorem eff_getD (K : MapK P kty α) (X : MapX β) {t ety : TypeId} {m k : Operand} {mt : Tr} {a : α} {l : List (α × β)} {z : Tr} {zv : Value} (ht : P.underlying t = some (.map kty ety)) (hz : zeroOf P ety = some z) (hzf : Solid z zv) (hd : dstOK D.n o.dst = true) {ok : Bool} (ho : o.op = .lookup t m k ok)
    (hm : D.ev m = .t mt) (him : IsMap (mapL K X l) mt) (hnd : (l.map (·.1)).Nodup) (hk : D.ev k = .t (K.kt a)) {u : Tr} (hu : ((lookA a l).map X.xt).getD z = u) : Eff P o D ⟨.t (bif ok then .tup [u, .bool (lookA a l).isSome] else u), []⟩ :=
  Eff.pure hd fun s hs' F β' a' w hR => by
    obtain ⟨r, L', hmv, hperm, hb⟩ := him.v (hR.evT hs' hm)
    have hkv2 := (K.flat a).eq _ _ _ (hR.evT hs' hk)
    have hget : (getObj r).run P w = .ok (.map (entsFrom 0 L').toArray L'.length) w := by simp [getObj, Sem.run, hb, mapM]
    have hfind := K.law.find w (K.kv a) (entsFrom 0 L') ⟨a, rfl⟩ (mapM_good (good := fun v => ∃ a, v = K.kv a) (fun y hy => mapL_good K X l y (hperm.mem_iff.1 hy)))
    have hlp : lookV (K.kv a) L' = lookV (K.kv a) (mapL K X l) := lookV_perm hperm (mapL_nodup K X hnd)
    obtain ⟨zv', hzr, hzV, _, _⟩ := zeroOf_run hz w (fun _ => False)
    have := hzf.eq _ _ _ hzV
    subst this
    have huf : Solid u (((lookA a l).map X.xv).getD zv') := by
      subst hu
      cases lookA a l with
      | none => exact hzf
      | some b => exact X.flat b
    refine ⟨bif ok then .tuple #[((lookA a l).map X.xv).getD zv', .bool (lookA a l).isSome] else ((lookA a l).map X.xv).getD zv', ?_, .t ?_⟩
    · simp only [execOp, ho, hmv, hkv2, Instr.lookup, Sem.run_bind, run_underlying' w ht, Result.andThen_ok, hget, Sem.run_pure, K.law.chk _ w (K.kv a) ⟨a, rfl⟩, hfind]
      have hl := hlp.trans (look_map K X a l)
      cases hla : lookA a l with
      | none =>
        rw [hla] at hl
        simp only [findV_none _ 0 0 hl, Sem.run_bind, hzr, Sem.run_pure, Result.andThen_ok]
        cases ok <;> rfl
      | some b =>
        rw [hla] at hl
        obtain ⟨j, _, hf, _⟩ := findV_some _ 0 0 hl
        simp only [hf, Result.andThen_ok]
        cases ok <;> rfl
    · cases ok
      · exact huf.is _ _
      · exact .tup [u, .bool (lookA a l).isSome] [_, .bool (lookA a l).isSome] rfl (fun j c v hc hv => by
          match j with
          | 0 => simp at hc hv; subst hc hv; exact huf.is _ _
          | 1 => simp at hc hv; subst hc hv; exact .bool _
          | j + 2 => simp at hc)
end

/-- The length of a frozen map. -/
theorem eff_lenD {t kty ety : TypeId} {x : Operand} {mt : Tr} {L : List (Value × Value)} (hd : dstOK D.n o.dst = true) (ho : o.op = .call { callee := .builtin .len, args := #[x], argTypes := #[t] }) (ht : P.underlying t = some (.map kty ety))
    (hx : D.ev x = .t mt) (him : IsMap L mt) : Eff P o D ⟨.t (.int .i64 (L.length : Nat)), []⟩ :=
  Eff.pure hd fun s hs' F β a w hR => by
    obtain ⟨r, L', hmv, hperm, hb⟩ := him.v (hR.evT hs' hx)
    have hget : (getObj r).run P w = .ok (.map (entsFrom 0 L').toArray L'.length) w := by simp [getObj, Sem.run, hb, mapM]
    have hlen := hperm.length_eq
    refine ⟨.int .i64 (L.length : Nat), ?_, .t (.int _ _)⟩
    simp only [execOp, ho, resolve, hmv, invoke, builtin, Builtin.len_, List.map_toArray, List.map_cons, List.map_nil, Sem.run_bind, Sem.run_pure, Result.andThen_ok, List.getElem?_toArray, List.getElem?_cons_zero,
      run_underlying' w ht, goInt, hget]
    simp [ents_length, hlen]

/-! ### Ranging over a frozen map -/

theorem effJ_rangeX (K : MapK P kty α) (X : MapX β) {t ety : TypeId} {x : Operand} {m : Nat} {l : List (α × β)} {g : Gh} (ht : P.underlying t = some (.map kty ety)) (hd : dstOK D.n o.dst = true) (ho : o.op = .range t x) (hx : D.ev x = .t (.mpx m (mapL K X l))) :
    EffJ P none (JR F0 w0) o D g (fun e g' => ∃ r, gget g r = none ∧ e = ⟨.t (.adr r 0), []⟩ ∧ g' = (r, itM m l.length []) :: g) :=
  raw_op hd (by unfold noDefer; rw [ho]) fun F β a w hr hgw => by
    have hev := hr.ev x
    rw [hx] at hev
    obtain ⟨hmv, hb⟩ : a.eval x = .map (some m) ∧ w.heap[m]? = some (mapM (mapL K X l)) := by
      generalize a.eval x = v at hev
      cases hev with | t h => cases h with | mpx b L hb hF hm => exact ⟨rfl, hm⟩
    unfold mapM at hb
    rw [mapL_length] at hb
    have hget : (getObj m).run P w = .ok (.map (entsFrom 0 (mapL K X l)).toArray l.length) w := by simp [getObj, Sem.run, hb]
    obtain ⟨h1, h2⟩ := rawStep_new (q := itM m l.length []) (v := .pointer (some ⟨w.heap.size, 0, none⟩)) (x := .adr w.heap.size 0) (fun _ _ => .adr _ _) hgw
    refine ⟨_, _, _, _, ?_, ⟨_, h1, rfl, rfl⟩, h2⟩
    simp only [execOp, ho, hmv, Instr.range, Sem.run_bind, run_underlying' w ht, Result.andThen_ok, hget, Sem.run_pure, run_newObj, World.alloc_eq]
    rfl

theorem effJ_nextX (K : MapK P kty α) (X : MapX β) {x y : Operand} {r m : Nat} {seen : List Nat} {l : List (α × β)} {g : Gh} (hy : D.ev y = .t (.mpx m (mapL K X l))) (hd : dstOK D.n o.dst = true) (ho : o.op = .next x false) (hx : D.ev x = .t (.adr r 0))
    (hr0 : gget g r = some (itM m l.length seen)) :
    EffJ P none (JR F0 w0) o D g (fun e g' => (e = ⟨.t (.tup [.bool false]), []⟩ ∧ g' = g ∧ ∀ i, i < l.length → i ∈ seen) ∨
      ∃ (i : Nat) (hi : i < l.length), i ∉ seen ∧ e = ⟨.t (.tup [.bool true, K.kt l[i].1, X.xt l[i].2]), []⟩ ∧ g' = (r, itM m l.length (seen ++ [i])) :: g) :=
  raw_op hd (by unfold noDefer; rw [ho]) fun F β' a w hr hgw => by
    have hxv := hr.solid hx (solid_adr r 0)
    have hev := hr.ev y
    rw [hy] at hev
    have hb : w.heap[m]? = some (.map (entsFrom 0 (mapL K X l)).toArray (mapL K X l).length) := by
      generalize a.eval y = v at hev
      cases hev with | t h => cases h with | mpx b L hb hF hm => exact hm
    have hit : w.heap[r]? = some (.mapIter (some m) l.length seen.toArray l.length) := hgw r _ hr0
    rw [mapL_length] at hb
    have hold : ∀ y ∈ (entsFrom 0 (mapL K X l)).toArray.toList, y.born < l.length := fun y hy => by
      obtain ⟨i, hi, rfl⟩ := ents_mem (by simpa using hy)
      simpa [mapL_length] using hi
    rcases run_next_at (P := P) w o.type r m l.length l.length seen.toArray _ _ hit hb hold (Nat.le_refl _) with ⟨h0, hrun⟩ | ⟨e, he, w1, hw1, hrun⟩
    · refine ⟨.tuple #[.bool false], w, .tup [.bool false], g, ?_, .inl ⟨rfl, rfl, fun i hi => ?_⟩, RawStep.refl (fun _ _ => ?_) hgw⟩
      · simp only [execOp, ho, hxv, Sem.run_bind, hrun, Result.andThen_ok, Sem.run_pure]
      · refine Classical.byContradiction fun hn => ?_
        have : ({ key := K.kv l[i].1, val := X.xv l[i].2, born := i } : MapEntry) ∈ (leftOf (entsFrom 0 (mapL K X l)).toArray seen.toArray).toList := by
          unfold leftOf
          rw [Array.toList_filter]
          refine List.mem_filter.2 ⟨?_, by simpa using hn⟩
          refine List.mem_iff_getElem?.2 ⟨i, ?_⟩
          simp only []
          rw [ents_get]; simp [hi, mapL]
        rw [Array.size_eq_zero_iff.1 h0] at this
        simp at this
      · exact .tup [.bool false] [.bool false] rfl (fun j c v hc hv => by
          match j with
          | 0 => simp at hc hv; subst hc hv; exact .bool _
          | j + 1 => simp at hc)
    · unfold leftOf at he
      rw [Array.toList_filter] at he
      obtain ⟨he1, he2⟩ := List.mem_filter.1 he
      obtain ⟨i, hi, rfl⟩ := ents_mem (by simpa using he1)
      have hi' : i < l.length := by simpa [mapL_length] using hi
      have hk : (mapL K X l)[i] = (K.kv l[i].1, X.xv l[i].2) := by simp [mapL]
      refine ⟨.tuple #[.bool true, K.kv l[i].1, X.xv l[i].2], setBlock w1 r (itM m l.length (seen ++ [i])), .tup [.bool true, K.kt l[i].1, X.xt l[i].2], (r, itM m l.length (seen ++ [i])) :: g, ?_, .inr ⟨i, hi', by simpa using he2, rfl, rfl⟩, ?_⟩
      · simp only [execOp, ho, hxv, Sem.run_bind, hrun, Result.andThen_ok, Sem.run_pure, hk]
        unfold itM
        rw [show seen.toArray.push i = (seen ++ [i]).toArray from by simp]
      · exact rawStep_put hw1 (fun W F => v_pairB ((K.flat _).is W F) ((X.flat _).is W F)) hgw hr0

theorem effJ_entryX (K : MapK P kty α) (X : MapX β) {x y : Operand} {r m : Nat} {seen : List Nat} {l : List (α × β)} {g : Gh} {i : Nat} (hi : i < l.length) (hy : D.ev y = .t (.mpx m (mapL K X l))) (hd : dstOK D.n o.dst = true) (ho : o.op = .entry x) (hx : D.ev x = .t (.adr r 0))
    (hr0 : gget g r = some (itM m l.length (seen ++ [i]))) :
    EffJ P none (JR F0 w0) o D g (fun e g' => e = ⟨.t (.tup [K.kt l[i].1, X.xt l[i].2]), []⟩ ∧ g' = g) :=
  raw_op hd (by unfold noDefer; rw [ho]) fun F β' a w hr hgw => by
    have hxv := hr.solid hx (solid_adr r 0)
    have hev := hr.ev y
    rw [hy] at hev
    have hb : w.heap[m]? = some (.map (entsFrom 0 (mapL K X l)).toArray (mapL K X l).length) := by
      generalize a.eval y = v at hev
      cases hev with | t h => cases h with | mpx b L hb hF hm => exact hm
    rw [mapL_length] at hb
    have hit : w.heap[r]? = some (.mapIter (some m) l.length (seen.toArray.push i) l.length) := by
      have h := hgw r _ hr0
      unfold itM at h
      rwa [show (seen ++ [i]).toArray = seen.toArray.push i from by simp] at h
    have hmem : ({ key := K.kv l[i].1, val := X.xv l[i].2, born := i } : MapEntry) ∈ (entsFrom 0 (mapL K X l)).toArray.toList := by
      refine List.mem_iff_getElem?.2 ⟨i, ?_⟩
      simp only []
      rw [ents_get]; simp [hi, mapL]
    have hnd : ((entsFrom 0 (mapL K X l)).toArray.toList.map (·.born)).Nodup := by
      simp only []
      rw [ents_born]
      exact List.nodup_range'
    have hrun := run_entry_at (P := P) w r m l.length seen.toArray _ _ _ hit hb hmem hnd
    refine ⟨.tuple #[K.kv l[i].1, X.xv l[i].2], w, .tup [K.kt l[i].1, X.xt l[i].2], g, by simp only [execOp, ho, hxv, Sem.run_bind, hrun, Result.andThen_ok, Sem.run_pure], ⟨rfl, rfl⟩, RawStep.refl (fun W F => ?_) hgw⟩
    exact .tup [K.kt l[i].1, X.xt l[i].2] [K.kv l[i].1, X.xv l[i].2] rfl (fun j c v hc hv => by
      match j with
      | 0 => simp at hc hv; subst hc hv; exact (K.flat _).is W F
      | 1 => simp at hc hv; subst hc hv; exact (X.flat _).is W F
      | j + 2 => simp at hc)

/-! ### In regions -/
section
variable {all l : List Oper} {n : Nat} {fr : Fra} {st : Sto} {g : Gh} {K' : St → Gh → Prop}

theorem RJ.rMake {t : TypeId} {d : Tmp} (hg : o.guard = none) (hd : o.dst = some d) (hdn : dstOK n (some d) = true) (ho : o.op = .makeMap t none)
    (h : ∀ r, gget g r = none → RJ P none (JR F0 w0) all l ⟨n, (d, .t (.mp r)) :: fr, st⟩ ((r, mapM []) :: g) K') : RJ P none (JR F0 w0) all (o :: l) ⟨n, fr, st⟩ g K' :=
  RJ.many (.inl hg) (effJ_makeMap (by rw [hd]; exact hdn) ho) (by
    rintro e g' ⟨r, h1, rfl, rfl⟩
    rw [hd]
    exact h r h1)

theorem RJ.rPut [DecidableEq α] (K : MapK P kty α) (X : MapX β) {t ety : TypeId} {m k x : Operand} {r : Nat} {a : α} {b : β} {lm : List (α × β)} (hg : o.guard = none) (hd : o.dst = none) (ho : o.op = .mapUpdate t m k x ∨ o.op = .insert t m k x) (ht : P.underlying t = some (.map kty ety))
    (hm : (St.mk n fr st).ev m = .t (.mp r)) (hk : (St.mk n fr st).ev k = .t (K.kt a)) (hx : (St.mk n fr st).ev x = .t (X.xt b)) (hgm : gget g r = some (mapO K X lm))
    (h : RJ P none (JR F0 w0) all l ⟨n, fr, st⟩ ((r, mapO K X (putA a b lm)) :: g) K') : RJ P none (JR F0 w0) all (o :: l) ⟨n, fr, st⟩ g K' :=
  RJ.many (.inl hg) (effJ_put K X ht hd ho hm hk hx hgm) (by
    rintro e g' ⟨rfl, rfl⟩
    rw [hd]
    exact h)

theorem RJ.rGet [DecidableEq α] (K : MapK P kty α) (X : MapX β) {t ety : TypeId} {m k : Operand} {r : Nat} {a : α} {lm : List (α × β)} {z u : Tr} {zv : Value} {d : Tmp} {ok : Bool} (hg : o.guard = none) (hd : o.dst = some d) (hdn : dstOK n (some d) = true) (ho : o.op = .lookup t m k ok) (ht : P.underlying t = some (.map kty ety))
    (hz : zeroOf P ety = some z) (hzf : Solid z zv) (hm : (St.mk n fr st).ev m = .t (.mp r)) (hk : (St.mk n fr st).ev k = .t (K.kt a)) (hgm : gget g r = some (mapO K X lm)) (hu : ((lookA a lm).map X.xt).getD z = u)
    (h : RJ P none (JR F0 w0) all l ⟨n, (d, .t (bif ok then .tup [u, .bool (lookA a lm).isSome] else u)) :: fr, st⟩ g K') : RJ P none (JR F0 w0) all (o :: l) ⟨n, fr, st⟩ g K' :=
  RJ.many (.inl hg) (effJ_get K X ht hz hzf (by rw [hd]; exact hdn) ho hm hk hgm hu) (by
    rintro e g' ⟨rfl, rfl⟩
    rw [hd]
    exact h)

theorem RJ.rRange (K : MapK P kty α) (X : MapX β) {t ety : TypeId} {x : Operand} {m : Nat} {lm : List (α × β)} {d : Tmp} (hg : o.guard = none) (hd : o.dst = some d) (hdn : dstOK n (some d) = true) (ho : o.op = .range t x) (ht : P.underlying t = some (.map kty ety))
    (hx : (St.mk n fr st).ev x = .t (.mpx m (mapL K X lm)))
    (h : ∀ r, gget g r = none → RJ P none (JR F0 w0) all l ⟨n, (d, .t (.adr r 0)) :: fr, st⟩ ((r, itM m lm.length []) :: g) K') : RJ P none (JR F0 w0) all (o :: l) ⟨n, fr, st⟩ g K' :=
  RJ.many (.inl hg) (effJ_rangeX K X ht (by rw [hd]; exact hdn) ho hx) (by
    rintro e g' ⟨r, h1, rfl, rfl⟩
    rw [hd]
    exact h r h1)

theorem RJ.rNext (K : MapK P kty α) (X : MapX β) (y : Operand) {x : Operand} {r m : Nat} {seen : List Nat} {lm : List (α × β)} {d : Tmp} (hg : o.guard = none) (hd : o.dst = some d) (hdn : dstOK n (some d) = true) (ho : o.op = .next x false)
    (hx : (St.mk n fr st).ev x = .t (.adr r 0)) (hy : (St.mk n fr st).ev y = .t (.mpx m (mapL K X lm))) (hr0 : gget g r = some (itM m lm.length seen))
    (hf : (∀ i, i < lm.length → i ∈ seen) → RJ P none (JR F0 w0) all l ⟨n, (d, .t (.tup [.bool false])) :: fr, st⟩ g K')
    (h : ∀ (i : Nat) (hi : i < lm.length), i ∉ seen → RJ P none (JR F0 w0) all l ⟨n, (d, .t (.tup [.bool true, K.kt lm[i].1, X.xt lm[i].2])) :: fr, st⟩ ((r, itM m lm.length (seen ++ [i])) :: g) K') : RJ P none (JR F0 w0) all (o :: l) ⟨n, fr, st⟩ g K' :=
  RJ.many (.inl hg) (effJ_nextX K X hy (by rw [hd]; exact hdn) ho hx hr0) (by
    rintro e g' (⟨rfl, rfl, h1⟩ | ⟨i, hi, h1, rfl, rfl⟩)
    · rw [hd]; exact hf h1
    · rw [hd]; exact h i hi h1)

theorem RJ.rEntry (K : MapK P kty α) (X : MapX β) (y : Operand) {x : Operand} {r m : Nat} {seen : List Nat} {lm : List (α × β)} {d : Tmp} {i : Nat} (hi : i < lm.length) (hg : o.guard = none) (hd : o.dst = some d) (hdn : dstOK n (some d) = true) (ho : o.op = .entry x)
    (hx : (St.mk n fr st).ev x = .t (.adr r 0)) (hy : (St.mk n fr st).ev y = .t (.mpx m (mapL K X lm))) (hr0 : gget g r = some (itM m lm.length (seen ++ [i])))
    (h : RJ P none (JR F0 w0) all l ⟨n, (d, .t (.tup [K.kt lm[i].1, X.xt lm[i].2])) :: fr, st⟩ g K') : RJ P none (JR F0 w0) all (o :: l) ⟨n, fr, st⟩ g K' :=
  RJ.many (.inl hg) (effJ_entryX K X hi hy (by rw [hd]; exact hdn) ho hx hr0) (by
    rintro e g' ⟨rfl, rfl⟩
    rw [hd]
    exact h)
end

/-! ### Opening and freezing -/

/-- A frozen map in a slot: its block gets a name. -/
theorem awj_open {γ : Type} {X : JP γ} {ro : Option Nat} {kp : Nat → Bool} {c : Code} {n : Nat} {fr : Fra} {st : Sto} {g : γ} {Q : Exit → St → γ → Prop} (i : Nat) {L : List (Value × Value)} (hi : fget fr i = .t (.mpd L))
    (h : ∀ b L', L'.Perm L → AWJ P ro kp X c ⟨n, (i, .t (.mpx b L')) :: fr, st⟩ g Q) : AWJ P ro kp X c ⟨n, fr, st⟩ g Q := by
  intro nn F β a w hr hJ
  have hv := hr.fr i
  rw [hi] at hv
  obtain ⟨b, L', hperm, hbv, hV⟩ : ∃ b L', L'.Perm L ∧ vAt a i = .map (some b) ∧ V w (G F β st) (.mpx b L') (vAt a i) := by
    generalize vAt a i = v at hv
    cases hv with
    | t h => cases h with | mpd L L' b hb hF hp hm => exact ⟨b, L', hp, rfl, .mpx b L' hb hF hm⟩
  have hr2 : Rel F β ⟨n, (i, .t (.mpx b L')) :: fr, st⟩ a w := by
    refine ⟨hr.defers, hr.size, fun j => ?_, hr.ob, hr.inj, hr.notF, hr.ltF⟩
    show VA w _ _ _ (cond (Nat.beq i j) (.t (.mpx b L')) (fget fr j)) _
    cases hij : Nat.beq i j with
    | true =>
      obtain rfl := Nat.eq_of_beq_eq_true hij
      exact .t hV
    | false => exact hr.fr j
  exact h b L' hperm nn F β a w hr2 hJ

def gdel (r : Nat) : Gh → Gh
  | [] => []
  | x :: l => if x.1 = r then gdel r l else x :: gdel r l
theorem gget_gdel (r b : Nat) : ∀ g : Gh, gget (gdel r g) b = if b = r then none else gget g b
  | [] => by simp [gdel, gget]
  | x :: l => by
    unfold gdel
    by_cases h : x.1 = r
    · rw [if_pos h, gget_gdel r b l]
      by_cases hb : b = r
      · simp [hb]
      · rw [if_neg hb, if_neg hb]
        show gget l b = if x.1 = b then some x.2 else gget l b
        rw [if_neg (fun e => hb (by rw [← e, h]))]
    · rw [if_neg h]
      unfold gget
      by_cases hb : x.1 = b
      · rw [if_pos hb, if_pos hb, if_neg (fun e => h (by rw [hb, e]))]
      · rw [if_neg hb, if_neg hb]; exact gget_gdel r b l

/-- A raw map becomes data. -/
theorem awj_freeze {kp : Nat → Bool} {c : Code} {n : Nat} {fr : Fra} {st : Sto} {g : Gh} {Q : Exit → St → Gh → Prop} (i : Nat) {r : Nat} {L0 : List (Value × Value)} (L : List (Value × Value)) (hi : fget fr i = .t (.mp r)) (hg : gget g r = some (mapM L0)) (hperm : L0.Perm L)
    (h : AWJ P none kp (JR F0 w0) c ⟨n, (i, .t (.mpd L)) :: fr, st⟩ (gdel r g) Q) : AWJ P none kp (JR F0 w0) c ⟨n, fr, st⟩ g Q := by
  intro nn F β a w hr hJ
  obtain ⟨j1, j2, j3, j4⟩ := hJ
  obtain ⟨hm, hno⟩ := j3 r _ hg
  have hF' : ∀ b, (F0 b ∨ (gget (gdel r g) b).isSome = true) → F b := fun b hb => (j1 b).2 (hb.imp id (fun h => by
    rw [gget_gdel] at h
    by_cases e : b = r
    · rw [if_pos e] at h; cases h
    · rw [if_neg e] at h; exact h))
  have hr1 : Rel (fun b => F0 b ∨ (gget (gdel r g) b).isSome = true) β ⟨n, fr, st⟩ a w := hr.party (Nat.le_refl _) (fun b _ hn => ⟨rfl, fun h => hn (hF' b h)⟩) (fun b hb => hr.ltF b (hF' b hb))
  have hv := hr.fr i
  rw [hi] at hv
  have hav : vAt a i = .map (some r) := by
    generalize vAt a i = v at hv
    cases hv with | t h => cases h; rfl
  have hr2 : Rel (fun b => F0 b ∨ (gget (gdel r g) b).isSome = true) β ⟨n, (i, .t (.mpd L)) :: fr, st⟩ a w := by
    refine ⟨hr1.defers, hr1.size, fun j => ?_, hr1.ob, hr1.inj, hr1.notF, hr1.ltF⟩
    show VA w _ _ _ (cond (Nat.beq i j) (.t (.mpd L)) (fget fr j)) _
    cases hij : Nat.beq i j with
    | true =>
      obtain rfl := Nat.eq_of_beq_eq_true hij
      rw [hav]
      refine .t (.mpd L L0 r (lt_of_heap hm) (fun hG => ?_) hperm hm)
      rcases hG with (h | h) | h
      · have := (j2 r h).2.2.2; rw [hg] at this; cases this
      · rw [gget_gdel, if_pos rfl] at h; cases h
      · exact hno h
    | false => exact hr1.fr j
  have hJ2 : (JR F0 w0).J (gdel r g) (Owned β st) (fun b => F0 b ∨ (gget (gdel r g) b).isSome = true) w := by
    refine ⟨fun b => Iff.rfl, fun b hb => ?_, fun b q hq => ?_, j4⟩
    · obtain ⟨g1, g2, g3, g4⟩ := j2 b hb
      refine ⟨g1, g2, g3, ?_⟩
      rw [gget_gdel]
      by_cases e : b = r
      · rw [if_pos e]
      · rw [if_neg e]; exact g4
    · rw [gget_gdel] at hq
      by_cases e : b = r
      · rw [if_pos e] at hq; cases hq
      · rw [if_neg e] at hq; exact j3 b q hq
  refine wpIn_mono (h nn _ β a w hr2 hJ2) ?_
  rintro e a' w' ⟨s', β', g', F', a'', hq, hr', rfl, hj', hev, hke⟩
  exact ⟨s', β', g', F', a'', hq, hr', rfl, hj', ⟨hev.os, hev.tape, hev.output, hev.size, fun b hb hn hno' => hev.keep b hb (fun h => hn (hF' b h)) hno', hev.own, fun b hb => (hev.fn b hb).imp (hF' b) id, hev.shp⟩, hke⟩

/-- A contract out of a body that works on raw blocks of its own. -/
theorem retT_of_awr {f : FuncId} {fn : Func} {c : Code} {ts : List (Nat × Tr)} {xs : List Tr} {r : Tr} (hf : P.funcs[f]? = some fn) (hb : fn.body = some c) (hn : xs.length ≤ fn.ntmps)
    (h : ∀ F0 w0, AWJ P none (fun _ => false) (JR F0 w0) c ⟨fn.ntmps, initFr 0 xs ++ tabFr fn.ntmps ts, []⟩ [] (fun e s _ => (e = .normal ∨ e = .ret) ∧ ∃ rs, RVars P s fn.results.toList rs ∧ Wk (packT rs) r)) : RetT P f ts xs r :=
  RetRT.pure (retRT_of_awj hf hb hn fun F0 w0 => by
    have h1 := h F0 w0
    intro nn F β a w hr hJ
    refine wpIn_mono (h1 nn F β a w hr hJ) ?_
    rintro e a' w' ⟨s', β', g', F', a'', ⟨he, rs, hrs, hwk⟩, hr', rfl, hj', hev, hke⟩
    exact ⟨s', β', g', F', a'', ⟨he, rs, r, [], hrs, hwk, rfl, fun b o ho => by simp [gget] at ho⟩, hr', rfl, hj', hev, hke⟩)
theorem ret_of_awr {f : FuncId} {fn : Func} {c : Code} {xs : List Tr} {r : Tr} (hf : P.funcs[f]? = some fn) (hb : fn.body = some c) (hn : xs.length ≤ fn.ntmps)
    (h : ∀ F0 w0, AWJ P none (fun _ => false) (JR F0 w0) c ⟨fn.ntmps, initFr 0 xs, []⟩ [] (fun e s _ => (e = .normal ∨ e = .ret) ∧ ∃ rs, RVars P s fn.results.toList rs ∧ Wk (packT rs) r)) : Ret P f xs r :=
  RetT.ret (retT_of_awr hf hb hn fun F0 w0 => by
    have := h F0 w0
    rwa [show initFr 0 xs ++ tabFr fn.ntmps [] = initFr 0 xs from by simp [tabFr]])

/-- A permutation of images is the image of a permutation. -/
theorem perm_of_map {α β : Type} {f : α → β} : ∀ (l : List α) {m : List β}, m.Perm (l.map f) → ∃ l' : List α, l'.Perm l ∧ m = l'.map f
  | [], m, h => ⟨[], .refl _, by simpa using h.eq_nil⟩
  | a :: l, m, h => by
    have hm : f a ∈ m := h.mem_iff.2 (by simp)
    obtain ⟨s, t, rfl⟩ := List.append_of_mem hm
    have h2 : (s ++ t).Perm (l.map f) := by
      have h3 : (f a :: (s ++ t)).Perm (f a :: l.map f) := List.perm_middle.symm.trans (by simpa using h)
      exact h3.cons_inv
    obtain ⟨l', hp, e⟩ := perm_of_map l h2
    obtain ⟨s', t', rfl, rfl, rfl⟩ : ∃ s' t', l' = s' ++ t' ∧ s = s'.map f ∧ t = t'.map f := by
      obtain ⟨s', t', e1, e2, e3⟩ := List.map_eq_append_iff.1 e.symm
      exact ⟨s', t', e1, e2.symm, e3.symm⟩
    exact ⟨s' ++ a :: t', List.perm_middle.trans (hp.cons a), by simp⟩

section
variable {all l : List Oper} {n : Nat} {fr : Fra} {st : Sto} {K : St → Prop} {tch : Tch} {cl : List (List Nat)} {i : Nat}
theorem RD.new2 {v : AV} {d : Tmp} {i1 i2 : Nat} {o1 o2 : Ob} (hg : o.guard = none) (hd : o.dst = some d) (ht : tch.getD i (none, []) = (some d, [i1, i2])) (he : Eff P o (forget (hid tch cl i) ⟨n, fr, st⟩) ⟨v, [(i1, o1), (i2, o2)]⟩)
    (h : RD P all tch cl (i + 1) l ((St.mk n fr st).app (some d) ⟨v, [(i1, o1), (i2, o2)]⟩) K) : RD P all tch cl i (o :: l) ⟨n, fr, st⟩ K :=
  ⟨_, by rw [ht, hd]; rfl, .inl ⟨hg, he⟩, by rw [hd]; exact h⟩
end
end Go.Tv

end
section
namespace Go.Tv

variable {P : Program} {o : Oper} {D : St}

inductive SK where
  | int (k : IntKind)
  | bool
  deriving DecidableEq
inductive Sc where
  | int (k : IntKind) (n : Int)
  | bool (b : Bool)
  deriving DecidableEq
def Sc.kind : Sc → SK
  | .int k _ => .int k
  | .bool _ => .bool
def Sc.v : Sc → Value
  | .int k n => .int k n
  | .bool b => .bool b
def Sc.tr : Sc → Tr
  | .int k n => .int k n
  | .bool b => .bool b
theorem Sc.solid (s : Sc) : Solid s.tr s.v := by cases s <;> first | exact solid_int _ _ | exact solid_bool _
theorem Sc.v_inj {a b : Sc} (h : a.v = b.v) : a = b := by
  cases a <;> cases b <;> simp [Sc.v] at h <;> simp [h]

/-- The fields of a struct from an offset on hold scalars, cell by cell. -/
def scFs (P : Program) (rec : TypeId → Option (List SK)) : Nat → List Field → Option (List SK)
  | _, [] => some []
  | off, f :: fs => match rec f.type with
    | some ks => if f.name ≠ "_" ∧ f.offset = off then (scFs P rec (off + ks.length) fs).map (ks ++ ·) else none
    | none => none

/-- The kinds of the cells of a type that holds scalars alone. -/
def scCells (P : Program) : Nat → TypeId → Option (List SK)
  | 0, _ => none
  | d + 1, t => match P.underlying t with
    | some (.int k) => match tinf P t with
      | some (1, false) => some [.int k]
      | _ => none
    | some .bool => match tinf P t with
      | some (1, false) => some [.bool]
      | _ => none
    | some (.struct fs) => match tinf P t, scFs P (scCells P d) 0 fs.toList with
      | some (k, true), some ks => if P.stoodInHeld t = false ∧ ks.length = k then some ks else none
      | _, _ => none
    | _ => none

/-- The cells of a part of an aggregate, as the value that it is. -/
def packS (g : Bool) (ns : List Sc) : Value := if g then .agg (ns.map Sc.v).toArray else (ns.headD (.bool false)).v

theorem scCells_tinf {d : Nat} {t : TypeId} {ks : List SK} (h : scCells P d t = some ks) : ∃ g, tinf P t = some (ks.length, g) ∧ (g = false → ks.length = 1) := by
  cases d with
  | zero => simp [scCells] at h
  | succ d =>
    unfold scCells at h
    split at h
    · split at h
      · rename_i h2; cases h; exact ⟨false, h2, fun _ => rfl⟩
      · cases h
    · split at h
      · rename_i h2; cases h; exact ⟨false, h2, fun _ => rfl⟩
      · cases h
    · split at h
      · rename_i h2 h3
        split at h
        · rename_i hc; cases h; exact ⟨true, by rw [h2, hc.2], fun h => by cases h⟩
        · cases h
      · cases h
    · cases h

theorem partS_run {t : TypeId} {k : Nat} {g : Bool} (h : tinf P t = some (k, g)) (hg : g = false → k = 1) (w : World) (ns : List Sc) (off : Nat) (hb : off + k ≤ ns.length) :
    (part t (ns.map Sc.v).toArray off).run P w = .ok (packS g ((ns.drop off).take k)) w := by
  unfold part
  cases g with
  | true =>
    simp only [Sem.run_bind, run_isAgg' w h, Result.andThen_ok, if_true, run_sizeOf' w h, Sem.run_pure]
    congr 2
    apply Array.ext'
    simp [List.map_take, List.map_drop, List.extract_eq_take_drop]
  | false =>
    have hk := hg rfl
    subst hk
    have hlt : off < ns.length := by omega
    simp only [Sem.run_bind, run_isAgg' w h, Result.andThen_ok, Bool.false_eq_true, if_false]
    have h2 : (List.map Sc.v ns).toArray[off]? = some (ns[off].v) := by simp [hlt]
    rw [h2]
    simp only [Sem.run_pure]
    have h3 : (ns.drop off).take 1 = [ns[off]] := by
      rw [List.drop_eq_getElem_cons hlt]; rfl
    rw [h3]; rfl

/-- The comparison of the fields of a struct, one after another. -/
theorem fieldsS_run {d : Nat} (e : Nat) (ih : ∀ (t : TypeId) (ks : List SK) (g : Bool), scCells P d t = some ks → tinf P t = some (ks.length, g) → ∀ (w : World) (ns ms : List Sc), ns.map Sc.kind = ks → ms.map Sc.kind = ks →
      (Op.equalIn (d + e) t (packS g ns) (packS g ms)).run P w = .ok (decide (ns = ms)) w) (w : World) (ns ms : List Sc) (hl : ns.map Sc.kind = ms.map Sc.kind) :
    ∀ (fs : List Field) (off : Nat), scFs P (scCells P d) off fs = some ((ns.map Sc.kind).drop off) → off ≤ ns.length →
      (do
        let r ← forIn (m := Sem) fs ((none, ()) : Option Bool × Unit) fun f _ => do
          if f.name ≠ "_" then
            if !(← Op.equalIn (d + e) f.type (← part f.type (ns.map Sc.v).toArray f.offset) (← part f.type (ms.map Sc.v).toArray f.offset)) then pure (ForInStep.done (some false, ())) else pure (ForInStep.yield (none, ()))
          else pure (ForInStep.yield (none, ()))
        match r.1 with
        | none => pure true
        | some b => pure b : Sem Bool).run P w = .ok (decide (ns.drop off = ms.drop off)) w
  | [], off, h, hoff => by
    have hlen : ns.length = ms.length := by simpa using congrArg List.length hl
    simp only [scFs, Option.some.injEq] at h
    have h0 := congrArg List.length h
    simp at h0
    have h1 : ns.drop off = [] := List.drop_eq_nil_of_le (by omega)
    have h2 : ms.drop off = [] := List.drop_eq_nil_of_le (by omega)
    rw [h1, h2]
    simp only [List.forIn_nil, Sem.run_bind, Sem.run_pure, Result.andThen_ok]
    rfl
  | f :: fs, off, h, hoff => by
    have hlen : ns.length = ms.length := by simpa using congrArg List.length hl
    unfold scFs at h
    split at h
    · rename_i ks hk
      split at h
      · rename_i hc
        obtain ⟨hn, ho⟩ := hc
        subst ho
        obtain ⟨g, ht, hg⟩ := scCells_tinf hk
        obtain ⟨rest, hrest, happ⟩ := Option.map_eq_some_iff.1 h
        have hb : f.offset + ks.length ≤ ns.length := by
          have := congrArg List.length happ
          simp at this; omega
        have hks : ((ns.drop f.offset).take ks.length).map Sc.kind = ks := by
          rw [List.map_take, List.map_drop, ← happ]; simp
        have hks2 : ((ms.drop f.offset).take ks.length).map Sc.kind = ks := by
          rw [List.map_take, List.map_drop, ← hl, ← happ]; simp
        have hrest2 : scFs P (scCells P d) (f.offset + ks.length) fs = some ((ns.map Sc.kind).drop (f.offset + ks.length)) := by
          rw [hrest, ← List.drop_drop, ← happ]; simp
        have hr := fieldsS_run e ih w ns ms hl fs (f.offset + ks.length) hrest2 hb
        have h1 := partS_run ht hg w ns f.offset hb
        have h2 := partS_run ht hg w ms f.offset (by omega)
        have h3 := ih f.type ks g hk ht w ((ns.drop f.offset).take ks.length) ((ms.drop f.offset).take ks.length) hks hks2
        have hsp : (ns.drop f.offset = ms.drop f.offset) ↔ ((ns.drop f.offset).take ks.length = (ms.drop f.offset).take ks.length ∧ ns.drop (f.offset + ks.length) = ms.drop (f.offset + ks.length)) := by
          constructor
          · intro he; rw [he]; refine ⟨rfl, ?_⟩
            rw [← List.drop_drop, ← List.drop_drop, he]
          · rintro ⟨ha, hb⟩
            rw [← List.take_append_drop ks.length (ns.drop f.offset), ← List.take_append_drop ks.length (ms.drop f.offset), ha, List.drop_drop, List.drop_drop, hb]
        rw [List.forIn_cons]
        by_cases he : (ns.drop f.offset).take ks.length = (ms.drop f.offset).take ks.length
        · have e1 : decide ((ns.drop f.offset).take ks.length = (ms.drop f.offset).take ks.length) = true := decide_eq_true he
          rw [e1] at h3
          have e2 : decide (ns.drop f.offset = ms.drop f.offset) = decide (ns.drop (f.offset + ks.length) = ms.drop (f.offset + ks.length)) := decide_eq_decide.2 (by rw [hsp]; exact ⟨fun h => h.2, fun h => ⟨he, h⟩⟩)
          rw [e2, ← hr]
          simp only [ne_eq, hn, not_false_eq_true, if_true, bind_assoc, Sem.run_bind, h1, h2, h3, Result.andThen_ok, Bool.not_true, Bool.false_eq_true, if_false, Sem.run_pure]
        · have e1 : decide ((ns.drop f.offset).take ks.length = (ms.drop f.offset).take ks.length) = false := decide_eq_false he
          rw [e1] at h3
          have e2 : decide (ns.drop f.offset = ms.drop f.offset) = false := decide_eq_false (fun h => he (hsp.1 h).1)
          rw [e2]
          simp only [ne_eq, hn, not_false_eq_true, if_true, bind_assoc, Sem.run_bind, h1, h2, h3, Result.andThen_ok, Bool.not_false, Sem.run_pure]
      · cases h
    · cases h

theorem equalS_run : ∀ (d e : Nat) (t : TypeId) (ks : List SK) (g : Bool), scCells P d t = some ks → tinf P t = some (ks.length, g) → ∀ (w : World) (ns ms : List Sc), ns.map Sc.kind = ks → ms.map Sc.kind = ks →
    (Op.equalIn (d + e) t (packS g ns) (packS g ms)).run P w = .ok (decide (ns = ms)) w
  | 0, _, _, _, _, h, _, _, _, _, _, _ => by simp [scCells] at h
  | d + 1, e, t, ks, g, h, ht, w, ns, ms, hn, hm => by
    have hde : d + 1 + e = (d + e) + 1 := by omega
    rw [hde]
    have hone : ∀ {k : SK} {l : List Sc}, l.map Sc.kind = [k] → ∃ s, l = [s] ∧ s.kind = k := by
      intro k l h
      match l, h with
      | [s], h => exact ⟨s, rfl, by simpa using h⟩
    unfold scCells at h
    split at h
    · rename_i k hu
      split at h
      · rename_i h2
        cases h
        rw [h2] at ht; cases ht
        obtain ⟨a, rfl, ha⟩ := hone hn
        obtain ⟨b, rfl, hb⟩ := hone hm
        cases a <;> simp [Sc.kind] at ha
        cases b <;> simp [Sc.kind] at hb
        subst ha; subst hb
        rename_i n k' m
        show (Op.equalIn (d + e + 1) t (.int k' n) (.int k' m)).run P w = _
        simp only [Op.equalIn, Sem.run_bind, run_underlying' w hu, Result.andThen_ok, if_true, Sem.run_pure]
        congr 1
        by_cases hnm : n = m
        · subst hnm; simp
        · simp [hnm]
      · cases h
    · rename_i hu
      split at h
      · rename_i h2
        cases h
        rw [h2] at ht; cases ht
        obtain ⟨a, rfl, ha⟩ := hone hn
        obtain ⟨b, rfl, hb⟩ := hone hm
        cases a <;> simp [Sc.kind] at ha
        cases b <;> simp [Sc.kind] at hb
        rename_i n m
        show (Op.equalIn (d + e + 1) t (.bool n) (.bool m)).run P w = _
        simp only [Op.equalIn, Sem.run_bind, run_underlying' w hu, Result.andThen_ok, Sem.run_pure]
        congr 1
        by_cases hnm : n = m
        · subst hnm; simp
        · simp [hnm]
      · cases h
    · rename_i fs hu
      split at h
      · rename_i k' ks' h2 hfs
        split at h
        · rename_i hc
          cases h
          obtain ⟨hst, hlen⟩ := hc
          rw [h2, hlen] at ht; cases ht
          rw [← hn] at hfs
          have := fieldsS_run e (fun t k g hk ht w ns ms hn hm => equalS_run d e t k g hk ht w ns ms hn hm) w ns ms (hn.trans hm.symm) fs.toList 0 (by simpa using hfs) (Nat.zero_le _)
          simp only [List.drop_zero] at this
          rw [← this]
          show (Op.equalIn (d + e + 1) t (.agg (ns.map Sc.v).toArray) (.agg (ms.map Sc.v).toArray)).run P w = _
          simp only [Op.equalIn, Sem.run_bind, run_underlying' w hu, Result.andThen_ok, run_program, hst, Bool.false_eq_true, if_false]
          rw [← Array.forIn_toList]
          congr 1
          funext a w'
          rcases a with ⟨_ | b, _⟩ <;> rfl
        · cases h
      · cases h
    · cases h

theorem solid_scs (ns : List Sc) : Solid (.agg (ns.map Sc.tr)) (packS true ns) := by
  refine solid_agg (by simp) (fun j x hx => ?_) (fun j x v hx hv => ?_)
  · rw [List.getElem?_map] at hx
    obtain ⟨s, _, rfl⟩ := Option.map_eq_some_iff.1 hx
    cases s <;> rfl
  · rw [List.getElem?_map] at hx hv
    obtain ⟨s, hs, rfl⟩ := Option.map_eq_some_iff.1 hx
    rw [hs] at hv
    cases hv
    exact s.solid

/-- Structs of scalars: equal where all their cells are. -/
theorem eff_structEqS {t ty : TypeId} {op : BinOp} {x y : Operand} {ks : List SK} {ns ms : List Sc} (hd : dstOK D.n o.dst = true) (ho : o.op = .binOp op t x y ty) (hop : op = .eql ∨ op = .neq)
    (ht : scCells P 8 t = some ks) (hta : tinf P t = some (ks.length, true)) (hgd : P.eqGuardType P.depth t = false)
    (hx : D.ev x = .t (.agg (ns.map Sc.tr))) (hy : D.ev y = .t (.agg (ms.map Sc.tr))) (hn : ns.map Sc.kind = ks) (hm : ms.map Sc.kind = ks) :
    Eff P o D ⟨.t (.bool (if op = .eql then decide (ns = ms) else decide (ns ≠ ms))), []⟩ :=
  Eff.pure hd fun s hs' F β a w hR => by
    have h1 := (solid_scs ns).eq _ _ _ (hR.evT hs' hx)
    have h2 := (solid_scs ms).eq _ _ _ (hR.evT hs' hy)
    refine ⟨.bool (if op = .eql then decide (ns = ms) else decide (ns ≠ ms)), ?_, .t (.bool _)⟩
    have he : (Op.equal t (packS true ns) (packS true ms)).run P w = .ok (decide (ns = ms)) w := equalS_run 8 9992 t ks true ht hta w ns ms hn hm
    have hg : ∀ op', (eqGuard op' t x y (packS true ns) (packS true ms)).run P w = .ok () w := by
      intro op'
      unfold eqGuard packS
      cases op' <;> simp [hgd]
    have hb1 : (binOp .eql t (packS true ns) (packS true ms)).run P w = .ok (.bool (decide (ns = ms))) w := by
      show (do pure (Value.bool (← Op.equal t (packS true ns) (packS true ms))) : Sem Value).run P w = _
      simp only [Sem.run_bind, he, Result.andThen_ok, Sem.run_pure]
    have hb2 : (binOp .neq t (packS true ns) (packS true ms)).run P w = .ok (.bool (decide (ns ≠ ms))) w := by
      show (do pure (Value.bool (!(← Op.equal t (packS true ns) (packS true ms)))) : Sem Value).run P w = _
      simp only [Sem.run_bind, he, Result.andThen_ok, Sem.run_pure]
      congr 2
      by_cases h : ns = ms <;> simp [h]
    rcases hop with rfl | rfl <;> simp only [execOp, ho, h1, h2, Sem.run_bind, hg, Result.andThen_ok, hb1, hb2, Sem.run_pure] <;> rfl

theorem eff_structEqlS {t ty : TypeId} {x y : Operand} {ks : List SK} {ns ms : List Sc} (hd : dstOK D.n o.dst = true) (ho : o.op = .binOp .eql t x y ty)
    (ht : scCells P 8 t = some ks) (hta : tinf P t = some (ks.length, true)) (hgd : P.eqGuardType P.depth t = false)
    (hx : D.ev x = .t (.agg (ns.map Sc.tr))) (hy : D.ev y = .t (.agg (ms.map Sc.tr))) (hn : ns.map Sc.kind = ks) (hm : ms.map Sc.kind = ks) :
    Eff P o D ⟨.t (.bool (decide (ns = ms))), []⟩ := eff_structEqS hd ho (.inl rfl) ht hta hgd hx hy hn hm
theorem eff_structNeqS {t ty : TypeId} {x y : Operand} {ks : List SK} {ns ms : List Sc} (hd : dstOK D.n o.dst = true) (ho : o.op = .binOp .neq t x y ty)
    (ht : scCells P 8 t = some ks) (hta : tinf P t = some (ks.length, true)) (hgd : P.eqGuardType P.depth t = false)
    (hx : D.ev x = .t (.agg (ns.map Sc.tr))) (hy : D.ev y = .t (.agg (ms.map Sc.tr))) (hn : ns.map Sc.kind = ks) (hm : ms.map Sc.kind = ks) :
    Eff P o D ⟨.t (.bool (decide (ns ≠ ms))), []⟩ := eff_structEqS hd ho (.inr rfl) ht hta hgd hx hy hn hm

theorem eff_structEqlA {α : Type} [DecidableEq α] {cells : α → List Sc} {t ty : TypeId} {x y : Operand} {ks : List SK} {a b : α} (hd : dstOK D.n o.dst = true) (ho : o.op = .binOp .eql t x y ty)
    (ht : scCells P 8 t = some ks) (hta : tinf P t = some (ks.length, true)) (hgd : P.eqGuardType P.depth t = false) (hinj : ∀ a b, cells a = cells b → a = b) (hk : ∀ a, (cells a).map Sc.kind = ks)
    (hx : D.ev x = .t (.agg ((cells a).map Sc.tr))) (hy : D.ev y = .t (.agg ((cells b).map Sc.tr))) : Eff P o D ⟨.t (.bool (decide (a = b))), []⟩ := by
  have := eff_structEqlS (P := P) hd ho ht hta hgd hx hy (hk a) (hk b)
  rwa [show decide (cells a = cells b) = decide (a = b) from decide_eq_decide.2 ⟨hinj a b, fun h => by rw [h]⟩] at this
theorem eff_structNeqA {α : Type} [DecidableEq α] {cells : α → List Sc} {t ty : TypeId} {x y : Operand} {ks : List SK} {a b : α} (hd : dstOK D.n o.dst = true) (ho : o.op = .binOp .neq t x y ty)
    (ht : scCells P 8 t = some ks) (hta : tinf P t = some (ks.length, true)) (hgd : P.eqGuardType P.depth t = false) (hinj : ∀ a b, cells a = cells b → a = b) (hk : ∀ a, (cells a).map Sc.kind = ks)
    (hx : D.ev x = .t (.agg ((cells a).map Sc.tr))) (hy : D.ev y = .t (.agg ((cells b).map Sc.tr))) : Eff P o D ⟨.t (.bool (decide (a ≠ b))), []⟩ := by
  have := eff_structNeqS (P := P) hd ho ht hta hgd hx hy (hk a) (hk b)
  rwa [show decide (cells a ≠ cells b) = decide (a ≠ b) from decide_eq_decide.2 ⟨fun h e => h (by rw [e]), fun h e => h (hinj a b e)⟩] at this

/-! ### Keys -/

theorem checkS_run : ∀ (d e : Nat) (t : TypeId) (ks : List SK) (g : Bool), scCells P d t = some ks → tinf P t = some (ks.length, g) → ∀ (b : Bool) (w : World) (ns : List Sc), ns.map Sc.kind = ks →
    (Instr.checkKey b (d + e) t (packS g ns)).run P w = .ok () w
  | 0, _, _, _, _, h, _, _, _, _, _ => by simp [scCells] at h
  | d + 1, e, t, ks, g, h, ht, b, w, ns, hn => by
    have hde : d + 1 + e = (d + e) + 1 := by omega
    rw [hde]
    unfold scCells at h
    split at h
    · rename_i k hu
      unfold Instr.checkKey
      simp only [Sem.run_bind, run_underlying' w hu, Result.andThen_ok, Sem.run_pure]
    · rename_i hu
      unfold Instr.checkKey
      simp only [Sem.run_bind, run_underlying' w hu, Result.andThen_ok, Sem.run_pure]
    · rename_i fs hu
      split at h
      · rename_i k' ks' h2 hfs
        split at h
        · rename_i hc
          cases h
          obtain ⟨hst, hlen⟩ := hc
          rw [h2, hlen] at ht; cases ht
          have key : ∀ (fs : List Field) (off : Nat), scFs P (scCells P d) off fs = some (ks.drop off) → off ≤ ks.length →
              (forIn (m := Sem) fs PUnit.unit fun f (_ : PUnit) =>
                if f.name ≠ "_" then do
                  Instr.checkKey b (d + e) f.type (← part f.type (ns.map Sc.v).toArray f.offset)
                  pure (ForInStep.yield PUnit.unit)
                else pure (ForInStep.yield PUnit.unit)).run P w = .ok () w := by
            intro fs
            induction fs with
            | nil => intro off _ _; simp only [List.forIn_nil, Sem.run_pure]
            | cons f fs ih2 =>
              intro off h hoff
              unfold scFs at h
              split at h
              · rename_i ks2 hk2
                split at h
                · rename_i hc2
                  obtain ⟨hnm, ho⟩ := hc2
                  subst ho
                  obtain ⟨g2, ht2, hg2⟩ := scCells_tinf hk2
                  obtain ⟨rest, hrest, happ⟩ := Option.map_eq_some_iff.1 h
                  have hnl : ns.length = ks.length := by rw [← hn]; simp
                  have hb : f.offset + ks2.length ≤ ns.length := by
                    have := congrArg List.length happ
                    simp at this; omega
                  have hks : ((ns.drop f.offset).take ks2.length).map Sc.kind = ks2 := by
                    rw [List.map_take, List.map_drop, hn, ← happ]; simp
                  have hrest2 : scFs P (scCells P d) (f.offset + ks2.length) fs = some (ks.drop (f.offset + ks2.length)) := by
                    rw [hrest, ← List.drop_drop, ← happ]; simp
                  have h1 := partS_run ht2 hg2 w ns f.offset hb
                  have h3 := checkS_run d e f.type ks2 g2 hk2 ht2 b w _ hks
                  have hr := ih2 _ hrest2 (by omega)
                  rw [List.forIn_cons]
                  simp only [ne_eq, hnm, not_false_eq_true, if_true, bind_assoc, Sem.run_bind, h1, h3, Result.andThen_ok, Sem.run_pure, pure_bind]
                  simpa only [ne_eq, bind_assoc] using hr
                · cases h
              · cases h
          show (Instr.checkKey b (d + e + 1) t (.agg (ns.map Sc.v).toArray)).run P w = _
          unfold Instr.checkKey
          simp only [Sem.run_bind, run_underlying' w hu, Result.andThen_ok]
          rw [← Array.forIn_toList]
          have hk := key fs.toList 0 (by simpa using hfs) (Nat.zero_le _)
          rw [hk]
          simp only [Result.andThen_ok, Sem.run_pure]
        · cases h
      · cases h
    · cases h

theorem sameBits_sc (n : Nat) (s : Sc) : Instr.sameBits n s.v s.v = true := by cases s <;> cases n <;> simp [Sc.v, Instr.sameBits]

open Classical in
theorem findAsking_scs {t : TypeId} {ks : List SK} (ht : scCells P 8 t = some ks) (hta : tinf P t = some (ks.length, true)) (w : World) (k : List Sc) (hk : k.map Sc.kind = ks) :
    ∀ (es : List MapEntry) (i : Nat), (∀ e, e ∈ es → ∃ ns : List Sc, ns.map Sc.kind = ks ∧ e.key = packS true ns) → (Instr.findAsking t (packS true k) es i).run P w = .ok (findV (packS true k) es i) w
  | [], i, _ => by simp [Instr.findAsking, findV, Sem.run_pure]
  | e :: es, i, h => by
    obtain ⟨ns, hns, hkey⟩ := h e List.mem_cons_self
    have he : (Op.equal t (packS true k) e.key).run P w = .ok (decide (k = ns)) w := by
      rw [hkey]; exact equalS_run 8 9992 t ks true ht hta w k ns hk hns
    have hiff : packS true k = e.key ↔ k = ns := by
      rw [hkey]
      constructor
      · intro h
        have h2 : (k.map Sc.v) = (ns.map Sc.v) := by
          have h3 : Value.agg (k.map Sc.v).toArray = .agg (ns.map Sc.v).toArray := h
          simpa using h3
        exact List.map_inj_right (fun a b h => Sc.v_inj h) |>.1 h2
      · intro h; rw [h]
    unfold Instr.findAsking findV
    simp only [Sem.run_bind, he, Result.andThen_ok]
    by_cases hkn : k = ns
    · rw [if_pos (hiff.2 hkn), decide_eq_true hkn]; simp only [if_true, Sem.run_pure]
    · rw [if_neg (fun h => hkn (hiff.1 h)), decide_eq_false hkn]
      simp only [Bool.false_eq_true, if_false]
      exact findAsking_scs ht hta w k hk es (i + 1) (fun e he => h e (List.mem_cons_of_mem _ he))

theorem keyT_scs {t : TypeId} {ks : List SK} {fs : Array Field} (hu : P.underlying t = some (.struct fs)) (ht : scCells P 8 t = some ks) (hta : tinf P t = some (ks.length, true)) {good : Value → Prop} (hgood : ∀ v, good v → ∃ ns : List Sc, ns.map Sc.kind = ks ∧ v = packS true ns) : KeyT P t good where
  chk := fun b w v hv => by
    obtain ⟨ns, hns, rfl⟩ := hgood v hv
    exact checkS_run 8 9992 t ks true ht hta b w ns hns
  find := fun w k es hk hes => by
    obtain ⟨ns, hns, rfl⟩ := hgood k hk
    have hrun := findAsking_scs ht hta w ns hns es 0 (fun e he => hgood _ (hes e he))
    unfold Instr.findKey
    simp only [Sem.run_bind, run_underlying' w hu, Result.andThen_ok]
    cases es with
    | nil => simp [Instr.findNow, findV, Sem.run_pure]
    | cons e es =>
      have h0 : Instr.findNow (.struct fs) (packS true ns) (e :: es) 0 = none := by
        unfold Instr.findNow Instr.sameNow
        rfl
      rw [h0]
      exact hrun
  same := fun v hv => by
    obtain ⟨ns, _, rfl⟩ := hgood v hv
    show Instr.sameBits 10000 (.agg (ns.map Sc.v).toArray) (.agg (ns.map Sc.v).toArray) = true
    unfold Instr.sameBits
    simp only [beq_self_eq_true, Bool.true_and, List.all_eq_true]
    intro x hx
    have : ∃ s : Sc, x = (s.v, s.v) := by
      have h2 : ∀ (l : List Value) (y : Value × Value), y ∈ l.zip l → ∃ z, z ∈ l ∧ y = (z, z) := by
        intro l
        induction l with
        | nil => intro y hy; simp at hy
        | cons a l ih =>
          intro y hy
          rw [List.zip_cons_cons] at hy
          rcases List.mem_cons.1 hy with h | h
          · exact ⟨a, List.mem_cons_self, h⟩
          · obtain ⟨z, hz, e⟩ := ih y h
            exact ⟨z, List.mem_cons_of_mem _ hz, e⟩
      obtain ⟨z, hz, e⟩ := h2 _ x hx
      obtain ⟨s, _, rfl⟩ := List.mem_map.1 hz
      exact ⟨s, e⟩
    obtain ⟨s, rfl⟩ := this
    exact sameBits_sc _ s

open Classical in
theorem findNow_int {ik : IntKind} (k : Int) : ∀ (es : List MapEntry) (i : Nat), (∀ e, e ∈ es → ∃ n, e.key = .int ik n) → Instr.findNow (.int ik) (.int ik k) es i = some (findV (.int ik k) es i)
  | [], i, _ => by simp [Instr.findNow, findV]
  | e :: es, i, h => by
    obtain ⟨n, hn⟩ := h e List.mem_cons_self
    unfold Instr.findNow findV Instr.sameNow
    rw [hn]
    by_cases hkn : k = n
    · subst hkn; simp
    · have : ¬ Value.int ik k = .int ik n := fun h => hkn (by simpa using h)
      simp only [if_true, if_neg this]
      rw [show (k == n) = false by simpa using hkn]
      exact findNow_int k es (i + 1) (fun e he => h e (List.mem_cons_of_mem _ he))

theorem keyT_int {t : TypeId} {ik : IntKind} (hu : P.underlying t = some (.int ik)) : KeyT P t (fun v => ∃ n : Int, v = .int ik n) where
  chk := fun b w v _ => by
    unfold Instr.checkKey
    simp only [Sem.run_bind, run_underlying' w hu, Result.andThen_ok, Sem.run_pure]
  find := fun w k es hk hes => by
    obtain ⟨n, rfl⟩ := hk
    unfold Instr.findKey
    simp only [Sem.run_bind, run_underlying' w hu, Result.andThen_ok, findNow_int n es 0 hes, Sem.run_pure]
  same := fun v hv => by obtain ⟨n, rfl⟩ := hv; simp [Instr.sameBits]

/-- int keys. -/
def MapK.int {t : TypeId} {ik : IntKind} (hu : P.underlying t = some (.int ik)) : MapK P t Int :=
  ⟨.int ik, .int ik, fun a => solid_int _ _, fun a b h => by simpa using h, keyT_int hu⟩

/-- Structs of scalars as keys. -/
def MapK.scs {t : TypeId} {ks : List SK} {fs : Array Field} {α : Type} (hu : P.underlying t = some (.struct fs)) (ht : scCells P 8 t = some ks) (hta : tinf P t = some (ks.length, true)) (cells : α → List Sc) (hc : ∀ a, (cells a).map Sc.kind = ks) (hinj : ∀ a b, cells a = cells b → a = b) : MapK P t α :=
  ⟨fun a => .agg ((cells a).map Sc.tr), fun a => packS true (cells a), fun a => solid_scs _, fun a b h => hinj a b (by
    have h2 : ((cells a).map Sc.v) = ((cells b).map Sc.v) := by
      have h3 : Value.agg ((cells a).map Sc.v).toArray = .agg ((cells b).map Sc.v).toArray := h
      simpa using h3
    exact List.map_inj_right (fun a b h => Sc.v_inj h) |>.1 h2), keyT_scs hu ht hta (fun v ⟨a, e⟩ => ⟨cells a, hc a, e⟩)⟩
end Go.Tv

end
section
namespace Go.Tv
open Go.ChangeShapes Go.WideShapes Go.ChangeAt Go.RowKit
variable {P : Program}

def intsD {H : Type} (k : IntKind) (l : List Int) : DataW H := .agg (l.map (fun n => .lit (.int k n)))

theorem laidVars_mem {W : World} {n : String} {d : DataW Unit} : ∀ {laid : List (String × DataW Unit)} {ps : List MemPlace}, DataW.LaidVars P W laid ps → (n, d) ∈ laid →
    ∃ g t cs fuel p, P.globalNamed n = some g ∧ (P.globals[g]?).map (·.type) = some t ∧ W.var? P n = some cs ∧ DataW.trod (fun _ => ()) P W 0 (fun _ => true) false fuel t cs.toList = some (d, p)
  | [], _, _, h => by simp at h
  | (n', d') :: r, ps, h, hm => by
    obtain ⟨g, t, cs, fuel, p, q, h1, h2, h3, h4, h5, _⟩ := h
    rcases List.mem_cons.1 hm with hm | hm
    · cases hm; exact ⟨g, t, cs, fuel, p, h1, h2, h3, h4⟩
    · exact laidVars_mem h5 hm

theorem tab_cells {H : Type} {enc : TypeId × Value → H} {W : World} {spare : Nat → Bool} {held : Bool} {n : String} {g : Nat} {t e : TypeId} {N : Nat} {k : IntKind} {l : List Int} {cs : Array Value} {fuel : Nat} {p : List MemPlace}
    (hne : l ≠ []) (hg : P.globalNamed n = some g) (hv : W.var? P n = some cs) (ht : P.underlying t = some (.array N e)) (he : P.underlying e = some (.int k)) (hce : P.cellsOf e = 1)
    (hd : DataW.trod enc P W 0 spare held fuel t cs.toList = some (intsD k l, p)) : V W (fun _ => False) (.ptr (l.map (Tr.int k))) (.pointer (some ⟨g, 0, none⟩)) := by
  obtain ⟨xs, m, rfl, hx, hlen, hn, hel⟩ := DataW.trod_array ht hd
  simp only [intsD, Prod.mk.injEq, DataW.agg.injEq] at hx
  obtain ⟨hx1, _⟩ := hx
  have hl : l.length = N := by
    have := congrArg List.length hx1
    simpa [hn] using this
  have key : ∀ i : Nat, ∀ hi : i < l.length, cs[i]? = some (.int k (l[i])) := by
    intro i hi
    have hiN : i < N := by omega
    have h1 := hel i hiN
    have hix : i < xs.length := by omega
    rw [List.getElem?_eq_getElem hix] at h1
    obtain ⟨z, e1, e2, _⟩ := DataW.trod_int he h1
    rw [hce] at e1
    have h2 : (l.map (fun n => (DataW.lit (.int k n) : DataW H)))[i]? = (xs.map (·.1))[i]? := by rw [hx1]
    rw [List.getElem?_map, List.getElem?_map, List.getElem?_eq_getElem hi, List.getElem?_eq_getElem hix, e2] at h2
    simp only [Option.map_some, Option.some.injEq, DataW.lit.injEq, Lit.int.injEq, true_and] at h2
    have h3 : (List.take 1 (List.drop (i * 1) cs.toList))[0]? = some (.int k z) := by rw [e1]; rfl
    rw [List.getElem?_take, if_pos (by omega), List.getElem?_drop] at h3
    simp only [Nat.mul_one, Nat.add_zero, Array.getElem?_toList] at h3
    rw [h3, h2]
  have hcell : ∀ i : Nat, ∀ hi : i < l.length, W.cell? ⟨g, i, none⟩ = some (.int k (l[i])) := fun i hi => (World.var?_cell hg hv i).trans (key i hi)
  have hb : g < W.heap.size := by
    have h0 : 0 < l.length := List.length_pos_iff.2 hne
    have h1 := hcell 0 h0
    rcases Nat.lt_or_ge g W.heap.size with h | h
    · exact h
    · unfold World.cell? at h1
      rw [Array.getElem?_eq_none h] at h1
      simp at h1
  refine .ptr _ g 0 (fun j => .int k (l.getD j 0)) hb (fun h => h) ?_ ?_ ?_
  · intro j c hc
    rw [List.getElem?_map] at hc
    obtain ⟨z, _, rfl⟩ := Option.map_eq_some_iff.1 hc
    rfl
  · intro j c hc
    rw [List.getElem?_map] at hc
    obtain ⟨z, hz, rfl⟩ := Option.map_eq_some_iff.1 hc
    obtain ⟨hj, rfl⟩ := List.getElem?_eq_some_iff.1 hz
    rw [Nat.zero_add, hcell j hj]
    simp [List.getD_eq_getElem?_getD, hj]
  · intro j c hc
    rw [List.getElem?_map] at hc
    obtain ⟨z, hz, rfl⟩ := Option.map_eq_some_iff.1 hc
    obtain ⟨hj, rfl⟩ := List.getElem?_eq_some_iff.1 hz
    simp only [List.getD_eq_getElem?_getD, hz, Option.getD_some]
    exact .int _ _

/-- A table of numbers that a row lists. -/
theorem tab_of_laid {W : World} {laid : List (String × DataW Unit)} {n : String} {g : Nat} {t e : TypeId} {N : Nat} {k : IntKind} {l : List Int} (h : laidMetH P laid W)
    (hp : (laid.filter fun x => x.2.handleName?.isSome) = []) (hm : (n, intsD k l) ∈ laid) (hne : l ≠ []) (hg : P.globalNamed n = some g) (htt : (P.globals[g]?).map (·.type) = some t)
    (ht : P.underlying t = some (.array N e)) (he : P.underlying e = some (.int k)) (hce : P.cellsOf e = 1) : V W (fun _ => False) (.ptr (l.map (Tr.int k))) (.pointer (some ⟨g, 0, none⟩)) := by
  unfold laidMetH at h
  rw [hp] at h
  obtain ⟨ps, hL, _⟩ := h
  obtain ⟨g', t', cs, fuel, p, h1, h2, h3, h4⟩ := laidVars_mem hL hm
  obtain rfl := Option.some.inj (h1.symm.trans hg)
  obtain rfl := Option.some.inj (h2.symm.trans htt)
  exact tab_cells hne hg h3 ht he hce h4

end Go.Tv

end
section
namespace Go.Tv
variable {P : Program} {o : Oper} {D : St}

end Go.Tv

end
section
namespace Go.Tv
variable {P : Program}

theorem okA_1 {σ : Sto} {x : AV} (h : okA1 σ x = true) : okA σ x = true := by
  cases x <;> first | exact h | (simp [okA1] at h)

theorem VA.sub1 {w : World} {H H' : Nat → Prop} {β : Nat → Option Nat} {st st1 : Sto} {x : AV} {v : Value} (hH : ∀ b, H' b → H b) (hs : ∀ id ob, sget st1 id = some ob → sget st id = some ob)
    (h1 : okA1 st1 x = true) (h : VA w H β st x v) : VA w H' β st1 x v := by
  have hsub : ∀ id ob, (sget st1 id).isSome = true → sget st id = some ob → sget st1 id = some ob := fun id ob h2 h3 => by
    obtain ⟨o, ho⟩ := Option.isSome_iff_exists.1 h2
    have := hs id o ho
    rw [h3] at this; cases this; exact ho
  cases h with
  | t h => exact .t (h.same hH)
  | own a b c d e f g => exact .own (hsub _ _ h1 a) b c d e f g
  | ownNil a b c d => exact .ownNil (hsub _ _ h1 a) b c d
  | ownZ a b c d e => exact .ownZ (hsub _ _ h1 a) b c d e
  | ownE a b c d => exact .ownE (hsub _ _ h1 a) b c d
  | stale a b c => exact .stale (hsub _ _ h1 a) b c
  | ptr a b c d e => exact .ptr (hsub _ _ h1 a) b c d e
  | stalep a b c => exact .stalep (hsub _ _ h1 a) b c
  | agg _ _ _ => simp [okA1] at h1
  | tup _ _ => simp [okA1] at h1
  | fn _ _ => simp [okA1] at h1
  | junk v => exact .junk _

theorem VA.sub {w : World} {H H' : Nat → Prop} {β : Nat → Option Nat} {st st1 : Sto} {x : AV} {v : Value} (hH : ∀ b, H' b → H b) (hs : ∀ id ob, sget st1 id = some ob → sget st id = some ob)
    (h1 : okA st1 x = true) (h : VA w H β st x v) : VA w H' β st1 x v := by
  cases x with
  | agg cs =>
    cases h with
    | agg hl h2 hv =>
      simp only [okA, Bool.and_eq_true] at h1
      exact .agg hl h2 (fun j c v hc hv' => VA.sub1 hH hs (List.all_eq_true.1 h1.1 c (List.mem_of_getElem? hc)) (hv j c v hc hv'))
  | fn f cs =>
    cases h with
    | fn hl hv => exact .fn hl (fun j c v hc hv' => VA.sub1 hH hs (List.all_eq_true.1 (show cs.all (okA1 st1) = true from h1) c (List.mem_of_getElem? hc)) (hv j c v hc hv'))
  | tup cs => simp [okA, okA1] at h1
  | t x => exact VA.sub1 hH hs h1 h
  | own id g off len => exact VA.sub1 hH hs h1 h
  | ptr id g i j => exact VA.sub1 hH hs h1 h
  | junk => exact .junk _

theorem okA_cell {σ : Sto} {x : AV} (h : okA σ x = true) {j : Nat} {y : AV} (hy : x.cells[j]? = some y) : okA σ y = true := by
  have one : ∀ (z : AV), z.cells = [z] → okA σ z = true → ∀ (j : Nat) (y : AV), z.cells[j]? = some y → okA σ y = true := by
    intro z hz hr j y hy
    rw [hz] at hy
    match j with
    | 0 => simp at hy; subst hy; exact hr
    | j + 1 => simp at hy
  cases x with
  | t x =>
    simp only [AV.cells, List.getElem?_map, Option.map_eq_some_iff] at hy
    obtain ⟨y', _, rfl⟩ := hy
    rfl
  | agg cs =>
    simp only [okA, Bool.and_eq_true] at h
    exact okA_1 (List.all_eq_true.1 h.1 y (List.mem_of_getElem? hy))
  | own id g off len => exact one _ rfl h j y hy
  | ptr id g i k => exact one _ rfl h j y hy
  | tup vs => exact one _ rfl h j y hy
  | fn f cs => exact one _ rfl h j y hy
  | junk => exact one _ rfl h j y hy

/-- A part of the objects is put aside: into the memory that is not touched. -/
theorem Rel.split {F : Nat → Prop} {β : Nat → Option Nat} {n : Nat} {fr fr1 : Fra} {st st1 : Sto} {a : Act} {w : World} (h : Rel F β ⟨n, fr, st⟩ a w) (hf : KeF st1 fr fr1) (hs : KeS st st1 st1) :
    Rel (fun b => F b ∨ (Owned β st b ∧ ¬ Owned β st1 b)) β ⟨n, fr1, st1⟩ a w := by
  have hsub : ∀ id ob, sget st1 id = some ob → sget st id = some ob := fun id ob ho => (hs.get _ id ob ho).1
  have hG : ∀ b, G (fun b => F b ∨ (Owned β st b ∧ ¬ Owned β st1 b)) β st1 b → G F β st b := by
    rintro b ((h | h) | ⟨id, ob, h1, h2⟩)
    · exact .inl h
    · exact .inr h.1
    · exact .inr ⟨id, ob, hsub id ob h1, h2⟩
  refine ⟨h.defers, h.size, fun i => ?_, fun id ob ho => ?_, fun i j oi oj b hi hj => h.inj i j oi oj b (hsub i oi hi) (hsub j oj hj), fun i oi b hi hb => ?_, fun b hb => ?_⟩
  · rcases hf.get _ i with h1 | ⟨h1, h2⟩
    · show VA w _ _ _ (fget fr1 i) _
      rw [h1]; exact .junk _
    · show VA w _ _ _ (fget fr1 i) _
      refine VA.sub hG hsub h2 ?_
      rw [← h1]; exact h.fr i
  · obtain ⟨h1, h2⟩ := hs.get _ id ob ho
    rcases h.ob id ob h1 with h0 | ⟨b, c, g1, g2, g3, g4, g5⟩
    · exact .inl h0
    · refine .inr ⟨b, c, g1, g2, g3, g4, fun i x j y hx hy => ?_⟩
      obtain ⟨q1, u, hu, hva⟩ := g5 i x j y hx hy
      exact ⟨q1, u, hu, VA.sub hG hsub (okA_cell (h2 x (List.mem_of_getElem? hx)) hy) hva⟩
  · rintro (h1 | ⟨_, h1⟩)
    · exact h.notF i oi b (hsub i oi hi) hb h1
    · exact h1 ⟨i, oi, hi, hb⟩
  · rcases hb with h1 | ⟨h1, _⟩
    · exact h.ltF b h1
    · exact (h.owned_cells h1).1

structure LoopO (F M0 : Nat → Prop) (s0 : St) (β0 : Nat → Option Nat) (w0 : World) (a : Act) (L D : Nat) (rec : LoopState → Option Code → Loop) (I : Nat → St → Prop) (Ix : Code → St → Prop)
    (g : Option Code × Nat × St) (M C : Nat → Prop) (W : World) (β : Nat → Option Nat) : Prop where
  rel : Rel (fun b => F b ∨ M b ∨ b = L ∨ b = D) β g.2.2 a W
  inv : match g.1 with | none => I g.2.1 g.2.2 | some c => Ix c g.2.2
  rc : W.heap[L]? = some (.loop (rec (if g.1.isNone then .ready else .done) g.1))
  df : W.heap[D]? = some (.deferred (some []))
  ciff : ∀ b, C b ↔ (F b ∨ Owned β g.2.2.st b ∨ b = L ∨ b = D)
  os : W.os = w0.os
  tape : TapeLe w0 W
  output : W.output = w0.output
  size : w0.heap.size ≤ W.heap.size
  keep : ∀ b, b < w0.heap.size → (F b ∨ ¬ Owned β0 s0.st b) → W.heap[b]? = w0.heap[b]?
  own : ∀ b, Owned β g.2.2.st b → w0.heap.size ≤ b ∨ Owned β0 s0.st b
  mnew : ∀ b, M b → (w0.heap.size ≤ b ∨ M0 b) ∧ b ≠ L ∧ b ≠ D

end Go.Tv

end
section
namespace Go.Tv
variable {P : Program} {o : Oper} {D : St}

/-- A slice literal as data: nothing lies behind its last element. -/
theorem eff_buildSliceT {t e : TypeId} {len : Nat} {ag : Bool} {parts : Array (Nat × Operand)} {z : Tr} {xs : List Tr} (hd : dstOK D.n o.dst = true) (ho : o.op = .buildSlice t len parts)
    (ht : elemOf P t = some (e, 1, ag)) (hz : zeroOf P e = some z) (hzk : z.cells.length = 1) (hlim : len * 1 ≤ 16777216)
    (hf : fillA (fun i => some (i * 1, 1)) (zeroCellsA z (len * 1)) (parts.toList.map fun p => (p.1, D.ev p.2)) = some (xs.map .t))
    (h1 : xs.all Tr.one = true) (hel : xs.length = len) (h0 : len * 1 ≠ 0) : Eff P o D ⟨.t (.sl xs true), []⟩ := by
  intro s hs hfresh F β a w hR next Q hnext
  obtain ⟨hu, hte⟩ := elemOf_spec ht
  obtain ⟨zv, hzr, hzV, hzn, hzs⟩ := zeroOf_run hz w (G F β s.st)
  have hcr := zero_cr (β := β) (σ := s.st) hzV hzn (by rw [hzk]; decide) (len * 1)
  obtain ⟨c', hc', hcr'⟩ := fill_run _ _ _ _ (xs.map .t) hcr (by simp) (map_parts hR hs parts) hf
  obtain ⟨W, hW⟩ : ∃ W, W = w.alloc (.cells c' e) := ⟨_, rfl⟩
  have hbel : BelowD w.heap.size w W := by
    rw [hW]
    exact ⟨⟨rfl, rfl, rfl, by simp, fun b hb => RowKit.Below.heap_alloc w _ b hb⟩, Nat.le_refl _⟩
  obtain ⟨hrel, hev, hmono⟩ := hR.below hbel
  have hrun : (execOp a.eval o).run P w = .ok (.value (.slice (some ⟨w.heap.size, 0, none⟩) len len)) W := by
    have hc'' : Instr.fill (fun i => some (i * 1, 1)) ((Array.range (len * 1)).map fun i => zv.cells[i % zv.cells.size]!) (Array.map (fun (x : Nat × Operand) => (x.1, a.eval x.2)) parts).toList = some c' := by
      rw [Array.toList_map]; exact hc'
    rw [hW]
    simp only [execOp, ho, Instr.buildSlice, Sem.run_bind, run_underlying' w hu, Result.andThen_ok, run_sizeOf' w hte, show ¬ (len * 1 > 2 ^ 24) from by omega, if_false, h0, hzr, Sem.run_pure, hc'',
      newRow, run_newObj, World.alloc_eq]
  have hheap : W.heap[w.heap.size]? = some (.cells c' e) := by rw [hW]; exact World.alloc_heap_new w _
  have one : ∀ (i : Nat) x, xs[i]? = some x → x.one = true := fun i x hx => List.all_eq_true.1 h1 x (List.mem_of_getElem? hx)
  have ocells : ∀ x : Tr, x.one = true → x.cells = [x] ∧ x.noTup = true := fun x hx => by cases x <;> first | exact ⟨rfl, rfl⟩ | (simp [Tr.one] at hx)
  have hG : ¬ G F β s.st w.heap.size := by
    rintro (h | h)
    · exact absurd (hR.ltF _ h) (Nat.lt_irrefl _)
    · exact absurd (hR.owned_cells h).1 (Nat.lt_irrefl _)
  have hcell : ∀ (i : Nat) x, xs[i]? = some x → ∃ v, c'[i]? = some v ∧ V w (G F β s.st) x v := fun i x hx => by
    obtain ⟨v, hv, hva⟩ := (hcr'.2 i (.t x) (by rw [List.getElem?_map, hx]; rfl)).2
    cases hva with
    | t h => exact ⟨v, hv, h⟩
  have hV : V W (G F β s.st) (.sl xs true) (.slice (some ⟨w.heap.size, 0, none⟩) len len) := by
    rw [← hel]
    refine V.sl xs true 1 w.heap.size 0 xs.length (fun i _ => c'.getD i undef) (lt_of_heap hheap) hG (fun _ => rfl) (Nat.le_refl _) ?_ ?_ ?_ ?_
    · intro i x hx
      have := ocells x (one i x hx)
      exact ⟨this.2, by rw [this.1]; rfl⟩
    · intro i x j c hx hc
      rw [(ocells x (one i x hx)).1] at hc
      match j with
      | 0 => simp at hc; subst hc; exact one i _ hx
      | j + 1 => simp at hc
    · intro i x j c hx hc
      rw [(ocells x (one i x hx)).1] at hc
      match j with
      | 0 =>
        obtain ⟨v, hv, _⟩ := hcell i x hx
        unfold World.cell?
        rw [hheap]
        simp only [Nat.zero_add, Nat.mul_one, Nat.add_zero]
        rw [show (c'.getD i undef) = v from by rw [Array.getD_eq_getD_getElem?, hv]; rfl]
        exact hv
      | j + 1 => simp at hc
    · intro i x j c hx hc
      rw [(ocells x (one i x hx)).1] at hc
      match j with
      | 0 =>
        simp at hc; subst hc
        obtain ⟨v, hv, hvv⟩ := hcell i _ hx
        rw [show (c'.getD i undef) = v from by rw [Array.getD_eq_getD_getElem?, hv]; rfl]
        exact V.mono hbel.size (fun b hb hn => ⟨hn, hbel.block b hb⟩) hvv
      | j + 1 => simp at hc
  unfold Oper.wp
  rw [hrun]
  exact hnext β _ _ (hrel.put (by rw [hs.n]; exact hd) (.t hV)) hev
end Go.Tv

end
section
namespace Go.Tv
variable {P : Program}
section
variable {γ : Type} {X : JP γ} {ro : Option Nat} {all l : List Oper} {o : Oper} {n : Nat} {fr : Fra} {st : Sto} {g : γ} {K : St → γ → Prop}
theorem RJ.new2 {v : AV} {d : Tmp} {i1 i2 : Nat} {o1 o2 : Ob} (hg : o.guard = none) (hd : o.dst = some d) (he : Eff P o ⟨n, fr, st⟩ ⟨v, [(i1, o1), (i2, o2)]⟩) (h : RJ P ro X all l ⟨n, (d, v) :: fr, (i2, some o2) :: (i1, some o1) :: st⟩ g K) (hnd : noDefer o = true := by rfl) : RJ P ro X all (o :: l) ⟨n, fr, st⟩ g K :=
  ⟨_, Weak.refl _, rfl, .inl ⟨.inl hg, _, effJ_of hnd he, fun e g' ⟨h1, h2⟩ => by subst h1 h2; rw [hd]; exact h⟩⟩
end
end Go.Tv

end
section
namespace Go.Tv
set_option linter.unusedVariables false
variable {P : Program} {o : Oper} {D : St}

end Go.Tv

end
section
namespace Go.Tv
set_option linter.unusedVariables false
variable {P : Program}
section
variable {γ : Type} {X : JP γ} {ro : Option Nat} {all l : List Oper} {o : Oper} {n : Nat} {fr : Fra} {st : Sto} {g : γ} {K : St → γ → Prop}
end
section
variable {all l : List Oper} {o : Oper} {n : Nat} {fr : Fra} {st : Sto} {K : St → Prop}
end
section
variable {D : St} {o : Oper}
end

/-- An empty slice in an object of one cell, as an owned object of its own. -/
theorem weak_adopt1 {n : Nat} {fr : Fra} {st : Sto} {id0 g0 : Nat} {ty0 : TypeId} (id k : Nat) (ty : TypeId) (h0 : sget st id0 = some ⟨1, ty0, g0, [.t (.sl [] true)]⟩)
    (hid : sget st id = none) : Weak ⟨n, fr, st⟩ ⟨n, fr, (id0, some ⟨1, ty0, g0, [.own id 0 0 0]⟩) :: (id, some ⟨k, ty, 0, []⟩) :: st⟩ := by
  intro F β a w hr
  obtain ⟨β', hr', hown, had⟩ := adopt_core hr id k ty hid
  have hne : id0 ≠ id := fun e => by subst e; rw [h0] at hid; cases hid
  have h0' : sget ((id, some (⟨k, ty, 0, []⟩ : Ob)) :: st) id0 = some ⟨1, ty0, g0, [.t (.sl [] true)]⟩ := by
    rw [show ((id, some (⟨k, ty, 0, []⟩ : Ob)) :: st) = sput st id (some ⟨k, ty, 0, []⟩) from rfl, sget_sput, if_neg hne]; exact h0
  rcases hr'.ob id0 _ h0' with ⟨_, he⟩ | ⟨b, c, q1, q2, q3, q4, q5⟩
  · simp at he
  · obtain ⟨hrel, hev, _⟩ := hr'.upd (g' := g0) (els' := [.own id 0 0 0]) (c' := c) h0' q1 q2 rfl (.inl ⟨rfl, rfl⟩) q3 (fun i x hx => by
        cases i with
        | zero => simp at hx; subst hx; exact ⟨rfl, rfl⟩
        | succ i => simp at hx) (fun i x m y hx hy => by
        cases i with
        | succ i => simp at hx
        | zero =>
          simp at hx; subst hx
          simp only [AV.cells] at hy
          cases m with
          | succ m => simp at hy
          | zero =>
            simp at hy; subst hy
            obtain ⟨_, u, hu, hva⟩ := q5 0 (.t (.sl [] true)) 0 (.t (.sl [] true)) rfl rfl
            exact ⟨rfl, u, hu, had u hva⟩)
    rw [setB_self q2] at hrel
    refine ⟨β', hrel, fun b hb => hown b ?_⟩
    obtain ⟨m, ob, hm, hb⟩ := hb
    by_cases e : m = id0
    · subst e; exact ⟨m, _, h0', hb⟩
    · change sget (sput ((id, some ⟨k, ty, 0, []⟩) :: st) id0 _) m = some ob at hm
      rw [sget_sput, if_neg e] at hm
      exact ⟨m, ob, hm, hb⟩

end Go.Tv

end
section
namespace Go.Tv
open Go.Shelf Go.Proofs
variable {P : Program} {ρ : Ren} {α : Type} [Inhabited α]

/-- What slices.SortFunc makes of a list. -/
def sortA (cf : α → α → Int) (l : List α) : List α := (Sort.pdq (ltOf cf) l.toArray 0 l.length (Lib.bitLen l.length) true true).toList

theorem sortA_perm {cf : α → α → Int} (hO : Sort.SWO (ltOf cf)) (l : List α) : (sortA cf l).Perm l := by
  have h := (Sort.pdq_sorts (ltOf cf) hO l.toArray 0 l.length (Lib.bitLen l.length) true true (Nat.zero_le _) (by simp) (Or.inl rfl)).1
  obtain ⟨hs, _, hp⟩ := h
  have h1 : (Sort.pdq (ltOf cf) l.toArray 0 l.length (Lib.bitLen l.length) true true).size = l.length := by simpa using hs
  unfold sortA
  have e1 : ∀ (a : Array α), a.size = l.length → (a.extract 0 l.length) = a := by
    intro a ha; rw [← ha]; simp
  rw [e1 _ h1, e1 l.toArray (by simp)] at hp
  simpa using hp

theorem sortA_length {cf : α → α → Int} (hO : Sort.SWO (ltOf cf)) (l : List α) : (sortA cf l).length = l.length := (sortA_perm hO l).length_eq

theorem sortA_sorted {cf : α → α → Int} (hO : Sort.SWO (ltOf cf)) (l : List α) : (sortA cf l).Pairwise (fun a b => ¬ cf b a < 0) := by
  have h := (Sort.pdq_sorts (ltOf cf) hO l.toArray 0 l.length (Lib.bitLen l.length) true true (Nat.zero_le _) (by simp) (Or.inl rfl))
  obtain ⟨⟨hs, _, _⟩, hsort⟩ := h
  have h1 : (Sort.pdq (ltOf cf) l.toArray 0 l.length (Lib.bitLen l.length) true true).size = l.length := by simpa using hs
  unfold sortA
  rw [List.pairwise_iff_getElem]
  intro i j hi hj hij
  have hi' : i < l.length := by simpa [h1] using hi
  have hj' : j < l.length := by simpa [h1] using hj
  have := hsort i j (Nat.zero_le _) hij hj'
  have hlt : ∀ x y, ltOf cf x y = false → ¬ cf x y < 0 := fun x y h => by unfold ltOf at h; simpa using h
  rw [getElem!_pos _ i (by omega), getElem!_pos _ j (by omega)] at this
  exact hlt _ _ (by simpa using this)

/-- What the row's cells are. -/
def scs (cells : α → List Sc) (x : α) : List Value := (cells x).map Sc.v

theorem cmpLays_of_ret {cells : α → List Sc} {k : Nat} {cf : α → α → Int} {g : FuncId} (hret : ∀ a b, Ret P g [.agg ((cells a).map Sc.tr), .agg ((cells b).map Sc.tr)] (.int .i64 (cf a b))) (blk off size : Nat) (w : World) :
    CmpLays P g #[] (scs cells) k cf blk off size w := by
  intro m os dk _ x y
  generalize sortWorldK (scs cells) k w blk off m dk os = W
  have hV : VL W (fun _ => False) [.agg ((cells x).map Sc.tr), .agg ((cells y).map Sc.tr)] [packS true (cells x), packS true (cells y)] :=
    vl_cons ((solid_scs _).is _ _) (vl_cons ((solid_scs _).is _ _) vl_nil)
  have h := hret x y (fun _ => False) W _ (fun _ h => h.elim) hV
  refine Calls.mono h ?_
  rintro e w' ⟨v, rfl, hv, hb⟩
  cases hv
  refine ⟨rfl, ?_⟩
  obtain ⟨p, hp⟩ := regrown_of_below hb.toBelow
  refine ⟨w'.drawn - W.drawn, w'.heap.extract W.heap.size w'.heap.size, ?_⟩
  have hd := hb.drawn
  obtain ⟨heap', tape', drawn', os', output'⟩ := w'
  have hdr : drawn' = p.d := congrArg World.drawn hp
  have hbel := hb.toBelow
  have e1 : os' = W.os := hbel.os
  have e2 : tape' = W.tape := hbel.tape
  have e3 : output' = W.output := hbel.output
  have hs : W.heap.size ≤ heap'.size := hbel.size
  have hbk : ∀ k, k < W.heap.size → heap'[k]? = W.heap[k]? := hbel.block
  have hd' : W.drawn ≤ drawn' := hd
  have eh : heap' = W.heap ++ heap'.extract W.heap.size heap'.size := by
    apply Array.ext_getElem?
    intro k
    by_cases hk : k < W.heap.size
    · rw [Array.getElem?_append_left hk]; exact hbk k hk
    · rw [Array.getElem?_append_right (by omega), Array.getElem?_extract]
      by_cases hk2 : k < heap'.size
      · rw [if_pos (by omega)]; congr 1; omega
      · rw [if_neg (by omega), Array.getElem?_eq_none (by omega)]
  subst e1 e2 e3
  have e4 : drawn' = W.drawn + (drawn' - W.drawn) := by omega
  show World.mk heap' W.tape drawn' W.os W.output = World.mk (W.heap ++ heap'.extract W.heap.size heap'.size) W.tape (W.drawn + (drawn' - W.drawn)) W.os W.output
  rw [← eh]
  congr 1

def sortEls (cells : α → List Sc) (l : List α) : List AV := l.map fun x => .t (.agg ((cells x).map Sc.tr))

theorem flatK_get {cells : α → List Sc} {k : Nat} (hk : ∀ x, (cells x).length = k) (d : Array α) {i j : Nat} (hi : i < d.size) (hj : j < k) {x : α} {y : Sc} (hx : d[i]? = some x) (hy : (cells x)[j]? = some y) :
    (Sort.flatK (scs cells) k d)[i * k + j]! = y.v := by
  have hk0 : 0 < k := by omega
  have h1 : i * k + j < d.size * k := by
    have : (i + 1) * k ≤ d.size * k := Nat.mul_le_mul_right k hi
    rw [Nat.add_mul] at this; omega
  rw [Sort.get_flatK _ _ _ _ h1]
  have e1 : (i * k + j) / k = i := by
    rw [Nat.mul_comm, Nat.mul_add_div hk0, Nat.div_eq_of_lt hj]; omega
  have e2 : (i * k + j) % k = j := by
    rw [Nat.mul_comm, Nat.mul_add_mod, Nat.mod_eq_of_lt hj]
  rw [e1, e2, getElem!_pos _ i hi]
  have : d[i] = x := by rw [Array.getElem?_eq_getElem hi] at hx; exact Option.some.inj hx
  rw [this]
  unfold scs
  have h2 : ((cells x).map Sc.v)[j]? = some y.v := by rw [List.getElem?_map, hy]; rfl
  rw [getElem!_def, h2]

/-- A call of slices.SortFunc: the object's elements are sorted in place; what points to it stays good. -/
theorem eff_sortFunc {o : Oper} {D : St} (L : SlLaysF0.n6 P ρ) {cells : α → List Sc} {k : Nat} (hk : ∀ x, (cells x).length = k) (hk0 : 0 < k) {cf : α → α → Int} (hO : Sort.SWO (ltOf cf)) {g : FuncId}
    (hret : ∀ a b, Ret P g [.agg ((cells a).map Sc.tr), .agg ((cells b).map Sc.tr)] (.int .i64 (cf a b))) (hg : callOK P g = true) (hti : tinf P (ρ.t 24) = some (k, true)) {id gen : Nat} {ty : TypeId} (l : List α) (hl : l.length < 4611686018427387904)
    {f : FuncId} {x y z : Operand} {ats : Array TypeId} {n0 : Nat} {els els' : List AV} (hfe : ρ.f 6 = f) (hf : callOK P f = true) (hd : dstOK D.n o.dst = true) (ho : o.op = .call { callee := .value x, args := #[y, z], argTypes := ats })
    (hx : D.ev x = .t (.fn f [])) (hy : D.ev y = .own id gen 0 n0) (hz : D.ev z = .t (.fn g [])) (hs : sget D.st id = some ⟨k, ty, gen, els⟩) (he : els = sortEls cells l) (hn0 : n0 = l.length) (he' : sortEls cells (sortA cf l) = els') :
    Eff P o D ⟨.t (.tup []), [(id, ⟨k, ty, gen, els'⟩)]⟩ := by
  subst hfe he hn0 he'
  intro s hs' _ F β a w hr next Q hnext
  have hst := hs'.st _ _ hs
  have hyv := hr.evA hs' hy
  have hzv : a.eval z = .func (.func g) #[] #[] := (solid_fn g).eq _ _ _ (hr.evT hs' hz)
  have hxv : a.eval x = .func (.func (ρ.f 6)) #[] #[] := (solid_fn _).eq _ _ _ (hr.evT hs' hx)
  have elen : (sortEls cells l).length = l.length := by simp [sortEls]
  have hsl : (sortA cf l).length = l.length := sortA_length hO l
  unfold Oper.wp
  rw [execCall (vs := []) ho (by simpa using hxv) hf w, Oper.upon_enter]
  rw [show (#[y, z].map a.eval ++ ([] : List Value).toArray) = #[a.eval y, a.eval z] from by simp, hzv]
  have hempty : l = [] → ∀ p cap, a.eval y = .slice p 0 cap → Calls P (ρ.f 6) #[a.eval y, .func (.func g) #[] #[]] w (fun e w' => ∃ v, e = .returned v ∧ next (a.put o.dst v) w') := by
    intro hnil p cap hv
    rw [hv]
    refine Calls.mono (AnyF.slices_SortFunc_none L p cap (.func (.func g) #[] #[]) w) ?_
    rintro e w' ⟨rfl, rfl⟩
    refine ⟨_, rfl, ?_⟩
    subst hnil
    have hs0 : sortA cf ([] : List α) = [] := List.length_eq_zero_iff.1 hsl
    rw [hs0] at hnext
    have hid : ∀ m, sget (sput s.st id (some ⟨k, ty, gen, sortEls cells ([] : List α)⟩)) m = sget s.st m := fun m => by
      rw [sget_sput]; split
      · rename_i e; rw [e, hst]
      · rfl
    have hrel : Rel F β { n := s.n, fr := s.fr, st := sput s.st id (some ⟨k, ty, gen, sortEls cells ([] : List α)⟩) } a w' := hr.ext rfl (fun _ => rfl) hid
    exact hnext β _ _ (hrel.put (by show dstOK s.n o.dst = true; rw [hs'.n]; exact hd) (.t (.tup [] [] rfl (fun j c v h => by simp at h)))) ((Evo.refl _ _ _).ext hid)
  have hfin : Calls P (ρ.f 6) #[a.eval y, .func (.func g) #[] #[]] w (fun e w' => ∃ v, e = .returned v ∧ next (a.put o.dst v) w') := by
    generalize hv0 : a.eval y = v0 at hyv
    generalize hn : l.length = n0 at hyv
    rw [hv0] at hempty
    cases hyv with
    | ownNil hs2 hg' hb he2 =>
      exact hempty (List.length_eq_zero_iff.1 hn) _ _ rfl
    | ownZ hs2 hg' hb hl' hlt =>
      exact hempty (List.length_eq_zero_iff.1 hn) _ _ rfl
    | ownE hs2 hg' hb he2 =>
      exact hempty (List.length_eq_zero_iff.1 hn) _ _ rfl
    | stale hs2 hg' h1 => rw [hst] at hs2; cases hs2; exact absurd hg' (Nat.lt_irrefl _)
    | @own _ _ _ _ b cap ob c hs2 hg' hb hl' hcap hh hc =>
      rw [hst] at hs2; cases hs2
      subst hn
      rcases hr.ob id _ hst with ⟨h1, _⟩ | ⟨b2, c2, h1, h2, h3, h4, h5⟩
      · rw [hb] at h1; cases h1
      rw [hb] at h1; cases h1
      rw [hh] at h2; cases h2
      have hbs : b < w.heap.size := lt_of_heap hh
      have hsz : (Sort.flatK (scs cells) k l.toArray).size = l.length * k := by simp
      have hc2 : l.length * k ≤ c.size := by rw [← elen]; exact h3
      have hcell : ∀ j, j < l.length * k → c[j]? = some ((Sort.flatK (scs cells) k l.toArray)[j]!) := by
        intro j hj
        have hk' : j / k < l.length := (Nat.div_lt_iff_lt_mul hk0).2 hj
        have hmod : j % k < k := Nat.mod_lt _ hk0
        have hx : l[j / k]? = some l[j / k] := List.getElem?_eq_getElem hk'
        have hyl : j % k < (cells l[j / k]).length := by rw [hk]; exact hmod
        have hy : (cells l[j / k])[j % k]? = some (cells l[j / k])[j % k] := List.getElem?_eq_getElem hyl
        obtain ⟨_, v, hv, hvv⟩ := h5 (j / k) (.t (.agg ((cells l[j / k]).map Sc.tr))) (j % k) (.t ((cells l[j / k])[j % k]).tr) (by show (sortEls cells l)[j / k]? = _; unfold sortEls; rw [List.getElem?_map, hx]; rfl) (by
          show (((cells l[j / k]).map Sc.tr).map AV.t)[j % k]? = _
          rw [List.getElem?_map, List.getElem?_map, hy]; rfl)
        have hjk : j / k * k + j % k = j := by rw [Nat.mul_comm]; exact Nat.div_add_mod j k
        have hv' : c[j]? = some v := by
          have : (Ob.mk k ty gen (sortEls cells l)).k = k := rfl
          rw [this] at hv; rw [← hjk]; exact hv
        rw [hv']
        have hvs : v = ((cells l[j / k])[j % k]).v := by
          cases hvv with
          | t h => exact (Sc.solid _).eq _ _ _ h
        have := flatK_get hk l.toArray (i := j / k) (j := j % k) (by simpa using hk') hmod (x := l[j / k]) (by simpa using hx) hy
        rw [hjk] at this
        rw [hvs, this]
      have hH : Sort.HoldsK (scs cells) k w b 0 l.toArray := by
        intro j hj
        rw [hsz] at hj
        refine ⟨?_, ?_⟩
        · unfold World.cell?
          simp only [hh, Nat.zero_add]
          have := hcell j hj
          simpa using this
        · unfold World.frozen?
          simp [hh]
      have hrun := AnyQ.slices_SortFunc_eq L k (fun w => run_isAgg' w hti) (fun w => run_sizeOf' w hti) (scs cells) (fun x => by simp [scs, hk]) (fun x v hv => by
          obtain ⟨s, _, rfl⟩ := List.mem_map.1 hv
          cases s <;> rfl) cf hO g #[] b 0 cap l.toArray w (fun args w => run_callFunc hg w args) (cmpLays_of_ret hret b 0 _ w) hH hbs (by simpa using hl)
      have hvals : (#[.slice (some ⟨b, 0 * (Ob.mk k ty gen (sortEls cells l)).k, none⟩) l.length cap, .func (.func g) #[] #[]] : Array Value) = #[.slice (some ⟨b, 0, none⟩) l.toArray.size cap, .func (.func g) #[] #[]] := by simp
      rw [hvals]
      refine Calls.mono hrun ?_
      rintro e w' ⟨rfl, n, os, rfl⟩
      refine ⟨_, rfl, ?_⟩
      have hpdq : Sort.pdq (ltOf cf) l.toArray 0 l.toArray.size (Lib.bitLen l.toArray.size) true true = (sortA cf l).toArray := by
        unfold sortA; simp
      rw [hpdq]
      -- the cells behind
      have hpsz : (Sort.putCells _root_.id 0 (Sort.flatK (scs cells) k (sortA cf l).toArray) c).size = c.size := by simp [Sort.putCells]
      have hpc : ∀ (i j : Nat) (x : α) (y : Sc), (sortA cf l)[i]? = some x → (cells x)[j]? = some y → (Sort.putCells _root_.id 0 (Sort.flatK (scs cells) k (sortA cf l).toArray) c)[i * k + j]? = some y.v := by
        intro i j x y hx hy
        have hi : i < (sortA cf l).length := (List.getElem?_eq_some_iff.1 hx).1
        have hj : j < k := by have := (List.getElem?_eq_some_iff.1 hy).1; rw [hk] at this; exact this
        have h6 : i * k + j < l.length * k := by
          have : (i + 1) * k ≤ l.length * k := Nat.mul_le_mul_right k (by omega)
          rw [Nat.add_mul] at this; omega
        have h7 : i * k + j < c.size := by omega
        unfold Sort.putCells
        rw [Array.getElem?_mapIdx, Array.getElem?_eq_getElem h7]
        simp only [Option.map_some, Nat.zero_le, true_and, Nat.zero_add, Nat.sub_zero, Sort.size_flatK, List.size_toArray, _root_.id]
        rw [if_pos (by rw [hsl]; exact h6)]
        have := flatK_get hk (sortA cf l).toArray (i := i) (j := j) (by simpa using hi) hj (x := x) (by simpa using hx) hy
        rw [this]
      obtain ⟨hrel, hev, _⟩ := hr.upd (g' := gen) (els' := sortEls cells (sortA cf l)) (c' := Sort.putCells _root_.id 0 (Sort.flatK (scs cells) k (sortA cf l).toArray) c) hst hb hh hpsz (.inl ⟨rfl, by simp [sortEls, hsl]⟩) (by show (sortEls cells (sortA cf l)).length * k ≤ _; unfold sortEls; rw [List.length_map, hsl]; exact hc2)
        (fun i x hx => by
          unfold sortEls at hx
          rw [List.getElem?_map] at hx
          obtain ⟨z, _, rfl⟩ := Option.map_eq_some_iff.1 hx
          exact ⟨rfl, by show (((cells z).map Sc.tr).map AV.t).length = k; simp [hk]⟩)
        (fun i x j y hx hy => by
          unfold sortEls at hx
          rw [List.getElem?_map] at hx
          obtain ⟨z, hz, rfl⟩ := Option.map_eq_some_iff.1 hx
          change (((cells z).map Sc.tr).map AV.t)[j]? = some y at hy
          rw [List.getElem?_map, List.getElem?_map] at hy
          obtain ⟨u, hu, rfl⟩ := Option.map_eq_some_iff.1 hy
          obtain ⟨s, hs, rfl⟩ := Option.map_eq_some_iff.1 hu
          exact ⟨by cases s <;> rfl, s.v, hpc i j z s hz hs, .t (s.solid.is _ _)⟩)
      have hbel : BelowD (setB w b (.cells (Sort.putCells _root_.id 0 (Sort.flatK (scs cells) k (sortA cf l).toArray) c) ty (0, 0))).heap.size (setB w b (.cells (Sort.putCells _root_.id 0 (Sort.flatK (scs cells) k (sortA cf l).toArray) c) ty (0, 0))) (sortWorldK (scs cells) k w b 0 n (sortA cf l).toArray os) := by
        refine ⟨⟨rfl, rfl, rfl, ?_, fun i hi => ?_⟩, Nat.le_add_right _ _⟩
        · rw [setB_size]
          show _ ≤ ((w.heap.modify b _) ++ os).size
          simp
        · rw [setB_size] at hi
          show ((w.heap.modify b _) ++ os)[i]? = (w.heap.setIfInBounds b _)[i]?
          rw [Array.getElem?_append_left (by simpa using hi), Array.getElem?_modify]
          by_cases e : b = i
          · subst e
            rw [if_pos rfl, hh, Array.getElem?_setIfInBounds_self_of_lt hbs]
            rfl
          · rw [if_neg e, Array.getElem?_setIfInBounds_ne e]
      obtain ⟨hrel2, hev2, _⟩ := hrel.below hbel
      exact hnext β _ _ (hrel2.put (by show dstOK s.n o.dst = true; rw [hs'.n]; exact hd) (.t (.tup [] [] rfl (fun j c v h => by simp at h)))) (hev.trans hev2)
  exact Calls.mono hfin (fun e w' ⟨v, h1, h2⟩ => by subst h1; exact h2)
end Go.Tv

end
section
namespace Go.Tv
set_option linter.unusedVariables false
def GenCs (σ σ' : Sto) : List AV → Prop
  | [] => True
  | x :: l => GenA σ σ' x x ∧ GenCs σ σ' l
theorem GenCs.get {σ σ' : Sto} : ∀ {l : List AV}, GenCs σ σ' l → ∀ x, x ∈ l → GenA σ σ' x x
  | [], _, x, h => by cases h
  | y :: l, ⟨h1, h2⟩, x, h => by
    rcases List.mem_cons.1 h with rfl | h
    · exact h1
    · exact h2.get x h
inductive GenX (σ σ' : Sto) : AV → AV → Prop
  | a {x y : AV} (h : GenA σ σ' x y) : GenX σ σ' x y
  | fn (f : FuncId) (cs : List AV) (h : GenCs σ σ' cs) : GenX σ σ' (.fn f cs) (.fn f cs)
theorem GenX.v {σ σ' : Sto} {x y : AV} (h : GenX σ σ' x y) {w : World} {H H' : Nat → Prop} {β : Nat → Option Nat} (hH : ∀ b, H' b → H b) {v : Value} (hv : VA w H β σ x v) : VA w H' β σ' y v := by
  cases h with
  | a h => exact h.v hH hv
  | fn f cs h =>
    cases hv with
    | fn hl hc => exact .fn hl (fun j c u hj hu => (h.get c (List.mem_of_getElem? hj)).v hH (hc j c u hj hu))
def GenXF (σ σ' : Sto) (fr : Fra) : Fra → Prop
  | [] => True
  | x :: l => GenX σ σ' (fget fr x.1) x.2 ∧ GenXF σ σ' fr l
theorem GenXF.get {σ σ' : Sto} {fr : Fra} : ∀ (l : Fra), GenXF σ σ' fr l → ∀ i, GenX σ σ' (fget fr i) (fget l i)
  | [], _, i => .a (.junk _)
  | x :: l, ⟨h1, h2⟩, i => by
    show GenX σ σ' (fget fr i) (cond (Nat.beq x.1 i) x.2 (fget l i))
    cases h : Nat.beq x.1 i with
    | true => rw [← Nat.eq_of_beq_eq_true h]; exact h1
    | false => exact GenXF.get l h2 i

end Go.Tv

end
section
namespace Go.Tv
set_option linter.unusedVariables false
def WkC : List Tr → List Tr → Prop
  | [], [] => True
  | x :: l, y :: k => (y.one = true ∧ Wk x y) ∧ WkC l k
  | _, _ => False
theorem WkC.len : ∀ {l k : List Tr}, WkC l k → l.length = k.length
  | [], [], _ => rfl
  | _ :: _, _ :: _, ⟨_, h⟩ => by simp [h.len]
  | [], _ :: _, h => h.elim
  | _ :: _, [], h => h.elim
theorem WkC.get : ∀ {l k : List Tr}, WkC l k → ∀ (i : Nat) x y, l[i]? = some x → k[i]? = some y → y.one = true ∧ Wk x y
  | [], [], _, i, x, y, h, _ => by simp at h
  | a :: l, b :: k, ⟨h1, h2⟩, i, x, y, hx, hy => by
    cases i with
    | zero => simp at hx hy; subst hx hy; exact h1
    | succ i => exact h2.get i x y (by simpa using hx) (by simpa using hy)
  | [], _ :: _, h, _, _, _, _, _ => h.elim
  | _ :: _, [], h, _, _, _, _, _ => h.elim
end Go.Tv

end
section
namespace Go.Tv
set_option linter.unusedVariables false
section
variable {P : Program} {all l : List Oper} {o : Oper} {n : Nat} {fr : Fra} {st : Sto} {K : St → Prop}
theorem mvT {x : Operand} {t : Tr} {d : Tmp} (h : RW P all l ⟨n, (d, .t t) :: fr, st⟩ K) (hg : o.guard = none := by exact rfl) (hd : o.dst = some d := by exact rfl) (h1 : dstOK n o.dst = true := by exact rfl) (ho : o.op = .move x := by exact rfl)
    (hx : (St.mk n fr st).ev x = .t t := by exact rfl) : RW P all (o :: l) ⟨n, fr, st⟩ K := RW.op hg hd (eff_move (v := .t t) h1 ho hx) h
theorem asT {x : Operand} {t : Tr} {d : Tmp} (h : RW P all l ⟨n, (d, .t t) :: fr, st⟩ K) (hg : o.guard = none := by exact rfl) (hd : o.dst = some d := by exact rfl) (h1 : dstOK n o.dst = true := by exact rfl) (ho : o.op = .assign x := by exact rfl)
    (hx : (St.mk n fr st).ev x = .t t := by exact rfl) : RW P all (o :: l) ⟨n, fr, st⟩ K := RW.op hg hd (eff_assign (v := .t t) h1 ho hx) h
theorem mvO {x : Operand} {a b c e : Nat} {d : Tmp} (h : RW P all l ⟨n, (d, .own a b c e) :: fr, st⟩ K) (hg : o.guard = none := by exact rfl) (hd : o.dst = some d := by exact rfl) (h1 : dstOK n o.dst = true := by exact rfl) (ho : o.op = .move x := by exact rfl)
    (hx : (St.mk n fr st).ev x = .own a b c e := by exact rfl) : RW P all (o :: l) ⟨n, fr, st⟩ K := RW.op hg hd (eff_move (v := .own a b c e) h1 ho hx) h
theorem asO {x : Operand} {a b c e : Nat} {d : Tmp} (h : RW P all l ⟨n, (d, .own a b c e) :: fr, st⟩ K) (hg : o.guard = none := by exact rfl) (hd : o.dst = some d := by exact rfl) (h1 : dstOK n o.dst = true := by exact rfl) (ho : o.op = .assign x := by exact rfl)
    (hx : (St.mk n fr st).ev x = .own a b c e := by exact rfl) : RW P all (o :: l) ⟨n, fr, st⟩ K := RW.op hg hd (eff_assign (v := .own a b c e) h1 ho hx) h
theorem faT {t : TypeId} {x : Operand} {f off k : Nat} {ag : Bool} {id g i j : Nat} {ob : Ob} {d : Tmp} (hf : fldOf P t f = some (off, k, ag)) (h : RW P all l ⟨n, (d, .ptr id g i (j + off)) :: fr, st⟩ K) (hg : o.guard = none := by exact rfl) (hd : o.dst = some d := by exact rfl)
    (h1 : dstOK n o.dst = true := by exact rfl) (ho : o.op = .fieldAddr t x f := by exact rfl) (hk : k ≠ 0 := by decide) (hx : (St.mk n fr st).ev x = .ptr id g i j := by exact rfl) (hs : sget (St.mk n fr st).st id = some ob := by exact rfl) (hge : ob.gen = g := by exact rfl)
    (hj : j + off ≤ ob.k := by exact (Nat.le_of_ble_eq_true rfl)) : RW P all (o :: l) ⟨n, fr, st⟩ K := RW.op hg hd (eff_fieldAddr h1 ho hf hk hx hs hge hj) h
theorem gkT {d gd : Tmp} {j : Nat} {want b : Bool} {og : Oper} (h : RW P all l ⟨n, (d, .tup []) :: fr, st⟩ K) (hg : o.guard = some (j, want) := by exact rfl) (hd : o.dst = some d := by exact rfl) (hj : all[j]? = some og := by exact rfl) (hgd : og.dst = some gd := by exact rfl)
    (hb : fget fr gd = .t (.bool b) := by exact rfl) (hbw : b ≠ want := by decide) : RW P all (o :: l) ⟨n, fr, st⟩ K := RW.gskip hg hd hj hgd hb hbw h
theorem ioT {op : BinOp} {t ty : TypeId} {x y : Operand} {k : IntKind} {a b : Int} {r : Tr} {d : Tmp} (h : RW P all l ⟨n, (d, .t r) :: fr, st⟩ K) (hg : o.guard = none := by exact rfl) (hd : o.dst = some d := by exact rfl) (h1 : dstOK n o.dst = true := by exact rfl)
    (ho : o.op = .binOp op t x y ty := by exact rfl) (hx : (St.mk n fr st).ev x = .t (.int k a) := by exact rfl) (hy : (St.mk n fr st).ev y = .t (.int k b) := by exact rfl) (hr : iop op k a b = some r := by exact rfl) : RW P all (o :: l) ⟨n, fr, st⟩ K := RW.op hg hd (eff_iop h1 ho hx hy hr) h
theorem pkT {c x y : Operand} {b : Bool} {t : Tr} {d : Tmp} (h : RW P all l ⟨n, (d, .t t) :: fr, st⟩ K) (hg : o.guard = none := by exact rfl) (hd : o.dst = some d := by exact rfl) (h1 : dstOK n o.dst = true := by exact rfl) (ho : o.op = .pick c x y := by exact rfl)
    (hc : (St.mk n fr st).ev c = .t (.bool b) := by exact rfl) (hv : (if b then (St.mk n fr st).ev x else (St.mk n fr st).ev y) = .t t := by exact rfl) : RW P all (o :: l) ⟨n, fr, st⟩ K := RW.op hg hd (eff_pick (v := .t t) h1 ho hc hv) h
theorem l1T {t : TypeId} {x : Operand} {k id g i j : Nat} {y : Tr} {d : Tmp} (ht : tinf P t = some (k, false)) (hg : o.guard = none) (hd : o.dst = some d) (h1 : dstOK n o.dst = true) (ho : o.op = .load t x) (hx : (St.mk n fr st).ev x = .ptr id g i j)
    (hl : LoadA (St.mk n fr st).st id g i j k false (.t y)) (h : RW P all l ⟨n, (d, .t y) :: fr, st⟩ K) : RW P all (o :: l) ⟨n, fr, st⟩ K := RW.op hg hd (eff_load (y := .t y) h1 ho ht hx hl) h
end
section
variable {P : Program} {all l : List Oper} {o : Oper} {n : Nat} {fr : Fra} {st : Sto} {K : St → Prop} {tch : Tch} {cl : List (List Nat)} {i : Nat}
theorem mvD {x : Operand} {t : Tr} {d : Tmp} (h : RD P all tch cl (i + 1) l ⟨n, (d, .t t) :: fr, st⟩ K) (hg : o.guard = none := by exact rfl) (hd : o.dst = some d := by exact rfl) (ht : tch.getD i (none, []) = (some d, []) := by exact rfl)
    (h1 : dstOK (forget (hid tch cl i) ⟨n, fr, st⟩).n o.dst = true := by exact rfl) (ho : o.op = .move x := by exact rfl) (hx : (forget (hid tch cl i) ⟨n, fr, st⟩).ev x = .t t := by exact rfl) : RD P all tch cl i (o :: l) ⟨n, fr, st⟩ K := RD.op hg hd ht (eff_move (v := .t t) h1 ho hx) h
theorem gkD {d gd : Tmp} {j : Nat} {want b : Bool} {og : Oper} (h : RD P all tch cl (i + 1) l ⟨n, (d, .tup []) :: fr, st⟩ K) (hg : o.guard = some (j, want) := by exact rfl) (hd : o.dst = some d := by exact rfl) (ht : tch.getD i (none, []) = (some d, []) := by exact rfl)
    (hj : all[j]? = some og := by exact rfl) (hgd : og.dst = some gd := by exact rfl) (hb : fget (forget (hid tch cl i) ⟨n, fr, st⟩).fr gd = .t (.bool b) := by exact rfl) (hbw : b ≠ want := by decide) : RD P all tch cl i (o :: l) ⟨n, fr, st⟩ K := RD.gskip hg hd ht hj hgd hb hbw h
end
end Go.Tv

end
section
namespace Go.Tv
set_option linter.unusedVariables false
variable {P : Program} {γ : Type} {X : JP γ} {g : γ}
def EffX (P : Program) (X : JP γ) (g : γ) (o : Oper) (D : St) (e : Ef) : Prop :=
  ∀ s, Le D s → (∀ id ob, (id, ob) ∈ e.ups → sget D.st id = none → sget s.st id = none) → ∀ F β a w, Rel F β s a w → X.J g (Owned β s.st) F w →
    ∀ (next : Act → World → Prop) (Q : Exit → Act → World → Prop),
      (∀ F' β' a' w', Rel F' β' (s.app o.dst e) a' w' → X.J g (Owned β' (s.app o.dst e).st) F' w' → EvoJ X.q F s.st β w F' (s.app o.dst e).st β' w' → next a' w') → o.wp P a w next Q
theorem EffX.of {o : Oper} {D : St} {e : Ef} (h : Eff P o D e) : EffX P X g o D e := fun s hl hf F β a w hr hJ next Q hn =>
  h s hl hf F β a w hr next Q (fun β' a' w' hr' hev => hn F β' a' w' hr' (JP.evo hJ hr' hev) (.of hev))
theorem owned_ext {β : Nat → Option Nat} {σ σ' : Sto} (hs : ∀ id, sget σ' id = sget σ id) : Owned β σ' = Owned β σ := by
  funext b
  exact propext ⟨fun ⟨i, o, h1, h2⟩ => ⟨i, o, by rw [← hs]; exact h1, h2⟩, fun ⟨i, o, h1, h2⟩ => ⟨i, o, by rw [hs]; exact h1, h2⟩⟩
theorem j_ext {β : Nat → Option Nat} {σ σ' : Sto} {F : Nat → Prop} {w : World} (h : X.J g (Owned β σ) F w) (hs : ∀ id, sget σ' id = sget σ id) : X.J g (Owned β σ') F w := by
  rw [owned_ext hs]; exact h
theorem evoJ_ext {q : Prop} {F F' : Nat → Prop} {σ₀ σ σ' : Sto} {β₀ β : Nat → Option Nat} {w₀ w : World} (h : EvoJ q F σ₀ β₀ w₀ F' σ β w) (hs : ∀ id, sget σ' id = sget σ id) : EvoJ q F σ₀ β₀ w₀ F' σ' β w :=
  { h with own := fun b hb => h.own b (by rw [← owned_ext hs]; exact hb) }
def OpAtX (P : Program) (X : JP γ) (g : γ) (ops : List Oper) (D : St) (o : Oper) (e : Ef) : Prop :=
  (o.guard = none ∧ EffX P X g o D e) ∨
  (∃ j want og d b, o.guard = some (j, want) ∧ ops[j]? = some og ∧ og.dst = some d ∧ fget D.fr d = .t (.bool b) ∧ ((b = want ∧ EffX P X g o D e) ∨ (b ≠ want ∧ e = ⟨.tup [], []⟩))) ∨
  ∃ j want og d, o.guard = some (j, want) ∧ ops[j]? = some og ∧ og.dst = some d ∧ fget D.fr d = .tup [] ∧ e = ⟨.tup [], []⟩
section
variable {ops : Array Oper} {es : List Ef} {cl : List (List Nat)} {s₀ : St} {QQ : Exit → Act → World → Prop} {F₀ : Nat → Prop} {β₀ : Nat → Option Nat} {w₀ : World}
theorem draw_mainX (hlen : ops.toList.length = es.length) (hcl : clOK 0 ops.toList cl = true)
    (hap : apartAll cl ((zipE 0 ops.toList es).map fun x => (x.1, x.2.1, idsOf x.2.2)) = true) (hd : ∀ (i : Nat) (o : Oper), ops[i]? = some o → dstOK s₀.n o.dst = true)
    (hop : ∀ (i : Nat) (o : Oper) (e : Ef), ops.toList[i]? = some o → es[i]? = some e → OpAtX P X g ops.toList (dep (zipE 0 ops.toList es) cl s₀ i) o e)
    (hQ : ∀ s F β a w, Rel F β s a w → X.J g (Owned β s.st) F w → EvoJ X.q F₀ s₀.st β₀ w₀ F s.st β w → s = foldP (fun _ => true) (zipE 0 ops.toList es) s₀ → QQ .normal a w) :
    ∀ (fuel : Nat) (listed : Array Bool) (s : St) (F : Nat → Prop) (β : Nat → Option Nat) (a : Act) (w : World), listed.size = ops.size →
      (∀ i o, ops.toList[i]? = some o → listed.getD i false = true → ∀ q, q ∈ predsOf o → listed.getD q false = true) → unrun ops.size listed ≤ fuel →
      Rel F β s a w → X.J g (Owned β s.st) F w → EvoJ X.q F₀ s₀.st β₀ w₀ F s.st β w → s.n = s₀.n → (∀ t, fget s.fr t = fget (foldP (fun n => listed.getD n false) (zipE 0 ops.toList es) s₀).fr t) →
      (∀ id, sget s.st id = sget (foldP (fun n => listed.getD n false) (zipE 0 ops.toList es) s₀).st id) → wpAny P .any ops QQ fuel listed a w := by
  have hsize : ops.toList.length = ops.size := by simp
  -- nothing may come up any more: all have run
  have done : ∀ (listed : Array Bool) (s : St) (F : Nat → Prop) (β : Nat → Option Nat) (a : Act) (w : World), listed.size = ops.size → Region.ready .any ops listed = [] →
      Rel F β s a w → X.J g (Owned β s.st) F w → EvoJ X.q F₀ s₀.st β₀ w₀ F s.st β w → s.n = s₀.n → (∀ t, fget s.fr t = fget (foldP (fun n => listed.getD n false) (zipE 0 ops.toList es) s₀).fr t) →
      (∀ id, sget s.st id = sget (foldP (fun n => listed.getD n false) (zipE 0 ops.toList es) s₀).st id) → QQ .normal a w := by
    intro listed s F β a w hls hready hr hJ hev hn hfr hst
    have hall : ∀ i, i < ops.size → listed.getD i false = true := by
      intro i
      induction i using Nat.strongRecOn with
      | _ i ih =>
        intro hi
        have hli : i < listed.size := by omega
        cases hc : listed[i] with
        | true => simp [hli, hc]
        | false =>
          have ho : ops[i]? = some ops[i] := Array.getElem?_eq_getElem hi
          have : i ∈ Region.ready .any ops listed := by
            rw [ready_mem]
            refine ⟨hi, by simp [hli, hc], _, ho, fun e he hb => ?_⟩
            have hp : e.on ∈ predsOf ops[i] := preds_mem.2 ⟨e, he, hb, rfl⟩
            have hlt := (clOK_get ops.toList 0 hcl i ops[i] (by rw [Array.getElem?_toList]; exact ho)).1 _ hp
            exact ih e.on (by omega) (by omega)
          rw [hready] at this
          simp at this
    have hmem : ∀ x, x ∈ zipE 0 ops.toList es → listed.getD x.1 false = true := by
      intro x hx
      obtain ⟨_, o, ho, _⟩ := zipE_get ops.toList es 0 hlen x hx
      exact hall _ (by have := lt_of_get ho; omega)
    have e1 : ∀ t, fget (foldP (fun n => listed.getD n false) (zipE 0 ops.toList es) s₀).fr t = fget (foldP (fun _ => true) (zipE 0 ops.toList es) s₀).fr t := fun t =>
      foldP_fr _ _ _ rfl (fun x hx hne => absurd (hmem x hx) hne)
    have e2 : ∀ id, sget (foldP (fun n => listed.getD n false) (zipE 0 ops.toList es) s₀).st id = sget (foldP (fun _ => true) (zipE 0 ops.toList es) s₀).st id := fun id =>
      foldP_st _ _ _ rfl (fun x hx hne => absurd (hmem x hx) hne)
    refine hQ (foldP (fun _ => true) (zipE 0 ops.toList es) s₀) F β a w (hr.ext ((foldP_n _ _ _).trans hn.symm) (fun t => ((hfr t).trans (e1 t)).symm) (fun id => ((hst id).trans (e2 id)).symm))
      (j_ext hJ (fun id => ((hst id).trans (e2 id)).symm)) (evoJ_ext hev (fun id => ((hst id).trans (e2 id)).symm)) rfl
  intro fuel
  induction fuel with
  | zero =>
    intro listed s F β a w hls hclosed hun hr hJ hev hn hfr hst
    have hready : Region.ready .any ops listed = [] := by
      refine List.eq_nil_iff_forall_not_mem.2 fun i hi => ?_
      obtain ⟨h1, h2, _⟩ := ready_mem.1 hi
      have : i ∈ (List.range ops.size).filter fun i => !listed.getD i true := List.mem_filter.2 ⟨List.mem_range.2 h1, by simp only [h2]; rfl⟩
      have hne := List.length_pos_of_mem this
      unfold unrun at hun
      omega
    exact ⟨hready, done listed s F β a w hls hready hr hJ hev hn hfr hst⟩
  | succ fuel ih =>
    intro listed s F β a w hls hclosed hun hr hJ hev hn hfr hst
    refine ⟨fun hready => done listed s F β a w hls hready hr hJ hev hn hfr hst, fun i hi => ?_⟩
    obtain ⟨hi1, hi2, o, ho, hpre⟩ := ready_mem.1 hi
    have hoL : ops.toList[i]? = some o := by rw [Array.getElem?_toList]; exact ho
    have hil : i < listed.size := by omega
    have hi3 : listed.getD i false = false := by simpa [hil] using hi2
    have hie : es[i]? = some (es[i]'(by omega)) := List.getElem?_eq_getElem (by omega)
    generalize he : (es[i]'(by omega)) = e at hie
    have hprel : ∀ q, q ∈ predsOf o → listed.getD q false = true := fun q hq => by
      obtain ⟨ed, h1, h2, rfl⟩ := preds_mem.1 hq
      exact hpre ed h1 h2
    have hcls := cl_listed hcl (p := fun n => listed.getD n false) hclosed
    have hcli : ∀ x, x ∈ cl.getD i [] → listed.getD x false = true := hcls i o hoL hprel
    have hmemi : (i, o.dst, e) ∈ zipE 0 ops.toList es := by have := zipE_mem ops.toList es 0 i o e hoL hie; rwa [Nat.zero_add] at this
    have huniq : ∀ x, x ∈ zipE 0 ops.toList es → x.1 = i → x = (i, o.dst, e) := by
      intro x hx hxi
      obtain ⟨_, o', h1, h2, h3⟩ := zipE_get ops.toList es 0 hlen x hx
      rw [hxi] at h1 h2
      simp only [Nat.sub_zero] at h1 h2
      rw [hoL] at h1; cases h1
      rw [hie] at h2; cases h2
      obtain ⟨x1, x2, x3⟩ := x
      simp only at hxi h3
      rw [hxi, h3]
    have hsorted := zipE_sorted ops.toList es 0
    have hpair := apartAll_get _ hap
    have hord : ((zipE 0 ops.toList es).map fun x => (x.1, x.2.1, idsOf x.2.2)).Pairwise (fun x y => x.1 < y.1) := by
      rw [List.pairwise_map]; exact hsorted
    have hapart : ∀ x y, x ∈ zipE 0 ops.toList es → y ∈ zipE 0 ops.toList es → x.1 < y.1 → (cl.getD y.1 []).contains x.1 = true ∨ apartE (x.2.1, idsOf x.2.2) (y.2.1, idsOf y.2.2) = true := by
      intro x y hx hy hlt
      exact pairwise_get (key := fun z => z.1) hpair hord (List.mem_map.2 ⟨x, hx, rfl⟩) (List.mem_map.2 ⟨y, hy, rfl⟩) hlt
    -- what has run and differs from what surely has run touches nothing that is known
    have hdiff : ∀ x, x ∈ zipE 0 ops.toList es → (cl.getD i []).contains x.1 ≠ listed.getD x.1 false →
        (x.1 != i && !(cl.getD i []).contains x.1 && !(cl.getD x.1 []).contains i) = true := by
      intro x hx hne
      have hnc : (cl.getD i []).contains x.1 = false := by
        cases hcc : (cl.getD i []).contains x.1 with
        | false => rfl
        | true => rw [hcc, hcli x.1 (by simpa using hcc)] at hne; exact absurd rfl hne
      have hlx : listed.getD x.1 false = true := by
        cases hl : listed.getD x.1 false with
        | true => rfl
        | false => rw [hnc, hl] at hne; exact absurd rfl hne
      have hxi : x.1 ≠ i := fun e => by rw [e, hi3] at hlx; cases hlx
      have hni : (cl.getD x.1 []).contains i = false := by
        cases hcc : (cl.getD x.1 []).contains i with
        | false => rfl
        | true =>
          obtain ⟨_, o', h1, h2, h3⟩ := zipE_get ops.toList es 0 hlen x hx
          simp only [Nat.sub_zero] at h1
          have := hcls x.1 o' h1 (hclosed x.1 o' h1 hlx) i (by simpa using hcc)
          rw [this] at hi3; cases hi3
      rw [hnc, hni]; simp [hxi]
    have hle : Le (dep (zipE 0 ops.toList es) cl s₀ i) s := by
      refine ⟨by rw [dep, forget_n, foldP_n]; exact hn, fun t => ?_, fun id ob hid => ?_⟩
      · by_cases hj : fget (dep (zipE 0 ops.toList es) cl s₀ i).fr t = .junk
        · exact .inl hj
        · right
          obtain ⟨h1, h2⟩ := forget_fr _ _ hj
          rw [dep, h1, hfr]
          exact (foldP_fr _ _ _ rfl (fun x hx hne => h2 _ (List.mem_map.2 ⟨x, List.mem_filter.2 ⟨hx, hdiff x hx hne⟩, rfl⟩))).symm
      · obtain ⟨h1, h2⟩ := forget_st _ _ hid
        rw [hst, ← h1]
        refine (foldP_st _ _ _ rfl (fun x hx hne => ?_)).symm
        have := h2 _ (List.mem_map.2 ⟨x, List.mem_filter.2 ⟨hx, hdiff x hx hne⟩, rfl⟩)
        cases htt : touchesId x.2 id with
        | false => rfl
        | true => exact absurd (touchesId_ids.1 htt) this
    have hfresh : ∀ id ob, (id, ob) ∈ e.ups → sget (dep (zipE 0 ops.toList es) cl s₀ i).st id = none → sget s.st id = none := by
      intro id ob hm hnone
      have hide : id ∈ idsOf e := List.mem_map.2 ⟨_, hm, rfl⟩
      have hnot : ∀ x, x ∈ zipE 0 ops.toList es → (x.1 != i && !(cl.getD i []).contains x.1 && !(cl.getD x.1 []).contains i) = true → id ∉ idsOf x.2.2 := by
        intro x hx hb hidx
        simp only [Bool.and_eq_true, bne_iff_ne, ne_eq, Bool.not_eq_true'] at hb
        obtain ⟨⟨hxi, hb1⟩, hb2⟩ := hb
        rcases Nat.lt_or_gt_of_ne hxi with hlt | hlt
        · rcases hapart x _ hx hmemi hlt with h | h
          · rw [hb1] at h; cases h
          · simp only [apartE, Bool.and_eq_true] at h
            have := List.all_eq_true.1 h.2 id hidx
            simp only [Bool.not_eq_true', ← Bool.not_eq_true] at this
            exact this (by simpa using hide)
        · rcases hapart _ x hmemi hx hlt with h | h
          · rw [hb2] at h; cases h
          · simp only [apartE, Bool.and_eq_true] at h
            have := List.all_eq_true.1 h.2 id hide
            simp only [Bool.not_eq_true', ← Bool.not_eq_true] at this
            exact this (by simpa using hidx)
      have h1 : sget s.st id = sget (foldP (fun j => (cl.getD i []).contains j) (zipE 0 ops.toList es) s₀).st id := by
        rw [hst]
        refine (foldP_st _ _ _ rfl (fun x hx hne => ?_)).symm
        cases htt : touchesId x.2 id with
        | false => rfl
        | true => exact absurd (touchesId_ids.1 htt) (hnot x hx (hdiff x hx hne))
      have h2 : sget (dep (zipE 0 ops.toList es) cl s₀ i).st id = sget (foldP (fun j => (cl.getD i []).contains j) (zipE 0 ops.toList es) s₀).st id := by
        unfold dep
        generalize foldP (fun j => (cl.getD i []).contains j) (zipE 0 ops.toList es) s₀ = σ
        have hall : ∀ y, y ∈ ((zipE 0 ops.toList es).filter fun x => x.1 != i && !(cl.getD i []).contains x.1 && !(cl.getD x.1 []).contains i).map (fun x => (x.2.1, idsOf x.2.2)) → id ∉ y.2 := by
          intro y hy
          obtain ⟨x, hx, rfl⟩ := List.mem_map.1 hy
          obtain ⟨hx1, hx2⟩ := List.mem_filter.1 hx
          exact hnot x hx1 hx2
        revert hall
        generalize ((zipE 0 ops.toList es).filter fun x => x.1 != i && !(cl.getD i []).contains x.1 && !(cl.getD x.1 []).contains i).map (fun x => (x.2.1, idsOf x.2.2)) = l
        intro hall
        induction l generalizing σ with
        | nil => rfl
        | cons y l ihl =>
          rw [forget, ihl _ (fun z hz => hall z (List.mem_cons_of_mem _ hz))]
          simp only [foldl_none, if_neg (hall y (List.mem_cons_self ..))]
      rw [h1, ← h2]; exact hnone
    -- the state behind it
    have hlt2 : ∀ n, (listed.setIfInBounds i true).getD n false = (listed.getD n false || n == i) := by
      intro n
      by_cases e : n = i
      · subst e; simp [hil]
      · have : (n == i) = false := by simpa using e
        simp [this, Array.getElem?_setIfInBounds_ne (Ne.symm e)]
    have hunrun : unrun ops.size (listed.setIfInBounds i true) ≤ fuel := by
      have : unrun ops.size (listed.setIfInBounds i true) < unrun ops.size listed := by
        unfold unrun
        refine filter_lt (List.range ops.size) i (List.mem_range.2 hi1) (by rw [hi2]; rfl) (by simp [hil]) (fun y hy => ?_)
        by_cases e : y = i
        · subst e; simp [hil] at hy
        · have : (listed.setIfInBounds i true).getD y true = listed.getD y true := by simp [Array.getElem?_setIfInBounds_ne (Ne.symm e)]
          rw [this] at hy; exact hy
      omega
    have hclosed' : ∀ j o', ops.toList[j]? = some o' → (listed.setIfInBounds i true).getD j false = true → ∀ q, q ∈ predsOf o' → (listed.setIfInBounds i true).getD q false = true := by
      intro j o' hj hlj q hq
      rw [hlt2] at hlj ⊢
      by_cases e : j = i
      · subst e
        rw [hoL] at hj; cases hj
        rw [hprel q hq]; rfl
      · have : (j == i) = false := by simpa using e
        rw [this, Bool.or_false] at hlj
        rw [hclosed j o' hj hlj q hq]; rfl
    have hp_i : (fun n => listed.getD n false) i = false := hi3
    have hgt : ∀ x, x ∈ zipE 0 ops.toList es → i < x.1 → listed.getD x.1 false = true → apartE (o.dst, idsOf e) (x.2.1, idsOf x.2.2) = true := by
      intro x hx hlt hlx
      rcases hapart _ x hmemi hx hlt with h | h
      · exfalso
        obtain ⟨_, o', h1, h2, h3⟩ := zipE_get ops.toList es 0 hlen x hx
        simp only [Nat.sub_zero] at h1
        have := hcls x.1 o' h1 (hclosed x.1 o' h1 hlx) i (by simpa using h)
        rw [this] at hi3; cases hi3
      · exact h
    have hnextS : ∀ F' β' a' w', Rel F' β' (s.app o.dst e) a' w' → X.J g (Owned β' (s.app o.dst e).st) F' w' → EvoJ X.q F s.st β w F' (s.app o.dst e).st β' w' → wpAny P .any ops QQ fuel (listed.setIfInBounds i true) a' w' := by
      intro F' β' a' w' hr' hJ' hev'
      refine ih (listed.setIfInBounds i true) (s.app o.dst e) F' β' a' w' (by simp [hls]) hclosed' hunrun hr' hJ' (hev.trans hev') hn (fun t => ?_) (fun id => ?_)
      · have h1 := foldP_put_fr (p := fun n => listed.getD n false) (t := t) (zipE 0 ops.toList es) s₀ hmemi hp_i huniq hsorted (fun x hx hlt hlx => by
          have := hgt x hx hlt hlx
          simp only [apartE, Bool.and_eq_true] at this
          cases hx2 : x.2.1 with
          | none => exact .inl rfl
          | some b =>
            right
            intro hb
            rw [hx2, ← hb] at this
            simp at this)
        have h2 : (fun n => (listed.setIfInBounds i true).getD n false) = (fun n => listed.getD n false || n == i) := funext hlt2
        rw [h2, h1]
        exact app_fr_congr (hfr t)
      · have h1 := foldP_put_st (p := fun n => listed.getD n false) (id := id) (zipE 0 ops.toList es) s₀ hmemi hp_i huniq hsorted (fun x hx hlt hlx => by
          have := hgt x hx hlt hlx
          simp only [apartE, Bool.and_eq_true] at this
          cases ht1 : touchesId x.2 id with
          | false => exact .inl rfl
          | true =>
            right
            cases ht2 : touchesId (o.dst, e) id with
            | false => rfl
            | true =>
              have h3 := List.all_eq_true.1 this.2 id (touchesId_ids.1 ht2)
              simp only [Bool.not_eq_true', ← Bool.not_eq_true] at h3
              exact absurd (by simpa using touchesId_ids.1 ht1) h3)
        have h2 : (fun n => (listed.setIfInBounds i true).getD n false) = (fun n => listed.getD n false || n == i) := funext hlt2
        rw [h2, h1]
        exact upAll_congr _ _ _ (hst id)
    have hdn : dstOK s.n o.dst = true := by rw [hn]; exact hd i o ho
    have skip : e = ⟨.tup [], []⟩ → wpAny P .any ops QQ fuel (listed.setIfInBounds i true) (a.put o.dst undef) w := fun hj => by
      subst hj
      exact hnextS F β _ w (hr.put (d := o.dst) (x := .tup []) hdn (.tup (vs := []) rfl (fun j c v h => by simp at h))) hJ (EvoJ.refl _ _ _ _)
    unfold wpOp
    simp only [ho]
    rcases hop i o e hoL hie with ⟨hg, heff⟩ | ⟨j, want, og, d, b, hg, hj, hdj, hb, hcase⟩ | ⟨j, want, og, d, hg, hj, hdj, hb, hcase⟩
    · rw [if_pos (wanted_none _ hg)]
      exact .inl (heff s hle hfresh F β a w hr hJ _ _ hnextS)
    · have hbs : fget s.fr d = .t (.bool b) := by
        rcases hle.fr d with h | h
        · rw [hb] at h; cases h
        · exact h.trans hb
      have hjA : ops[j]? = some og := by rw [← Array.getElem?_toList]; exact hj
      have hval : a.tmps[d]? = some (.bool b) := by
        have hv := hr.fr d
        rw [hbs] at hv
        have hdn' : d < a.tmps.size := by have := hd j og hjA; rw [hdj] at this; rw [hr.size, hn]; simpa [dstOK] using this
        rw [vAt_lt hdn'] at hv
        cases hv with
        | t hv =>
          generalize hx : a.tmps.getD d undef = x at hv
          cases hv
          simpa [Array.getElem?_eq_getElem hdn', hdn'] using hx
      have hyd : yielded ops a.tmps j = some b := by
        unfold yielded
        simp only [hjA, Option.bind_some, hdj, hval]
      have hw : Region.wanted o (yielded ops a.tmps) = (b == want) := by
        unfold Region.wanted
        rw [hg]
        simp only [hyd]
        cases b <;> cases want <;> rfl
      rw [hw]
      rcases hcase with ⟨hbw, heff⟩ | ⟨hbw, hj⟩
      · rw [if_pos (by simpa using hbw)]
        exact .inl (heff s hle hfresh F β a w hr hJ _ _ hnextS)
      · rw [if_neg (by simpa using hbw)]
        exact skip hj
    · have hbs : fget s.fr d = .tup [] := by
        rcases hle.fr d with h | h
        · rw [hb] at h; cases h
        · exact h.trans hb
      have hjA : ops[j]? = some og := by rw [← Array.getElem?_toList]; exact hj
      have hval : a.tmps.getD d undef = undef := by
        have hv := hr.fr d
        rw [hbs] at hv
        rcases Nat.lt_or_ge d a.tmps.size with hlt | hge
        · rw [vAt_lt hlt] at hv
          generalize a.tmps.getD d undef = x at hv
          cases hv with
          | @tup _ vs hl' hva =>
            have : vs = [] := List.length_eq_zero_iff.1 hl'
            subst this; rfl
        · rw [Array.getD_eq_getD_getElem?, Array.getElem?_eq_none hge]; rfl
      have hyd : yielded ops a.tmps j = none := by
        unfold yielded
        simp only [hjA, Option.bind_some, hdj]
        cases hx : a.tmps[d]? with
        | none => rfl
        | some x =>
          have : x = undef := by
            have hlt : d < a.tmps.size := by
              rcases Nat.lt_or_ge d a.tmps.size with h' | h'
              · exact h'
              · rw [Array.getElem?_eq_none h'] at hx; cases hx
            rw [Array.getElem?_eq_getElem hlt] at hx
            cases hx
            simpa [hlt] using hval
          rw [this]; rfl
      have hw : Region.wanted o (yielded ops a.tmps) = false := by
        unfold Region.wanted
        rw [hg]
        simp only [hyd]
        rfl
      rw [hw, if_neg (by decide)]
      exact skip hcase

end
theorem draw_anyX {s : St} {ops : Array Oper} (es : List Ef) (cl : List (List Nat)) (hm : P.follows .mixedOrders = true) (hlen : ops.toList.length = es.length)
    (hcl : clOK 0 ops.toList cl = true) (hap : apartAll cl ((zipE 0 ops.toList es).map fun x => (x.1, x.2.1, idsOf x.2.2)) = true)
    (hd : ∀ (i : Nat) (o : Oper), ops[i]? = some o → dstOK s.n o.dst = true)
    (hop : ∀ (i : Nat) (o : Oper) (e : Ef), ops.toList[i]? = some o → es[i]? = some e → OpAtX P X g ops.toList (dep (zipE 0 ops.toList es) cl s i) o e)
    {F : Nat → Prop} {β : Nat → Option Nat} {a : Act} {w : World} (hr : Rel F β s a w) (hJ : X.J g (Owned β s.st) F w.drew) {QQ : Exit → Act → World → Prop}
    (hQ : ∀ F' β' a' w', Rel F' β' (foldP (fun _ => true) (zipE 0 ops.toList es) s) a' w' → X.J g (Owned β' (foldP (fun _ => true) (zipE 0 ops.toList es) s).st) F' w' → EvoJ X.q F s.st β w.drew F' (foldP (fun _ => true) (zipE 0 ops.toList es) s).st β' w' → QQ .normal a' w') :
    wpAny P .any ops QQ ops.size (Array.replicate ops.size false) a w.drew := by
  have hr' : Rel F β s a w.drew := hr.drew
  refine draw_mainX (s₀ := s) (F₀ := F) (β₀ := β) (w₀ := w.drew) hlen hcl hap hd hop (fun s' F' β' a' w' hr'' hJ'' hev hs => ?_) ops.size (Array.replicate ops.size false) s F β a w.drew (by simp) (fun i o _ h => by rw [rep_false] at h; cases h) ?_ hr' hJ (EvoJ.refl _ _ _ _) rfl ?_ ?_
  · subst hs
    exact hQ F' β' a' w' hr'' hJ'' hev
  · unfold unrun
    exact Nat.le_trans (List.length_filter_le _ _) (by simp)
  · have hfold : ∀ (l : List (Nat × Option Tmp × Ef)) (s : St), foldP (fun n => (Array.replicate ops.size false).getD n false) l s = s := by
      intro l
      induction l with
      | nil => intro s; rfl
      | cons x l ih => intro s; rw [foldP, rep_false, if_neg (by simp)]; exact ih s
    intro t; rw [hfold]
  · have hfold : ∀ (l : List (Nat × Option Tmp × Ef)) (s : St), foldP (fun n => (Array.replicate ops.size false).getD n false) l s = s := by
      intro l
      induction l with
      | nil => intro s; rfl
      | cons x l ih => intro s; rw [foldP, rep_false, if_neg (by simp)]; exact ih s
    intro id; rw [hfold]


def RDX (P : Program) (X : JP γ) (g : γ) (all : List Oper) (tch : Tch) (cl : List (List Nat)) : Nat → List Oper → St → (St → Prop) → Prop
  | _, [], s, K => K s
  | i, o :: l, s, K => ∃ e, (o.dst, idsOf e) = tch.getD i (none, []) ∧ OpAtX P X g all (forget (hid tch cl i) s) o e ∧ RDX P X g all tch cl (i + 1) l (s.app o.dst e) K

theorem RDX.es {all : List Oper} {tch : Tch} {cl : List (List Nat)} {K : St → Prop} : ∀ (l : List Oper) (i : Nat) (s : St), RDX P X g all tch cl i l s K →
    ∃ es : List Ef, l.length = es.length ∧ K (appL s l es) ∧ ∀ (j : Nat) o e, l[j]? = some o → es[j]? = some e → (o.dst, idsOf e) = tch.getD (i + j) (none, []) ∧
      OpAtX P X g all (forget (hid tch cl (i + j)) (appL s (l.take j) (es.take j))) o e
  | [], i, s, h => ⟨[], rfl, h, fun j o e ho => by simp at ho⟩
  | o :: l, i, s, ⟨e, he, hop, h⟩ => by
    obtain ⟨es, hl, hK, hall⟩ := RDX.es l (i + 1) _ h
    refine ⟨e :: es, by simp [hl], hK, fun j o' e' ho' he' => ?_⟩
    cases j with
    | zero =>
      simp at ho' he'; subst ho'; subst he'
      exact ⟨he, hop⟩
    | succ j =>
      obtain ⟨h1, h2⟩ := hall j o' e' (by simpa using ho') (by simpa using he')
      rw [show i + 1 + j = i + (j + 1) from by omega] at h1 h2
      refine ⟨h1, ?_⟩
      rw [List.take_succ_cons, List.take_succ_cons]
      exact h2


theorem EffX.ext {o : Oper} {D D' : St} {e : Ef} (h : EffX P X g o D e) (hn : D'.n = D.n) (hf : ∀ t, fget D'.fr t = fget D.fr t) (hs : ∀ id, sget D'.st id = sget D.st id) : EffX P X g o D' e := by
  intro s hle hfresh F β a w hr hJ next Q hnext
  refine h s ⟨hle.n.trans hn, fun t => ?_, fun id ob hob => hle.st id ob (by rw [hs]; exact hob)⟩ (fun id ob hm hnone => hfresh id ob hm (by rw [hs]; exact hnone)) F β a w hr hJ next Q hnext
  have := hle.fr t
  rwa [hf] at this

theorem OpAtX.ext {all : List Oper} {o : Oper} {D D' : St} {e : Ef} (h : OpAtX P X g all D o e) (hn : D'.n = D.n) (hf : ∀ t, fget D'.fr t = fget D.fr t) (hs : ∀ id, sget D'.st id = sget D.st id) : OpAtX P X g all D' o e := by
  rcases h with ⟨hg, he⟩ | ⟨j, want, og, d, b, hg, hj, hd, hb, hh⟩ | ⟨j, want, og, d, hg, hj, hd, hb, hh⟩
  · exact .inl ⟨hg, he.ext hn hf hs⟩
  · exact .inr (.inl ⟨j, want, og, d, b, hg, hj, hd, by rw [hf]; exact hb, hh.imp (fun h => ⟨h.1, h.2.ext hn hf hs⟩) (fun h => h)⟩)
  · exact .inr (.inr ⟨j, want, og, d, hg, hj, hd, by rw [hf]; exact hb, hh⟩)


theorem rd_anyX {s : St} {K : St → Prop} {ops : Array Oper} (tch : Tch) (cl : List (List Nat)) (hm : P.follows .mixedOrders = true) (hlen : tch.length = ops.toList.length)
    (hcl : clOK 0 ops.toList cl = true) (hap : apartAll cl ((List.range tch.length).map fun j => (j, tch.getD j (none, []))) = true)
    (hd : (ops.toList.all fun o => dstOK s.n o.dst) = true) (h : RDX P X g ops.toList tch cl 0 ops.toList s K) {F : Nat → Prop} {β : Nat → Option Nat} {a : Act} {w : World} (hr : Rel F β s a w) (hJ : X.J g (Owned β s.st) F w.drew) {QQ : Exit → Act → World → Prop}
    (hQ : ∀ s' F' β' a' w', K s' → Rel F' β' s' a' w' → X.J g (Owned β' s'.st) F' w' → EvoJ X.q F s.st β w.drew F' s'.st β' w' → QQ .normal a' w') : wpAny P .any ops QQ ops.size (Array.replicate ops.size false) a w.drew := by
  obtain ⟨es, hl, hK, hall⟩ := h.es
  have hdd : ∀ (i : Nat) (o : Oper), ops[i]? = some o → dstOK s.n o.dst = true := fun i o ho => List.all_eq_true.1 hd o (List.mem_of_getElem? (by rw [Array.getElem?_toList]; exact ho))
  have hL : ∀ x, x ∈ zipE 0 ops.toList es → (x.2.1, idsOf x.2.2) = tch.getD x.1 (none, []) := by
    intro x hx
    obtain ⟨_, o, h1, h2, h3⟩ := zipE_get _ _ _ hl x hx
    rw [Nat.sub_zero] at h1 h2
    have := (hall x.1 o x.2.2 h1 h2).1
    rw [Nat.zero_add] at this
    rw [h3]; exact this
  have hfst : (zipE 0 ops.toList es).map (·.1) = List.range tch.length := by rw [zipE_fst _ _ _ hl, hlen, List.range_eq_range']
  refine draw_anyX es cl hm hl hcl ?_ hdd (fun i o e ho he => ?_) hr hJ (fun F' β' a' w' hr' hJ' hev => hQ _ F' β' a' w' (by rw [foldP_appL]; exact hK) hr' hJ' hev)
  · rw [← hfst] at hap
    rw [List.map_map] at hap
    have : (zipE 0 ops.toList es).map (fun x => (x.1, x.2.1, idsOf x.2.2)) = (zipE 0 ops.toList es).map ((fun j => (j, tch.getD j (none, []))) ∘ fun x => x.1) := by
      apply List.map_congr_left
      intro x hx
      show (x.1, x.2.1, idsOf x.2.2) = (x.1, tch.getD x.1 (none, []))
      rw [← hL x hx]
    rw [this]; exact hap
  · obtain ⟨_, hop⟩ := hall i o e ho he
    rw [Nat.zero_add] at hop
    have hhid : hid tch cl i = ((zipE 0 ops.toList es).filter fun x => x.1 != i && !(cl.getD i []).contains x.1 && !(cl.getD x.1 []).contains i).map fun x => (x.2.1, idsOf x.2.2) := by
      unfold hid
      rw [← hfst, List.filter_map, List.map_map]
      symm
      apply List.map_congr_left
      intro x hx
      exact hL x (List.mem_filter.1 hx).1
    have happ : appL s (ops.toList.take i) (es.take i) = foldP (fun j => decide (j < i)) (zipE 0 ops.toList es) s := by
      have := foldP_take ops.toList es 0 i s hl
      rw [Nat.zero_add] at this
      exact this.symm
    have hclo := clOK_get _ _ hcl
    -- all that is ahead of i and not hidden is among those that surely have run
    have hnot : ∀ x, x ∈ zipE 0 ops.toList es → (cl.getD i []).contains x.1 ≠ decide (x.1 < i) → (x.2.1, idsOf x.2.2) ∈ hid tch cl i := by
      intro x hx hne
      rw [hhid]
      refine List.mem_map.2 ⟨x, List.mem_filter.2 ⟨hx, ?_⟩, rfl⟩
      obtain ⟨_, ox, h1, h2, _⟩ := zipE_get _ _ _ hl x hx
      rw [Nat.sub_zero] at h1
      have hlt : ∀ (j : Nat) oj, ops.toList[j]? = some oj → ∀ q, q ∈ cl.getD j [] → q < j := by
        intro j
        induction j using Nat.strongRecOn with
        | _ j ih =>
          intro oj hoj q hq
          have hj := hclo j oj hoj
          rw [Nat.zero_add] at hj
          obtain ⟨p, hp, hqp⟩ := hj.2 q hq
          have hpj := hj.1 p hp
          rcases hqp with rfl | hqp
          · exact hpj
          · have hpl : p < ops.toList.length := by have := lt_get hoj; omega
            have := ih p hpj _ (List.getElem?_eq_getElem hpl) q hqp
            omega
      by_cases hc : (cl.getD i []).contains x.1 = true
      · have hm : x.1 ∈ cl.getD i [] := by simpa using hc
        have := hlt i o ho _ hm
        rw [hc] at hne
        exact absurd (decide_eq_true this).symm hne
      · have hcf : (cl.getD i []).contains x.1 = false := by simpa using hc
        rw [hcf] at hne
        have hxi : x.1 < i := by
          by_cases h : x.1 < i
          · exact h
          · exact absurd (decide_eq_false h).symm hne
        have hci : (cl.getD x.1 []).contains i = false := by
          cases hcc : (cl.getD x.1 []).contains i with
          | false => rfl
          | true =>
            have hm : i ∈ cl.getD x.1 [] := by simpa using hcc
            have := hlt x.1 ox h1 _ hm
            omega
        simp only [hcf, hci, Bool.not_false, Bool.and_true, bne_iff_ne, ne_eq]
        omega
    refine hop.ext ?_ (fun t => ?_) (fun idd => ?_)
    · rw [dep, forget_n, forget_n, foldP_n, happ, foldP_n]
    · rw [dep, ← hhid, forget_fget, forget_fget, happ]
      by_cases h : ((hid tch cl i).any fun x => x.1 == some t) = true
      · rw [if_pos h, if_pos h]
      · rw [if_neg h, if_neg h]
        refine foldP_fr _ _ _ rfl (fun x hx hne ht => h ?_)
        exact List.any_eq_true.2 ⟨_, hnot x hx hne, by rw [ht]; simp⟩
    · rw [dep, ← hhid, forget_sget, forget_sget, happ]
      by_cases h : ((hid tch cl i).any fun x => x.2.contains idd) = true
      · rw [if_pos h, if_pos h]
      · rw [if_neg h, if_neg h]
        refine foldP_st _ _ _ rfl (fun x hx hne => ?_)
        cases hti : touchesId x.2 idd with
        | false => rfl
        | true =>
          refine absurd (List.any_eq_true.2 ⟨_, hnot x hx hne, ?_⟩) h
          have := touchesId_ids.1 hti
          simpa using this


theorem awj_rdX {ro : Option Nat} {kp : Nat → Bool} {s : St} {Q : Exit → St → γ → Prop} {id : Nat} {ops : Array Oper} (tch : Tch) (cl : List (List Nat)) (hm : P.follows .mixedOrders = true) (hlen : tch.length = ops.toList.length)
    (hcl : clOK 0 ops.toList cl = true) (hap : apartAll cl ((List.range tch.length).map fun j => (j, tch.getD j (none, []))) = true)
    (hd : (ops.toList.all fun o => dstOK s.n o.dst) = true) (h : RDX P X g ops.toList tch cl 0 ops.toList s (fun s' => Q .normal s' g)) (hnd : (ops.toList.all noDefer) = true := by rfl) (hkp : (ops.toList.all (kpOK kp)) = true := by rfl) : AWJ P ro kp X (.region id ops true) s g Q := by
  intro n F β a w hr hJ
  refine wpIn_region_any hm ?_
  refine wpAny_in (Q' := fun e a' w' => e = .normal ∧ ∃ s' F' β', Q .normal s' g ∧ Rel F' β' s' a' w' ∧ X.J g (Owned β' s'.st) F' w' ∧ EvoJ X.q F s.st β w F' s'.st β' w') a hkp hnd (fun _ _ _ h => h.1) ?_ _ _ a w.drew (Keeps.refl _ _)
    (rd_anyX tch cl hm hlen hcl hap hd h hr (JP.evo hJ hr.drew (Evo.refl s.st β w.drew).of_drew) (fun s' F' β' a' w' hk hr' hJ' hev => ⟨rfl, s', F', β', hk, hr', hJ', (EvoJ.of (Evo.refl s.st β w.drew).of_drew).trans hev⟩))
  rintro a' w' ⟨_, s', F', β', hq, hr', hJ', hev⟩ hke
  exact ⟨s', β', g, F', a', hq, hr', rfl, hJ', hev, hke⟩
section
variable {all l : List Oper} {o : Oper} {n i : Nat} {fr : Fra} {st : Sto} {K : St → Prop} {tch : Tch} {cl : List (List Nat)}

theorem RX.nil {s : St} (h : K s) : RDX P X g all tch cl i [] s K := h

theorem RX.op {v : AV} {d : Tmp} (hg : o.guard = none) (hd : o.dst = some d) (ht : tch.getD i (none, []) = (some d, [])) (he : Eff P o (forget (hid tch cl i) ⟨n, fr, st⟩) ⟨v, []⟩)
    (h : RDX P X g all tch cl (i + 1) l ⟨n, (d, v) :: fr, st⟩ K) : RDX P X g all tch cl i (o :: l) ⟨n, fr, st⟩ K :=
  ⟨_, by rw [ht, hd]; rfl, .inl ⟨hg, .of he⟩, by rw [hd]; exact h⟩

theorem RX.new {v : AV} {d : Tmp} {id : Nat} {ob : Ob} (hg : o.guard = none) (hd : o.dst = some d) (ht : tch.getD i (none, []) = (some d, [id])) (he : Eff P o (forget (hid tch cl i) ⟨n, fr, st⟩) ⟨v, [(id, ob)]⟩)
    (h : RDX P X g all tch cl (i + 1) l ⟨n, (d, v) :: fr, (id, some ob) :: st⟩ K) : RDX P X g all tch cl i (o :: l) ⟨n, fr, st⟩ K :=
  ⟨_, by rw [ht, hd]; rfl, .inl ⟨hg, .of he⟩, by rw [hd]; exact h⟩

theorem RX.store {v : AV} {id : Nat} {ob : Ob} (hg : o.guard = none) (hd : o.dst = none) (ht : tch.getD i (none, []) = (none, [id])) (he : Eff P o (forget (hid tch cl i) ⟨n, fr, st⟩) ⟨v, [(id, ob)]⟩)
    (h : RDX P X g all tch cl (i + 1) l ⟨n, fr, (id, some ob) :: st⟩ K) : RDX P X g all tch cl i (o :: l) ⟨n, fr, st⟩ K :=
  ⟨_, by rw [ht, hd]; rfl, .inl ⟨hg, .of he⟩, by rw [hd]; exact h⟩

theorem RX.gop {v : AV} {d gd : Tmp} {j : Nat} {want b : Bool} {og : Oper} (hg : o.guard = some (j, want)) (hd : o.dst = some d) (ht : tch.getD i (none, []) = (some d, [])) (hj : all[j]? = some og) (hgd : og.dst = some gd)
    (hb : fget (forget (hid tch cl i) ⟨n, fr, st⟩).fr gd = .t (.bool b)) (hbw : b = want)
    (he : Eff P o (forget (hid tch cl i) ⟨n, fr, st⟩) ⟨v, []⟩) (h : RDX P X g all tch cl (i + 1) l ⟨n, (d, v) :: fr, st⟩ K) : RDX P X g all tch cl i (o :: l) ⟨n, fr, st⟩ K :=
  ⟨_, by rw [ht, hd]; rfl, .inr (.inl ⟨j, want, og, gd, b, hg, hj, hgd, hb, .inl ⟨hbw, .of he⟩⟩), by rw [hd]; exact h⟩

theorem RX.gskip {d gd : Tmp} {j : Nat} {want b : Bool} {og : Oper} (hg : o.guard = some (j, want)) (hd : o.dst = some d) (ht : tch.getD i (none, []) = (some d, [])) (hj : all[j]? = some og) (hgd : og.dst = some gd)
    (hb : fget (forget (hid tch cl i) ⟨n, fr, st⟩).fr gd = .t (.bool b)) (hbw : b ≠ want)
    (h : RDX P X g all tch cl (i + 1) l ⟨n, (d, .tup []) :: fr, st⟩ K) : RDX P X g all tch cl i (o :: l) ⟨n, fr, st⟩ K :=
  ⟨_, by rw [ht, hd]; rfl, .inr (.inl ⟨j, want, og, gd, b, hg, hj, hgd, hb, .inr ⟨hbw, rfl⟩⟩), by rw [hd]; exact h⟩

theorem RX.x {v : AV} {d : Tmp} (hg : o.guard = none) (hd : o.dst = some d) (ht : tch.getD i (none, []) = (some d, [])) (he : EffX P X g o (forget (hid tch cl i) ⟨n, fr, st⟩) ⟨v, []⟩)
    (h : RDX P X g all tch cl (i + 1) l ⟨n, (d, v) :: fr, st⟩ K) : RDX P X g all tch cl i (o :: l) ⟨n, fr, st⟩ K :=
  ⟨_, by rw [ht, hd]; rfl, .inl ⟨hg, he⟩, by rw [hd]; exact h⟩
end

end Go.Tv

end
section
namespace Go.Tv
set_option linter.unusedVariables false
variable {P : Program}
def JI (F0 : Nat → Prop) (w0 : World) (r : Nat) (Good : Obj → Prop) : JP Unit where
  J := fun _ M C w => ∃ o, Good o ∧ (JR F0 w0).J [(r, o)] M C w
  ds := fun _ => []
  stable := by
    rintro g M C w M' w' ⟨o, ho, h⟩ h1 h2 h3 h4 h5 h6
    exact ⟨o, ho, (JR F0 w0).stable [(r, o)] M C w M' w' h h1 h2 h3 h4 h5 h6⟩
theorem awj_I {F0 : Nat → Prop} {w0 : World} {r : Nat} {Good : Obj → Prop} {o : Obj} {ro : Option Nat} {kp : Nat → Bool} {c : Code} {s : St} {Q : Exit → St → Gh → Prop} (ho : Good o)
    (h : AWJ P ro kp (JI F0 w0 r Good) c s () (fun e s' _ => ∀ o', Good o' → Q e s' [(r, o')])) : AWJ P ro kp (JR F0 w0) c s [(r, o)] Q := by
  intro n F β a w hr hJ
  refine wpIn_mono (h n F β a w hr ⟨o, ho, hJ⟩) ?_
  rintro e a' w' ⟨s', β', g', F', a'', hq, hr', rfl, ⟨o', ho', hj⟩, hev, hke⟩
  exact ⟨s', β', [(r, o')], F', a'', hq o' ho', hr', rfl, hj, hev, hke⟩
theorem shift_nil (a : Act) : shift [] a = a := by cases a; simp [shift]
theorem EffX_callI {F0 : Nat → Prop} {w0 : World} {rb : Nat} {Good : Obj → Prop} {o : Oper} {D : St} {f : FuncId} {x : Operand} {args : Array Operand} {ats : Array TypeId} {xs caps : List Tr} {res : Tr}
    (hret : ∀ ob, Good ob → RetR P f (xs ++ caps) [(rb, ob)] (fun r' g' => r' = res ∧ ∃ o', Good o' ∧ g' = [(rb, o')])) (hf : callOK P f = true) (hd : dstOK D.n o.dst = true)
    (ho : o.op = .call { callee := .value x, args := args, argTypes := ats }) (hx : D.ev x = .t (.fn f caps)) (hargs : args.toList.map D.ev = xs.map .t) :
    EffX P (JI F0 w0 rb Good) () o D ⟨.t res, []⟩ := by
  intro s hs hfresh F β a w hr hJ0 next Q hnext
  obtain ⟨ob, hob, hJ⟩ := hJ0
  have hJ' := hJ
  obtain ⟨j1, j2, j3, j4⟩ := hJ'
  have hxv := hr.evA hs hx
  generalize hxe : a.eval x = xv at hxv
  have hless : ∀ b, ((F0 b ∨ Owned β s.st b) ∨ (gget [(rb, ob)] b).isSome = true) → G F β s.st b := fun b hb => by
    rcases hb with (hb | hb) | hb
    · exact .inl ((j1 b).2 (.inl hb))
    · exact .inr hb
    · exact .inl ((j1 b).2 (.inr hb))
  cases hxv with
  | t hxv =>
    cases hxv with
    | fn f cs vs hl' hcv =>
      have hl : args.size = xs.length := by have := congrArg List.length hargs; simpa using this
      have hva : ∀ (i : Nat) (y : Operand) (t : Tr), args.toList[i]? = some y → xs[i]? = some t → V w (fun b => (F0 b ∨ Owned β s.st b) ∨ (gget [(rb, ob)] b).isSome = true) t (a.eval y) := by
        intro i y t hy ht
        have hz : (args.toList.map D.ev)[i]? = some (D.ev y) := by rw [List.getElem?_map, hy]; rfl
        rw [hargs, List.getElem?_map, ht] at hz
        have h := hr.evA hs (x := y) rfl
        rw [← Option.some.inj hz] at h
        cases h with
        | t h => exact h.less hless
      have hvl : VL w (fun b => (F0 b ∨ Owned β s.st b) ∨ (gget [(rb, ob)] b).isSome = true) (xs ++ caps) (args.toList.map a.eval ++ vs) :=
        args_vl hva hl ⟨hl', fun i y v hy hv => (hcv i y v hy hv).less hless⟩
      have hown : ∀ b, Owned β s.st b → b < w.heap.size ∧ gget [(rb, ob)] b = none := fun b hb => ⟨(hr.owned_cells hb).1, by
        cases hq : gget [(rb, ob)] b with
        | none => rfl
        | some q => exact absurd hb (j3 b q hq).2⟩
      have hcall := hret ob hob (fun b => F0 b ∨ Owned β s.st b) w _ (fun b hb => hb.elim (fun h => ⟨(j2 b h).1, (j2 b h).2.2.2⟩) (hown b)) (fun b q hq => (j3 b q hq).1) hvl
      rw [show (args.toList.map a.eval ++ vs).toArray = args.map a.eval ++ vs.toArray from by apply Array.ext'; simp] at hcall
      unfold Oper.wp
      rw [execCall ho hxe hf w, Oper.upon_enter]
      refine Calls.mono hcall ?_
      rintro e w' ⟨v, r', g1, rfl, ⟨rfl, o', ho', rfl⟩, hv, hholds, hdom, hos, htape, hout, hsz, hkeep⟩
      have hv' : VA w' (G (fun b => F0 b ∨ (gget [(rb, o')] b).isSome = true) β s.st) β s.st (.t r') v := .t (hv.less (fun b hb => by
        rcases hb with (hb | hb) | hb
        · exact .inl (.inl hb)
        · exact .inr hb
        · exact .inl (.inr hb)))
      have key := raw_after (o := o) (K := fun a' w' => next a' w') (by rw [hs.n]; exact hd) hr hJ hv' hos htape hout hsz hkeep hholds hdom
        (fun F' β' a' w' q1 q2 q3 _ => by
          show next (shift [] a') w'
          rw [shift_nil]; exact hnext F' β' a' w' q1 ⟨o', ho', q2⟩ q3)
      have key2 : next (shift [] (a.put o.dst v)) w' := key
      rw [shift_nil] at key2
      exact key2
end Go.Tv

end
section
namespace Go.Tv
set_option linter.unusedVariables false
variable {P : Program} {o : Oper} {D : St} {F0 : Nat → Prop} {w0 : World}

theorem effJ_callRC {f : FuncId} {x : Operand} {args : Array Operand} {ats : Array TypeId} {xs caps : List Tr} {g : Gh} {S : Tr → Gh → Prop} (hret : RetR P f (xs ++ caps) g S) (hf : callOK P f = true)
    (hd : dstOK D.n o.dst = true) (ho : o.op = .call { callee := .value x, args := args, argTypes := ats }) (hx : D.ev x = .t (.fn f caps)) (hargs : args.toList.map D.ev = xs.map .t) :
    EffJ P none (JR F0 w0) o D g (fun e g' => ∃ r, e = ⟨.t r, []⟩ ∧ S r g') := by
  intro n F β a w hr hJ K Q hK
  have hJ' := hJ
  obtain ⟨j1, j2, j3, j4⟩ := hJ'
  have hnd : ∀ c, o.op ≠ .defer c := fun c h => by rw [ho] at h; cases h
  have hless : ∀ b, ((F0 b ∨ Owned β D.st b) ∨ (gget g b).isSome = true) → G F β D.st b := fun b hb => by
    rcases hb with (hb | hb) | hb
    · exact .inl ((j1 b).2 (.inl hb))
    · exact .inr hb
    · exact .inl ((j1 b).2 (.inr hb))
  have hxv := hr.ev x
  rw [hx] at hxv
  generalize hxe : a.eval x = xv at hxv
  cases hxv with
  | t hxv =>
    cases hxv with
    | fn f cs vs hl' hcv =>
      have hl : args.size = xs.length := by have := congrArg List.length hargs; simpa using this
      have hva : ∀ (i : Nat) (y : Operand) (t : Tr), args.toList[i]? = some y → xs[i]? = some t → V w (fun b => (F0 b ∨ Owned β D.st b) ∨ (gget g b).isSome = true) t (a.eval y) := by
        intro i y t hy ht
        have hz : (args.toList.map D.ev)[i]? = some (D.ev y) := by rw [List.getElem?_map, hy]; rfl
        rw [hargs, List.getElem?_map, ht] at hz
        have h := hr.ev y
        rw [← Option.some.inj hz] at h
        cases h with
        | t h => exact h.less hless
      have hvl : VL w (fun b => (F0 b ∨ Owned β D.st b) ∨ (gget g b).isSome = true) (xs ++ caps) (args.toList.map a.eval ++ vs) :=
        args_vl hva hl ⟨hl', fun i y v hy hv => (hcv i y v hy hv).less hless⟩
      have hown : ∀ b, Owned β D.st b → b < w.heap.size ∧ gget g b = none := fun b hb => ⟨(hr.owned_cells hb).1, by
        cases hq : gget g b with
        | none => rfl
        | some q => exact absurd hb (j3 b q hq).2⟩
      have hcall := hret (fun b => F0 b ∨ Owned β D.st b) w _ (fun b hb => hb.elim (fun h => ⟨(j2 b h).1, (j2 b h).2.2.2⟩) (hown b)) (fun b q hq => (j3 b q hq).1) hvl
      rw [show (args.toList.map a.eval ++ vs).toArray = args.map a.eval ++ vs.toArray from by apply Array.ext'; simp] at hcall
      refine ⟨fun f _ => trivial, ?_⟩
      have hround0 : (FW none).round = none := rfl
      rw [hround0, Oper.semAt_eq _ _ _ hnd]
      have he : (shift ((JR F0 w0).ds g) a).eval = a.eval := rfl
      rw [he, execCall ho hxe hf w]
      refine ⟨fun h => (by rw [FW.nodepth] at h; cases h), callsFW (Calls.mono hcall ?_)⟩
      rintro e w' ⟨v, r, g1, rfl, hS, hv, hholds, hdom, hos, htape, hout, hsz, hkeep⟩
      show K _ _
      rw [shift_put]
      refine raw_after hd hr hJ (.t ?_) hos htape hout hsz hkeep hholds hdom (hK _ _ ⟨r, rfl, hS⟩)
      refine hv.less (fun b hb => ?_)
      rcases hb with (hb | hb) | hb
      · exact .inl (.inl hb)
      · exact .inr hb
      · exact .inl (.inr hb)

theorem ObOK.less {w : World} {H H' : Nat → Prop} {β : Nat → Option Nat} {σ : Sto} {id : Nat} {ob : Ob} (hH : ∀ b, H' b → H b) (h : ObOK w H β σ id ob) : ObOK w H' β σ id ob := by
  rcases h with h | ⟨b, c, h1, h2, h3, h4, h5⟩
  · exact .inl h
  · exact .inr ⟨b, c, h1, h2, h3, h4, fun i x j y hx hy => by
      obtain ⟨q1, v, q2, q3⟩ := h5 i x j y hx hy
      exact ⟨q1, v, q2, q3.same hH (fun _ => rfl)⟩⟩

/-- A contract that yields new objects, out of a body that ranges over functions. -/
theorem retG_of_awjC {f : FuncId} {fn : Func} {c : Code} {σ1 : Sto} {xs : List Tr} {r : AV} (hf : P.funcs[f]? = some fn) (hb : fn.body = some c) (hn : xs.length ≤ fn.ntmps)
    (h : ∀ F0 w0, AWJ P none (fun _ => false) (JC F0 w0) c ⟨fn.ntmps, initFr 0 xs, []⟩ [] (fun e s _ => (e = .normal ∨ e = .ret) ∧ ∃ rs rs', RVarsA P s fn.results.toList rs ∧ rs'.length = rs.length ∧
      Weak ⟨rs.length, initFrA 0 rs, s.st⟩ ⟨rs.length, initFrA 0 rs', σ1⟩ ∧ packA rs' = r)) : RetG P f [] (xs.map .t) σ1 r := by
  intro F β w vals hm hl hV
  refine (callsIn_wide (n := 0)).1 (callsIn_of_wp_marks (F := Fence.wide) hf hb trivial ?_)
  have hlt : ∀ b, F b → b < w.heap.size := hm.ltF
  have hVL : VL w F xs vals := ⟨by simpa using hl, fun i x v hx hv => by
    have h := hV i (.t x) v (by rw [List.getElem?_map, hx]; rfl) hv
    cases h with
    | t h => exact h.less (fun b hb => .inl hb)⟩
  have h0 := ofVL (n := fn.ntmps) hlt hVL hn
  have hJ0 : (JC F w).J [] (Owned (fun _ => none) ([] : Sto)) F w := jc_start (fun b hb => ⟨hlt b hb, not_owned_nil⟩)
  refine wpIn_mono (h F w 0 F _ _ w h0 hJ0) ?_
  rintro e a' w' ⟨s', β', Ds, F', a'', ⟨he, rs, rs', hrs, hlen, hweak, hpk⟩, hr', rfl, ⟨j1, j2, j3, j4, j5⟩, hev, _⟩
  have hds : (shift ((JC F w).ds Ds) a'').defers = Ds.map mark := by simp [shift, hr'.defers, JC]
  have main : LeavesInM Fence.wide 0 P fn (shift ((JC F w).ds Ds) a'').tmps (fun e w'' => ∃ v β', e = .returned v ∧ VA w'' (G F β' σ1) β' σ1 r v ∧ Mem F β' σ1 w'' ∧ Evo [] β w σ1 β' w'') (shift ((JC F w).ds Ds) a'').defers .returning w' := by
    rw [hds]
    refine leaves_marks Ds w' j4 (fun D hD => (j3 D hD).2.2.2) (fun w'' h1 h2 h3 h4 h5 => ?_)
    have hk : ∀ (b : Nat) q, dataObj q = true → w'.heap[b]? = some q → w''.heap[b]? = w'.heap[b]? := fun b q hq hb => h5 b (fun hD => by have := (j3 b hD).2.2.2; rw [hb] at this; cases this; cases hq)
    have hr2 := hr'.others (w' := w'') (by rw [h1]; exact Nat.le_refl _) hk
    obtain ⟨vs, hvs, hvl, hvV⟩ := RVarsA.run hr2 _ _ hrs
    have hrel1 : Rel F' β' ⟨rs.length, initFrA 0 rs, s'.st⟩ { tmps := vs.toArray, defers := [] } w'' := by
      refine ⟨rfl, by simp [hvl], fun i => ?_, hr2.ob, hr2.inj, hr2.notF, hr2.ltF⟩
      show VA w'' _ _ _ (fget (initFrA 0 rs) i) _
      rw [initFrA_get, if_pos (Nat.zero_le _), Nat.sub_zero]
      cases hx : rs[i]? with
      | none => exact .junk _
      | some x =>
        have hi : i < vs.length := by rw [hvl]; exact lt_get hx
        rw [vAt_lt (by simpa using hi), show (vs.toArray).getD i undef = vs[i] from by simp [hi]]
        exact hvV i x vs[i] hx (List.getElem?_eq_getElem hi)
    obtain ⟨β2, hrel2, hown⟩ := hweak F' β' _ w'' hrel1
    have hFF : ∀ b, F b → F' b := fun b hb => (j1 b).2 (.inl hb)
    have hGG : ∀ b, G F β2 σ1 b → G F' β2 σ1 b := fun b hb => hb.imp (hFF b) id
    have hget : ∀ (i : Nat) (x : AV) (v : Value), rs'[i]? = some x → vs[i]? = some v → VA w'' (G F β2 σ1) β2 σ1 x v := by
      intro i x v hx hv
      have := hrel2.fr i
      rw [show fget (St.mk rs.length (initFrA 0 rs') σ1).fr i = fget (initFrA 0 rs') i from rfl, initFrA_get, if_pos (Nat.zero_le _), Nat.sub_zero, hx] at this
      rw [vAt_lt (by simpa using lt_get hv), show (vs.toArray).getD i undef = v from by
        have hi := lt_get hv
        rw [List.getElem?_eq_getElem hi] at hv
        cases hv
        simp [hi]] at this
      exact this.same hGG (fun _ => rfl)
    have hres : ∃ v, (results fn a''.tmps).run P w'' = .ok v w'' ∧ VA w'' (G F β2 σ1) β2 σ1 r v := by
      have hmm : (fn.results.mapM (resOf a''.tmps)).run P w'' = .ok vs.toArray w'' := by
        rw [Array.mapM_eq_mapM_toList, Sem.run_map, hvs]; rfl
      refine ⟨if h : vs.toArray.size = 1 then vs.toArray[0] else .tuple vs.toArray, ?_, ?_⟩
      · rw [results_eq, Sem.run_bind, hmm]; rfl
      · rw [← hpk]
        have hl2 : vs.length = rs'.length := by omega
        match rs', vs, hl2, hget with
        | [x], [v], _, hget => exact hget 0 x v rfl rfl
        | [], [], _, hget => exact .tup rfl hget
        | x :: y :: l, u :: v :: m, hl2, hget => exact .tup hl2 hget
    obtain ⟨v, hv, hVv⟩ := hres
    have hold : ∀ b, b < w.heap.size → w''.heap[b]? = w.heap[b]? := fun b hb => by
      have hbD : b ∉ Ds := fun hD => by have := (j3 b hD).2.2.1; omega
      rw [h5 b hbD]
      by_cases hF : F b
      · exact (j2 b hF).2.1
      · exact hev.keep b hb hF not_owned_nil
    refine ⟨v, hv, v, β2, rfl, hVv, ⟨fun id ob hs => (hrel2.ob id ob hs).less hGG, hrel2.inj, fun i oi b hi hb hF => hrel2.notF i oi b hi hb (hFF b hF), fun b hb => by rw [h1]; exact Nat.lt_of_lt_of_le (hlt b hb) hev.size⟩, ?_⟩
    exact ⟨h2.trans hev.os, h3.trans hev.tape, h4.trans hev.output, by rw [h1]; exact hev.size, fun b hb _ => hold b hb, fun b hb => .inl ((hev.own b (hown b hb)).elim id (fun h => absurd h not_owned_nil)), fun b c ty hc => ⟨c, (hold b (lt_of_heap hc)).trans hc, rfl⟩⟩
  rcases he with rfl | rfl <;> exact main

theorem RetR.ext {f : FuncId} {xs : List Tr} {g0 g0' : Gh} {S : Tr → Gh → Prop} (h : RetR P f xs g0 S) (e : ∀ b, gget g0' b = gget g0 b) : RetR P f xs g0' S := by
  unfold RetR
  simp only [e]
  exact h

section
variable {all l : List Oper} {n : Nat} {fr : Fra} {st : Sto} {g : Gh} {K' : St → Gh → Prop}
theorem RJ.rCall {f : FuncId} {x : Operand} {args : Array Operand} {ats : Array TypeId} {xs caps : List Tr} {S : Tr → Gh → Prop} {d : Tmp} (hret : RetR P f (xs ++ caps) g S) (hf : callOK P f = true)
    (hg : o.guard = none) (hd : o.dst = some d) (hdn : dstOK n (some d) = true) (ho : o.op = .call { callee := .value x, args := args, argTypes := ats }) (hx : (St.mk n fr st).ev x = .t (.fn f caps)) (hargs : args.toList.map (St.mk n fr st).ev = xs.map .t)
    (h : ∀ r g', S r g' → RJ P none (JR F0 w0) all l ⟨n, (d, .t r) :: fr, st⟩ g' K') : RJ P none (JR F0 w0) all (o :: l) ⟨n, fr, st⟩ g K' :=
  RJ.many (.inl hg) (effJ_callRC hret hf (by rw [hd]; exact hdn) ho hx hargs) (by
    rintro e g' ⟨r, rfl, hS⟩
    rw [hd]
    exact h r g' hS)
end
end Go.Tv

end
section
namespace Go.Tv
variable {P : Program} {o : Oper} {D : St}
theorem FlatA.toE {σ : Sto} {ren : Nat → Nat} {x y : AV} (hf : FlatA x) (hr : RenA σ ren x y) {w : World} {H H' : Nat → Prop} {β β' : Nat → Option Nat} {σ' : Sto}
    (hs : ∀ id ob, sget σ id = some ob → sget σ' (ren id) = some ob ∧ β' (ren id) = β id) :
    ∀ {v : Value}, VA w H β σ x v → VA w H' β' σ' y v := by
  induction hf generalizing y with
  | t x h =>
    cases hr with
    | t => intro v hv; cases hv with | t hv => exact .t (flat_v h hv)
  | own id g off len =>
    cases hr with
    | own _ _ _ _ h hn =>
      subst hn
      intro v hv
      cases hv with
      | own g1 g2 g3 g4 g5 g6 g7 => exact .own (hs _ _ g1).1 g2 ((hs _ _ g1).2.trans g3) g4 g5 g6 g7
      | ownNil g1 g2 g3 g4 => exact .ownNil (hs _ _ g1).1 g2 ((hs _ _ g1).2.trans g3) g4
      | ownZ g1 g2 g3 g4 g5 => exact .ownZ (hs _ _ g1).1 g2 ((hs _ _ g1).2.trans g3) g4 g5
      | ownE g1 g2 g3 g4 => exact .ownE (hs _ _ g1).1 g2 ((hs _ _ g1).2.trans g3) g4
      | stale g1 g2 g3 => exact .stale (hs _ _ g1).1 g2 g3
  | tup cs h ih =>
    cases hr with
    | tup _ ds hl hcd =>
      intro v hv
      cases hv with
      | @tup _ vs hl' hva =>
        refine .tup (by omega) (fun j d u hd hu => ?_)
        have hc : cs[j]? = some (cs[j]'(by rw [hl]; exact lt_get hd)) := List.getElem?_eq_getElem _
        exact ih _ (List.mem_of_getElem? hc) (hcd j _ d hc hd) (hva j _ u hc hu)

/-- A call that is lent owned objects to read, and yields new ones of flat elements. -/
theorem eff_callGBE {f : FuncId} {x : Operand} {args : Array Operand} {ats : Array TypeId} {σ1 : Sto} {ys : List Tr} {r r' : AV} (hret : RetG P f [] (ys.map .t) σ1 r) (hf : callOK P f = true) (ren : Nat → Nat)
    (hd : dstOK D.n o.dst = true) (ho : o.op = .call { callee := .value x, args := args, argTypes := ats }) (hx : D.ev x = .t (.fn f []))
    (hargs : ResP D.st (args.toList.map D.ev) ys) (hfl : FlatA r) (hr' : RenA σ1 ren r r') (hkeys : keysOK ren σ1 = true)
    (h1 : AllS (fun id ob => flatEls ob ∧ (sget D.st (ren id)).isNone = true) σ1) :
    Eff P o D ⟨r', upsOf ren σ1⟩ := by
  intro s hs hfresh F β a w hrel next Q hnext
  have memUps : ∀ (σ : Sto) id ob, (id, some ob) ∈ σ → (ren id, ob) ∈ upsOf ren σ := by
    intro σ
    induction σ with
    | nil => intro id ob h; simp at h
    | cons y l ih =>
      intro id ob h
      obtain ⟨i, q⟩ := y
      simp only [List.mem_cons] at h
      rcases h with h | h
      · cases h; exact List.mem_cons_self
      · cases q with
        | none => exact ih id ob h
        | some q => exact List.mem_cons_of_mem _ (ih id ob h)
  have k1 : ∀ id ob, sget σ1 id = some ob → flatEls ob ∧ sget s.st (ren id) = none := fun id ob h => by
    obtain ⟨q1, q3⟩ := h1.get id ob h
    exact ⟨q1, hfresh (ren id) ob (memUps _ _ _ (sget_mem h)) (Option.isNone_iff_eq_none.1 q3)⟩
  have hno : ∀ (β : Nat → Option Nat) b, ¬ Owned β [] b := fun β b ⟨id, ob, ho, _⟩ => by simp [sget] at ho
  let β0 : Nat → Option Nat := fun _ => none
  have hmem0 : Mem F β0 [] w := ⟨fun id ob h => by simp [sget] at h, fun i j oi oj b h => by simp [sget] at h, fun i oi b h => by simp [sget] at h, hrel.ltF⟩
  have hlen : args.toList.length = ys.length := by rw [hargs.len]; simp
  have hxv := hrel.evT hs hx
  generalize hxe : a.eval x = xv at hxv
  cases hxv with
  | fn f cs vs hl' hcv =>
    have hvs : vs = [] := List.length_eq_zero_iff.1 hl'
    subst hvs
    have hvals : ∀ (i : Nat) (y : AV) (v : Value), (ys.map AV.t)[i]? = some y → (args.toList.map a.eval)[i]? = some v → VA w (G F β0 []) β0 [] y v := by
      intro i y v hy hv
      rw [List.getElem?_map, Option.map_eq_some_iff] at hv hy
      obtain ⟨op, hop, rfl⟩ := hv
      obtain ⟨t, ht, rfl⟩ := hy
      have hz : (args.toList.map D.ev)[i]? = some (D.ev op) := by rw [List.getElem?_map, hop]; rfl
      have hres := hargs.get _ _ i _ t hz ht
      have := hrel.res (hres.mono hs.st) (hrel.evA hs rfl)
      exact .t (this.same (fun b hb => hb.elim (fun h => h) (fun h => absurd h (hno _ b))))
    have := hret F β0 w (args.toList.map a.eval) hmem0 (by simpa using hlen) hvals
    unfold Oper.wp
    rw [execCall ho hxe hf w, Oper.upon_enter]
    rw [show (args.toList.map a.eval).toArray = args.map a.eval ++ ([] : List Value).toArray from by apply Array.ext'; simp] at this
    refine Calls.mono this ?_
    rintro e w' ⟨v, β1, rfl, hva, hm1, hev⟩
    have hbel : BelowD w.heap.size w w' := ⟨⟨hev.os, hev.tape.1, hev.output, hev.size, fun b hb => hev.keep b hb (hno _ b)⟩, hev.tape.2⟩
    obtain ⟨hrelw, hevw, _⟩ := hrel.below hbel
    have hnew : ∀ b, Owned β1 σ1 b → w.heap.size ≤ b := fun b hb => (hev.own b hb).resolve_right (hno _ b)
    let β2 : Nat → Option Nat := fun n => match σ1.find? (fun y => Nat.beq (ren y.1) n) with
      | some y => β1 y.1
      | none => β n
    have hβhit : ∀ id ob, sget σ1 id = some ob → β2 (ren id) = β1 id := by
      intro id ob h
      show (match σ1.find? (fun y => Nat.beq (ren y.1) (ren id)) with | some y => β1 y.1 | none => β (ren id)) = β1 id
      cases hfd : σ1.find? (fun y => Nat.beq (ren y.1) (ren id)) with
      | none =>
        have := List.find?_eq_none.1 hfd _ (sget_mem h)
        simp at this
      | some y =>
        have hy := List.find?_some hfd
        have hm := List.mem_of_find?_eq_some hfd
        have := keys_inj hkeys _ _ hm (sget_mem h) (Nat.eq_of_beq_eq_true hy)
        rw [this]
    have memSome : ∀ (σ : Sto), keysOK ren σ = true → ∀ y, y ∈ σ → ∃ ob, sget σ y.1 = some ob := by
      intro σ
      induction σ with
      | nil => intro _ y h; simp at h
      | cons z l ih =>
        intro hk y h
        obtain ⟨q1, q2, q3⟩ := keys_head hk
        rw [show z :: l = sput l z.1 z.2 from rfl, sget_sput]
        by_cases e : y.1 = z.1
        · rw [if_pos e]; exact Option.isSome_iff_exists.1 q1
        · rw [if_neg e]
          simp only [List.mem_cons] at h
          rcases h with rfl | h
          · exact absurd rfl e
          · exact ih q3 y h
    have missOf : ∀ n, (∀ id ob, sget σ1 id = some ob → ren id ≠ n) → ∀ y, y ∈ σ1 → ren y.1 ≠ n := fun n h y hy => by
      obtain ⟨ob, hob⟩ := memSome σ1 hkeys y hy
      exact h _ _ hob
    have hβmiss : ∀ n, (∀ id ob, sget σ1 id = some ob → ren id ≠ n) → β2 n = β n := by
      intro n h
      show (match σ1.find? (fun y => Nat.beq (ren y.1) n) with | some y => β1 y.1 | none => β n) = β n
      rw [List.find?_eq_none.2 (fun y hy he => missOf n h y hy (Nat.eq_of_beq_eq_true he))]
    let σ2 : Sto := upAll s.st (upsOf ren σ1)
    have hσhit : ∀ id ob, sget σ1 id = some ob → sget σ2 (ren id) = some ob := fun id ob h => (upAll_ups hkeys s.st (ren id)).1 id ob (sget_mem h) rfl
    have hσmiss : ∀ n, (∀ id ob, sget σ1 id = some ob → ren id ≠ n) → sget σ2 n = sget s.st n := fun n h => (upAll_ups hkeys s.st n).2 (missOf n h)
    have hcase : ∀ n, (∃ id ob, sget σ1 id = some ob ∧ ren id = n) ∨ (∀ id ob, sget σ1 id = some ob → ren id ≠ n) := fun n => by
      by_cases h : ∃ id ob, sget σ1 id = some ob ∧ ren id = n
      · exact .inl h
      · exact .inr fun id ob h1 h2 => h ⟨id, ob, h1, h2⟩
    have hmissOf : ∀ n ob, sget s.st n = some ob → ∀ id ob1, sget σ1 id = some ob1 → ren id ≠ n := by
      rintro n ob hn id ob1 hid rfl
      rw [(k1 id ob1 hid).2] at hn; cases hn
    have hG2 : ∀ b, G F β2 σ2 b → G F β s.st b ∨ Owned β1 σ1 b := by
      rintro b (h | ⟨n, ob, hn, hb⟩)
      · exact .inl (.inl h)
      · rcases hcase n with ⟨id, ob1, hid, rfl⟩ | hmiss
        · exact .inr ⟨id, ob1, hid, by rw [← hβhit id ob1 hid]; exact hb⟩
        · rw [hσmiss n hmiss] at hn
          rw [hβmiss n hmiss] at hb
          exact .inl (.inr ⟨n, ob, hn, hb⟩)
    have hturn : Turns w w' β β2 s.st σ2 := fun n ob hn => by
      have hmiss := hmissOf n ob hn
      refine ⟨ob, by rw [hσmiss n hmiss]; exact hn, .inr ⟨rfl, rfl, rfl, rfl, hβmiss n hmiss, fun b c hb hc => ⟨c, ?_, rfl⟩⟩⟩
      rw [hbel.block b (lt_of_heap hc)]; exact hc
    have hmono : ∀ {y : AV} {v : Value}, VA w (G F β s.st) β s.st y v → VA w' (G F β2 σ2) β2 σ2 y v := fun hv =>
      VA.mono hev.size (fun b hb hn => ⟨fun h => (hG2 b h).elim hn (fun h => by have := hnew b h; omega), hbel.block b hb⟩) hturn hv
    have hrel2 : Rel F β2 ⟨s.n, s.fr, σ2⟩ a w' := by
      refine ⟨hrel.defers, hrel.size, fun i => hmono (hrel.fr i), fun n ob hn => ?_, fun i j oi oj b hi hj hbi hbj => ?_, fun i oi b hi hb => ?_, fun b hb => Nat.lt_of_lt_of_le (hrel.ltF b hb) hev.size⟩
      · change sget σ2 n = some ob at hn
        rcases hcase n with ⟨id, ob1, hid, rfl⟩ | hmiss
        · rw [hσhit id ob1 hid] at hn; cases hn
          exact flat_ob (k1 id _ hid).1 (hβhit id _ hid) (hm1.ob id _ hid)
        · rw [hσmiss n hmiss] at hn
          rcases hrel.ob n ob hn with ⟨q1, q2⟩ | ⟨b, c, q1, q2, q3, q4, q5⟩
          · exact .inl ⟨(hβmiss n hmiss).trans q1, q2⟩
          · refine .inr ⟨b, c, (hβmiss n hmiss).trans q1, by rw [hbel.block b (lt_of_heap q2)]; exact q2, q3, q4, fun i x j y hx hy => ?_⟩
            obtain ⟨g1, u, hu, hva⟩ := q5 i x j y hx hy
            exact ⟨g1, u, hu, hmono hva⟩
      · change sget σ2 i = some oi at hi
        change sget σ2 j = some oj at hj
        have old : ∀ n q, sget s.st n = some q → β n = some b → b < w.heap.size := fun n q h1 h2 => hrel.ltG b (.inr ⟨n, q, h1, h2⟩)
        rcases hcase i with ⟨id, ob1, hid, rfl⟩ | hmi <;> rcases hcase j with ⟨jd, ob2, hjd, rfl⟩ | hmj
        · rw [hβhit id ob1 hid] at hbi
          rw [hβhit jd ob2 hjd] at hbj
          rw [hm1.inj id jd ob1 ob2 b hid hjd hbi hbj]
        · rw [hβhit id ob1 hid] at hbi
          rw [hσmiss j hmj] at hj
          rw [hβmiss j hmj] at hbj
          have h1 := old j oj hj hbj
          have h2 := hnew b ⟨id, ob1, hid, hbi⟩
          omega
        · rw [hβhit jd ob2 hjd] at hbj
          rw [hσmiss i hmi] at hi
          rw [hβmiss i hmi] at hbi
          have h1 := old i oi hi hbi
          have h2 := hnew b ⟨jd, ob2, hjd, hbj⟩
          omega
        · rw [hσmiss i hmi] at hi
          rw [hσmiss j hmj] at hj
          rw [hβmiss i hmi] at hbi
          rw [hβmiss j hmj] at hbj
          exact hrel.inj i j oi oj b hi hj hbi hbj
      · change sget σ2 i = some oi at hi
        rcases hcase i with ⟨id, ob1, hid, rfl⟩ | hmi
        · rw [hβhit id ob1 hid] at hb
          exact hm1.notF id ob1 b hid hb
        · rw [hσmiss i hmi] at hi
          rw [hβmiss i hmi] at hb
          exact hrel.notF i oi b hi hb
    have hva2 : VA w' (G F β2 σ2) β2 σ2 r' v := hfl.toE hr' (fun id ob h => ⟨hσhit id ob h, hβhit id ob h⟩) hva
    refine hnext β2 _ _ (hrel2.put (by rw [show (St.mk s.n s.fr σ2).n = s.n from rfl, hs.n]; exact hd) hva2) ⟨hev.os, hev.tape, hev.output, hev.size, fun b hb _ => hbel.block b hb, fun b hb => ?_, hev.shp⟩
    obtain ⟨n, ob, hn, hbn⟩ := hb
    change sget σ2 n = some ob at hn
    rcases hcase n with ⟨id, ob1, hid, rfl⟩ | hmiss
    · rw [hβhit id ob1 hid] at hbn
      exact .inl (hnew b ⟨id, ob1, hid, hbn⟩)
    · rw [hσmiss n hmiss] at hn
      rw [hβmiss n hmiss] at hbn
      exact .inr ⟨n, ob, hn, hbn⟩

end Go.Tv

end
section
namespace Go.Tv
open Go.Shelf Go.Proofs
set_option linter.unusedVariables false
variable {P : Program} {ρ : Ren}
def sortI (l : List Int) : List Int := l.mergeSort fun x y => decide (x ≤ y)
theorem sortI_perm (l : List Int) : (sortI l).Perm l := List.mergeSort_perm _ _
theorem sortI_length (l : List Int) : (sortI l).length = l.length := (sortI_perm l).length_eq
theorem sortI_sorted (l : List Int) : (sortI l).Pairwise (· ≤ ·) := by
  have h := List.pairwise_mergeSort (le := fun x y : Int => decide (x ≤ y)) (fun a b c h1 h2 => by simp at *; omega) (fun a b => by simp; omega) l
  exact h.imp (fun h => by simpa using h)
def intT (n : Int) : Tr := .int .i64 n

/-- A call of slices.Sort: the object's elements are sorted in place; what points to it stays good. -/
theorem eff_sortInts {o : Oper} {D : St} (L : SlLaysM.n5 P ρ) {id gen : Nat} {ty : TypeId} (l : List Int) (hl : l.length < 4611686018427387904)
    {f : FuncId} {x y : Operand} {ats : Array TypeId} {n0 : Nat} {els els' : List AV} (hfe : ρ.f 5 = f) (hf : callOK P f = true) (hd : dstOK D.n o.dst = true) (ho : o.op = .call { callee := .value x, args := #[y], argTypes := ats })
    (hx : D.ev x = .t (.fn f [])) (hy : D.ev y = .own id gen 0 n0) (hs : sget D.st id = some ⟨1, ty, gen, els⟩) (he : els = (l.map intT).map .t) (hn0 : n0 = l.length) (he' : ((sortI l).map intT).map AV.t = els') :
    Eff P o D ⟨.t (.tup []), [(id, ⟨1, ty, gen, els'⟩)]⟩ := by
  subst hfe he hn0 he'
  intro s hs' _ F β a w hr next Q hnext
  have hst := hs'.st _ _ hs
  have hyv := hr.evA hs' hy
  have hxv : a.eval x = .func (.func (ρ.f 5)) #[] #[] := (solid_fn _).eq _ _ _ (hr.evT hs' hx)
  have elen : ((l.map intT).map AV.t).length = l.length := by simp
  have hsl : (sortI l).length = l.length := sortI_length l
  unfold Oper.wp
  rw [execCall (vs := []) ho (by simpa using hxv) hf w, Oper.upon_enter]
  rw [show (#[y].map a.eval ++ ([] : List Value).toArray) = #[a.eval y] from by simp]
  have hempty : l = [] → ∀ p cap, a.eval y = .slice p 0 cap → Calls P (ρ.f 5) #[a.eval y] w (fun e w' => ∃ v, e = .returned v ∧ next (a.put o.dst v) w') := by
    intro hnil p cap hv
    rw [hv]
    refine Calls.mono (AnyM.slices_Sort_int_none L p cap w) ?_
    rintro e w' ⟨rfl, rfl⟩
    refine ⟨_, rfl, ?_⟩
    subst hnil
    have hs0 : sortI ([] : List Int) = [] := List.length_eq_zero_iff.1 hsl
    rw [hs0] at hnext
    have hid : ∀ m, sget (sput s.st id (some ⟨1, ty, gen, (([] : List Int).map intT).map AV.t⟩)) m = sget s.st m := fun m => by
      rw [sget_sput]; split
      · rename_i e; rw [e, hst]
      · rfl
    have hrel : Rel F β { n := s.n, fr := s.fr, st := sput s.st id (some ⟨1, ty, gen, (([] : List Int).map intT).map AV.t⟩) } a w' := hr.ext rfl (fun _ => rfl) hid
    exact hnext β _ _ (hrel.put (by show dstOK s.n o.dst = true; rw [hs'.n]; exact hd) (.t (.tup [] [] rfl (fun j c v h => by simp at h)))) ((Evo.refl _ _ _).ext hid)
  have hfin : Calls P (ρ.f 5) #[a.eval y] w (fun e w' => ∃ v, e = .returned v ∧ next (a.put o.dst v) w') := by
    generalize hv0 : a.eval y = v0 at hyv
    generalize hn : l.length = n0 at hyv
    rw [hv0] at hempty
    cases hyv with
    | ownNil hs2 hg' hb he2 =>
      exact hempty (List.length_eq_zero_iff.1 hn) _ _ rfl
    | ownZ hs2 hg' hb hl' hlt =>
      exact hempty (List.length_eq_zero_iff.1 hn) _ _ rfl
    | ownE hs2 hg' hb he2 =>
      exact hempty (List.length_eq_zero_iff.1 hn) _ _ rfl
    | stale hs2 hg' h1 => rw [hst] at hs2; cases hs2; exact absurd hg' (Nat.lt_irrefl _)
    | @own _ _ _ _ b cap ob c hs2 hg' hb hl' hcap hh hc =>
      rw [hst] at hs2; cases hs2
      subst hn
      rcases hr.ob id _ hst with ⟨h1, _⟩ | ⟨b2, c2, h1, h2, h3, h4, h5⟩
      · rw [hb] at h1; cases h1
      rw [hb] at h1; cases h1
      rw [hh] at h2; cases h2
      have hbs : b < w.heap.size := lt_of_heap hh
      have hc2 : l.length ≤ c.size := by
        have : ((l.map intT).map AV.t).length * 1 ≤ c.size := h3
        rw [elen] at this; omega
      have hcell : ∀ (j : Nat) (n : Int), l[j]? = some n → c[j]? = some (.int .i64 n) := by
        intro j n hj
        obtain ⟨_, v, hv, hvv⟩ := h5 j (.t (intT n)) 0 (.t (intT n)) (by show ((l.map intT).map AV.t)[j]? = _; rw [List.getElem?_map, List.getElem?_map, hj]; rfl) rfl
        cases hvv with
        | t h =>
          cases h
          have : (Ob.mk 1 ty gen ((l.map intT).map AV.t)).k = 1 := rfl
          rw [this, Nat.mul_one, Nat.add_zero] at hv
          exact hv
      have hH : Sort.Holds (Value.int .i64) w b 0 l.toArray := by
        intro j hj
        have hj' : j < l.length := by simpa using hj
        refine ⟨?_, ?_⟩
        · unfold World.cell?
          simp only [hh, Nat.zero_add]
          have := hcell j l[j] (List.getElem?_eq_getElem hj')
          rw [getElem!_pos _ j (by simpa using hj')]
          simpa using this
        · unfold World.frozen?
          simp [hh]
      have hrun := AnyM.slices_Sort_int L b 0 cap l w hH hbs hl
      have hvals : (#[.slice (some ⟨b, 0 * (Ob.mk 1 ty gen ((l.map intT).map AV.t)).k, none⟩) l.length cap] : Array Value) = #[.slice (some ⟨b, 0, none⟩) l.length cap] := by simp
      rw [hvals]
      refine Calls.mono hrun ?_
      rintro e w' ⟨rfl, n, os, rfl⟩
      refine ⟨_, rfl, ?_⟩
      show next _ (Sort.grow (Sort.putRow (Value.int .i64) (Sort.ahead w n) b 0 (sortI l).toArray) os)
      have hpsz : (Sort.putCells (Value.int .i64) 0 (sortI l).toArray c).size = c.size := by simp [Sort.putCells]
      have hpc : ∀ (i : Nat) (x : Int), (sortI l)[i]? = some x → (Sort.putCells (Value.int .i64) 0 (sortI l).toArray c)[i]? = some (.int .i64 x) := by
        intro i x hx
        have hi : i < (sortI l).length := (List.getElem?_eq_some_iff.1 hx).1
        have h7 : i < c.size := by omega
        unfold Sort.putCells
        rw [Array.getElem?_mapIdx, Array.getElem?_eq_getElem h7]
        simp only [Option.map_some, Nat.zero_le, true_and, Nat.zero_add, Nat.sub_zero, List.size_toArray]
        rw [if_pos hi, getElem!_pos _ i (by simpa using hi)]
        obtain ⟨_, e⟩ := List.getElem?_eq_some_iff.1 hx
        simp [e]
      obtain ⟨hrel, hev, _⟩ := hr.upd (g' := gen) (els' := ((sortI l).map intT).map AV.t) (c' := Sort.putCells (Value.int .i64) 0 (sortI l).toArray c) hst hb hh hpsz (.inl ⟨rfl, by simp [hsl]⟩) (by show (((sortI l).map intT).map AV.t).length * 1 ≤ _; simp [hsl]; exact hc2)
        (fun i x hx => by
          rw [List.getElem?_map, List.getElem?_map] at hx
          obtain ⟨z, hz, rfl⟩ := Option.map_eq_some_iff.1 hx
          obtain ⟨q, _, rfl⟩ := Option.map_eq_some_iff.1 hz
          exact ⟨rfl, rfl⟩)
        (fun i x j y hx hy => by
          rw [List.getElem?_map, List.getElem?_map] at hx
          obtain ⟨z, hz, rfl⟩ := Option.map_eq_some_iff.1 hx
          obtain ⟨q, hq, rfl⟩ := Option.map_eq_some_iff.1 hz
          change ([AV.t (intT q)])[j]? = some y at hy
          cases j with
          | zero =>
            cases hy
            exact ⟨rfl, .int .i64 q, by show (Sort.putCells _ _ _ _)[i * 1 + 0]? = _; rw [Nat.mul_one, Nat.add_zero]; exact hpc i q hq, .t (.int _ _)⟩
          | succ j => simp at hy)
      have hbel : BelowD (setB w b (.cells (Sort.putCells (Value.int .i64) 0 (sortI l).toArray c) ty (0, 0))).heap.size (setB w b (.cells (Sort.putCells (Value.int .i64) 0 (sortI l).toArray c) ty (0, 0))) (Sort.grow (Sort.putRow (Value.int .i64) (Sort.ahead w n) b 0 (sortI l).toArray) os) := by
        refine ⟨⟨rfl, rfl, rfl, ?_, fun i hi => ?_⟩, Nat.le_add_right _ _⟩
        · rw [setB_size]
          show _ ≤ ((w.heap.modify b _) ++ os).size
          simp
        · rw [setB_size] at hi
          show ((w.heap.modify b _) ++ os)[i]? = (w.heap.setIfInBounds b _)[i]?
          rw [Array.getElem?_append_left (by simpa using hi), Array.getElem?_modify]
          by_cases e : b = i
          · subst e
            rw [if_pos rfl, hh, Array.getElem?_setIfInBounds_self_of_lt hbs]
            rfl
          · rw [if_neg e, Array.getElem?_setIfInBounds_ne e]
      obtain ⟨hrel2, hev2, _⟩ := hrel.below hbel
      exact hnext β _ _ (hrel2.put (by show dstOK s.n o.dst = true; rw [hs'.n]; exact hd) (.t (.tup [] [] rfl (fun j c v h => by simp at h)))) (hev.trans hev2)
  exact Calls.mono hfin (fun e w' ⟨v, h1, h2⟩ => by subst h1; exact h2)
end Go.Tv

end
section
namespace Go.Tv

theorem map_of {α : Type} {f : α → Tr} {p : α → Prop} : ∀ {els : List Tr}, (∀ x, x ∈ els → ∃ n, p n ∧ x = f n) → ∃ l : List α, els = l.map f ∧ ∀ n, n ∈ l → p n
  | [], _ => ⟨[], rfl, fun n h => by simp at h⟩
  | x :: els, h => by
    obtain ⟨n, hp, rfl⟩ := h x List.mem_cons_self
    obtain ⟨l, rfl, hl⟩ := map_of (els := els) (fun y hy => h y (List.mem_cons_of_mem _ hy))
    exact ⟨n :: l, rfl, fun m hm => (List.mem_cons.1 hm).elim (fun e => e ▸ hp) (hl m)⟩

theorem wf_u8 {n : Int} (h : (Lit.int .u8 n).wf = true) : 0 ≤ n ∧ n < 256 := by
  simp [Lit.wf, IntKind.min, IntKind.max, IntKind.signed, IntKind.bits] at h; omega
/-- A slice whose elements are structs. -/
theorem reads_slices {P : Program} {α : Type} {t e : TypeId} {k : Nat} {f : α → Tr} {p : α → Prop} (ht : P.underlying t = some (.slice e)) (hc : P.cellsOf t = 1) (hk : 0 < k)
    (he : Reads P e k (fun ts => ∃ x : α, f x = .agg ts ∧ p x)) : Reads P t 1 (fun ts => ∃ l : List α, ts = [.sl (l.map f) false] ∧ l.length ≤ maxLen ∧ ∀ x, x ∈ l → p x) :=
  (reads_slice ht hc hk (.inl rfl) he (g := true)).mono (by
    rintro ts ⟨els, rfl, hm, h⟩
    obtain ⟨l, rfl, hl⟩ := map_of (f := f) (p := p) (fun x hx => by obtain ⟨_, ⟨o, ho, hd⟩, rfl⟩ := h x hx; exact ⟨o, hd, ho.symm⟩)
    exact ⟨l, rfl, by simpa using hm, hl⟩)

end Go.Tv

end
section
open Go Go.Tv Go.Proofs
namespace Go.Tv.C37
set_option maxRecDepth 20000
theorem ti3 : tinf Tryz.prog 3 = some (1, false) := by kernel_rfl
theorem tu3 : Tryz.prog.underlying 3 = some (.int .i64) := by kernel_rfl
abbrev z3 : Tr := .int .i64 0
theorem tz3 : zeroOf Tryz.prog 3 = some z3 := by kernel_rfl
theorem tb3 : (Tryz.prog.info? 3).map (·.bytes) = some 8 := by kernel_rfl
theorem ti4 : tinf Tryz.prog 4 = some (1, false) := by kernel_rfl
abbrev z4 : Tr := .bool false
theorem tz4 : zeroOf Tryz.prog 4 = some z4 := by kernel_rfl
theorem ti5 : tinf Tryz.prog 5 = some (1, false) := by kernel_rfl
theorem tu5 : Tryz.prog.underlying 5 = some (.int .u8) := by kernel_rfl
abbrev z5 : Tr := .int .u8 0
theorem tz5 : zeroOf Tryz.prog 5 = some z5 := by kernel_rfl
theorem tb5 : (Tryz.prog.info? 5).map (·.bytes) = some 1 := by kernel_rfl
abbrev z9 : Tr := .str ⟨#[]⟩
theorem te22 : elemOf Tryz.prog 22 = some (31, 5, true) := by kernel_rfl
abbrev z22 : Tr := .sl [] true
theorem ti24 : tinf Tryz.prog 24 = some (1, false) := by kernel_rfl
theorem te24 : elemOf Tryz.prog 24 = some (41, 5, true) := by kernel_rfl
theorem ti25 : tinf Tryz.prog 25 = some (1, false) := by kernel_rfl
theorem te25 : elemOf Tryz.prog 25 = some (33, 4, true) := by kernel_rfl
abbrev z25 : Tr := .sl [] true
theorem ti27 : tinf Tryz.prog 27 = some (2, true) := by kernel_rfl
theorem tf27_0 : fldOf Tryz.prog 27 0 = some (0, 1, false) := by kernel_rfl
theorem tf27_1 : fldOf Tryz.prog 27 1 = some (1, 1, false) := by kernel_rfl
theorem tg27 : fldsOf Tryz.prog 27 = some [(0, 1), (1, 1)] := by kernel_rfl
abbrev z27 : Tr := .agg [.sl [] true, .sl [] true]
theorem tz27 : zeroOf Tryz.prog 27 = some z27 := by kernel_rfl
theorem tf31_0 : fldOf Tryz.prog 31 0 = some (0, 1, false) := by kernel_rfl
theorem tf31_1 : fldOf Tryz.prog 31 1 = some (1, 1, false) := by kernel_rfl
theorem tf31_2 : fldOf Tryz.prog 31 2 = some (2, 1, false) := by kernel_rfl
theorem tf31_3 : fldOf Tryz.prog 31 3 = some (3, 1, false) := by kernel_rfl
theorem tf31_4 : fldOf Tryz.prog 31 4 = some (4, 1, false) := by kernel_rfl
abbrev z32 : Tr := .agg [.int .i64 0, .int .i64 0, .int .i64 0, .bool false]
theorem ti33 : tinf Tryz.prog 33 = some (4, true) := by kernel_rfl
theorem tf33_0 : fldOf Tryz.prog 33 0 = some (0, 1, false) := by kernel_rfl
theorem tf33_1 : fldOf Tryz.prog 33 1 = some (1, 1, false) := by kernel_rfl
theorem tf33_2 : fldOf Tryz.prog 33 2 = some (2, 1, false) := by kernel_rfl
theorem tf33_3 : fldOf Tryz.prog 33 3 = some (3, 1, false) := by kernel_rfl
theorem tg33 : fldsOf Tryz.prog 33 = some [(0, 1), (1, 1), (2, 1), (3, 1)] := by kernel_rfl
abbrev z33 : Tr := .agg [.int .i64 0, .int .i64 0, .int .i64 0, .bool false]
theorem tz33 : zeroOf Tryz.prog 33 = some z33 := by kernel_rfl
theorem tb33 : (Tryz.prog.info? 33).map (·.bytes) = some 32 := by kernel_rfl
theorem ti38 : tinf Tryz.prog 38 = some (1, false) := by kernel_rfl
theorem te38 : elemOf Tryz.prog 38 = some (5, 1, false) := by kernel_rfl
abbrev z39 : Tr := .int .u64 0
theorem ti41 : tinf Tryz.prog 41 = some (5, true) := by kernel_rfl
theorem tf41_0 : fldOf Tryz.prog 41 0 = some (0, 1, false) := by kernel_rfl
theorem tf41_1 : fldOf Tryz.prog 41 1 = some (1, 1, false) := by kernel_rfl
theorem tf41_2 : fldOf Tryz.prog 41 2 = some (2, 1, false) := by kernel_rfl
theorem tf41_3 : fldOf Tryz.prog 41 3 = some (3, 1, false) := by kernel_rfl
theorem tg41 : fldsOf Tryz.prog 41 = some [(0, 1), (1, 1), (2, 1), (3, 1), (4, 1)] := by kernel_rfl
abbrev z41 : Tr := .agg [.int .i64 0, .int .i64 0, .bool false, .sl [] true, .int .u64 0]
theorem tz41 : zeroOf Tryz.prog 41 = some z41 := by kernel_rfl
theorem tb41 : (Tryz.prog.info? 41).map (·.bytes) = some 56 := by kernel_rfl
theorem ti45 : tinf Tryz.prog 45 = some (1, false) := by kernel_rfl
theorem te45 : elemOf Tryz.prog 45 = some (68, 5, true) := by kernel_rfl
abbrev z45 : Tr := .sl [] true
theorem tz45 : zeroOf Tryz.prog 45 = some z45 := by kernel_rfl
theorem ti48 : tinf Tryz.prog 48 = some (6, true) := by kernel_rfl
theorem tf48_0 : fldOf Tryz.prog 48 0 = some (0, 1, false) := by kernel_rfl
theorem tf48_1 : fldOf Tryz.prog 48 1 = some (1, 1, false) := by kernel_rfl
theorem tf48_2 : fldOf Tryz.prog 48 2 = some (2, 1, false) := by kernel_rfl
theorem tf48_3 : fldOf Tryz.prog 48 3 = some (3, 1, false) := by kernel_rfl
theorem tf48_4 : fldOf Tryz.prog 48 4 = some (4, 1, false) := by kernel_rfl
theorem tg48 : fldsOf Tryz.prog 48 = some [(0, 1), (1, 1), (2, 1), (3, 1), (4, 1), (5, 1)] := by kernel_rfl
abbrev z48 : Tr := .agg [.int .i64 0, .int .i64 0, .int .i64 0, .int .i64 0, .int .i64 0, .int .i64 0]
theorem tz48 : zeroOf Tryz.prog 48 = some z48 := by kernel_rfl
theorem tb48 : (Tryz.prog.info? 48).map (·.bytes) = some 48 := by kernel_rfl
theorem ti49 : tinf Tryz.prog 49 = some (1, false) := by kernel_rfl
theorem te49 : elemOf Tryz.prog 49 = some (48, 6, true) := by kernel_rfl
theorem te52 : elemOf Tryz.prog 52 = some (3, 1, false) := by kernel_rfl
theorem ti68 : tinf Tryz.prog 68 = some (5, true) := by kernel_rfl
theorem tf68_0 : fldOf Tryz.prog 68 0 = some (0, 1, false) := by kernel_rfl
theorem tf68_1 : fldOf Tryz.prog 68 1 = some (1, 1, false) := by kernel_rfl
theorem tf68_2 : fldOf Tryz.prog 68 2 = some (2, 1, false) := by kernel_rfl
theorem tf68_3 : fldOf Tryz.prog 68 3 = some (3, 1, false) := by kernel_rfl
theorem tf68_4 : fldOf Tryz.prog 68 4 = some (4, 1, false) := by kernel_rfl
theorem tg68 : fldsOf Tryz.prog 68 = some [(0, 1), (1, 1), (2, 1), (3, 1), (4, 1)] := by kernel_rfl
abbrev z68 : Tr := .agg [.int .i64 0, .int .i64 0, .int .i64 0, .int .i64 0, .int .i64 0]
theorem tz68 : zeroOf Tryz.prog 68 = some z68 := by kernel_rfl
theorem tb68 : (Tryz.prog.info? 68).map (·.bytes) = some 40 := by kernel_rfl
theorem ti100 : tinf Tryz.prog 100 = some (1, false) := by kernel_rfl
theorem ti101 : tinf Tryz.prog 101 = some (1, false) := by kernel_rfl
theorem tz101 : zeroOf Tryz.prog 101 = some .nilf := by kernel_rfl
theorem te108 : elemOf Tryz.prog 108 = some (45, 1, false) := by kernel_rfl
theorem tu112 : Tryz.prog.underlying 112 = some (.int .u64) := by kernel_rfl
theorem ta24 : AppT Tryz.prog 24 24 41 5 56 := ⟨⟨_, te24⟩, ⟨_, _, _, te24⟩, tb41, z41, tz41, by kernel_rfl⟩
theorem ta25 : AppT Tryz.prog 25 25 33 4 32 := ⟨⟨_, te25⟩, ⟨_, _, _, te25⟩, tb33, z33, tz33, by kernel_rfl⟩
theorem ta38 : AppT Tryz.prog 38 38 5 1 1 := ⟨⟨_, te38⟩, ⟨_, _, _, te38⟩, tb5, z5, tz5, by kernel_rfl⟩
theorem ta45 : AppT Tryz.prog 45 45 68 5 40 := ⟨⟨_, te45⟩, ⟨_, _, _, te45⟩, tb68, z68, tz68, by kernel_rfl⟩
theorem ta49 : AppT Tryz.prog 49 49 48 6 48 := ⟨⟨_, te49⟩, ⟨_, _, _, te49⟩, tb48, z48, tz48, by kernel_rfl⟩
theorem ta52 : AppT Tryz.prog 52 52 3 1 8 := ⟨⟨_, te52⟩, ⟨_, _, _, te52⟩, tb3, z3, tz3, by kernel_rfl⟩
theorem th48 : Program.eqGuardType Tryz.prog (Program.depth Tryz.prog) 48 = false := by kernel_rfl
theorem th68 : Program.eqGuardType Tryz.prog (Program.depth Tryz.prog) 68 = false := by kernel_rfl
theorem ts33s : scCells Tryz.prog 8 33 = some [.int .i64, .int .i64, .int .i64, .bool] := by kernel_rfl
theorem ts48s : scCells Tryz.prog 8 48 = some [.int .i64, .int .i64, .int .i64, .int .i64, .int .i64, .int .i64] := by kernel_rfl
theorem ts68s : scCells Tryz.prog 8 68 = some [.int .i64, .int .i64, .int .i64, .int .i64, .int .i64] := by kernel_rfl
theorem tm : Tryz.prog.follows .mixedOrders = true := by kernel_rfl
theorem co4 : callOK Tryz.prog 4 = true := by kernel_rfl
theorem co5 : callOK Tryz.prog 5 = true := by kernel_rfl
theorem co6 : callOK Tryz.prog 6 = true := by kernel_rfl
theorem co7 : callOK Tryz.prog 7 = true := by kernel_rfl
theorem co8 : callOK Tryz.prog 8 = true := by kernel_rfl
theorem co9 : callOK Tryz.prog 9 = true := by kernel_rfl
theorem co10 : callOK Tryz.prog 10 = true := by kernel_rfl
theorem co11 : callOK Tryz.prog 11 = true := by kernel_rfl
theorem co12 : callOK Tryz.prog 12 = true := by kernel_rfl
theorem co13 : callOK Tryz.prog 13 = true := by kernel_rfl
theorem co14 : callOK Tryz.prog 14 = true := by kernel_rfl
theorem co15 : callOK Tryz.prog 15 = true := by kernel_rfl
theorem co16 : callOK Tryz.prog 16 = true := by kernel_rfl
theorem co17 : callOK Tryz.prog 17 = true := by kernel_rfl
theorem co18 : callOK Tryz.prog 18 = true := by kernel_rfl
theorem co19 : callOK Tryz.prog 19 = true := by kernel_rfl
theorem co20 : callOK Tryz.prog 20 = true := by kernel_rfl
theorem co21 : callOK Tryz.prog 21 = true := by kernel_rfl
theorem co22 : callOK Tryz.prog 22 = true := by kernel_rfl
theorem co23 : callOK Tryz.prog 23 = true := by kernel_rfl
theorem co24 : callOK Tryz.prog 24 = true := by kernel_rfl
theorem co25 : callOK Tryz.prog 25 = true := by kernel_rfl
theorem co26 : callOK Tryz.prog 26 = true := by kernel_rfl
theorem co27 : callOK Tryz.prog 27 = true := by kernel_rfl
theorem co28 : callOK Tryz.prog 28 = true := by kernel_rfl
theorem co29 : callOK Tryz.prog 29 = true := by kernel_rfl
theorem co30 : callOK Tryz.prog 30 = true := by kernel_rfl
theorem co31 : callOK Tryz.prog 31 = true := by kernel_rfl
theorem co32 : callOK Tryz.prog 32 = true := by kernel_rfl
theorem co33 : callOK Tryz.prog 33 = true := by kernel_rfl
theorem co34 : callOK Tryz.prog 34 = true := by kernel_rfl
theorem co35 : callOK Tryz.prog 35 = true := by kernel_rfl
theorem co36 : callOK Tryz.prog 36 = true := by kernel_rfl
theorem co37 : callOK Tryz.prog 37 = true := by kernel_rfl
theorem co38 : callOK Tryz.prog 38 = true := by kernel_rfl
theorem co39 : callOK Tryz.prog 39 = true := by kernel_rfl
theorem co40 : callOK Tryz.prog 40 = true := by kernel_rfl
theorem co41 : callOK Tryz.prog 41 = true := by kernel_rfl
theorem co42 : callOK Tryz.prog 42 = true := by kernel_rfl
theorem co43 : callOK Tryz.prog 43 = true := by kernel_rfl
theorem co44 : callOK Tryz.prog 44 = true := by kernel_rfl
theorem co45 : callOK Tryz.prog 45 = true := by kernel_rfl
theorem co46 : callOK Tryz.prog 46 = true := by kernel_rfl
theorem co47 : callOK Tryz.prog 47 = true := by kernel_rfl
theorem co48 : callOK Tryz.prog 48 = true := by kernel_rfl
theorem co49 : callOK Tryz.prog 49 = true := by kernel_rfl
theorem co50 : callOK Tryz.prog 50 = true := by kernel_rfl
theorem co51 : callOK Tryz.prog 51 = true := by kernel_rfl
theorem co52 : callOK Tryz.prog 52 = true := by kernel_rfl
theorem co53 : callOK Tryz.prog 53 = true := by kernel_rfl
theorem co54 : callOK Tryz.prog 54 = true := by kernel_rfl
theorem co55 : callOK Tryz.prog 55 = true := by kernel_rfl
theorem co56 : callOK Tryz.prog 56 = true := by kernel_rfl
theorem co57 : callOK Tryz.prog 57 = true := by kernel_rfl
theorem co58 : callOK Tryz.prog 58 = true := by kernel_rfl
theorem co59 : callOK Tryz.prog 59 = true := by kernel_rfl
theorem co60 : callOK Tryz.prog 60 = true := by kernel_rfl
theorem co61 : callOK Tryz.prog 61 = true := by kernel_rfl
theorem co62 : callOK Tryz.prog 62 = true := by kernel_rfl
theorem co63 : callOK Tryz.prog 63 = true := by kernel_rfl
theorem co64 : callOK Tryz.prog 64 = true := by kernel_rfl
theorem co67 : callOK Tryz.prog 67 = true := by kernel_rfl
theorem co68 : callOK Tryz.prog 68 = true := by kernel_rfl
theorem co69 : callOK Tryz.prog 69 = true := by kernel_rfl
theorem co71 : callOK Tryz.prog 71 = true := by kernel_rfl
theorem co72 : callOK Tryz.prog 72 = true := by kernel_rfl
theorem co73 : callOK Tryz.prog 73 = true := by kernel_rfl
theorem co74 : callOK Tryz.prog 74 = true := by kernel_rfl
theorem co75 : callOK Tryz.prog 75 = true := by kernel_rfl
theorem co87 : callOK Tryz.prog 87 = true := by kernel_rfl
theorem co89 : callOK Tryz.prog 89 = true := by kernel_rfl
theorem co98 : callOK Tryz.prog 98 = true := by kernel_rfl
theorem co105 : callOK Tryz.prog 105 = true := by kernel_rfl
theorem cl : (∀ (p : Prop) [Decidable p], (decide p = true) = p) ∧ (∀ (p : Prop) [Decidable p], (decide p = false) ↔ ¬ p) ∧ (∀ {α : Type} [BEq α] [LawfulBEq α] {a b : α}, (a == b) = true ↔ a = b) ∧
    (∀ {α : Type} [BEq α] [LawfulBEq α] {a b : α}, (a != b) = true ↔ a ≠ b) ∧ (∀ {α : Type} [BEq α] [LawfulBEq α] {a b : α}, (a != b) = false ↔ a = b) ∧ (∀ {α : Type} [BEq α] [LawfulBEq α] {a b : α}, (a == b) = false ↔ a ≠ b) ∧
    (∀ b : Bool, (¬ b = true) = (b = false)) ∧ (∀ b : Bool, (¬ b = false) = (b = true)) ∧ (∀ b : Bool, ((!b) = true) = (b = false)) ∧ (∀ b : Bool, ((!b) = false) = (b = true)) ∧ (∀ {α : Type} (a b : α), (a ≠ b) = ¬ a = b) :=
  ⟨fun p _ => decide_eq_true_eq, fun p _ => decide_eq_false_iff_not, beq_iff_eq, bne_iff_ne, bne_eq_false_iff_eq, beq_eq_false_iff_ne, fun b => Bool.not_eq_true b, fun b => Bool.not_eq_false b, fun b => Bool.not_eq_true' b, fun b => Bool.not_eq_false' b, fun a b => ne_eq a b⟩
end Go.Tv.C37

end
section
open Go Go.Tv Go.Tv.C37 Go.Proofs
namespace Go.Tv.C37t

/-- A possible state. -/
structure Rep where
  next : Int
  have_ : Int
  key : Int
  locked : Bool
  deriving DecidableEq, Inhabited

structure Frm where
  seq : Int
  key : Int
  unlock : Bool
  body : List Int
  tag : Int
  deriving DecidableEq

structure Twn where
  sent : List Frm
  poss : List Rep
  deriving DecidableEq

def encI (n : Int) : Tr := .int .i64 n
def encBy (n : Int) : Tr := .int .u8 n
def encR (r : Rep) : Tr := .agg [encI r.next, encI r.have_, encI r.key, .bool r.locked]
def encF (f : Frm) : Tr := .agg [encI f.seq, encI f.key, .bool f.unlock, .sl (f.body.map encBy) false, .int .u64 f.tag]
def encT (t : Twn) : Tr := .agg [.sl (t.sent.map encF) false, .sl (t.poss.map encR) false]
def cellsR (r : Rep) : List Sc := [.int .i64 r.next, .int .i64 r.have_, .int .i64 r.key, .bool r.locked]
theorem cellsR_kind (r : Rep) : (cellsR r).map Sc.kind = [.int .i64, .int .i64, .int .i64, .bool] := rfl
theorem cellsR_inj (a b : Rep) (h : cellsR a = cellsR b) : a = b := by
  cases a; cases b
  simp only [cellsR, List.cons.injEq, Sc.int.injEq, Sc.bool.injEq, true_and, and_true] at h
  simp only [Rep.mk.injEq]
  exact h

abbrev zr : Rep := ⟨0, 0, 0, false⟩
abbrev zt : Twn := ⟨[], []⟩
abbrev w64 (n : Int) : Int := IntKind.i64.wrap n
theorem take_succ_get {α : Type} {l : List α} {i : Nat} (h : i < l.length) : l.take (i + 1) = l.take i ++ [l[i]] := by
  rw [List.take_add_one, List.getElem?_eq_getElem h]; rfl
theorem mem_take_succ {α : Type} {l : List α} {i : Nat} (h : i < l.length) {x : α} : x ∈ l.take (i + 1) ↔ x ∈ l.take i ∨ x = l[i] := by
  rw [take_succ_get h, List.mem_append, List.mem_singleton]

/-- n modulo m, never negative. -/
def around (n m : Int) : Int := (if n < 0 then -(n + 1) else n) % m
def state (next have_ key : Int) (locked : Bool) : Rep := ⟨around next 600, around have_ 32768, around key 10000, locked⟩

/-! ### Apply -/
/-- What the counts of two numbers lie apart, modulo 256. -/
def dist (f : Frm) (s : Rep) : Int := (f.seq - s.next) % 256
/-- How many ones end a number. -/
def trl : Nat → Nat → Nat
  | 0, _ => 0
  | f + 1, h => if h % 2 = 1 then 1 + trl f (h / 2) else 0
def ones (n : Int) : Nat := trl 64 n.toNat

def apply (s : Rep) (f : Frm) : Rep :=
  if f.key < s.key ∨ w64 (s.key + 4096) < f.key then s
  else if f.unlock then ⟨if dist f s < 128 then w64 (s.next + dist f s) else s.next, 0, w64 (f.key + 1), false⟩
  else if s.locked then ⟨s.next, s.have_, w64 (f.key + 1), true⟩
  else if dist f s = 0 then ⟨w64 (s.next + (1 + (ones s.have_ : Nat))), (s.have_.toNat / 2 ^ (1 + ones s.have_) : Nat), w64 (f.key + 1), false⟩
  else if dist f s < 16 then ⟨s.next, (s.have_.toNat ||| 2 ^ (dist f s - 1).toNat : Nat), w64 (f.key + 1), false⟩
  else ⟨s.next, s.have_, w64 (f.key + 1), decide (dist f s < 128)⟩

/-- The numbers of a state that arise. -/
def HP (s : Rep) : Prop := 0 ≤ s.have_ ∧ s.have_ < 32768

/-! ### Order -/
def less (a b : Rep) : Bool :=
  if a.next ≠ b.next then decide (a.next < b.next)
  else if a.have_ ≠ b.have_ then decide (a.have_ < b.have_)
  else if a.key ≠ b.key then decide (a.key < b.key)
  else !a.locked && b.locked
def cmpI (a b : Int) : Int := if a < b then -1 else if b < a then 1 else 0
def orI : List Int → Int
  | [] => 0
  | x :: l => if x ≠ 0 then x else orI l
def flag (b : Bool) : Int := if b then 1 else 0
def cmpR (a b : Rep) : Int := orI [cmpI a.next b.next, cmpI a.have_ b.have_, cmpI a.key b.key, cmpI (flag a.locked) (flag b.locked)]

def put (l : List Rep) (s : Rep) : List Rep := match l with
  | [] => [s]
  | x :: m => if less x s then x :: put m s else if x = s then x :: m else s :: x :: m

/-! ### Maps of states -/
noncomputable def KR : MapK Tryz.prog 33 Rep := MapK.scs Tryz.underlying33 ts33s ti33 cellsR cellsR_kind cellsR_inj
abbrev XU : MapX Unit := MapX.unit
def setL (l : List Rep) : List (Rep × Unit) := l.map fun r => (r, ())
def ins (l : List Rep) (r : Rep) : List Rep := if r ∈ l then l else l ++ [r]
theorem put_set (l : List Rep) (r : Rep) : putA r () (setL l) = setL (ins l r) := by
  induction l with
  | nil => rfl
  | cons a l ih =>
    unfold setL at *
    rw [List.map_cons]
    unfold putA
    by_cases h : r = a
    · subst h; rw [if_pos rfl]; unfold ins; rw [if_pos List.mem_cons_self]; rfl
    · rw [if_neg h, ih]
      unfold ins
      by_cases h2 : r ∈ l
      · rw [if_pos h2, if_pos (List.mem_cons_of_mem _ h2)]; rfl
      · rw [if_neg h2, if_neg (by simp [h, h2])]; rfl
theorem look_set (l : List Rep) (r : Rep) : lookA r (setL l) = if r ∈ l then some () else none := by
  induction l with
  | nil => rfl
  | cons a l ih =>
    unfold setL at *
    rw [List.map_cons]
    unfold lookA
    by_cases h : r = a
    · subst h; rw [if_pos rfl, if_pos List.mem_cons_self]
    · rw [if_neg h, ih]; simp [h]
theorem ins_nodup {l : List Rep} {r : Rep} (h : l.Nodup) : (ins l r).Nodup := by
  unfold ins
  split
  · exact h
  · rename_i hr
    rw [List.nodup_append]
    exact ⟨h, by simp, fun a ha b hb => by simp at hb; subst hb; exact fun e => hr (e ▸ ha)⟩
theorem ins_mem {l : List Rep} {r x : Rep} : x ∈ ins l r ↔ x ∈ l ∨ x = r := by
  unfold ins
  split
  · exact ⟨.inl, fun h => h.elim id (fun e => by rw [e]; assumption)⟩
  · simp

/-- A frozen set of states. -/
noncomputable def mset (l : List Rep) : Tr := .mpd (mapL KR XU (setL l))
end Go.Tv.C37t

end
section
open Go Go.Tv Go.Tv.C37 Go.Proofs
namespace Go.Tv.C37t

theorem w8 (n : Int) : IntKind.u8.wrap n = n % 256 := by simp [IntKind.wrap, IntKind.bits, IntKind.signed]
theorem wu64 (n : Int) : IntKind.u64.wrap n = n % 18446744073709551616 := by simp [IntKind.wrap, IntKind.bits, IntKind.signed]
theorem wi64 (n : Int) : IntKind.i64.wrap n = (n + 9223372036854775808) % 18446744073709551616 - 9223372036854775808 := by
  show (if (true && decide (n % 2 ^ 64 ≥ 2 ^ (64 - 1))) = true then n % 2 ^ 64 - 2 ^ 64 else n % 2 ^ 64) = _
  simp only [Bool.true_and, decide_eq_true_eq, ge_iff_le]
  split <;> omega
theorem dist_range (f : Frm) (s : Rep) : 0 ≤ dist f s ∧ dist f s < 256 := by
  unfold dist
  exact ⟨Int.emod_nonneg _ (by decide), Int.emod_lt_of_pos _ (by decide)⟩
theorem dist_u8 (f : Frm) (s : Rep) : IntKind.u8.wrap (IntKind.u8.wrap f.seq - IntKind.u8.wrap s.next) = dist f s := by
  simp only [w8]; unfold dist; omega
theorem dist_i64 (f : Frm) (s : Rep) : IntKind.i64.wrap (dist f s) = dist f s := by
  have := dist_range f s
  rw [wi64]; omega

theorem ofInt_nat (x : Nat) : BitVec.ofInt 64 (x : Int) = BitVec.ofNat 64 x := by
  apply BitVec.eq_of_toNat_eq
  simp

/-- What ^ gives at uint64. -/
theorem xor_ones {x : Nat} (hx : x < 18446744073709551616) : uop .xor (.int .u64 (x : Int)) = some (.int .u64 ((18446744073709551615 - x : Nat) : Int)) := by
  have h1 : BitVec.ofInt 64 (18446744073709551615 : Int) = BitVec.allOnes 64 := by decide
  have h2 : (BitVec.ofInt 64 (18446744073709551615 : Int) ^^^ BitVec.ofInt 64 (x : Int)).toNat = 18446744073709551615 - x := by
    rw [h1, ofInt_nat, BitVec.allOnes_xor, BitVec.toNat_not, BitVec.toNat_ofNat, Nat.mod_eq_of_lt hx]
  show some (Tr.int .u64 (IntKind.u64.wrap ((BitVec.ofInt 64 (18446744073709551615 : Int) ^^^ BitVec.ofInt 64 (x : Int)).toNat : Int))) = _
  rw [h2, wu64, show ((18446744073709551615 - x : Nat) : Int) % 18446744073709551616 = ((18446744073709551615 - x : Nat) : Int) from by omega]

theorem and_nat {x y : Nat} (hx : x < 18446744073709551616) (hy : y < 18446744073709551616) : iop .and .u64 (x : Int) (y : Int) = some (.int .u64 ((x &&& y : Nat) : Int)) := by
  have h2 : (BitVec.ofInt 64 (x : Int) &&& BitVec.ofInt 64 (y : Int)).toNat = x &&& y := by
    rw [ofInt_nat, ofInt_nat, BitVec.toNat_and, BitVec.toNat_ofNat, BitVec.toNat_ofNat, Nat.mod_eq_of_lt hx, Nat.mod_eq_of_lt hy]
  show some (Tr.int .u64 (IntKind.u64.wrap ((BitVec.ofInt 64 (x : Int) &&& BitVec.ofInt 64 (y : Int)).toNat : Int))) = _
  have h3 : x &&& y ≤ x := Nat.and_le_left
  rw [h2, wu64]
  generalize x &&& y = z at h3 ⊢
  rw [show (z : Int) % 18446744073709551616 = (z : Int) from by omega]

theorem or_nat {x y : Nat} (hx : x < 9223372036854775808) (hy : y < 9223372036854775808) : iop .or .i64 (x : Int) (y : Int) = some (.int .i64 ((x ||| y : Nat) : Int)) := by
  have h3 : x ||| y < 2 ^ 63 := Nat.or_lt_two_pow (by omega) (by omega)
  have h2 : (BitVec.ofInt 64 (x : Int) ||| BitVec.ofInt 64 (y : Int)).toNat = x ||| y := by
    rw [ofInt_nat, ofInt_nat, BitVec.toNat_or, BitVec.toNat_ofNat, BitVec.toNat_ofNat, Nat.mod_eq_of_lt (by omega), Nat.mod_eq_of_lt (by omega)]
  show some (Tr.int .i64 (IntKind.i64.wrap ((BitVec.ofInt 64 (x : Int) ||| BitVec.ofInt 64 (y : Int)).toNat : Int))) = _
  rw [h2, wi64]
  generalize x ||| y = z at h3 ⊢
  rw [show ((z : Int) + 9223372036854775808) % 18446744073709551616 - 9223372036854775808 = (z : Int) from by omega]

theorem neg_nat {x : Nat} (h0 : x ≠ 0) (hx : x < 18446744073709551616) : uop .neg (.int .u64 (x : Int)) = some (.int .u64 ((18446744073709551616 - x : Nat) : Int)) := by
  show some (Tr.int .u64 (IntKind.u64.wrap (0 - (x : Int)))) = _
  rw [wu64, show (0 - (x : Int)) % 18446744073709551616 = ((18446744073709551616 - x : Nat) : Int) from by omega]

/-- The table of math/bits. -/
def deB : List Int := [0, 1, 56, 2, 57, 49, 28, 3, 61, 58, 42, 50, 38, 29, 17, 4, 62, 47, 59, 36, 45, 43, 51, 22, 53, 39, 33, 30, 24, 18, 12, 5,
  63, 55, 48, 27, 60, 41, 37, 16, 46, 35, 44, 21, 52, 32, 23, 11, 54, 26, 40, 15, 34, 20, 31, 10, 25, 14, 19, 9, 13, 8, 7, 6]
def deT : Tr := .ptr (deB.map (Tr.int .u8))
def dix (k : Nat) : Nat := 2 ^ k * 285870213051353865 % 18446744073709551616 / 288230376151711744
theorem dix_lt {k : Nat} (h : k < 64) : dix k < 64 := (Lib.deBruijn64_at k h).1
theorem deB_get {k : Nat} (h : k < 64) : (deB.map (Tr.int .u8))[dix k * 1]? = some (.int .u8 (k : Int)) := by
  have : ∀ k, k < 64 → deB[dix k]? = some (k : Int) := by decide +kernel
  rw [Nat.mul_one, List.getElem?_map, this k h]; rfl

theorem ctzFrom_not : ∀ (f h : Nat), h < 2 ^ f → Lib.ctzFrom f (2 ^ f - 1 - h) = trl f h
  | 0, _, _ => rfl
  | f + 1, h, hh => by
    unfold Lib.ctzFrom trl
    have hp : 2 ^ (f + 1) = 2 * 2 ^ f := by rw [Nat.pow_succ, Nat.mul_comm]
    have hpos : 0 < 2 ^ f := Nat.pos_of_ne_zero (by simp)
    by_cases h1 : h % 2 = 1
    · rw [if_neg (by omega), if_pos h1]
      have e : (2 ^ (f + 1) - 1 - h) / 2 = 2 ^ f - 1 - h / 2 := by omega
      rw [e, ctzFrom_not f (h / 2) (by omega)]
    · rw [if_pos (by omega), if_neg h1]

theorem tz_not {s : Rep} (h : HP s) : (Lib.ctz 64 (18446744073709551615 - s.have_.toNat) : Nat) = ones s.have_ := by
  unfold HP at h
  unfold Lib.ctz ones
  rw [if_neg (by omega)]
  exact ctzFrom_not 64 s.have_.toNat (by omega)

theorem trl_le : ∀ (f h : Nat), trl f h ≤ f
  | 0, _ => Nat.le_refl _
  | f + 1, h => by
    unfold trl
    split
    · have := trl_le f (h / 2); omega
    · omega
theorem ones_le (n : Int) : ones n ≤ 64 := trl_le 64 _

section
variable {P : Program} {o : Oper} {D : St}
theorem eff_shlE {t ty : TypeId} {x y : Operand} {k yk : IntKind} {n m r : Int} (hd : dstOK D.n o.dst = true) (ho : o.op = .binOp .shl t x y ty)
    (hx : D.ev x = .t (.int k n)) (hy : D.ev y = .t (.int yk m)) (hm : 0 ≤ m) (hr : k.wrap (n * 2 ^ (min m.toNat k.bits)) = r) : Eff P o D ⟨.t (.int k r), []⟩ := by
  subst hr; exact eff_shl hd ho hx hy hm
end

theorem shl_one {d : Int} (h : 0 < d) (h2 : d < 16) : IntKind.i64.wrap (1 * 2 ^ (min (d - 1).toNat IntKind.i64.bits)) = ((2 ^ (d - 1).toNat : Nat) : Int) := by
  have e : min (d - 1).toNat IntKind.i64.bits = (d - 1).toNat := Nat.min_eq_left (by show (d - 1).toNat ≤ 64; omega)
  have hp : 2 ^ (d - 1).toNat < 2 ^ 15 := Nat.pow_lt_pow_right (by decide) (by omega)
  have hc : ((2 ^ (d - 1).toNat : Nat) : Int) = (2 : Int) ^ (d - 1).toNat := by simp
  rw [e, Int.one_mul, ← hc, wi64]
  generalize 2 ^ (d - 1).toNat = p at hp ⊢
  omega

theorem shr_have {s : Rep} (h : HP s) (n : Nat) (hn : n ≤ 65) : s.have_.fdiv (2 ^ (min (1 + (n : Int)).toNat IntKind.i64.bits)) = ((s.have_.toNat / 2 ^ (1 + n) : Nat) : Int) := by
  unfold HP at h
  have hs : s.have_ = (s.have_.toNat : Int) := by omega
  have hc : ∀ m : Nat, (2 : Int) ^ m = ((2 ^ m : Nat) : Int) := fun m => by simp
  have hlt : s.have_.toNat < 2 ^ 15 := by omega
  rw [hs, hc, Int.fdiv_eq_ediv_of_nonneg _ (Int.natCast_nonneg _), ← Int.natCast_ediv, Int.toNat_natCast]
  congr 1
  rcases Nat.lt_or_ge (1 + n) 64 with h1 | h1
  · congr 2
    show min _ 64 = _
    omega
  · rw [Nat.div_eq_of_lt, Nat.div_eq_of_lt]
    · exact Nat.lt_of_lt_of_le hlt (Nat.pow_le_pow_right (by decide) (by omega))
    · refine Nat.lt_of_lt_of_le hlt (Nat.pow_le_pow_right (by decide) ?_)
      show 15 ≤ min _ 64
      omega

/-! ### The ways through Apply -/
theorem apply_stay {s : Rep} {f : Frm} (h : f.key < s.key ∨ w64 (s.key + 4096) < f.key) : apply s f = s := by unfold apply; rw [if_pos h]
theorem apply_unl {s : Rep} {f : Frm} {n : Int} (h : ¬ (f.key < s.key ∨ w64 (s.key + 4096) < f.key)) (hu : f.unlock = true) (hn : (if dist f s < 128 then w64 (s.next + dist f s) else s.next) = n) : apply s f = ⟨n, 0, w64 (f.key + 1), false⟩ := by
  unfold apply; rw [if_neg h, if_pos hu, hn]
theorem apply_lock {s : Rep} {f : Frm} (h : ¬ (f.key < s.key ∨ w64 (s.key + 4096) < f.key)) (hu : f.unlock = false) (hl : s.locked = true) : apply s f = ⟨s.next, s.have_, w64 (f.key + 1), s.locked⟩ := by
  unfold apply; rw [if_neg h, if_neg (by rw [hu]; decide), if_pos hl, hl]
theorem apply_zero {s : Rep} {f : Frm} (h : ¬ (f.key < s.key ∨ w64 (s.key + 4096) < f.key)) (hu : f.unlock = false) (hl : s.locked = false) (hd : dist f s = 0) : apply s f = ⟨w64 (s.next + (1 + (ones s.have_ : Nat))), (s.have_.toNat / 2 ^ (1 + ones s.have_) : Nat), w64 (f.key + 1), s.locked⟩ := by
  unfold apply; rw [if_neg h, if_neg (by rw [hu]; decide), if_neg (by rw [hl]; decide), if_pos hd, hl]
theorem apply_near {s : Rep} {f : Frm} (h : ¬ (f.key < s.key ∨ w64 (s.key + 4096) < f.key)) (hu : f.unlock = false) (hl : s.locked = false) (hd : dist f s ≠ 0) (hd2 : dist f s < 16) : apply s f = ⟨s.next, (s.have_.toNat ||| 2 ^ (dist f s - 1).toNat : Nat), w64 (f.key + 1), s.locked⟩ := by
  unfold apply; rw [if_neg h, if_neg (by rw [hu]; decide), if_neg (by rw [hl]; decide), if_neg hd, if_pos hd2, hl]
theorem apply_far {s : Rep} {f : Frm} {b : Bool} (h : ¬ (f.key < s.key ∨ w64 (s.key + 4096) < f.key)) (hu : f.unlock = false) (hl : s.locked = false) (hd2 : ¬ dist f s < 16) (hb : decide (dist f s < 128) = b) : apply s f = ⟨s.next, s.have_, w64 (f.key + 1), b⟩ := by
  unfold apply; rw [if_neg h, if_neg (by rw [hu]; decide), if_neg (by rw [hl]; decide), if_neg (by omega), if_neg hd2, hb]

theorem apply_hp {s : Rep} {f : Frm} (h : HP s) : HP (apply s f) := by
  unfold apply
  split
  · exact h
  · split
    · exact ⟨Int.le_refl _, by show (0 : Int) < 32768; decide⟩
    · split
      · exact h
      · split
        · unfold HP at h ⊢
          have : s.have_.toNat / 2 ^ (1 + ones s.have_) ≤ s.have_.toNat := Nat.div_le_self _ _
          constructor
          · exact Int.natCast_nonneg _
          · show ((s.have_.toNat / 2 ^ (1 + ones s.have_) : Nat) : Int) < 32768
            omega
        · split
          · rename_i hd0 hd
            unfold HP at h ⊢
            have hr := dist_range f s
            have h1 : s.have_.toNat < 2 ^ 15 := by omega
            have h2 : 2 ^ (dist f s - 1).toNat < 2 ^ 15 := Nat.pow_lt_pow_right (by decide) (by omega)
            have h3 := Nat.or_lt_two_pow h1 h2
            constructor
            · exact Int.natCast_nonneg _
            · show ((s.have_.toNat ||| 2 ^ (dist f s - 1).toNat : Nat) : Int) < 32768
              omega
          · exact h

/-! ### Lists -/
/-- Where the first element with a property stands, or -1. -/
def fIx {α : Type} (p : α → Bool) (l : List α) : Int := match l.findIdx? p with
  | some i => (i : Int)
  | none => -1
theorem fIx_hit {α : Type} {p : α → Bool} {l : List α} {i : Nat} (hi : i < l.length) (h : ∀ b, b ∈ l.take i → p b = false) (he : p l[i] = true) : fIx p l = (i : Int) := by
  unfold fIx
  have : l.findIdx? p = some i := by
    rw [List.findIdx?_eq_some_iff_getElem]
    refine ⟨hi, he, fun j hj => ?_⟩
    have := h l[j] (by
      rw [List.mem_iff_getElem]
      exact ⟨j, by simp; omega, by simp⟩)
    simp [this]
  rw [this]
theorem fIx_none {α : Type} {p : α → Bool} {l : List α} (h : ∀ b, b ∈ l → p b = false) : fIx p l = -1 := by
  unfold fIx
  have : l.findIdx? p = none := by
    rw [List.findIdx?_eq_none_iff]
    intro b hb
    exact h b hb
  rw [this]
theorem fIx_neg {α : Type} {p : α → Bool} {l : List α} : fIx p l < 0 ↔ ∀ b, b ∈ l → p b = false := by
  constructor
  · intro h b hb
    cases hp : p b with
    | false => rfl
    | true =>
      exfalso
      unfold fIx at h
      cases hf : l.findIdx? p with
      | none => rw [List.findIdx?_eq_none_iff] at hf; rw [hf b hb] at hp; cases hp
      | some i => rw [hf] at h; simp only at h; omega
  · intro h
    rw [fIx_none h]; decide
theorem orI_hit : ∀ {l : List Int} {i : Nat} (hi : i < l.length), (∀ y, y ∈ l.take i → y = 0) → l[i] ≠ 0 → orI l = l[i]
  | [], i, hi, _, _ => by simp at hi
  | x :: l, 0, _, _, h => by unfold orI; exact if_pos h
  | x :: l, i + 1, hi, h0, h => by
    unfold orI
    rw [if_neg (by have := h0 x (by simp); omega)]
    exact orI_hit (l := l) (i := i) (by simpa using hi) (fun y hy => h0 y (by simp [hy])) h
theorem orI_none : ∀ {l : List Int}, (∀ y, y ∈ l → y = 0) → orI l = 0
  | [], _ => rfl
  | x :: l, h => by unfold orI; rw [if_neg (by have := h x List.mem_cons_self; omega)]; exact orI_none fun y hy => h y (List.mem_cons_of_mem _ hy)

def loP (l : List Rep) (x : Int) : Int := l.foldl (fun m s => imin m s.next) x
def hiP (l : List Rep) (x : Int) : Int := l.foldl (fun m s => imax m s.next) x
theorem mul_u64 (a b : Nat) : iop .mul .u64 (a : Int) (b : Int) = some (.int .u64 ((a * b % 18446744073709551616 : Nat) : Int)) := by
  show some (Tr.int .u64 (IntKind.u64.wrap ((a : Int) * (b : Int)))) = _
  rw [wu64, ← Int.natCast_mul]
  congr 2
theorem shr58 (k : Nat) : ((2 ^ k * 285870213051353865 % 18446744073709551616 : Nat) : Int).fdiv (2 ^ (min (58 : Int).toNat IntKind.u64.bits)) = ((dix k : Nat) : Int) := by
  rw [Int.fdiv_eq_ediv_of_nonneg _ (by decide)]
  have e : (2 : Int) ^ (min (58 : Int).toNat IntKind.u64.bits) = ((288230376151711744 : Nat) : Int) := by decide
  rw [e, ← Int.natCast_ediv]
  rfl

def hv (h : Nat) : Nat → Nat
  | 0 => h
  | k + 1 => hv h k / 2
theorem weak_raise {n : Nat} {fr : Fra} {st : Sto} {id g k : Nat} {ty : TypeId} {els : List AV} (g' : Nat) (hs : sget st id = some ⟨k, ty, g, els⟩) (hg : g < g') :
    Weak ⟨n, fr, st⟩ ⟨n, fr, (id, some ⟨k, ty, g', els⟩) :: st⟩ := by
  intro F β a w hr
  obtain ⟨q1, _, q3⟩ := hr.bump (g' := g') (ob := ⟨k, ty, g, els⟩) hs hg
  refine ⟨β, ⟨q1.defers, q1.size, fun i => q1.fr i, q1.ob, q1.inj, q1.notF, q1.ltF⟩, fun b hb => ?_⟩
  obtain ⟨m, ob, hm, hb⟩ := hb
  change sget (sput st id (some ⟨k, ty, g', els⟩)) m = some ob at hm
  rw [sget_sput] at hm
  split at hm
  · rename_i e; rw [e] at hb; exact ⟨id, _, hs, hb⟩
  · exact ⟨m, ob, hm, hb⟩

theorem loP_step (l : List Rep) {x : Int} {i : Nat} (h : i < l.length) : loP (l.take (i + 1)) x = imin (loP (l.take i) x) (l[i]).next := by
  unfold loP; rw [take_succ_get h, List.foldl_append]; rfl
theorem hiP_step (l : List Rep) {x : Int} {i : Nat} (h : i < l.length) : hiP (l.take (i + 1)) x = imax (hiP (l.take i) x) (l[i]).next := by
  unfold hiP; rw [take_succ_get h, List.foldl_append]; rfl

theorem elF {l : List Frm} {i : Nat} (h : i < l.length) : ((l.map encF).map AV.t)[i]? = some (.t (encF l[i])) := by simp [h]
theorem setF_same {l : List Frm} {i : Nat} (h : i < l.length) : ((l.map encF).map AV.t).set i (.t (.agg [encI l[i].seq, encI l[i].key, .bool l[i].unlock, .sl (l[i].body.map encBy) false, .int .u64 l[i].tag])) = (l.map encF).map AV.t := by
  apply List.ext_getElem?
  intro j
  rw [List.getElem?_set]
  split
  · rename_i e; subst e
    rw [elF h]
    simp [h]
    rfl
  · rfl
theorem tz_ones {h : Nat} (hh : h < 32768) : (Lib.ctz 64 (18446744073709551615 - h) : Nat) = ones ((h : Nat) : Int) := tz_not (s := ⟨0, ((h : Nat) : Int), 0, false⟩) ⟨Int.natCast_nonneg _, by show ((h : Nat) : Int) < 32768; omega⟩

end Go.Tv.C37t

end
section
open Go Go.Tv Go.Tv.C37 Go.Proofs
namespace Go.Tv.C37t
set_option maxRecDepth 20000
set_option maxHeartbeats 2000000
set_option linter.unusedSimpArgs false
set_option linter.unusedVariables false
theorem tz64_ret (x : Nat) (hx : x < 18446744073709551616) : RetT Tryz.prog 89 [(1, deT)] [.int .u64 (x : Nat)] (encI (Lib.ctz 64 x : Nat)) := by
  refine retT_of_awp Tryz.func89 rfl (Nat.le_of_ble_eq_true rfl) ?_
  refine awp_seq ?_
  refine awp_rw rfl ?_
  refine asT ?_
  refine RW.nil ?_
  refine awp_seq ?_
  refine awp_seq ?_
  refine awp_rw rfl ?_
  refine mvT ?_
  refine ioT ?_
  refine RW.nil ?_
  refine awp_cond rfl (fun h1 => ?_) (fun h1 => ?_)
  · try simp only [cl] at h1
    refine awp_seq ?_
    refine awp_rw rfl ?_
    refine asT ?_
    refine RW.nil ?_
    refine awp_ret ?_
    obtain rfl : x = 0 := by omega
    exact ⟨Or.inr rfl, [_], ⟨.tmp (.t _), trivial⟩, .refl _⟩
  · try simp only [cl] at h1
    refine awp_skip ?_
    refine awp_seq ?_
    refine awp_rw rfl ?_
    have hx0 : x ≠ 0 := by omega
    obtain ⟨hlow, hct⟩ := Lib.lowest_bit 64 x hx0 hx
    have hlt : 2 ^ Lib.ctz 64 x < 18446744073709551616 := by rw [← hlow]; exact Nat.lt_of_le_of_lt Nat.and_le_left hx
    refine mvT ?_
    refine mvT ?_
    refine RW.op rfl rfl (eff_unop rfl rfl rfl (neg_nat hx0 hx)) ?_
    refine RW.op rfl rfl (eff_iop (r := .int .u64 ((2 ^ Lib.ctz 64 x : Nat) : Int)) rfl rfl rfl rfl (by rw [← hlow]; exact and_nat hx (by omega))) ?_
    refine RW.op rfl rfl (eff_iop (r := .int .u64 ((2 ^ Lib.ctz 64 x * 285870213051353865 % 18446744073709551616 : Nat) : Int)) rfl rfl rfl rfl (mul_u64 _ _)) ?_
    refine RW.op rfl rfl (eff_shrE (r := ((dix (Lib.ctz 64 x) : Nat) : Int)) rfl rfl rfl rfl (by decide) (shr58 _)) ?_
    refine RW.op rfl rfl (eff_indexAddrR rfl rfl Tryz.underlying145 ti5 rfl rfl rfl (dix_lt hct)) ?_
    refine RW.op rfl rfl (eff_loadR rfl rfl ti5 rfl (deB_get hct)) ?_
    refine RW.op rfl rfl (eff_convIntE (m := ((Lib.ctz 64 x : Nat) : Int)) rfl rfl (by rw [tu5]; rfl) tu3 rfl (by rw [wi64]; omega)) ?_
    refine asT ?_
    refine RW.nil ?_
    refine awp_ret ?_
    exact ⟨Or.inr rfl, [_], ⟨.tmp (.t _), trivial⟩, .refl _⟩

theorem tz_ret (x : Nat) (hx : x < 18446744073709551616) : RetT Tryz.prog 69 [(1, deT)] [.int .u64 (x : Nat)] (encI (Lib.ctz 64 x : Nat)) := by
  refine retT_of_awp Tryz.func69 rfl (Nat.le_of_ble_eq_true rfl) ?_
  refine awp_seq ?_
  refine awp_rw rfl ?_
  refine asT ?_
  refine RW.nil ?_
  refine awp_seq ?_
  refine awp_cond rfl (fun h => nomatch h) (fun _ => ?_)
  refine awp_skip ?_
  refine awp_seq ?_
  refine awp_rw rfl ?_
  refine mvT ?_
  refine RW.op rfl rfl (eff_callXT (tz64_ret _ hx) co89 rfl rfl rfl ⟨rfl, trivial⟩ rfl) ?_
  refine asT ?_
  refine RW.nil ?_
  refine awp_ret ?_
  exact ⟨Or.inr rfl, [_], ⟨.tmp (.t _), trivial⟩, .refl _⟩

theorem nan_ret (n : Int) : Ret Tryz.prog 46 [encI n] (.bool false) := by
  refine ret_of_awp Tryz.func46 rfl (Nat.le_of_ble_eq_true rfl) ?_
  refine awp_seq ?_
  refine awp_rw rfl ?_
  refine asT ?_
  refine RW.nil ?_
  refine awp_seq ?_
  refine awp_rw rfl ?_
  refine mvT ?_
  refine mvT ?_
  refine RW.op rfl rfl (eff_iop (r := .bool false) rfl rfl rfl rfl (by simp [iop])) ?_
  refine asT ?_
  refine RW.nil ?_
  refine awp_ret ?_
  exact ⟨Or.inr rfl, [_], ⟨.tmp (.t _), trivial⟩, .refl _⟩

theorem cmp_ret (a b : Int) : Ret Tryz.prog 21 [encI a, encI b] (encI (cmpI a b)) := by
  refine ret_of_awp Tryz.func21 rfl (Nat.le_of_ble_eq_true rfl) ?_
  refine awp_seq ?_
  refine awp_rw rfl ?_
  refine asT ?_
  refine RW.nil ?_
  refine awp_seq ?_
  refine awp_rw rfl ?_
  refine mvT ?_
  refine RW.op rfl rfl (eff_callT (nan_ret _) co46 rfl rfl rfl rfl) ?_
  refine asT ?_
  refine RW.nil ?_
  refine awp_seq ?_
  refine awp_rw rfl ?_
  refine mvT ?_
  refine RW.op rfl rfl (eff_callT (nan_ret _) co46 rfl rfl rfl rfl) ?_
  refine asT ?_
  refine RW.nil ?_
  refine awp_seq ?_
  refine awp_seq ?_
  refine awp_rw rfl ?_
  refine mvT ?_
  refine RW.nil ?_
  refine awp_cond rfl (fun h => nomatch h) (fun _ => ?_)
  refine awp_skip ?_
  refine awp_seq ?_
  refine awp_seq ?_
  refine awp_rw rfl ?_
  refine mvT ?_
  refine RW.nil ?_
  refine awp_cond rfl (fun h => nomatch h) (fun _ => ?_)
  refine awp_skip ?_
  refine awp_seq ?_
  refine awp_seq ?_
  refine awp_rw rfl ?_
  refine mvT ?_
  refine mvT ?_
  refine ioT ?_
  refine RW.nil ?_
  refine awp_cond rfl (fun h1 => ?_) (fun h1 => ?_)
  · try simp only [cl] at h1
    refine awp_seq ?_
    refine awp_rw rfl ?_
    refine asT ?_
    refine RW.nil ?_
    refine awp_ret ?_
    (rw [show cmpI a b = -1 from by unfold cmpI; rw [if_pos (by omega)]]; exact ⟨Or.inr rfl, [_], ⟨.tmp (.t _), trivial⟩, .refl _⟩)
  · try simp only [cl] at h1
    refine awp_skip ?_
    refine awp_seq ?_
    refine awp_seq ?_
    refine awp_rw rfl ?_
    refine mvT ?_
    refine mvT ?_
    refine ioT ?_
    refine RW.nil ?_
    refine awp_cond rfl (fun h2 => ?_) (fun h2 => ?_)
    · try simp only [cl] at h2
      refine awp_seq ?_
      refine awp_rw rfl ?_
      refine asT ?_
      refine RW.nil ?_
      refine awp_ret ?_
      (rw [show cmpI a b = 1 from by unfold cmpI; rw [if_neg (by omega), if_pos (by omega)]]; exact ⟨Or.inr rfl, [_], ⟨.tmp (.t _), trivial⟩, .refl _⟩)
    · try simp only [cl] at h2
      refine awp_skip ?_
      refine awp_seq ?_
      refine awp_rw rfl ?_
      refine asT ?_
      refine RW.nil ?_
      refine awp_ret ?_
      (rw [show cmpI a b = 0 from by unfold cmpI; rw [if_neg (by omega), if_neg (by omega)]]; exact ⟨Or.inr rfl, [_], ⟨.tmp (.t _), trivial⟩, .refl _⟩)

theorem flag_ret (b : Bool) : Ret Tryz.prog 71 [.bool b] (encI (flag b)) := by
  refine ret_of_awp Tryz.func71 rfl (Nat.le_of_ble_eq_true rfl) ?_
  refine awp_seq ?_
  refine awp_rw rfl ?_
  refine asT ?_
  refine RW.nil ?_
  refine awp_seq ?_
  refine awp_seq ?_
  refine awp_rw rfl ?_
  refine mvT ?_
  refine RW.nil ?_
  refine awp_cond rfl (fun h1 => ?_) (fun h1 => ?_)
  · try simp only [cl] at h1
    refine awp_seq ?_
    refine awp_rw rfl ?_
    refine asT ?_
    refine RW.nil ?_
    refine awp_ret ?_
    rw [h1]
    exact ⟨Or.inr rfl, [_], ⟨.tmp (.t _), trivial⟩, .refl _⟩
  · try simp only [cl] at h1
    refine awp_skip ?_
    refine awp_seq ?_
    refine awp_rw rfl ?_
    refine asT ?_
    refine RW.nil ?_
    refine awp_ret ?_
    rw [h1]
    exact ⟨Or.inr rfl, [_], ⟨.tmp (.t _), trivial⟩, .refl _⟩

theorem or_retG (l : List Int) (hl : l.length ≤ 1000000) : RetG Tryz.prog 72 [(0, some ⟨1, 3, 0, (l.map encI).map .t⟩)] [.own 0 0 0 l.length] [(0, some ⟨1, 3, 1, (l.map encI).map .t⟩)] (.t (encI (orI l))) := by
  refine retG_of_awp Tryz.func72 rfl (Nat.le_of_ble_eq_true rfl) ?_
  refine awp_seq ?_
  refine awp_rw rfl ?_
  refine asT ?_
  refine RW.nil ?_
  refine awp_seq ?_
  refine awp_rw rfl ?_
  refine asT ?_
  refine RW.nil ?_
  refine awp_seq ?_
  refine awp_seq ?_
  refine awp_rw rfl ?_
  refine mvO ?_
  refine RW.op rfl rfl (eff_len rfl rfl te52 rfl rfl rfl) ?_
  refine mvT ?_
  refine RW.nil ?_
  refine awp_block ?_
  refine awp_loopW (fun m s => ∃ (i : Nat), (i ≤ l.length) ∧ (∀ y, y ∈ l.take i → y = 0) ∧ m = l.length - i ∧ s = ⟨18, [(3, .t (encI 0)), (6, .own 0 0 0 l.length), (7, .t (encI l.length)), (8, .t (encI (i : Nat)))], [(0, some ⟨1, 3, 0, (l.map encI).map .t⟩)]⟩) (_) (⟨_, weak_keep (n := 18) (fr' := [(3, .t (encI 0)), (6, .own 0 0 0 l.length), (7, .t (encI l.length)), (8, .t (encI (0 : Nat)))]) (st' := [(0, some ⟨1, 3, 0, (l.map encI).map .t⟩)]) ⟨rfl, rfl, rfl, rfl, rfl, rfl, rfl, rfl, trivial⟩ ⟨rfl, okE_t, trivial⟩, 0, (by omega), (by simp), rfl, rfl⟩) ?_
  rintro m s ⟨i, hi, ha, rfl, rfl⟩
  refine awp_seq ?_
  refine awp_rw rfl ?_
  refine ioT ?_
  refine RW.nil ?_
  refine awp_seq ?_
  refine awp_cond rfl (fun h1 => ?_) (fun h1 => ?_)
  · try simp only [cl] at h1
    refine awp_skip ?_
    refine awp_seq ?_
    refine awp_block ?_
    refine awp_seq ?_
    refine awp_rw rfl ?_
    refine RW.op rfl rfl (eff_indexAddr rfl rfl te52 rfl rfl rfl rfl rfl rfl (by omega)) ?_
    refine RW.op rfl rfl (eff_load (y := .t (encI l[i])) rfl rfl ti3 rfl (.one rfl rfl (by simp only [Nat.zero_add, List.getElem?_map, List.getElem?_eq_getElem (show i < l.length by omega)]; rfl) rfl)) ?_
    refine asT ?_
    refine RW.nil ?_
    refine awp_seq ?_
    refine awp_rw rfl ?_
    refine mvT ?_
    refine mvT ?_
    refine ioT ?_
    refine RW.nil ?_
    refine awp_cond rfl (fun h2 => ?_) (fun h2 => ?_)
    · try simp only [cl] at h2
      refine awp_seq ?_
      refine awp_rw rfl ?_
      refine mvT ?_
      refine asT ?_
      refine RW.nil ?_
      refine awp_ret ?_
      have horE : orI l = l[i] := orI_hit (by omega) ha h2
      refine ⟨Or.inr rfl, [_], [.t (encI (orI l))], ⟨.tmp rfl, trivial⟩, rfl, Weak.trans (weak_raise (id := 0) 1 rfl (by decide)) ?_, rfl⟩
      exact weak_keep ⟨by first | rfl | (rw [horE]; rfl), rfl, trivial⟩ ⟨rfl, okE_t, trivial⟩
    · try simp only [cl] at h2
      refine awp_skip ?_
      refine awp_rw rfl ?_
      refine RW.op rfl rfl (eff_iop rfl rfl rfl rfl (iadd (by omega))) ?_
      refine mvT ?_
      refine RW.nil ?_
      refine ⟨_, ?_, _, weak_keep (n := 18) (fr' := [(3, .t (encI 0)), (6, .own 0 0 0 l.length), (7, .t (encI l.length)), (8, .t (encI ((i + 1) : Nat)))]) (st' := [(0, some ⟨1, 3, 0, (l.map encI).map .t⟩)]) ⟨rfl, rfl, rfl, rfl, rfl, rfl, rfl, rfl, trivial⟩ ⟨rfl, okE_t, trivial⟩, i + 1, (by omega), (by intro y hy; rcases (mem_take_succ (by omega)).1 hy with h | h; exact ha y h; rw [h]; exact h2), rfl, rfl⟩
      omega
  · try simp only [cl] at h1
    refine awp_exit ?_
    refine awp_seq ?_
    refine awp_rw rfl ?_
    refine mvT ?_
    refine asT ?_
    refine RW.nil ?_
    refine awp_ret ?_
    have hi2 : i = l.length := by omega
    subst hi2
    rw [List.take_length] at ha
    have horE : orI l = 0 := orI_none ha
    refine ⟨Or.inr rfl, [_], [.t (encI (orI l))], ⟨.tmp rfl, trivial⟩, rfl, Weak.trans (weak_raise (id := 0) 1 rfl (by decide)) ?_, rfl⟩
    exact weak_keep ⟨by first | rfl | (rw [horE]; rfl), rfl, trivial⟩ ⟨rfl, okE_t, trivial⟩

theorem compare_ret (a b : Rep) : Ret Tryz.prog 51 [encR a, encR b] (encI (cmpR a b)) := by
  refine ret_of_awp Tryz.func51 rfl (Nat.le_of_ble_eq_true rfl) ?_
  refine awp_seq ?_
  refine awp_rw rfl ?_
  refine RW.new rfl rfl (eff_boxK (v := .t _) (k := 4) (id := 2) rfl rfl rfl rfl rfl rfl) ?_
  refine RW.new rfl rfl (eff_boxK (v := .t _) (k := 4) (id := 3) rfl rfl rfl rfl rfl rfl) ?_
  refine asT ?_
  refine RW.nil ?_
  refine awp_seq ?_
  refine awp_rw rfl ?_
  refine asT ?_
  refine RW.nil ?_
  refine awp_seq ?_
  refine awp_rd [(some 6, []), (some 7, []), (some 8, []), (some 9, []), (some 10, []), (some 11, []), (some 12, []), (some 13, []), (some 14, []), (some 15, []), (some 16, []), (some 17, []), (some 18, []), (some 19, []), (some 20, []), (some 21, []), (some 22, []), (some 23, []), (some 24, []), (some 25, []), (some 26, []), (some 27, []), (some 28, []), (some 29, []), (some 30, [30]), (some 31, [30]), (some 4, [])] [[], [0], [], [2], [0, 1, 2, 3], [], [5], [], [7], [0, 1, 2, 3, 4, 5, 6, 7, 8], [], [10], [], [12], [0, 1, 2, 3, 4, 5, 6, 7, 8, 9, 10, 11, 12, 13], [], [], [16], [0, 1, 2, 3, 4, 5, 6, 7, 8, 9, 10, 11, 12, 13, 14, 15, 16, 17], [], [], [20], [0, 1, 2, 3, 4, 5, 6, 7, 8, 9, 10, 11, 12, 13, 14, 15, 16, 17, 18, 19, 20, 21], [0, 1, 2, 3, 4, 5, 6, 7, 8, 9, 10, 11, 12, 13, 14, 15, 16, 17, 18, 19, 20, 21, 22], [0, 1, 2, 3, 4, 5, 6, 7, 8, 9, 10, 11, 12, 13, 14, 15, 16, 17, 18, 19, 20, 21, 22, 23], [0, 1, 2, 3, 4, 5, 6, 7, 8, 9, 10, 11, 12, 13, 14, 15, 16, 17, 18, 19, 20, 21, 22, 23, 24], [0, 1, 2, 3, 4, 5, 6, 7, 8, 9, 10, 11, 12, 13, 14, 15, 16, 17, 18, 19, 20, 21, 22, 23, 24, 25]] tm rfl rfl rfl rfl ?_
  refine RD.op rfl rfl rfl (eff_fieldAddr rfl rfl tf33_0 (by decide) rfl rfl rfl (Nat.le_of_ble_eq_true rfl)) ?_
  refine RD.op rfl rfl rfl (eff_load (y := .t _) rfl rfl ti3 rfl (.one rfl rfl rfl rfl)) ?_
  refine RD.op rfl rfl rfl (eff_fieldAddr rfl rfl tf33_0 (by decide) rfl rfl rfl (Nat.le_of_ble_eq_true rfl)) ?_
  refine RD.op rfl rfl rfl (eff_load (y := .t _) rfl rfl ti3 rfl (.one rfl rfl rfl rfl)) ?_
  refine RD.op rfl rfl rfl (eff_callT (cmp_ret _ _) co21 rfl rfl rfl rfl) ?_
  refine RD.op rfl rfl rfl (eff_fieldAddr rfl rfl tf33_1 (by decide) rfl rfl rfl (Nat.le_of_ble_eq_true rfl)) ?_
  refine RD.op rfl rfl rfl (eff_load (y := .t _) rfl rfl ti3 rfl (.one rfl rfl rfl rfl)) ?_
  refine RD.op rfl rfl rfl (eff_fieldAddr rfl rfl tf33_1 (by decide) rfl rfl rfl (Nat.le_of_ble_eq_true rfl)) ?_
  refine RD.op rfl rfl rfl (eff_load (y := .t _) rfl rfl ti3 rfl (.one rfl rfl rfl rfl)) ?_
  refine RD.op rfl rfl rfl (eff_callT (cmp_ret _ _) co21 rfl rfl rfl rfl) ?_
  refine RD.op rfl rfl rfl (eff_fieldAddr rfl rfl tf33_2 (by decide) rfl rfl rfl (Nat.le_of_ble_eq_true rfl)) ?_
  refine RD.op rfl rfl rfl (eff_load (y := .t _) rfl rfl ti3 rfl (.one rfl rfl rfl rfl)) ?_
  refine RD.op rfl rfl rfl (eff_fieldAddr rfl rfl tf33_2 (by decide) rfl rfl rfl (Nat.le_of_ble_eq_true rfl)) ?_
  refine RD.op rfl rfl rfl (eff_load (y := .t _) rfl rfl ti3 rfl (.one rfl rfl rfl rfl)) ?_
  refine RD.op rfl rfl rfl (eff_callT (cmp_ret _ _) co21 rfl rfl rfl rfl) ?_
  refine mvD ?_
  refine RD.op rfl rfl rfl (eff_fieldAddr rfl rfl tf33_3 (by decide) rfl rfl rfl (Nat.le_of_ble_eq_true rfl)) ?_
  refine RD.op rfl rfl rfl (eff_load (y := .t _) rfl rfl ti4 rfl (.one rfl rfl rfl rfl)) ?_
  refine RD.op rfl rfl rfl (eff_callT (flag_ret _) co71 rfl rfl rfl rfl) ?_
  refine mvD ?_
  refine RD.op rfl rfl rfl (eff_fieldAddr rfl rfl tf33_3 (by decide) rfl rfl rfl (Nat.le_of_ble_eq_true rfl)) ?_
  refine RD.op rfl rfl rfl (eff_load (y := .t _) rfl rfl ti4 rfl (.one rfl rfl rfl rfl)) ?_
  refine RD.op rfl rfl rfl (eff_callT (flag_ret _) co71 rfl rfl rfl rfl) ?_
  refine RD.op rfl rfl rfl (eff_callT (cmp_ret _ _) co21 rfl rfl rfl rfl) ?_
  refine RD.new rfl rfl rfl (eff_buildSlice1 (id := 30) (els := [_, _, _, _]) rfl rfl te52 tz3 rfl (by decide) rfl rfl rfl rfl) ?_
  refine RD.new rfl rfl rfl (eff_callG (or_retG [cmpI a.next b.next, cmpI a.have_ b.have_, cmpI a.key b.key, cmpI (flag a.locked) (flag b.locked)] (Nat.le_of_ble_eq_true rfl)) co72 (fun id => id + 30) rfl rfl rfl ⟨.own _ _ _ _ rfl rfl, trivial⟩ (.t _) rfl ⟨⟨rfl, treeEls_t, ⟨_, rfl, Nat.le_of_ble_eq_true rfl⟩⟩, trivial⟩ ⟨⟨treeEls_t, .inl rfl⟩, trivial⟩) ?_
  refine RD.op rfl rfl rfl (eff_assign (v := .t _) rfl rfl rfl) ?_
  refine RD.nil ?_
  refine awp_ret ?_
  exact ⟨Or.inr rfl, [_], ⟨.tmp (.t _), trivial⟩, .refl _⟩

end Go.Tv.C37t

end
section
open Go Go.Tv Go.Tv.C37 Go.Proofs
namespace Go.Tv.C37t
set_option maxRecDepth 20000
set_option maxHeartbeats 2000000
set_option linter.unusedSimpArgs false
set_option linter.unusedVariables false
theorem new17_ret  : Ret Tryz.prog 5 [] (encT ⟨[], [zr]⟩) := by
  refine ret_of_awp Tryz.func5 rfl (Nat.le_of_ble_eq_true rfl) ?_
  refine awp_seq ?_
  refine awp_rw rfl ?_
  refine RW.new rfl rfl (eff_allocK (k := 2) (id := 0) rfl rfl tz27 rfl rfl) ?_
  refine RW.nil ?_
  refine awp_seq ?_
  refine awp_rw rfl ?_
  refine RW.op rfl rfl (eff_buildT (ys := [_, _, _, _]) rfl rfl tz33 tg33 rfl) ?_
  refine RW.new rfl rfl (eff_buildSliceL (id := 2) (els := [.t (.agg [_, _, _, _])]) rfl rfl te25 tz33 rfl (by decide) (by decide) rfl rfl rfl rfl) ?_
  refine RW.op rfl rfl (eff_buildA (ys := [_, _]) rfl rfl tz27 tg27 rfl rfl) ?_
  refine RW.store rfl rfl (eff_storeW (v := .agg _) (els := [_]) (els' := [_]) rfl rfl ti27 rfl rfl rfl rfl rfl rfl rfl rfl rfl) ?_
  refine RW.nil ?_
  refine awp_ret ?_
  exact ⟨Or.inr rfl, [_], ⟨.cell rfl ti27 (.whole rfl rfl rfl rfl rfl rfl) (Res.aggP (xs := [_, _]) ⟨.t _, Res.ownT (xs := [zr].map encR) rfl rfl rfl rfl, trivial⟩), trivial⟩, (by repeat' first | exact trivial | exact Wk.refl _ | exact Wk.sl _ | refine And.intro ?_ ?_ | refine Wk.tupP ?_ | refine Wk.aggP ?_)⟩

theorem clip_ret (l : List Frm) : Ret Tryz.prog 25 [.sl (l.map encF) false] (.sl (l.map encF) true) := by
  refine ret_of_awp Tryz.func25 rfl (Nat.le_of_ble_eq_true rfl) ?_
  refine awp_seq ?_
  refine awp_rw rfl ?_
  refine asT ?_
  refine RW.nil ?_
  refine awp_seq ?_
  refine awp_rw rfl ?_
  refine mvT ?_
  refine mvT ?_
  refine RW.op rfl rfl (eff_lenM rfl rfl te24 rfl) ?_
  refine mvT ?_
  refine RW.op rfl rfl (eff_lenM rfl rfl te24 rfl) ?_
  refine RW.op rfl rfl (eff_sliceT3 (l := none) (h := l.length) (m := l.length) rfl rfl te24 rfl (fun y hy => by obtain ⟨f, _, rfl⟩ := List.mem_map.1 hy; rfl) .no (.yes rfl (by simp)) (.yes rfl (by simp)) (Nat.zero_le _) (Nat.le_refl _) (by simp)) ?_
  refine asT ?_
  refine RW.nil ?_
  refine awp_ret ?_
  exact ⟨Or.inr rfl, [_], ⟨.tmp (.t _), trivial⟩, (by simp [packT]; rw [List.take_of_length_le (by simp)]; exact .refl _)⟩

theorem cloneF_retG (l : List Frm) (hl : l.length ≤ 1000000) : RetG Tryz.prog 47 [] [.t (.sl (l.map encF) false)] [(5, some ⟨5, 41, 1, (l.map encF).map .t⟩)] (.own 5 1 0 l.length) := by
  refine retG_of_awp Tryz.func47 rfl (Nat.le_of_ble_eq_true rfl) ?_
  refine awp_seq ?_
  refine awp_rw rfl ?_
  refine asT ?_
  refine RW.nil ?_
  refine awp_seq ?_
  refine awp_seq ?_
  refine awp_rw rfl ?_
  refine mvT ?_
  refine RW.nilEq rfl rfl rfl rfl te24 rfl (fun b1 hb1 => ?_)
  refine RW.nil ?_
  refine awp_cond rfl (fun h2 => ?_) (fun h2 => ?_)
  · try simp only [cl] at h2
    refine awp_seq ?_
    refine awp_rw rfl ?_
    refine asT ?_
    refine RW.nil ?_
    show AWP _ _ _ _
    refine awp_weak (weak_adopt (d := 2) (id := 5) (k := 5) (ty := 41) rfl rfl) ?_
    refine awp_weak (weak_bumpS (d := 2) (id := 5) (off := 0) (len := 0) 1 rfl rfl (by decide)) ?_
    refine awp_ret ?_
    have hl0 : l = [] := by simpa using hb1 h2
    subst hl0
    exact ⟨Or.inr rfl, [_], [.own 5 1 0 0], ⟨.tmp rfl, trivial⟩, rfl, weak_keep ⟨rfl, rfl, trivial⟩ ⟨rfl, okE_nil, trivial⟩, rfl⟩
  · try simp only [cl] at h2
    refine awp_skip ?_
    refine awp_seq ?_
    refine awp_rw rfl ?_
    refine RW.new rfl rfl (eff_buildSliceL (id := 5) (els := []) rfl rfl te24 tz41 rfl (by decide) (by decide) rfl rfl rfl rfl) ?_
    refine mvT ?_
    refine RW.new rfl rfl (eff_appendAny (id := 5) rfl rfl ta24 rfl rfl rfl rfl rfl rfl (srcM rfl (fun _ => rfl)) (by simp; omega) (by simp; omega)) ?_
    refine asO ?_
    refine RW.nil ?_
    refine awp_ret ?_
    exact ⟨Or.inr rfl, [_], [.own 5 1 0 l.length], ⟨.tmp rfl, trivial⟩, rfl, weak_keep ⟨(by show AV.own 5 _ 0 _ = AV.own 5 1 0 l.length; congr 1; simp), rfl, trivial⟩ ⟨rfl, okE_t, trivial⟩, rfl⟩

theorem cloneB_retG (l : List Int) (hl : l.length ≤ 1000000) : RetG Tryz.prog 48 [] [.t (.sl (l.map encBy) false)] [(5, some ⟨1, 5, 1, (l.map encBy).map .t⟩)] (.own 5 1 0 l.length) := by
  refine retG_of_awp Tryz.func48 rfl (Nat.le_of_ble_eq_true rfl) ?_
  refine awp_seq ?_
  refine awp_rw rfl ?_
  refine asT ?_
  refine RW.nil ?_
  refine awp_seq ?_
  refine awp_seq ?_
  refine awp_rw rfl ?_
  refine mvT ?_
  refine RW.nilEq rfl rfl rfl rfl te38 rfl (fun b1 hb1 => ?_)
  refine RW.nil ?_
  refine awp_cond rfl (fun h2 => ?_) (fun h2 => ?_)
  · try simp only [cl] at h2
    refine awp_seq ?_
    refine awp_rw rfl ?_
    refine asT ?_
    refine RW.nil ?_
    show AWP _ _ _ _
    refine awp_weak (weak_adopt (d := 2) (id := 5) (k := 1) (ty := 5) rfl rfl) ?_
    refine awp_weak (weak_bumpS (d := 2) (id := 5) (off := 0) (len := 0) 1 rfl rfl (by decide)) ?_
    refine awp_ret ?_
    have hl0 : l = [] := by simpa using hb1 h2
    subst hl0
    exact ⟨Or.inr rfl, [_], [.own 5 1 0 0], ⟨.tmp rfl, trivial⟩, rfl, weak_keep ⟨rfl, rfl, trivial⟩ ⟨rfl, okE_nil, trivial⟩, rfl⟩
  · try simp only [cl] at h2
    refine awp_skip ?_
    refine awp_seq ?_
    refine awp_rw rfl ?_
    refine RW.new rfl rfl (eff_buildSlice1 (id := 5) (els := []) rfl rfl te38 tz5 rfl (by decide) rfl rfl rfl rfl) ?_
    refine mvT ?_
    refine RW.new rfl rfl (eff_appendAny (id := 5) rfl rfl ta38 rfl rfl rfl rfl rfl rfl (srcM rfl (fun _ => rfl)) (by simp; omega) (by simp; omega)) ?_
    refine asO ?_
    refine RW.nil ?_
    refine awp_ret ?_
    exact ⟨Or.inr rfl, [_], [.own 5 1 0 l.length], ⟨.tmp rfl, trivial⟩, rfl, weak_keep ⟨(by show AV.own 5 _ 0 _ = AV.own 5 1 0 l.length; congr 1; simp), rfl, trivial⟩ ⟨rfl, okE_t, trivial⟩, rfl⟩

theorem cloneB_ret (l : List Int) (hl : l.length ≤ 1000000) : Ret Tryz.prog 48 [.sl (l.map encBy) false] (.sl (l.map encBy) false) :=
  ret_of_retG (cloneB_retG l hl) (Res.ownM rfl (by simp)) (.refl _)
theorem delivered_ret (snt : List Frm) (x0 : Rep) (rest : List Rep) (hl : rest.length ≤ 1000000) : Ret Tryz.prog 9 [encT ⟨snt, (x0 :: rest)⟩] (.tup [encI (loP (x0 :: rest) x0.next), encI (hiP (x0 :: rest) x0.next)]) := by
  have hl2 : (x0 :: rest).length ≤ 1000001 := by simp; omega
  refine ret_of_awp Tryz.func9 rfl (Nat.le_of_ble_eq_true rfl) ?_
  refine awp_seq ?_
  refine awp_rw rfl ?_
  refine RW.new rfl rfl (eff_boxK (v := .t _) (k := 2) (id := 1) rfl rfl rfl rfl rfl rfl) ?_
  refine asT ?_
  refine asT ?_
  refine RW.nil ?_
  refine awp_seq ?_
  refine awp_rd [(some 8, []), (some 9, []), (some 10, []), (some 11, []), (some 12, []), (some 13, []), (some 14, []), (some 15, []), (some 16, []), (some 17, []), (some 4, []), (some 5, [])] [[], [0], [0, 1], [0, 1, 2], [0, 1, 2, 3], [], [5], [5, 6], [5, 6, 7], [5, 6, 7, 8], [0, 1, 2, 3, 4], [0, 1, 2, 3, 4, 5, 6, 7, 8, 9, 10]] tm rfl rfl rfl rfl ?_
  refine RD.op rfl rfl rfl (eff_fieldAddr rfl rfl tf27_1 (by decide) rfl rfl rfl (Nat.le_of_ble_eq_true rfl)) ?_
  refine RD.op rfl rfl rfl (eff_load (y := .t _) rfl rfl ti25 rfl (.one rfl rfl rfl rfl)) ?_
  refine RD.op rfl rfl rfl (eff_indexM (i := 0) rfl rfl te25 rfl rfl rfl (by first | rfl | assumption | exact List.getElem?_eq_getElem (by omega)) rfl (by decide)) ?_
  refine RD.op rfl rfl rfl (eff_fieldAddrT rfl rfl tf33_0 (by decide) rfl) ?_
  refine RD.op rfl rfl rfl (eff_loadT1 rfl rfl ti3 rfl rfl) ?_
  refine RD.op rfl rfl rfl (eff_fieldAddr rfl rfl tf27_1 (by decide) rfl rfl rfl (Nat.le_of_ble_eq_true rfl)) ?_
  refine RD.op rfl rfl rfl (eff_load (y := .t _) rfl rfl ti25 rfl (.one rfl rfl rfl rfl)) ?_
  refine RD.op rfl rfl rfl (eff_indexM (i := 0) rfl rfl te25 rfl rfl rfl (by first | rfl | assumption | exact List.getElem?_eq_getElem (by omega)) rfl (by decide)) ?_
  refine RD.op rfl rfl rfl (eff_fieldAddrT rfl rfl tf33_0 (by decide) rfl) ?_
  refine RD.op rfl rfl rfl (eff_loadT1 rfl rfl ti3 rfl rfl) ?_
  refine RD.op rfl rfl rfl (eff_assign (v := .t _) rfl rfl rfl) ?_
  refine RD.op rfl rfl rfl (eff_assign (v := .t _) rfl rfl rfl) ?_
  refine RD.nil ?_
  refine awp_seq ?_
  refine awp_seq ?_
  refine awp_rw rfl ?_
  refine faT tf27_1 ?_
  refine l1T ti25 rfl rfl rfl rfl rfl (.one rfl rfl rfl rfl) ?_
  refine RW.op rfl rfl (eff_lenM rfl rfl te25 rfl) ?_
  refine mvT ?_
  refine RW.nil ?_
  refine awp_block ?_
  refine awp_loopW (fun m s => ∃ (i : Nat), (i ≤ (x0 :: rest).length) ∧ m = (x0 :: rest).length - i ∧ s = ⟨36, [(4, .t (encI (loP ((x0 :: rest).take i) x0.next))), (5, .t (encI (hiP ((x0 :: rest).take i) x0.next))), (19, .t (.sl ((x0 :: rest).map encR) false)), (20, .t (encI (x0 :: rest).length)), (21, .t (encI (i : Nat)))], []⟩) (_) (⟨_, weak_keep (n := 36) (fr' := [(4, .t (encI (loP ((x0 :: rest).take 0) x0.next))), (5, .t (encI (hiP ((x0 :: rest).take 0) x0.next))), (19, .t (.sl ((x0 :: rest).map encR) false)), (20, .t (encI (x0 :: rest).length)), (21, .t (encI (0 : Nat)))]) (st' := []) ⟨rfl, rfl, rfl, rfl, rfl, rfl, rfl, rfl, rfl, rfl, trivial⟩ trivial, 0, (by omega), rfl, rfl⟩) ?_
  rintro m s ⟨i, hi, rfl, rfl⟩
  refine awp_seq ?_
  refine awp_rw rfl ?_
  refine ioT ?_
  refine RW.nil ?_
  refine awp_seq ?_
  refine awp_cond rfl (fun h1 => ?_) (fun h1 => ?_)
  · try simp only [cl] at h1
    refine awp_skip ?_
    refine awp_seq ?_
    refine awp_block ?_
    refine awp_seq ?_
    refine awp_rw rfl ?_
    refine RW.op rfl rfl (eff_indexM rfl rfl te25 rfl rfl rfl (by first | assumption | exact List.getElem?_eq_getElem (by omega)) rfl (by decide)) ?_
    refine RW.op rfl rfl (eff_loadW rfl rfl ti33 rfl rfl rfl) ?_
    refine RW.new rfl rfl (eff_allocK (k := 4) (id := 7) rfl rfl tz33 rfl rfl) ?_
    refine RW.store rfl rfl (eff_storeW (v := .t _) (els := [_]) (els' := [_]) rfl rfl ti33 rfl rfl rfl rfl rfl rfl rfl rfl rfl) ?_
    refine RW.nil ?_
    refine awp_rd [(some 25, []), (some 26, []), (some 27, []), (some 28, []), (some 29, []), (some 30, []), (some 31, []), (some 32, []), (some 4, []), (some 5, [])] [[], [], [1], [0, 1, 2], [], [], [5], [4, 5, 6], [0, 1, 2, 3], [0, 1, 2, 3, 4, 5, 6, 7, 8]] tm rfl rfl rfl rfl ?_
    refine mvD ?_
    refine RD.op rfl rfl rfl (eff_fieldAddr rfl rfl tf33_0 (by decide) rfl rfl rfl (Nat.le_of_ble_eq_true rfl)) ?_
    refine RD.op rfl rfl rfl (eff_load (y := .t _) rfl rfl ti3 rfl (.one rfl rfl rfl rfl)) ?_
    refine RD.op rfl rfl rfl (eff_min rfl rfl rfl rfl) ?_
    refine mvD ?_
    refine RD.op rfl rfl rfl (eff_fieldAddr rfl rfl tf33_0 (by decide) rfl rfl rfl (Nat.le_of_ble_eq_true rfl)) ?_
    refine RD.op rfl rfl rfl (eff_load (y := .t _) rfl rfl ti3 rfl (.one rfl rfl rfl rfl)) ?_
    refine RD.op rfl rfl rfl (eff_max rfl rfl rfl rfl) ?_
    refine RD.op rfl rfl rfl (eff_assign (v := .t _) rfl rfl rfl) ?_
    refine RD.op rfl rfl rfl (eff_assign (v := .t _) rfl rfl rfl) ?_
    refine RD.nil ?_
    refine awp_rw rfl ?_
    refine RW.op rfl rfl (eff_iop rfl rfl rfl rfl (iadd (by omega))) ?_
    refine mvT ?_
    refine RW.nil ?_
    have hlo : loP ((x0 :: rest).take (i + 1)) x0.next = imin (loP ((x0 :: rest).take i) x0.next) ((x0 :: rest)[i]).next := loP_step _ (by omega)
    have hhi : hiP ((x0 :: rest).take (i + 1)) x0.next = imax (hiP ((x0 :: rest).take i) x0.next) ((x0 :: rest)[i]).next := hiP_step _ (by omega)
    refine ⟨_, ?_, _, weak_keep (n := 36) (fr' := [(4, .t (encI (loP ((x0 :: rest).take (i + 1)) x0.next))), (5, .t (encI (hiP ((x0 :: rest).take (i + 1)) x0.next))), (19, .t (.sl ((x0 :: rest).map encR) false)), (20, .t (encI (x0 :: rest).length)), (21, .t (encI ((i + 1) : Nat)))]) (st' := []) ⟨by rw [hlo]; rfl, rfl, by rw [hhi]; rfl, rfl, rfl, rfl, rfl, rfl, rfl, rfl, trivial⟩ trivial, i + 1, (by omega), rfl, rfl⟩
    omega
  · try simp only [cl] at h1
    refine awp_exit ?_
    refine awp_seq ?_
    refine awp_rw rfl ?_
    refine mvT ?_
    refine mvT ?_
    refine asT ?_
    refine asT ?_
    refine RW.nil ?_
    refine awp_ret ?_
    have hi2 : i = (x0 :: rest).length := by omega
    subst hi2
    rw [List.take_length]
    exact ⟨Or.inr rfl, [_, _], ⟨.tmp (.t _), .tmp (.t _), trivial⟩, .refl _⟩

end Go.Tv.C37t

end
section
open Go Go.Tv Go.Tv.C37 Go.Proofs
namespace Go.Tv.C37t
set_option maxRecDepth 20000
set_option maxHeartbeats 2000000
set_option linter.unusedSimpArgs false
set_option linter.unusedVariables false
end Go.Tv.C37t

end
section
open Go Go.Tv Go.Tv.C37 Go.Proofs
namespace Go.Tv.C37t

/-! ### put -/
theorem put_mem {l : List Rep} {x y : Rep} : y ∈ put l x ↔ y ∈ l ∨ y = x := by
  induction l with
  | nil => simp [put]
  | cons a l ih =>
    unfold put
    split
    · simp only [List.mem_cons, ih]
      constructor
      · rintro (h | h | h)
        · exact .inl (.inl h)
        · exact .inl (.inr h)
        · exact .inr h
      · rintro ((h | h) | h)
        · exact .inl h
        · exact .inr (.inl h)
        · exact .inr (.inr h)
    · split
      · rename_i h; subst h; simp only [List.mem_cons]; constructor
        · exact .inl
        · rintro (h | h)
          · exact h
          · exact .inl h
      · simp only [List.mem_cons]
        constructor
        · rintro (h | h | h)
          · exact .inr h
          · exact .inl (.inl h)
          · exact .inl (.inr h)
        · rintro ((h | h) | h)
          · exact .inr (.inl h)
          · exact .inr (.inr h)
          · exact .inl h
theorem put_len (l : List Rep) (x : Rep) : (put l x).length ≤ l.length + 1 := by
  induction l with
  | nil => simp [put]
  | cons a l ih =>
    unfold put
    split
    · simp only [List.length_cons]; omega
    · split <;> simp
theorem put_hp {l : List Rep} {x : Rep} (h : ∀ y, y ∈ l → HP y) (hx : HP x) : ∀ y, y ∈ put l x → HP y := fun y hy => by
  rcases put_mem.1 hy with h1 | rfl
  · exact h y h1
  · exact hx

/-- All states of now, also as f leads on from them, put into out. -/
def stepI (f : Frm) (out now : List Rep) : List Rep := now.foldl (fun o s => put o (apply s f)) out
def stepF (out : List Rep) (f : Frm) : List Rep := stepI f out out
theorem stepI_take {f : Frm} {out now : List Rep} {j : Nat} (h : j < now.length) : stepI f out (now.take (j + 1)) = put (stepI f out (now.take j)) (apply now[j] f) := by
  unfold stepI; rw [take_succ_get h, List.foldl_append]; rfl
theorem stepI_len (f : Frm) (out : List Rep) : ∀ (now : List Rep) (j : Nat), j ≤ now.length → (stepI f out (now.take j)).length ≤ out.length + j
  | now, 0, _ => by simp [stepI]
  | now, j + 1, h => by
    rw [stepI_take (by omega)]
    have := stepI_len f out now j (by omega)
    have := put_len (stepI f out (now.take j)) (apply now[j] f)
    omega
theorem stepI_hp {f : Frm} {out : List Rep} (ho : ∀ y, y ∈ out → HP y) : ∀ (now : List Rep) (_ : ∀ y, y ∈ now → HP y), ∀ y, y ∈ stepI f out now → HP y
  | [], _, y, hy => ho y hy
  | a :: l, hn, y, hy => by
    unfold stepI at hy
    rw [List.foldl_cons] at hy
    exact stepI_hp (put_hp ho (apply_hp (hn a List.mem_cons_self))) l (fun z hz => hn z (List.mem_cons_of_mem _ hz)) y hy
theorem stepI_mem {f : Frm} : ∀ (now out : List Rep) (y : Rep), y ∈ stepI f out now ↔ y ∈ out ∨ ∃ x, x ∈ now ∧ y = apply x f
  | [], out, y => by simp [stepI]
  | a :: l, out, y => by
    unfold stepI
    rw [List.foldl_cons]
    have := stepI_mem (f := f) l (put out (apply a f)) y
    unfold stepI at this
    rw [this, put_mem]
    constructor
    · rintro ((h | h) | ⟨x, hx, h⟩)
      · exact .inl h
      · exact .inr ⟨a, List.mem_cons_self, h⟩
      · exact .inr ⟨x, List.mem_cons_of_mem _ hx, h⟩
    · rintro (h | ⟨x, hx, h⟩)
      · exact .inl (.inl h)
      · rcases List.mem_cons.1 hx with rfl | hx
        · exact .inl (.inr h)
        · exact .inr ⟨x, hx, h⟩
theorem stepF_len (out : List Rep) (f : Frm) : (stepF out f).length ≤ 2 * out.length := by
  have := stepI_len f out out out.length (Nat.le_refl _)
  rw [List.take_length] at this
  unfold stepF; omega
theorem stepF_hp {out : List Rep} {f : Frm} (h : ∀ y, y ∈ out → HP y) : ∀ y, y ∈ stepF out f → HP y := stepI_hp h out h

def reachF (x : Rep) (l : List Frm) : List Rep := l.foldl stepF [x]
theorem reachF_take {x : Rep} {l : List Frm} {i : Nat} (h : i < l.length) : reachF x (l.take (i + 1)) = stepF (reachF x (l.take i)) l[i] := by
  unfold reachF; rw [take_succ_get h, List.foldl_append]; rfl

/-! ### Send and Hear -/
/-- f is not later than what was sent last. -/
def late (l : List Frm) (f : Frm) : Bool := match l.getLast? with
  | some x => decide (x.key ≥ f.key)
  | none => false
def send (t : Twn) (f : Frm) : Twn × Int :=
  if late t.sent f then (zt, 23)
  else if (stepF t.poss f).length > 256 then (zt, 2)
  else (⟨t.sent ++ [f], stepF t.poss f⟩, 0)
/-- The frames that a report leaves open. -/
def open_ (l : List Frm) (r : Rep) : List Frm := l.filter fun f => decide (r.key ≤ f.key)
def left_ (t : Twn) (r : Rep) : List Rep := t.poss.filter fun x => decide (x ∈ reachF r (open_ t.sent r))
def hear (t : Twn) (r : Rep) : Twn × Int := if left_ t r = [] then (zt, 45) else (⟨t.sent, left_ t r⟩, 0)

theorem late_at {l : List Frm} {f : Frm} (h : 0 < l.length) : late l f = decide (f.key ≤ (l[l.length - 1]).key) := by
  unfold late
  rw [List.getLast?_eq_getElem?, List.getElem?_eq_getElem (by omega)]
theorem late_nil {l : List Frm} {f : Frm} (h : ¬ 0 < l.length) : late l f = false := by
  obtain rfl : l = [] := List.length_eq_zero_iff.1 (by omega)
  rfl
theorem send_late {t : Twn} {f : Frm} (h : late t.sent f = true) : send t f = (zt, 23) := by unfold send; rw [if_pos h]
theorem send_many {t : Twn} {f : Frm} (h : late t.sent f = false) (h2 : ((stepF t.poss f).length : Int) > 256) : send t f = (zt, 2) := by unfold send; rw [if_neg (by rw [h]; decide), if_pos (by omega)]
theorem send_ok {t : Twn} {f : Frm} (h : late t.sent f = false) (h2 : ¬ ((stepF t.poss f).length : Int) > 256) : send t f = (⟨t.sent ++ [f], stepF t.poss f⟩, 0) := by unfold send; rw [if_neg (by rw [h]; decide), if_neg (by omega)]
theorem hear_no {t : Twn} {r : Rep} (h : ((left_ t r).length : Int) = 0) : hear t r = (zt, 45) := by unfold hear; rw [if_pos (List.length_eq_zero_iff.1 (by omega))]
theorem hear_ok {t : Twn} {r : Rep} (h : ¬ ((left_ t r).length : Int) = 0) : hear t r = (⟨t.sent, left_ t r⟩, 0) := by unfold hear; rw [if_neg (fun e => h (by rw [e]; rfl))]

theorem filter_take_succ {α : Type} {p : α → Bool} {l : List α} {i : Nat} (h : i < l.length) : (l.take (i + 1)).filter p = (l.take i).filter p ++ if p l[i] then [l[i]] else [] := by
  rw [take_succ_get h, List.filter_append]
  cases hp : p l[i] <;> simp [hp]
theorem open_skip {l : List Frm} {r : Rep} {i : Nat} (h : i < l.length) (hk : (l[i]).key < r.key) : open_ (l.take (i + 1)) r = open_ (l.take i) r := by
  unfold open_; rw [filter_take_succ h, if_neg (by simp; omega), List.append_nil]
theorem open_take {l : List Frm} {r : Rep} {i : Nat} (h : i < l.length) (hk : ¬ (l[i]).key < r.key) : open_ (l.take (i + 1)) r = open_ (l.take i) r ++ [l[i]] := by
  unfold open_; rw [filter_take_succ h, if_pos (by simp; omega)]
theorem reachF_hp {x : Rep} (hx : HP x) : ∀ (l : List Frm) (out : List Rep), (∀ y, y ∈ out → HP y) → ∀ y, y ∈ l.foldl stepF out → HP y
  | [], out, h => h
  | f :: l, out, h => reachF_hp hx l (stepF out f) (stepF_hp h)
theorem reach_hp {x : Rep} (hx : HP x) (l : List Frm) : ∀ y, y ∈ reachF x l → HP y := reachF_hp hx l [x] (by intro y hy; rw [List.mem_singleton.1 hy]; exact hx)
theorem open_len (l : List Frm) (r : Rep) (i : Nat) : (open_ (l.take i) r).length ≤ l.length := by
  unfold open_
  have := List.length_filter_le (fun f : Frm => decide (r.key ≤ f.key)) (l.take i)
  simp at this ⊢
  omega
theorem left_take {t : Twn} {r : Rep} {i : Nat} (h : i < t.poss.length) : (t.poss.take (i + 1)).filter (fun x => decide (x ∈ reachF r (open_ t.sent r))) = (t.poss.take i).filter (fun x => decide (x ∈ reachF r (open_ t.sent r))) ++ if t.poss[i] ∈ reachF r (open_ t.sent r) then [t.poss[i]] else [] := by
  rw [filter_take_succ h]; simp
end Go.Tv.C37t

end
section
open Go Go.Tv Go.Tv.C37 Go.Proofs
namespace Go.Tv.C37t
set_option maxRecDepth 20000
set_option maxHeartbeats 2000000
set_option linter.unusedSimpArgs false
set_option linter.unusedVariables false
end Go.Tv.C37t

end
section
open Go Go.Tv Go.Tv.C37 Go.Proofs
namespace Go.Tv.C37t
set_option maxRecDepth 20000
set_option maxHeartbeats 2000000
set_option linter.unusedSimpArgs false
set_option linter.unusedVariables false
end Go.Tv.C37t

end
section
open Go Go.Tv Go.Tv.C37 Go.Proofs
namespace Go.Tv.C37t
set_option maxRecDepth 20000
set_option maxHeartbeats 2000000
set_option linter.unusedSimpArgs false
set_option linter.unusedVariables false
end Go.Tv.C37t

end
section
open Go Go.Tv Go.Tv.C37 Go.Proofs
namespace Go.Tv.C37t

/-! ### The order -/
theorem less_iff {a b : Rep} : less a b = true ↔ a.next < b.next ∨ (a.next = b.next ∧ (a.have_ < b.have_ ∨ (a.have_ = b.have_ ∧ (a.key < b.key ∨ (a.key = b.key ∧ a.locked = false ∧ b.locked = true))))) := by
  unfold less
  by_cases h1 : a.next ≠ b.next
  · rw [if_pos h1]; simp only [decide_eq_true_eq]; omega
  · rw [if_neg h1]
    by_cases h2 : a.have_ ≠ b.have_
    · rw [if_pos h2]; simp only [decide_eq_true_eq]; omega
    · rw [if_neg h2]
      by_cases h3 : a.key ≠ b.key
      · rw [if_pos h3]; simp only [decide_eq_true_eq]; omega
      · rw [if_neg h3]
        cases a.locked <;> cases b.locked <;> simp <;> omega
theorem less_irrefl (a : Rep) : less a a = false := by
  rw [Bool.eq_false_iff]; intro h; rw [less_iff] at h
  rcases h with h | ⟨_, h | ⟨_, h | ⟨_, h, h2⟩⟩⟩
  · omega
  · omega
  · omega
  · rw [h] at h2; cases h2
theorem less_trans {a b c : Rep} (h : less a b = true) (k : less b c = true) : less a c = true := by
  rw [less_iff] at *
  rcases h with h | ⟨e1, h | ⟨e2, h | ⟨e3, h, h'⟩⟩⟩ <;> rcases k with k | ⟨f1, k | ⟨f2, k | ⟨f3, k, k'⟩⟩⟩
  all_goals first
    | (left; omega)
    | (right; refine ⟨by omega, ?_⟩; left; omega)
    | (right; refine ⟨by omega, ?_⟩; right; refine ⟨by omega, ?_⟩; left; omega)
    | (right; refine ⟨by omega, ?_⟩; right; refine ⟨by omega, ?_⟩; right; exact ⟨by omega, h, k'⟩)
theorem less_total {a b : Rep} (h : a ≠ b) : less a b = true ∨ less b a = true := by
  rw [less_iff, less_iff]
  rcases Int.lt_trichotomy a.next b.next with h1 | h1 | h1
  · exact .inl (.inl h1)
  · rcases Int.lt_trichotomy a.have_ b.have_ with h2 | h2 | h2
    · exact .inl (.inr ⟨h1, .inl h2⟩)
    · rcases Int.lt_trichotomy a.key b.key with h3 | h3 | h3
      · exact .inl (.inr ⟨h1, .inr ⟨h2, .inl h3⟩⟩)
      · obtain ⟨n, v, k, l⟩ := a
        obtain ⟨n', v', k', l'⟩ := b
        simp only at h1 h2 h3
        subst h1 h2 h3
        cases l <;> cases l' <;> simp_all
      · exact .inr (.inr ⟨h1.symm, .inr ⟨h2.symm, .inl h3⟩⟩)
    · exact .inr (.inr ⟨h1.symm, .inl h2⟩)
  · exact .inr (.inl h1)
theorem less_asymm {a b : Rep} (h : less a b = true) : less b a = false := by
  rw [Bool.eq_false_iff]; intro k
  have := less_trans h k
  rw [less_irrefl] at this; cases this

def Srt (l : List Rep) : Prop := l.Pairwise fun a b => less a b = true
theorem srt_nodup {l : List Rep} (h : Srt l) : l.Nodup := List.Pairwise.imp (fun {a b} hab e => by subst e; rw [less_irrefl] at hab; cases hab) h
theorem srt_put {l : List Rep} {x : Rep} (h : Srt l) : Srt (put l x) := by
  induction l with
  | nil => exact List.pairwise_singleton _ _
  | cons a l ih =>
    unfold Srt at h
    rw [List.pairwise_cons] at h
    unfold put
    split
    · rename_i hax
      refine List.pairwise_cons.2 ⟨fun y hy => ?_, ih h.2⟩
      rcases put_mem.1 hy with hy | rfl
      · exact h.1 y hy
      · exact hax
    · rename_i hax
      split
      · exact List.pairwise_cons.2 h
      · rename_i hne
        have hxa : less x a = true := (less_total hne).elim (fun e => absurd e hax) id
        refine List.pairwise_cons.2 ⟨fun y hy => ?_, List.pairwise_cons.2 h⟩
        rcases List.mem_cons.1 hy with rfl | hy
        · exact hxa
        · exact less_trans hxa (h.1 y hy)
theorem srt_stepI {f : Frm} : ∀ (now out : List Rep), Srt out → Srt (stepI f out now)
  | [], _, h => h
  | a :: l, out, h => by
    unfold stepI
    rw [List.foldl_cons]
    exact srt_stepI l _ (srt_put h)
theorem srt_stepF {out : List Rep} {f : Frm} (h : Srt out) : Srt (stepF out f) := srt_stepI out out h
theorem srt_reachF : ∀ (l : List Frm) (out : List Rep), Srt out → Srt (l.foldl stepF out)
  | [], _, h => h
  | f :: l, out, h => srt_reachF l _ (srt_stepF h)
theorem srt_reach (x : Rep) (l : List Frm) : Srt (reachF x l) := srt_reachF l [x] (List.pairwise_singleton _ _)
theorem stepF_mem {out : List Rep} {f : Frm} {y : Rep} : y ∈ stepF out f ↔ y ∈ out ∨ ∃ x, x ∈ out ∧ y = apply x f := stepI_mem out out y

theorem perm_of_mem {l m : List Rep} (hl : l.Nodup) (hm : m.Nodup) (h : ∀ x, x ∈ l ↔ x ∈ m) : l.Perm m := by
  induction l generalizing m with
  | nil =>
    cases m with
    | nil => exact .refl _
    | cons a m => exact absurd ((h a).2 List.mem_cons_self) (by simp)
  | cons a l ih =>
    have ha : a ∈ m := (h a).1 List.mem_cons_self
    obtain ⟨s, t, rfl⟩ := List.append_of_mem ha
    have hm2 : (a :: (s ++ t)).Nodup := (List.perm_middle.nodup_iff).1 hm
    rw [List.nodup_cons] at hl hm2
    refine ((ih hl.2 hm2.2 (fun x => ?_)).cons a).trans List.perm_middle.symm
    have hx := h x
    constructor
    · intro hxl
      have := hx.1 (List.mem_cons_of_mem _ hxl)
      rcases List.mem_append.1 this with h1 | h1
      · exact List.mem_append_left _ h1
      · rcases List.mem_cons.1 h1 with rfl | h1
        · exact absurd hxl hl.1
        · exact List.mem_append_right _ h1
    · intro hxm
      have : x ∈ a :: l := hx.2 (by
        rcases List.mem_append.1 hxm with h1 | h1
        · exact List.mem_append_left _ h1
        · exact List.mem_append_right _ (List.mem_cons_of_mem _ h1))
      rcases List.mem_cons.1 this with rfl | h1
      · exact absurd hxm hm2.1
      · exact h1

/-- Two sorted lists of the same states are one. -/
theorem srt_ext {l m : List Rep} (hl : Srt l) (hm : Srt m) (hp : l.Perm m) : l = m := by
  refine List.Perm.eq_of_pairwise (le := fun a b => less a b = true) ?_ hl hm hp
  intro a b _ _ h1 h2
  exact absurd h2 (by rw [less_asymm h1]; decide)

/-! ### compare -/
theorem cmpI_neg {a b : Int} : cmpI a b < 0 ↔ a < b := by unfold cmpI; split <;> (try split) <;> omega
theorem cmpR_neg {a b : Rep} : cmpR a b < 0 ↔ less a b = true := by
  rw [less_iff]
  unfold cmpR orI orI orI orI orI cmpI flag
  cases a.locked <;> cases b.locked <;> simp <;> (repeat' split) <;> omega
theorem cmpR_swo : Sort.SWO (ltOf cmpR) where
  irrefl x := by unfold ltOf; rw [decide_eq_false]; rw [cmpR_neg, less_irrefl]; decide
  trans x y z h1 h2 := by
    unfold ltOf at *
    rw [decide_eq_true_eq] at *
    rw [cmpR_neg] at *
    exact less_trans h1 h2
  ntrans x y z h1 h2 := by
    unfold ltOf at *
    rw [decide_eq_false_iff_not] at *
    rw [cmpR_neg] at *
    intro h
    by_cases e : x = y
    · subst e; exact h2 h
    · rcases less_total e with h3 | h3
      · exact h1 h3
      · exact h2 (less_trans h3 h)
theorem sort_srt {l m : List Rep} (hm : Srt m) (hp : l.Perm m) : sortA cmpR l = m := by
  have h1 := sortA_perm cmpR_swo l
  have h2 := sortA_sorted cmpR_swo l
  have hnd : (sortA cmpR l).Nodup := (h1.trans hp).nodup_iff.2 (srt_nodup hm)
  refine srt_ext ?_ hm (h1.trans hp)
  have h3 := h2.and hnd
  refine List.Pairwise.imp (fun {a b} hab => ?_) h3
  obtain ⟨h4, h5⟩ := hab
  rw [cmpR_neg] at h4
  rcases less_total h5 with h | h
  · exact h
  · exact absurd h h4

/-! ### Maps of states -/
theorem setL_len (l : List Rep) : (setL l).length = l.length := by simp [setL]
theorem setL_at {l : List Rep} {i : Nat} (h : i < (setL l).length) : (setL l)[i] = (l[i]'(by rw [setL_len] at h; exact h), ()) := by simp [setL]
theorem setL_nodup {l : List Rep} (h : l.Nodup) : ((setL l).map (·.1)).Nodup := by
  unfold setL; rw [List.map_map, show ((·.1) ∘ fun r : Rep => (r, ())) = id from rfl, List.map_id]; exact h
theorem setL_perm {l m : List Rep} (h : l.Perm m) : (mapL KR XU (setL l)).Perm (mapL KR XU (setL m)) := (h.map _).map _

section
variable {all l : List Oper} {o : Oper} {n : Nat} {fr : Fra} {st : Sto} {g : Gh} {K' : St → Gh → Prop} {F0 : Nat → Prop} {w0 : World}
theorem RJ.sMake {t : TypeId} {d : Tmp} (hg : o.guard = none) (hd : o.dst = some d) (hdn : dstOK n (some d) = true) (ho : o.op = .makeMap t none)
    (h : ∀ r, gget g r = none → RJ Tryz.prog none (JR F0 w0) all l ⟨n, (d, .t (.mp r)) :: fr, st⟩ ((r, mapO KR XU (setL [])) :: g) K') : RJ Tryz.prog none (JR F0 w0) all (o :: l) ⟨n, fr, st⟩ g K' :=
  RJ.rMake hg hd hdn ho h
theorem RJ.sPut {t ety : TypeId} {m k x : Operand} {r : Nat} (a : Rep) (lm : List Rep) (hg : o.guard = none) (hd : o.dst = none) (ho : o.op = .mapUpdate t m k x ∨ o.op = .insert t m k x) (ht : Tryz.prog.underlying t = some (.map 33 ety))
    (hm : (St.mk n fr st).ev m = .t (.mp r)) (hk : (St.mk n fr st).ev k = .t (encR a)) (hx : (St.mk n fr st).ev x = .t (.bool true)) (hgm : gget g r = some (mapO KR XU (setL lm)))
    (h : RJ Tryz.prog none (JR F0 w0) all l ⟨n, fr, st⟩ ((r, mapO KR XU (setL (ins lm a))) :: g) K') : RJ Tryz.prog none (JR F0 w0) all (o :: l) ⟨n, fr, st⟩ g K' :=
  RJ.rPut KR XU (a := a) (b := ()) (lm := setL lm) hg hd ho ht hm hk hx hgm (by rw [put_set]; exact h)
theorem RJ.sRange {t ety : TypeId} {x : Operand} {m : Nat} {lm : List Rep} {d : Tmp} (hg : o.guard = none) (hd : o.dst = some d) (hdn : dstOK n (some d) = true) (ho : o.op = .range t x) (ht : Tryz.prog.underlying t = some (.map 33 ety))
    (hx : (St.mk n fr st).ev x = .t (.mpx m (mapL KR XU (setL lm))))
    (h : ∀ r, gget g r = none → RJ Tryz.prog none (JR F0 w0) all l ⟨n, (d, .t (.adr r 0)) :: fr, st⟩ ((r, itM m lm.length []) :: g) K') : RJ Tryz.prog none (JR F0 w0) all (o :: l) ⟨n, fr, st⟩ g K' :=
  RJ.rRange KR XU hg hd hdn ho ht hx (by rw [setL_len]; exact h)
theorem RJ.sNext (y : Operand) {x : Operand} {r m : Nat} {seen : List Nat} {lm : List Rep} {d : Tmp} (hg : o.guard = none) (hd : o.dst = some d) (hdn : dstOK n (some d) = true) (ho : o.op = .next x false)
    (hx : (St.mk n fr st).ev x = .t (.adr r 0)) (hy : (St.mk n fr st).ev y = .t (.mpx m (mapL KR XU (setL lm)))) (hr0 : gget g r = some (itM m lm.length seen))
    (hf : (∀ i, i < lm.length → i ∈ seen) → RJ Tryz.prog none (JR F0 w0) all l ⟨n, (d, .t (.tup [.bool false])) :: fr, st⟩ g K')
    (h : ∀ (i : Nat) (hi : i < lm.length), i ∉ seen → RJ Tryz.prog none (JR F0 w0) all l ⟨n, (d, .t (.tup [.bool true, encR lm[i], .bool true])) :: fr, st⟩ ((r, itM m lm.length (seen ++ [i])) :: g) K') : RJ Tryz.prog none (JR F0 w0) all (o :: l) ⟨n, fr, st⟩ g K' :=
  RJ.rNext KR XU y hg hd hdn ho hx hy (by rw [setL_len]; exact hr0) (fun hh => hf (fun i hi => hh i (by rw [setL_len]; exact hi))) (fun i hi hs => by
    have e : itM m (setL lm).length (seen ++ [i]) = itM m lm.length (seen ++ [i]) := by rw [setL_len]
    rw [setL_at hi, e]
    exact h i (by rw [setL_len] at hi; exact hi) hs)
theorem RJ.sEntry (y : Operand) {x : Operand} {r m : Nat} {seen : List Nat} {lm : List Rep} {d : Tmp} {i : Nat} (hi : i < lm.length) (hg : o.guard = none) (hd : o.dst = some d) (hdn : dstOK n (some d) = true) (ho : o.op = .entry x)
    (hx : (St.mk n fr st).ev x = .t (.adr r 0)) (hy : (St.mk n fr st).ev y = .t (.mpx m (mapL KR XU (setL lm)))) (hr0 : gget g r = some (itM m lm.length (seen ++ [i])))
    (h : RJ Tryz.prog none (JR F0 w0) all l ⟨n, (d, .t (.tup [encR lm[i], .bool true])) :: fr, st⟩ g K') : RJ Tryz.prog none (JR F0 w0) all (o :: l) ⟨n, fr, st⟩ g K' :=
  RJ.rEntry KR XU y (lm := setL lm) (by rw [setL_len]; exact hi) hg hd hdn ho hx hy (by rw [setL_len]; exact hr0) (by
    rw [setL_at (by rw [setL_len]; exact hi)]
    exact h)
end

theorem awj_openS {γ : Type} {X : JP γ} {ro : Option Nat} {kp : Nat → Bool} {c : Code} {n : Nat} {fr : Fra} {st : Sto} {g : γ} {Q : Exit → St → γ → Prop} (i : Nat) {l : List Rep} (hi : fget fr i = .t (mset l))
    (h : ∀ b l', l'.Perm l → AWJ Tryz.prog ro kp X c ⟨n, (i, .t (.mpx b (mapL KR XU (setL l')))) :: fr, st⟩ g Q) : AWJ Tryz.prog ro kp X c ⟨n, fr, st⟩ g Q :=
  awj_open i (L := mapL KR XU (setL l)) hi (fun b L' hp => by
    obtain ⟨l2, hp2, rfl⟩ := perm_of_map (setL l) hp
    obtain ⟨l3, hp3, rfl⟩ := perm_of_map l hp2
    exact h b l3 hp3)
theorem awj_freezeS {kp : Nat → Bool} {c : Code} {n : Nat} {fr : Fra} {st : Sto} {g : Gh} {Q : Exit → St → Gh → Prop} {F0 : Nat → Prop} {w0 : World} (i : Nat) {r : Nat} {l0 : List Rep} (l : List Rep) (hi : fget fr i = .t (.mp r)) (hg : gget g r = some (mapO KR XU (setL l0))) (hp : l0.Perm l)
    (h : AWJ Tryz.prog none kp (JR F0 w0) c ⟨n, (i, .t (mset l)) :: fr, st⟩ (gdel r g) Q) : AWJ Tryz.prog none kp (JR F0 w0) c ⟨n, fr, st⟩ g Q :=
  awj_freeze i (mapL KR XU (setL l)) hi hg (setL_perm hp) h

/-- What came of a map so far, and f's states of it. -/
def cameF (l : List Rep) (f : Frm) (seen : List Nat) (cur : List Rep) : Prop := cur.Nodup ∧ ∀ y, y ∈ cur ↔ ∃ (i : Nat) (hi : i < l.length), i ∈ seen ∧ (y = l[i] ∨ y = apply l[i] f)
theorem cameF_nil (l : List Rep) (f : Frm) : cameF l f [] [] := ⟨List.nodup_nil, fun y => by simp⟩
theorem cameF_step {l : List Rep} {f : Frm} {seen : List Nat} {cur : List Rep} {i : Nat} (h : cameF l f seen cur) (hi : i < l.length) : cameF l f (seen ++ [i]) (ins (ins cur l[i]) (apply l[i] f)) := by
  obtain ⟨h1, h2⟩ := h
  refine ⟨ins_nodup (ins_nodup h1), fun y => ?_⟩
  rw [ins_mem, ins_mem, h2]
  constructor
  · rintro ((⟨j, hj, hs, hy⟩ | hy) | hy)
    · exact ⟨j, hj, List.mem_append_left _ hs, hy⟩
    · exact ⟨i, hi, by simp, .inl hy⟩
    · exact ⟨i, hi, by simp, .inr hy⟩
  · rintro ⟨j, hj, hs, hy⟩
    rcases List.mem_append.1 hs with hs | hs
    · exact .inl (.inl ⟨j, hj, hs, hy⟩)
    · simp at hs; subst hs
      rcases hy with hy | hy
      · exact .inl (.inr hy)
      · exact .inr hy
theorem cameF_end {l m : List Rep} {f : Frm} {seen : List Nat} {cur : List Rep} (hm : Srt m) (hp : l.Perm m) (h : cameF l f seen cur) (hall : ∀ i, i < l.length → i ∈ seen) : cur.Perm (stepF m f) := by
  refine perm_of_mem h.1 (srt_nodup (srt_stepF hm)) (fun y => ?_)
  rw [h.2, stepF_mem]
  constructor
  · rintro ⟨i, hi, _, hy | hy⟩
    · exact .inl (hp.mem_iff.1 (by rw [hy]; exact List.getElem_mem _))
    · exact .inr ⟨l[i], hp.mem_iff.1 (List.getElem_mem _), hy⟩
  · rintro (hy | ⟨x, hx, hy⟩)
    · obtain ⟨i, hi, e⟩ := List.mem_iff_getElem.1 (hp.mem_iff.2 hy)
      exact ⟨i, hi, hall i hi, .inl e.symm⟩
    · obtain ⟨i, hi, e⟩ := List.mem_iff_getElem.1 (hp.mem_iff.2 hx)
      exact ⟨i, hi, hall i hi, .inr (by rw [e]; exact hy)⟩

theorem nodup_len : ∀ (n : Nat) (s : List Nat), s.Nodup → (∀ j, j ∈ s → j < n) → s.length ≤ n
  | 0, [], _, _ => Nat.le_refl _
  | 0, a :: s, _, h => absurd (h a List.mem_cons_self) (by omega)
  | n + 1, s, hn, h => by
    have h1 := nodup_len n (s.erase n) (hn.erase n) (fun j hj => by
      have h2 := (hn.mem_erase_iff).1 hj
      have h3 := h j h2.2
      have h4 := h2.1
      omega)
    rw [List.length_erase] at h1
    split at h1 <;> omega
theorem seen_lt {n : Nat} {seen : List Nat} {i : Nat} (hn : seen.Nodup) (hb : ∀ j, j ∈ seen → j < n) (hi : i < n) (hs : i ∉ seen) : seen.length < n := by
  have h2 := nodup_len n (i :: seen) (List.nodup_cons.2 ⟨hs, hn⟩) (fun x hx => by
    rcases List.mem_cons.1 hx with rfl | hx
    · exact hi
    · exact hb x hx)
  simp at h2; omega
theorem seen_nodup {seen : List Nat} {i : Nat} (hn : seen.Nodup) (hs : i ∉ seen) : (seen ++ [i]).Nodup := by
  rw [List.nodup_append]
  exact ⟨hn, by simp, fun a ha b hb => by simp at hb; subst hb; exact fun e => hs (e ▸ ha)⟩
theorem seen_bound {n : Nat} {seen : List Nat} {i : Nat} (hb : ∀ j, j ∈ seen → j < n) (hi : i < n) : ∀ j, j ∈ seen ++ [i] → j < n := fun j hj => by
  rcases List.mem_append.1 hj with h | h
  · exact hb j h
  · simp at h; omega

/-- What came of a map so far, in its order. -/
def pick (l : List Rep) (seen : List Nat) : List Rep := seen.filterMap fun i => l[i]?
theorem pick_step {l : List Rep} {seen : List Nat} {i : Nat} (hi : i < l.length) : pick l (seen ++ [i]) = pick l seen ++ [l[i]] := by
  unfold pick; rw [List.filterMap_append]; simp [hi]
theorem pick_len {l : List Rep} {seen : List Nat} (h : ∀ j, j ∈ seen → j < l.length) : (pick l seen).length = seen.length := by
  induction seen with
  | nil => rfl
  | cons a s ih =>
    have ha := h a List.mem_cons_self
    have := ih (fun j hj => h j (List.mem_cons_of_mem _ hj))
    unfold pick at *
    rw [List.filterMap_cons, List.getElem?_eq_getElem ha]
    simp [this]
theorem pick_all {l : List Rep} {seen : List Nat} (hn : seen.Nodup) (hb : ∀ j, j ∈ seen → j < l.length) (hall : ∀ i, i < l.length → i ∈ seen) (hl : l.Nodup) : (pick l seen).Perm l := by
  have h1 : ∀ x, x ∈ pick l seen ↔ x ∈ l := by
    intro x
    unfold pick
    rw [List.mem_filterMap]
    constructor
    · rintro ⟨i, _, hx⟩; exact List.mem_of_getElem? hx
    · intro hx
      obtain ⟨i, hi, e⟩ := List.mem_iff_getElem.1 hx
      exact ⟨i, hall i hi, by rw [List.getElem?_eq_getElem hi, e]⟩
  refine perm_of_mem ?_ hl h1
  unfold pick
  refine List.Pairwise.filterMap _ (fun a a' hne b hb' b' hb'' e => ?_) hn
  subst e
  change l[a]? = some b at hb'
  change l[a']? = some b at hb''
  obtain ⟨ha, e1⟩ := List.getElem?_eq_some_iff.1 hb'
  obtain ⟨ha', e2⟩ := List.getElem?_eq_some_iff.1 hb''
  have hpw := List.pairwise_iff_getElem.1 hl
  rcases Nat.lt_trichotomy a a' with h | h | h
  · exact hpw a a' ha ha' h (e1.trans e2.symm)
  · exact hne h
  · exact hpw a' a ha' ha h (e2.trans e1.symm)

theorem eff_lenS {o : Oper} {D : St} {t kty ety : TypeId} {x : Operand} {l : List Rep} (hd : dstOK D.n o.dst = true) (ho : o.op = .call { callee := .builtin .len, args := #[x], argTypes := #[t] }) (ht : Tryz.prog.underlying t = some (.map kty ety))
    (hx : D.ev x = .t (mset l)) : Eff Tryz.prog o D ⟨.t (encI (l.length : Nat)), []⟩ := by
  have := eff_lenD (P := Tryz.prog) (L := mapL KR XU (setL l)) hd ho ht hx .d
  rwa [show (mapL KR XU (setL l)).length = l.length from by rw [mapL_length, setL_len]] at this
theorem eff_hasS {o : Oper} {D : St} {t ety : TypeId} {m k : Operand} {l : List Rep} (a : Rep) (hl : l.Nodup) (ht : Tryz.prog.underlying t = some (.map 33 ety)) (hz : zeroOf Tryz.prog ety = some (.bool false)) (hd : dstOK D.n o.dst = true) (ho : o.op = .lookup t m k false)
    (hm : D.ev m = .t (mset l)) (hk : D.ev k = .t (encR a)) : Eff Tryz.prog o D ⟨.t (.bool (decide (a ∈ l))), []⟩ :=
  eff_getD (P := Tryz.prog) KR XU (a := a) (l := setL l) (z := .bool false) (zv := .bool false) (ok := false) ht hz (solid_bool _) hd ho hm .d (setL_nodup hl) hk (by
    rw [look_set]
    by_cases h : a ∈ l
    · rw [if_pos h, decide_eq_true h]; rfl
    · rw [if_neg h, decide_eq_false h]; rfl)
theorem ins_take {l : List Rep} {i : Nat} (hn : l.Nodup) (hi : i < l.length) : ins (l.take i) l[i] = l.take (i + 1) := by
  unfold ins
  rw [if_neg, ← take_succ_get hi]
  intro h
  obtain ⟨j, hj, e⟩ := List.mem_iff_getElem.1 h
  rw [List.getElem_take] at e
  have hj2 : j < i := by rw [List.length_take] at hj; omega
  exact List.pairwise_iff_getElem.1 hn j i (by omega) hi hj2 e
theorem sortEls_eq (l : List Rep) : sortEls cellsR l = (l.map encR).map .t := by unfold sortEls; rw [List.map_map]; rfl

/-- An owned slice that is not empty is not nil. -/
theorem eff_ownNotNil {o : Oper} {D : St} {t ty e : TypeId} {k : Nat} {ag : Bool} {x : Operand} {id g off len : Nat} {ob : Ob} (hd : dstOK D.n o.dst = true) (ho : o.op = .binOp .eql t x (.const (.slice none 0 0)) ty) (ht : elemOf Tryz.prog t = some (e, k, ag))
    (hx : D.ev x = .own id g off len) (hs : sget D.st id = some ob) (hg : ob.gen = g) (hl : 0 < len) : Eff Tryz.prog o D ⟨.t (.bool false), []⟩ := by
  intro s hs' hfr F β a w hr next Q hn
  refine effS_nilEq (P := Tryz.prog) (m := len) hd ho ht hx (.inr ⟨id, g, off, ob, rfl, hs, hg⟩) s hs' ?_ F β a w hr next Q ?_
  · rintro e ⟨b, rfl, _⟩ i q hm
    simp at hm
  · rintro e ⟨b, rfl, hb⟩
    cases b with
    | false => exact hn
    | true => have := hb rfl; omega
end Go.Tv.C37t

end
section
open Go Go.Tv Go.Tv.C37 Go.Proofs
namespace Go.Tv.C37t
set_option maxRecDepth 20000
set_option maxHeartbeats 2000000
set_option linter.unusedSimpArgs false
set_option linter.unusedVariables false
theorem tzn_ret (h : Nat) (hh : h < 32768) : RetT Tryz.prog 69 [(1, deT)] [.int .u64 ((18446744073709551615 - h : Nat) : Int)] (encI (ones ((h : Nat) : Int) : Nat)) := by
  rw [← tz_ones hh]; exact tz_ret _ (by omega)

theorem apply_ret (S : Rep) (f : Frm) (hS : HP S) : RetT Tryz.prog 49 [(1, deT)] [encR S, encF f] (encR (apply S f)) := by
  obtain ⟨nx, hv0, ky, lk⟩ := S
  obtain ⟨h, rfl⟩ : ∃ h : Nat, hv0 = (h : Int) := ⟨hv0.toNat, by have := hS.1; simp only [] at this; omega⟩
  have hh : h < 32768 := by have := hS.2; simp only [] at this; omega
  have hdr := dist_range f ⟨nx, ((h : Nat) : Int), ky, lk⟩
  have hon := ones_le ((h : Nat) : Int)
  refine retT_of_awp Tryz.func49 rfl (Nat.le_of_ble_eq_true rfl) ?_
  refine awp_seq ?_
  refine awp_rw rfl ?_
  refine RW.new rfl rfl (eff_boxK (v := .t _) (k := 4) (id := 2) rfl rfl rfl rfl rfl rfl) ?_
  refine RW.new rfl rfl (eff_boxK (v := .t _) (k := 5) (id := 3) rfl rfl rfl rfl rfl rfl) ?_
  refine RW.new rfl rfl (eff_allocK (k := 4) (id := 4) rfl rfl tz33 rfl rfl) ?_
  refine RW.nil ?_
  refine awp_seq ?_
  refine awp_seq ?_
  refine awp_rw rfl ?_
  refine faT tf41_1 ?_
  refine l1T ti3 rfl rfl rfl rfl rfl (.one rfl rfl rfl rfl) ?_
  refine faT tf33_2 ?_
  refine l1T ti3 rfl rfl rfl rfl rfl (.one rfl rfl rfl rfl) ?_
  refine ioT ?_
  refine mvT ?_
  refine RW.split 12 rfl (fun h1 => ?_) (fun h1 => ?_)
  · try simp only [cl] at h1
    refine gkT ?_
    refine gkT ?_
    refine gkT ?_
    refine gkT ?_
    refine gkT ?_
    refine gkT ?_
    refine pkT ?_
    refine RW.nil ?_
    refine awp_cond rfl (fun _ => ?_) (fun h => nomatch h)
    refine awp_seq ?_
    refine awp_rw rfl ?_
    refine RW.op rfl rfl (eff_load rfl rfl ti33 rfl (.whole rfl rfl rfl rfl rfl rfl)) ?_
    refine RW.store rfl rfl (eff_storeW (v := .t _) (els := [_]) (els' := [_]) rfl rfl ti33 rfl rfl rfl rfl rfl rfl rfl rfl rfl) ?_
    refine RW.nil ?_
    refine awp_ret ?_
    (rw [apply_stay (Or.inl (by assumption))]; exact ⟨Or.inr rfl, [_], ⟨.cell rfl ti33 (.whole rfl rfl rfl rfl rfl rfl) (.t _), trivial⟩, .refl _⟩)
  · try simp only [cl] at h1
    refine RW.gop rfl rfl rfl rfl rfl rfl (eff_fieldAddr rfl rfl tf41_1 (by decide) rfl rfl rfl (Nat.le_of_ble_eq_true rfl)) ?_
    refine RW.gop rfl rfl rfl rfl rfl rfl (eff_load (y := .t _) rfl rfl ti3 rfl (.one rfl rfl rfl rfl)) ?_
    refine RW.gop rfl rfl rfl rfl rfl rfl (eff_fieldAddr rfl rfl tf33_2 (by decide) rfl rfl rfl (Nat.le_of_ble_eq_true rfl)) ?_
    refine RW.gop rfl rfl rfl rfl rfl rfl (eff_load (y := .t _) rfl rfl ti3 rfl (.one rfl rfl rfl rfl)) ?_
    refine RW.gop rfl rfl rfl rfl rfl rfl (eff_iop rfl rfl rfl rfl rfl) ?_
    refine RW.gop rfl rfl rfl rfl rfl rfl (eff_iop rfl rfl rfl rfl rfl) ?_
    refine pkT ?_
    refine RW.nil ?_
    refine awp_cond rfl (fun h2 => ?_) (fun h2 => ?_)
    · try simp only [cl] at h2
      refine awp_seq ?_
      refine awp_rw rfl ?_
      refine RW.op rfl rfl (eff_load rfl rfl ti33 rfl (.whole rfl rfl rfl rfl rfl rfl)) ?_
      refine RW.store rfl rfl (eff_storeW (v := .t _) (els := [_]) (els' := [_]) rfl rfl ti33 rfl rfl rfl rfl rfl rfl rfl rfl rfl) ?_
      refine RW.nil ?_
      refine awp_ret ?_
      (rw [apply_stay (Or.inr (by assumption))]; exact ⟨Or.inr rfl, [_], ⟨.cell rfl ti33 (.whole rfl rfl rfl rfl rfl rfl) (.t _), trivial⟩, .refl _⟩)
    · try simp only [cl] at h2
      refine awp_skip ?_
      refine awp_seq ?_
      refine awp_rw rfl ?_
      refine faT tf41_1 ?_
      refine l1T ti3 rfl rfl rfl rfl rfl (.one rfl rfl rfl rfl) ?_
      refine ioT ?_
      refine faT tf33_2 ?_
      refine RW.store rfl rfl (eff_storeS (v := .t _) (ys := [_, _, _, _]) (els := [_]) (els' := [_]) rfl rfl ti3 rfl rfl rfl rfl rfl rfl rfl (Nat.le_of_ble_eq_true rfl) rfl rfl) ?_
      refine RW.nil ?_
      refine awp_seq ?_
      refine awp_rw rfl ?_
      refine faT tf41_0 ?_
      refine l1T ti3 rfl rfl rfl rfl rfl (.one rfl rfl rfl rfl) ?_
      refine RW.op rfl rfl (eff_convInt rfl rfl (by rw [tu3]; rfl) tu5 rfl) ?_
      refine faT tf33_0 ?_
      refine l1T ti3 rfl rfl rfl rfl rfl (.one rfl rfl rfl rfl) ?_
      refine RW.op rfl rfl (eff_convInt rfl rfl (by rw [tu3]; rfl) tu5 rfl) ?_
      refine RW.op rfl rfl (eff_iop (r := .int .u8 (dist f ⟨nx, ((h : Nat) : Int), ky, lk⟩)) rfl rfl rfl rfl (congrArg (fun z => some (Tr.int .u8 z)) (dist_u8 f ⟨nx, ((h : Nat) : Int), ky, lk⟩))) ?_
      refine RW.op rfl rfl (eff_convIntE (m := dist f ⟨nx, ((h : Nat) : Int), ky, lk⟩) rfl rfl (by rw [tu5]; rfl) tu3 rfl (dist_i64 f ⟨nx, ((h : Nat) : Int), ky, lk⟩)) ?_
      refine asT ?_
      refine RW.nil ?_
      refine awp_seq ?_
      refine awp_block ?_
      refine awp_seq ?_
      refine awp_rw rfl ?_
      refine faT tf41_2 ?_
      refine l1T ti4 rfl rfl rfl rfl rfl (.one rfl rfl rfl rfl) ?_
      refine asT ?_
      refine RW.nil ?_
      refine awp_cond rfl (fun h3 => ?_) (fun h3 => ?_)
      · try simp only [cl] at h3
        refine awp_seq ?_
        refine awp_rw rfl ?_
        refine faT tf33_3 ?_
        refine RW.store rfl rfl (eff_storeS (v := .t _) (ys := [_, _, _, _]) (els := [_]) (els' := [_]) rfl rfl ti4 rfl rfl rfl rfl rfl rfl rfl (Nat.le_of_ble_eq_true rfl) rfl rfl) ?_
        refine faT tf33_1 ?_
        refine RW.store rfl rfl (eff_storeS (v := .t _) (ys := [_, _, _, _]) (els := [_]) (els' := [_]) rfl rfl ti3 rfl rfl rfl rfl rfl rfl rfl (Nat.le_of_ble_eq_true rfl) rfl rfl) ?_
        refine RW.nil ?_
        refine awp_seq ?_
        refine awp_rw rfl ?_
        refine mvT ?_
        refine ioT ?_
        refine RW.nil ?_
        refine awp_cond rfl (fun h4 => ?_) (fun h4 => ?_)
        · try simp only [cl] at h4
          refine awp_rw rfl ?_
          refine faT tf33_0 ?_
          refine l1T ti3 rfl rfl rfl rfl rfl (.one rfl rfl rfl rfl) ?_
          refine mvT ?_
          refine ioT ?_
          refine faT tf33_0 ?_
          refine RW.store rfl rfl (eff_storeS (v := .t _) (ys := [_, _, _, _]) (els := [_]) (els' := [_]) rfl rfl ti3 rfl rfl rfl rfl rfl rfl rfl (Nat.le_of_ble_eq_true rfl) rfl rfl) ?_
          refine RW.nil ?_
          refine awp_seq ?_
          refine awp_rw rfl ?_
          refine RW.op rfl rfl (eff_load rfl rfl ti33 rfl (.whole rfl rfl rfl rfl rfl rfl)) ?_
          refine RW.store rfl rfl (eff_storeW (v := .t _) (els := [_]) (els' := [_]) rfl rfl ti33 rfl rfl rfl rfl rfl rfl rfl rfl rfl) ?_
          refine RW.nil ?_
          refine awp_ret ?_
          (rw [apply_unl (by rintro (h | h) <;> (try dsimp only [w64] at h) <;> omega) (by assumption) (if_pos (by assumption))]; exact ⟨Or.inr rfl, [_], ⟨.cell rfl ti33 (.whole rfl rfl rfl rfl rfl rfl) (.t _), trivial⟩, .refl _⟩)
        · try simp only [cl] at h4
          refine awp_skip ?_
          refine awp_seq ?_
          refine awp_rw rfl ?_
          refine RW.op rfl rfl (eff_load rfl rfl ti33 rfl (.whole rfl rfl rfl rfl rfl rfl)) ?_
          refine RW.store rfl rfl (eff_storeW (v := .t _) (els := [_]) (els' := [_]) rfl rfl ti33 rfl rfl rfl rfl rfl rfl rfl rfl rfl) ?_
          refine RW.nil ?_
          refine awp_ret ?_
          (rw [apply_unl (by rintro (h | h) <;> (try dsimp only [w64] at h) <;> omega) (by assumption) (if_neg (by assumption))]; exact ⟨Or.inr rfl, [_], ⟨.cell rfl ti33 (.whole rfl rfl rfl rfl rfl rfl) (.t _), trivial⟩, .refl _⟩)
      · try simp only [cl] at h3
        refine awp_seq ?_
        refine awp_rw rfl ?_
        refine faT tf33_3 ?_
        refine l1T ti4 rfl rfl rfl rfl rfl (.one rfl rfl rfl rfl) ?_
        refine asT ?_
        refine RW.nil ?_
        refine awp_cond rfl (fun h5 => ?_) (fun h5 => ?_)
        · try simp only [cl] at h5
          refine awp_skip ?_
          refine awp_seq ?_
          refine awp_rw rfl ?_
          refine RW.op rfl rfl (eff_load rfl rfl ti33 rfl (.whole rfl rfl rfl rfl rfl rfl)) ?_
          refine RW.store rfl rfl (eff_storeW (v := .t _) (els := [_]) (els' := [_]) rfl rfl ti33 rfl rfl rfl rfl rfl rfl rfl rfl rfl) ?_
          refine RW.nil ?_
          refine awp_ret ?_
          (rw [apply_lock (by rintro (h | h) <;> (try dsimp only [w64] at h) <;> omega) (by assumption) (by assumption)]; exact ⟨Or.inr rfl, [_], ⟨.cell rfl ti33 (.whole rfl rfl rfl rfl rfl rfl) (.t _), trivial⟩, .refl _⟩)
        · try simp only [cl] at h5
          refine awp_seq ?_
          refine awp_rw rfl ?_
          refine mvT ?_
          refine ioT ?_
          refine asT ?_
          refine RW.nil ?_
          refine awp_cond rfl (fun h6 => ?_) (fun h6 => ?_)
          · try simp only [cl] at h6
            refine awp_seq ?_
            refine awp_rw rfl ?_
            refine faT tf33_1 ?_
            refine l1T ti3 rfl rfl rfl rfl rfl (.one rfl rfl rfl rfl) ?_
            refine RW.op rfl rfl (eff_convIntE (m := ((h : Nat) : Int)) rfl rfl (by rw [tu3]; rfl) tu112 rfl (by show IntKind.u64.wrap ((h : Nat) : Int) = _; rw [wu64]; omega)) ?_
            refine RW.op rfl rfl (eff_unop rfl rfl rfl (xor_ones (x := h) (by omega))) ?_
            refine RW.op rfl rfl (eff_callXT (tzn_ret h hh) co69 rfl rfl rfl ⟨rfl, trivial⟩ rfl) ?_
            refine RW.op rfl rfl (eff_iop rfl rfl rfl rfl (iadd (by omega))) ?_
            refine asT ?_
            refine RW.nil ?_
            refine awp_rd [(some 57, []), (some 58, []), (some 59, []), (some 60, []), (some 61, []), (some 62, []), (some 63, []), (some 64, []), (some 65, []), (none, [2]), (some 66, []), (none, [2])] [[], [0], [], [0, 1, 2], [], [4], [], [4, 5, 6], [0, 1, 2, 3, 4, 5], [0, 1, 2, 3, 4, 5, 8], [0, 1, 2, 3, 4, 5, 6, 7, 8, 9], [0, 1, 2, 3, 4, 5, 6, 7, 8, 9, 10]] tm rfl rfl rfl rfl ?_
            refine RD.op rfl rfl rfl (eff_fieldAddr rfl rfl tf33_0 (by decide) rfl rfl rfl (Nat.le_of_ble_eq_true rfl)) ?_
            refine RD.op rfl rfl rfl (eff_load (y := .t _) rfl rfl ti3 rfl (.one rfl rfl rfl rfl)) ?_
            refine mvD ?_
            refine RD.op rfl rfl rfl (eff_iop rfl rfl rfl rfl rfl) ?_
            refine RD.op rfl rfl rfl (eff_fieldAddr rfl rfl tf33_1 (by decide) rfl rfl rfl (Nat.le_of_ble_eq_true rfl)) ?_
            refine RD.op rfl rfl rfl (eff_load (y := .t _) rfl rfl ti3 rfl (.one rfl rfl rfl rfl)) ?_
            refine mvD ?_
            refine RD.op rfl rfl rfl (eff_shrE (r := ((h / 2 ^ (1 + ones ((h : Nat) : Int)) : Nat) : Int)) rfl rfl rfl rfl (by omega) (shr_have (s := ⟨nx, ((h : Nat) : Int), ky, lk⟩) hS (ones ((h : Nat) : Int)) (by omega))) ?_
            refine RD.op rfl rfl rfl (eff_fieldAddr rfl rfl tf33_0 (by decide) rfl rfl rfl (Nat.le_of_ble_eq_true rfl)) ?_
            refine RD.store rfl rfl rfl (eff_storeS (v := .t _) (ys := [_, _, _, _]) (els := [_]) (els' := [_]) rfl rfl ti3 rfl rfl rfl rfl rfl rfl rfl (Nat.le_of_ble_eq_true rfl) rfl rfl) ?_
            refine RD.op rfl rfl rfl (eff_fieldAddr rfl rfl tf33_1 (by decide) rfl rfl rfl (Nat.le_of_ble_eq_true rfl)) ?_
            refine RD.store rfl rfl rfl (eff_storeS (v := .t _) (ys := [_, _, _, _]) (els := [_]) (els' := [_]) rfl rfl ti3 rfl rfl rfl rfl rfl rfl rfl (Nat.le_of_ble_eq_true rfl) rfl rfl) ?_
            refine RD.nil ?_
            refine awp_seq ?_
            refine awp_rw rfl ?_
            refine RW.op rfl rfl (eff_load rfl rfl ti33 rfl (.whole rfl rfl rfl rfl rfl rfl)) ?_
            refine RW.store rfl rfl (eff_storeW (v := .t _) (els := [_]) (els' := [_]) rfl rfl ti33 rfl rfl rfl rfl rfl rfl rfl rfl rfl) ?_
            refine RW.nil ?_
            refine awp_ret ?_
            (rw [apply_zero (by rintro (h | h) <;> (try dsimp only [w64] at h) <;> omega) (by assumption) (by assumption) (by assumption)]; exact ⟨Or.inr rfl, [_], ⟨.cell rfl ti33 (.whole rfl rfl rfl rfl rfl rfl) (.t _), trivial⟩, .refl _⟩)
          · try simp only [cl] at h6
            refine awp_seq ?_
            refine awp_rw rfl ?_
            refine mvT ?_
            refine ioT ?_
            refine asT ?_
            refine RW.nil ?_
            refine awp_cond rfl (fun h7 => ?_) (fun h7 => ?_)
            · try simp only [cl] at h7
              refine awp_rd [(some 70, []), (some 71, []), (some 72, []), (some 73, []), (some 74, []), (some 75, []), (some 76, []), (none, [2])] [[], [0], [], [2], [2, 3], [0, 1, 2, 3, 4], [0, 1, 2, 3, 4, 5], [0, 1, 2, 3, 4, 5, 6]] tm rfl rfl rfl rfl ?_
              have hp15 : 2 ^ (dist f ⟨nx, ((h : Nat) : Int), ky, lk⟩ - 1).toNat < 2 ^ 15 := Nat.pow_lt_pow_right (by decide) (by omega)
              refine RD.op rfl rfl rfl (eff_fieldAddr rfl rfl tf33_1 (by decide) rfl rfl rfl (Nat.le_of_ble_eq_true rfl)) ?_
              refine RD.op rfl rfl rfl (eff_load (y := .t _) rfl rfl ti3 rfl (.one rfl rfl rfl rfl)) ?_
              refine mvD ?_
              refine RD.op rfl rfl rfl (eff_iop rfl rfl rfl rfl (isub (by omega))) ?_
              refine RD.op rfl rfl rfl (eff_shlE (r := ((2 ^ (dist f ⟨nx, ((h : Nat) : Int), ky, lk⟩ - 1).toNat : Nat) : Int)) rfl rfl rfl rfl (by omega) (shl_one (by omega) (by omega))) ?_
              refine RD.op rfl rfl rfl (eff_iop (r := encI ((h ||| 2 ^ (dist f ⟨nx, ((h : Nat) : Int), ky, lk⟩ - 1).toNat : Nat) : Int)) rfl rfl rfl rfl (or_nat (by omega) (by omega))) ?_
              refine RD.op rfl rfl rfl (eff_fieldAddr rfl rfl tf33_1 (by decide) rfl rfl rfl (Nat.le_of_ble_eq_true rfl)) ?_
              refine RD.store rfl rfl rfl (eff_storeS (v := .t _) (ys := [_, _, _, _]) (els := [_]) (els' := [_]) rfl rfl ti3 rfl rfl rfl rfl rfl rfl rfl (Nat.le_of_ble_eq_true rfl) rfl rfl) ?_
              refine RD.nil ?_
              refine awp_seq ?_
              refine awp_rw rfl ?_
              refine RW.op rfl rfl (eff_load rfl rfl ti33 rfl (.whole rfl rfl rfl rfl rfl rfl)) ?_
              refine RW.store rfl rfl (eff_storeW (v := .t _) (els := [_]) (els' := [_]) rfl rfl ti33 rfl rfl rfl rfl rfl rfl rfl rfl rfl) ?_
              refine RW.nil ?_
              refine awp_ret ?_
              (rw [apply_near (by rintro (h | h) <;> (try dsimp only [w64] at h) <;> omega) (by assumption) (by assumption) (by assumption) (by assumption)]; exact ⟨Or.inr rfl, [_], ⟨.cell rfl ti33 (.whole rfl rfl rfl rfl rfl rfl) (.t _), trivial⟩, .refl _⟩)
            · try simp only [cl] at h7
              refine awp_seq ?_
              refine awp_rw rfl ?_
              refine mvT ?_
              refine ioT ?_
              refine asT ?_
              refine RW.nil ?_
              refine awp_cond rfl (fun h8 => ?_) (fun h8 => ?_)
              · try simp only [cl] at h8
                refine awp_rw rfl ?_
                refine faT tf33_3 ?_
                refine RW.store rfl rfl (eff_storeS (v := .t _) (ys := [_, _, _, _]) (els := [_]) (els' := [_]) rfl rfl ti4 rfl rfl rfl rfl rfl rfl rfl (Nat.le_of_ble_eq_true rfl) rfl rfl) ?_
                refine RW.nil ?_
                refine awp_seq ?_
                refine awp_rw rfl ?_
                refine RW.op rfl rfl (eff_load rfl rfl ti33 rfl (.whole rfl rfl rfl rfl rfl rfl)) ?_
                refine RW.store rfl rfl (eff_storeW (v := .t _) (els := [_]) (els' := [_]) rfl rfl ti33 rfl rfl rfl rfl rfl rfl rfl rfl rfl) ?_
                refine RW.nil ?_
                refine awp_ret ?_
                (rw [apply_far (by rintro (h | h) <;> (try dsimp only [w64] at h) <;> omega) (by assumption) (by assumption) (by omega) (decide_eq_true (by omega))]; exact ⟨Or.inr rfl, [_], ⟨.cell rfl ti33 (.whole rfl rfl rfl rfl rfl rfl) (.t _), trivial⟩, .refl _⟩)
              · try simp only [cl] at h8
                refine awp_skip ?_
                refine awp_seq ?_
                refine awp_rw rfl ?_
                refine RW.op rfl rfl (eff_load rfl rfl ti33 rfl (.whole rfl rfl rfl rfl rfl rfl)) ?_
                refine RW.store rfl rfl (eff_storeW (v := .t _) (els := [_]) (els' := [_]) rfl rfl ti33 rfl rfl rfl rfl rfl rfl rfl rfl rfl) ?_
                refine RW.nil ?_
                refine awp_ret ?_
                (rw [apply_far (b := lk) (by rintro (h | h) <;> (try dsimp only [w64] at h) <;> omega) (by assumption) (by assumption) (by omega) (by rw [decide_eq_false (by omega)]; exact (show lk = false by assumption).symm)]; exact ⟨Or.inr rfl, [_], ⟨.cell rfl ti33 (.whole rfl rfl rfl rfl rfl rfl) (.t _), trivial⟩, .refl _⟩)

theorem own_ret (l : List Frm) (hl : l.length ≤ 1000000) (hb : ∀ f, f ∈ l → f.body.length ≤ 1000000) : Ret Tryz.prog 23 [.sl (l.map encF) false] (.sl (l.map encF) false) := by
  refine ret_of_awp Tryz.func23 rfl (Nat.le_of_ble_eq_true rfl) ?_
  refine awp_seq ?_
  refine awp_rw rfl ?_
  refine asT ?_
  refine RW.nil ?_
  refine awp_seq ?_
  refine awp_rw rfl ?_
  refine mvT ?_
  refine RW.new rfl rfl (eff_callG (cloneF_retG l hl) co47 (fun id => id + 0) rfl rfl rfl ⟨.t _, trivial⟩ (.own _ _ _ _ rfl rfl) rfl trivial ⟨⟨treeEls_t, .inr rfl⟩, trivial⟩) ?_
  refine asO ?_
  refine RW.nil ?_
  refine awp_seq ?_
  refine awp_seq ?_
  refine awp_rw rfl ?_
  refine mvO ?_
  refine RW.op rfl rfl (eff_len rfl rfl te24 rfl rfl rfl) ?_
  refine mvT ?_
  refine RW.nil ?_
  refine awp_block ?_
  refine awp_loopW (fun m s => ∃ (i : Nat), (i ≤ l.length) ∧ m = l.length - i ∧ s = ⟨23, [(0, .own 5 1 0 l.length), (7, .own 5 1 0 l.length), (8, .t (encI l.length)), (9, .t (encI (i : Nat)))], [(5, some ⟨5, 41, 1, (l.map encF).map .t⟩)]⟩) (_) (⟨_, weak_keep (n := 23) (fr' := [(0, .own 5 1 0 l.length), (7, .own 5 1 0 l.length), (8, .t (encI l.length)), (9, .t (encI (0 : Nat)))]) (st' := [(5, some ⟨5, 41, 1, (l.map encF).map .t⟩)]) ⟨rfl, rfl, rfl, rfl, rfl, rfl, rfl, rfl, trivial⟩ ⟨rfl, okE_t, trivial⟩, 0, (by omega), rfl, rfl⟩) ?_
  rintro m s ⟨i, hi, rfl, rfl⟩
  refine awp_seq ?_
  refine awp_rw rfl ?_
  refine ioT ?_
  refine RW.nil ?_
  refine awp_seq ?_
  refine awp_cond rfl (fun h1 => ?_) (fun h1 => ?_)
  · try simp only [cl] at h1
    refine awp_skip ?_
    refine awp_seq ?_
    refine awp_block ?_
    refine awp_seq ?_
    refine awp_rw rfl ?_
    have hil : i < l.length := by omega
    have hbl := hb _ (List.getElem_mem hil)
    refine mvT ?_
    refine RW.op rfl rfl (eff_indexAddr rfl rfl te24 rfl rfl rfl rfl rfl rfl (by omega)) ?_
    refine RW.op rfl rfl (eff_load (y := .t (encF (l[i]'hil))) rfl rfl ti41 rfl (.whole rfl rfl (by rw [Nat.zero_add]; exact elF hil) rfl rfl rfl)) ?_
    refine RW.new rfl rfl (eff_allocK (k := 5) (id := 4) rfl rfl tz41 rfl rfl) ?_
    refine asT ?_
    refine RW.store rfl rfl (eff_storeW (v := .t _) (els := [_]) (els' := [_]) rfl rfl ti41 rfl rfl rfl rfl rfl rfl rfl rfl rfl) ?_
    refine RW.nil ?_
    refine awp_rw rfl ?_
    refine mvO ?_
    refine mvT ?_
    refine faT tf41_3 ?_
    refine l1T ti38 rfl rfl rfl rfl rfl (.one rfl rfl rfl rfl) ?_
    refine RW.op rfl rfl (eff_callT (cloneB_ret _ hbl) co48 rfl rfl rfl rfl) ?_
    refine RW.op rfl rfl (eff_indexAddr rfl rfl te24 rfl rfl rfl rfl rfl rfl (by omega)) ?_
    refine faT tf41_3 ?_
    refine RW.store rfl rfl (eff_storeS (v := .t _) (el := .t (encF (l[i]'hil))) (ys := [encI (l[i]'hil).seq, encI (l[i]'hil).key, .bool (l[i]'hil).unlock, .sl ((l[i]'hil).body.map encBy) false, .int .u64 (l[i]'hil).tag]) (els := (l.map encF).map .t) (els' := (l.map encF).map .t) rfl rfl ti38 rfl rfl rfl rfl rfl rfl (by rw [Nat.zero_add]; exact elF hil) (Nat.le_of_ble_eq_true rfl) rfl (by rw [Nat.zero_add]; exact setF_same hil)) ?_
    refine RW.nil ?_
    refine awp_rw rfl ?_
    refine RW.op rfl rfl (eff_iop rfl rfl rfl rfl (iadd (by omega))) ?_
    refine mvT ?_
    refine RW.nil ?_
    refine ⟨_, ?_, _, weak_keep (n := 23) (fr' := [(0, .own 5 1 0 l.length), (7, .own 5 1 0 l.length), (8, .t (encI l.length)), (9, .t (encI ((i + 1) : Nat)))]) (st' := [(5, some ⟨5, 41, 1, (l.map encF).map .t⟩)]) ⟨rfl, rfl, rfl, rfl, rfl, rfl, rfl, rfl, trivial⟩ ⟨rfl, okE_t, trivial⟩, i + 1, (by omega), rfl, rfl⟩
    omega
  · try simp only [cl] at h1
    refine awp_exit ?_
    refine awp_seq ?_
    refine awp_rw rfl ?_
    refine mvO ?_
    refine asO ?_
    refine RW.nil ?_
    refine awp_ret ?_
    exact ⟨Or.inr rfl, [_], ⟨.tmp (Res.ownM (xs := l.map encF) rfl (by simp)), trivial⟩, .refl _⟩

end Go.Tv.C37t

end
