/- Part of the proof that the laws of this seat return true for every input. No condition. -/
import Derived.Test.YtheklenmejhdoaaGreatDoorT0
import Derived.Laws.BytesString
import Derived.Laws.BytesArg
import Derived.Laws.Strings
import Derived.Laws.IdiomCopy
import Derived.Shelf.Spec.SlicesInsertGrow
import Derived.RangeFuncSeq
import Derived.OrdersIn
import Derived.RangeFuncRecord
import Derived.Maps.RangeRun
import Derived.ProofKit
import Derived.OpenShut
import Derived.Carry
set_option linter.unnecessarySimpa false
set_option linter.unusedVariables false
set_option linter.unusedSimpArgs false
section
namespace Go.Tv

variable {P : Program}
section
variable {o : Oper} {D : St}

theorem mkAgg_t (ys : List Tr) : mkAgg (ys.map .t) = .t (.agg ys) := by
  unfold mkAgg
  rw [allT_map]

theorem mkAgg_a {ys : List AV} (h : allT ys = none) : mkAgg ys = .agg ys := by
  unfold mkAgg
  rw [h]

theorem eff_buildT {t : TypeId} {parts : Array (Nat × Operand)} {zs : List Tr} {l : List (Nat × Nat)} {ys : List Tr} (hd : dstOK D.n o.dst = true) (ho : o.op = .build t parts)
    (hz : zeroOf P t = some (.agg zs)) (hl : fldsOf P t = some l)
    (hf : fillA (l[·]?) (zs.map .t) (parts.toList.map fun p => (p.1, D.ev p.2)) = some (ys.map .t)) : Eff P o D ⟨.t (.agg ys), []⟩ := by
  have := eff_build (P := P) hd ho hz hl hf
  rwa [mkAgg_t] at this

theorem eff_buildA {t : TypeId} {parts : Array (Nat × Operand)} {zs : List Tr} {l : List (Nat × Nat)} {ys : List AV} (hd : dstOK D.n o.dst = true) (ho : o.op = .build t parts)
    (hz : zeroOf P t = some (.agg zs)) (hl : fldsOf P t = some l)
    (hf : fillA (l[·]?) (zs.map .t) (parts.toList.map fun p => (p.1, D.ev p.2)) = some ys) (ha : allT ys = none) : Eff P o D ⟨.agg ys, []⟩ := by
  have := eff_build (P := P) hd ho hz hl hf
  rwa [mkAgg_a ha] at this

/-- A store of a whole element. -/
theorem eff_storeW {t : TypeId} {x y : Operand} {k k' ty id g g' i : Nat} {ag : Bool} {els els' : List AV} {el v : AV} (hd : dstOK D.n o.dst = true) (ho : o.op = .store t x y) (ht : tinf P t = some (k, ag))
    (hx : D.ev x = .ptr id g i 0) (hy : D.ev y = v) (hn : v.noTup = true) (hvk : v.cells.length = k) (hs : sget D.st id = some ⟨k', ty, g', els⟩) (hg : g' = g)
    (he : els[i]? = some el) (hk : el.cells.length = k) (hels : els.set i v = els') :
    Eff P o D ⟨.junk, [(id, ⟨k', ty, g', els'⟩)]⟩ := by
  have := eff_store (P := P) hd ho ht hx hy hn hvk hs hg he (.whole rfl hk)
  rwa [show ({ (⟨k', ty, g', els⟩ : Ob) with els := (⟨k', ty, g', els⟩ : Ob).els.set i v } : Ob) = ⟨k', ty, g', els'⟩ from by rw [← hels]] at this

/-- A store into a part of an object of one element; the result's cells are trees. -/
theorem eff_storeS {t : TypeId} {x y : Operand} {k k' ty id g g' i j : Nat} {ag : Bool} {els els' : List AV} {el v : AV} {ys : List Tr} (hd : dstOK D.n o.dst = true) (ho : o.op = .store t x y) (ht : tinf P t = some (k, ag))
    (hx : D.ev x = .ptr id g i j) (hy : D.ev y = v) (hn : v.noTup = true) (hvk : v.cells.length = k) (hs : sget D.st id = some ⟨k', ty, g', els⟩) (hg : g' = g)
    (he : els[i]? = some el) (hk : j + k ≤ el.cells.length) (hsp : splice el.cells j v.cells = ys.map .t) (hels : els.set i (.t (.agg ys)) = els') :
    Eff P o D ⟨.junk, [(id, ⟨k', ty, g', els'⟩)]⟩ := by
  have := eff_store (P := P) hd ho ht hx hy hn hvk hs hg he (.sub hk)
  rw [hsp, mkAgg_t] at this
  rwa [show ({ (⟨k', ty, g', els⟩ : Ob) with els := (⟨k', ty, g', els⟩ : Ob).els.set i (.t (.agg ys)) } : Ob) = ⟨k', ty, g', els'⟩ from by rw [← hels]] at this

theorem eff_buildSliceL {t e : TypeId} {len k id : Nat} {ag : Bool} {parts : Array (Nat × Operand)} {z : Tr} {els : List AV} (hd : dstOK D.n o.dst = true) (ho : o.op = .buildSlice t len parts)
    (ht : elemOf P t = some (e, k, ag)) (hz : zeroOf P e = some z) (hzk : z.cells.length = k) (hk0 : k ≠ 0) (hlim : len * k ≤ 16777216)
    (hf : fillA (fun i => some (i * k, k)) (zeroCellsA z (len * k)) (parts.toList.map fun p => (p.1, D.ev p.2)) = some (els.flatMap AV.cells))
    (hek : (els.all fun x => x.noTup && Nat.beq x.cells.length k) = true) (hel : els.length = len) (hid : sget D.st id = none) :
    Eff P o D ⟨.own id 0 0 len, [(id, ⟨k, e, 0, els⟩)]⟩ :=
  eff_buildSlice hd ho ht hz hzk hk0 hlim hf rfl (fun x hx => by
    have := List.all_eq_true.1 hek x hx
    simp only [Bool.and_eq_true] at this
    exact ⟨this.1, Nat.eq_of_beq_eq_true this.2⟩) hel hid
end

theorem eff_boxK {o : Oper} {D : St} {t : TypeId} {x : Operand} {v : AV} {id k : Nat} (hd : dstOK D.n o.dst = true) (ho : o.op = .box t x) (hx : D.ev x = v) (hn : v.noTup = true)
    (hid : sget D.st id = none) (hk : v.cells.length = k) : Eff P o D ⟨.ptr id 0 0 0, [(id, ⟨k, t, 0, [v]⟩)]⟩ := by
  have := eff_box (P := P) hd ho hx hn hid
  rwa [hk] at this

theorem eff_allocK {o : Oper} {D : St} {t : TypeId} {x : Tr} {id k : Nat} (hd : dstOK D.n o.dst = true) (ho : o.op = .alloc t) (hz : zeroOf P t = some x)
    (hid : sget D.st id = none) (hk : x.cells.length = k) : Eff P o D ⟨.ptr id 0 0 0, [(id, ⟨k, t, 0, [.t x]⟩)]⟩ := by
  have := eff_alloc (P := P) hd ho hz hid
  rwa [hk] at this

/-! ### The split on a condition -/

theorem Weak.ext {s s' : St} (hn : s'.n = s.n) (hf : ∀ t, fget s'.fr t = fget s.fr t) (hs : ∀ id, sget s'.st id = sget s.st id) : Weak s s' := fun _ β _ _ hr =>
  ⟨β, hr.ext hn hf hs, fun _ ⟨id, ob, h, hb⟩ => ⟨id, ob, (hs id).symm.trans h, hb⟩⟩

theorem fget_again {fr : Fra} {d : Tmp} {v : AV} (h : fget fr d = v) (t : Tmp) : fget ((d, v) :: fr) t = fget fr t := by
  rw [show (d, v) :: fr = fput fr d v from rfl, fget_fput]
  split
  · rename_i e; rw [e, h]
  · rfl

theorem RW.split {all l : List Oper} {n : Nat} {fr : Fra} {st : Sto} {K : St → Prop} (d : Tmp) {b : Bool} (hb : fget fr d = .t (.bool b))
    (ht : b = true → RW P all l ⟨n, (d, .t (.bool true)) :: fr, st⟩ K) (hf : b = false → RW P all l ⟨n, (d, .t (.bool false)) :: fr, st⟩ K) : RW P all l ⟨n, fr, st⟩ K := by
  cases b with
  | true => exact RW.weak (s' := ⟨n, (d, .t (.bool true)) :: fr, st⟩) (Weak.ext rfl (fget_again hb) fun _ => rfl) rfl (ht rfl)
  | false => exact RW.weak (s' := ⟨n, (d, .t (.bool false)) :: fr, st⟩) (Weak.ext rfl (fget_again hb) fun _ => rfl) rfl (hf rfl)

/-! ### Conditions that are told as a whole -/

def isJunk : AV → Bool
  | .junk => true
  | _ => false

/-- What a piece of code adds to the frame may be forgotten, but for one slot. -/
theorem weak_news {n : Nat} {fr news : Fra} {st : Sto} {d : Tmp} {v : AV} (hd : fget (news ++ fr) d = v) (hn : (news.all fun x => Nat.beq x.1 d || isJunk (fget fr x.1)) = true) :
    Weak ⟨n, news ++ fr, st⟩ ⟨n, (d, v) :: fr, st⟩ := by
  intro F β a w hr
  refine ⟨β, ⟨hr.defers, hr.size, fun i => ?_, hr.ob, hr.inj, hr.notF, hr.ltF⟩, fun _ h => h⟩
  show VA w (G F β st) β st (fget ((d, v) :: fr) i) _
  rw [show (d, v) :: fr = fput fr d v from rfl, fget_fput]
  by_cases e : i = d
  · rw [if_pos e, ← hd, e]; exact hr.fr d
  · rw [if_neg e]
    have key : ∀ (l : Fra), (l.all fun x => Nat.beq x.1 d || isJunk (fget fr x.1)) = true → fget (l ++ fr) i = fget fr i ∨ fget fr i = .junk := by
      intro l
      induction l with
      | nil => exact fun _ => .inl rfl
      | cons x l ih =>
        intro hl
        simp only [List.all_cons, Bool.and_eq_true] at hl
        rw [List.cons_append, show x :: (l ++ fr) = fput (l ++ fr) x.1 x.2 from rfl, fget_fput]
        by_cases e2 : i = x.1
        · rw [if_pos e2]
          have h1 := hl.1
          simp only [Bool.or_eq_true] at h1
          rcases h1 with h1 | h1
          · exact absurd (e2.trans (Nat.eq_of_beq_eq_true h1)) e
          · refine .inr ?_
            rw [e2]
            generalize fget fr x.1 = y at h1
            cases y <;> first | rfl | simp [isJunk] at h1
        · rw [if_neg e2]; exact ih hl.2
    rcases key news hn with h | h
    · rw [← h]; exact hr.fr i
    · rw [h]; exact .junk _

/-- The end of such a region. -/
theorem RW.bool {all : List Oper} {n : Nat} {fr news fr1 : Fra} {st : Sto} {d : Tmp} {b : Bool} (hfr : news ++ fr = fr1) (hd : fget fr1 d = .t (.bool b)) (hn : (news.all fun x => Nat.beq x.1 d || isJunk (fget fr x.1)) = true) :
    RW P all [] ⟨n, fr1, st⟩ (fun s' => s' = ⟨n, (d, .t (.bool b)) :: fr, st⟩) := by
  subst hfr
  exact ⟨_, weak_news hd hn, rfl⟩

end Go.Tv

end
section
namespace Go.Tv

variable {P : Program}

structure Mem (F : Nat → Prop) (β : Nat → Option Nat) (σ : Sto) (w : World) : Prop where
  ob : ∀ id ob, sget σ id = some ob → ObOK w (G F β σ) β σ id ob
  inj : ∀ i j oi oj b, sget σ i = some oi → sget σ j = some oj → β i = some b → β j = some b → i = j
  notF : ∀ i oi b, sget σ i = some oi → β i = some b → ¬ F b
  ltF : ∀ b, F b → b < w.heap.size

theorem Rel.mem {F : Nat → Prop} {β : Nat → Option Nat} {s : St} {a : Act} {w : World} (h : Rel F β s a w) : Mem F β s.st w := ⟨h.ob, h.inj, h.notF, h.ltF⟩

/-- f, called with the arguments xs over the objects σ0, returns r over the objects σ1. -/
def RetG (P : Program) (f : FuncId) (σ0 : Sto) (xs : List AV) (σ1 : Sto) (r : AV) : Prop :=
  ∀ (F : Nat → Prop) (β : Nat → Option Nat) (w : World) (vals : List Value), Mem F β σ0 w → vals.length = xs.length →
    (∀ (i : Nat) (x : AV) (v : Value), xs[i]? = some x → vals[i]? = some v → VA w (G F β σ0) β σ0 x v) →
    Calls P f vals.toArray w (fun e w' => ∃ v β', e = .returned v ∧ VA w' (G F β' σ1) β' σ1 r v ∧ Mem F β' σ1 w' ∧ Evo σ0 β w σ1 β' w')

def initFrA : Nat → List AV → Fra
  | _, [] => []
  | i, x :: l => (i, x) :: initFrA (i + 1) l

theorem initFrA_get : ∀ (l : List AV) (i j : Nat), fget (initFrA i l) j = if i ≤ j then (match l[j - i]? with | some x => x | none => .junk) else .junk
  | [], i, j => by simp [initFrA, fget]
  | x :: l, i, j => by
    have := fget_fput (initFrA (i + 1) l) i j x
    rw [show fput (initFrA (i + 1) l) i x = initFrA i (x :: l) from rfl] at this
    rw [this, initFrA_get l]
    by_cases h : j = i
    · subst h; simp
    · rw [if_neg h]
      by_cases h2 : i ≤ j
      · rw [if_pos (by omega), if_pos h2, show j - i = (j - (i + 1)) + 1 from by omega, List.getElem?_cons_succ]
      · rw [if_neg (by omega), if_neg h2]

inductive RVarA (P : Program) (s : St) : ResultVar → AV → Prop
  | tmp {t : Tmp} {x : AV} (h : s.ev (.tmp t) = x) : RVarA P s (.tmp t) x
  | cell {t : Tmp} {ty : TypeId} {id g i j k : Nat} {agg : Bool} {y : AV} (hp : s.ev (.tmp t) = .ptr id g i j) (ht : tinf P ty = some (k, agg))
      (hl : LoadA s.st id g i j k agg y) : RVarA P s (.cell t ty) y

def RVarsA (P : Program) (s : St) : List ResultVar → List AV → Prop
  | [], [] => True
  | r :: rs, x :: xs => RVarA P s r x ∧ RVarsA P s rs xs
  | _, _ => False

theorem RVarA.run {F : Nat → Prop} {β : Nat → Option Nat} {s : St} {a : Act} {w : World} (h : Rel F β s a w) {r : ResultVar} {x : AV} (hr : RVarA P s r x) :
    ∃ v, (resOf a.tmps r).run P w = .ok v w ∧ VA w (G F β s.st) β s.st x v := by
  cases hr with
  | @tmp t x h' => exact ⟨_, rfl, h' ▸ h.ev (.tmp t)⟩
  | @cell t ty id g i j k agg y hp ht hl =>
    have hv := h.ev (.tmp t)
    rw [hp] at hv
    obtain ⟨ad, u, hpt, hrun, hva⟩ := h.load ht hl hv
    have hpt : a.tmps.getD t undef = .pointer (some ad) := hpt
    refine ⟨u, ?_, hva⟩
    simp only [resOf, hpt, asAddr, Sem.run_bind, Sem.run_pure, Result.andThen_ok, hrun]

theorem RVarsA.run {F : Nat → Prop} {β : Nat → Option Nat} {s : St} {a : Act} {w : World} (h : Rel F β s a w) : ∀ (rs : List ResultVar) (xs : List AV), RVarsA P s rs xs →
    ∃ vs, (rs.mapM (resOf a.tmps)).run P w = .ok vs w ∧ vs.length = xs.length ∧ ∀ (i : Nat) (x : AV) (v : Value), xs[i]? = some x → vs[i]? = some v → VA w (G F β s.st) β s.st x v
  | [], [], _ => ⟨[], rfl, rfl, fun i x v hx => by simp at hx⟩
  | r :: rs, x :: xs, ⟨h1, h2⟩ => by
    obtain ⟨v, hv, hV⟩ := h1.run h
    obtain ⟨vs, hvs, hl, hV'⟩ := RVarsA.run h rs xs h2
    refine ⟨v :: vs, ?_, by simp [hl], fun i y u hy hu => ?_⟩
    · rw [List.mapM_cons]
      simp only [Sem.run_bind, hv, hvs, Result.andThen_ok, Sem.run_pure]
    · cases i with
      | zero => simp at hy hu; subst hy; subst hu; exact hV
      | succ i => exact hV' i y u (by simpa using hy) (by simpa using hu)
  | [], _ :: _, h => h.elim
  | _ :: _, [], h => h.elim

def packA : List AV → AV
  | [x] => x
  | xs => .tup xs

theorem lt_get {α : Type} {l : List α} {i : Nat} {x : α} (h : l[i]? = some x) : i < l.length := by
  rcases Nat.lt_or_ge i l.length with h' | h'
  · exact h'
  · rw [List.getElem?_eq_none h'] at h; cases h

theorem retG_of_awp {f : FuncId} {fn : Func} {c : Code} {σ0 σ1 : Sto} {xs : List AV} {r : AV} (hf : P.funcs[f]? = some fn) (hb : fn.body = some c)
    (hn : xs.length ≤ fn.ntmps)
    (h : AWP P c ⟨fn.ntmps, initFrA 0 xs, σ0⟩ (fun e s => (e = .normal ∨ e = .ret) ∧ ∃ rs rs', RVarsA P s fn.results.toList rs ∧ rs'.length = rs.length ∧
      Weak ⟨rs.length, initFrA 0 rs, s.st⟩ ⟨rs.length, initFrA 0 rs', σ1⟩ ∧ packA rs' = r)) : RetG P f σ0 xs σ1 r := by
  intro F β w vals hm hl hV
  refine calls_of_wp hf hb ?_
  have h0 : Rel F β ⟨fn.ntmps, initFrA 0 xs, σ0⟩ { tmps := vals.toArray ++ Array.replicate (fn.ntmps - vals.toArray.size) undef, defers := [] } w := by
    refine ⟨rfl, by simp; omega, fun i => ?_, hm.ob, hm.inj, hm.notF, hm.ltF⟩
    show VA w _ _ _ (fget (initFrA 0 xs) i) _
    rw [initFrA_get, if_pos (Nat.zero_le _), Nat.sub_zero]
    cases hx : xs[i]? with
    | none => exact .junk _
    | some x =>
      have hi : i < vals.length := by rw [hl]; exact lt_get hx
      have hg : (vals.toArray ++ Array.replicate (fn.ntmps - vals.toArray.size) undef).getD i undef = vals[i] := by
        simp [hi, Array.getElem?_append]
      rw [vAt_lt (by simp; omega), hg]
      exact hV i x vals[i] hx (List.getElem?_eq_getElem hi)
  refine wp_mono (h F _ _ w h0) ?_
  rintro e a' w' ⟨s', β', ⟨he, rs, rs', hrs, hlen, hweak, hpk⟩, hr', hev⟩
  obtain ⟨vs, hvs, hvl, hvV⟩ := RVarsA.run hr' _ _ hrs
  have hrel1 : Rel F β' ⟨rs.length, initFrA 0 rs, s'.st⟩ { tmps := vs.toArray, defers := [] } w' := by
    refine ⟨rfl, by simp [hvl], fun i => ?_, hr'.ob, hr'.inj, hr'.notF, hr'.ltF⟩
    show VA w' _ _ _ (fget (initFrA 0 rs) i) _
    rw [initFrA_get, if_pos (Nat.zero_le _), Nat.sub_zero]
    cases hx : rs[i]? with
    | none => exact .junk _
    | some x =>
      have hi : i < vs.length := by rw [hvl]; exact lt_get hx
      rw [vAt_lt (by simpa using hi), show (vs.toArray).getD i undef = vs[i] from by simp [hi]]
      exact hvV i x vs[i] hx (List.getElem?_eq_getElem hi)
  obtain ⟨β2, hrel2, hown⟩ := hweak F β' _ w' hrel1
  have hget : ∀ (i : Nat) (x : AV) (v : Value), rs'[i]? = some x → vs[i]? = some v → VA w' (G F β2 σ1) β2 σ1 x v := by
    intro i x v hx hv
    have := hrel2.fr i
    rw [show fget (St.mk rs.length (initFrA 0 rs') σ1).fr i = fget (initFrA 0 rs') i from rfl, initFrA_get, if_pos (Nat.zero_le _), Nat.sub_zero, hx] at this
    rw [vAt_lt (by simpa using lt_get hv), show (vs.toArray).getD i undef = v from by
      have hi := lt_get hv
      rw [List.getElem?_eq_getElem hi] at hv
      cases hv
      simp [hi]] at this
    exact this
  have hres : ∃ v, (results fn a'.tmps).run P w' = .ok v w' ∧ VA w' (G F β2 σ1) β2 σ1 r v := by
    have hmm : (fn.results.mapM (resOf a'.tmps)).run P w' = .ok vs.toArray w' := by
      rw [Array.mapM_eq_mapM_toList, Sem.run_map, hvs]; rfl
    refine ⟨if h : vs.toArray.size = 1 then vs.toArray[0] else .tuple vs.toArray, ?_, ?_⟩
    · rw [results_eq, Sem.run_bind, hmm]; rfl
    · rw [← hpk]
      have hl2 : vs.length = rs'.length := by omega
      match rs', vs, hl2, hget with
      | [x], [v], _, hget => exact hget 0 x v rfl rfl
      | [], [], _, hget => exact .tup rfl hget
      | x :: y :: l, u :: v :: m, hl2, hget => exact .tup hl2 hget
  have hev2 : Evo σ0 β w σ1 β2 w' := ⟨hev.os, hev.tape, hev.output, hev.size, hev.keep, fun b hb => hev.own b (hown b hb), hev.shp⟩
  obtain ⟨v, hv, hV'⟩ := hres
  rcases he with rfl | rfl
  · exact ⟨hr'.defers, v, hv, v, β2, rfl, hV', hrel2.mem, hev2⟩
  · exact ⟨hr'.defers, v, hv, v, β2, rfl, hV', hrel2.mem, hev2⟩

/-- A contract that yields new objects, taken as one that yields a tree. -/
theorem ret_of_retG {f : FuncId} {xs : List Tr} {σ1 : Sto} {r : AV} {x y : Tr} (h : RetG P f [] (xs.map .t) σ1 r) (hr : Res σ1 r x) (hw : Wk x y) : Ret P f xs y := by
  intro F w vals hlt ⟨hl, hV⟩
  have hno : ∀ b, ¬ Owned (fun _ => none) [] b := fun b ⟨id, ob, ho, _⟩ => by simp [sget] at ho
  refine Calls.mono (h F (fun _ => none) w vals ⟨fun id ob ho => by simp [sget] at ho, fun i j oi oj b ho => by simp [sget] at ho, fun i oi b ho => by simp [sget] at ho, hlt⟩ (by simpa using hl) (fun i x v hx hv => ?_)) ?_
  · rw [List.getElem?_map, Option.map_eq_some_iff] at hx
    obtain ⟨t, ht, rfl⟩ := hx
    exact .t (V.mono (w := w) (w' := w) (Nat.le_refl _) (fun b _ hn => ⟨fun hG => hG.elim hn (hno b), rfl⟩) (hV i t v ht hv))
  · rintro e w' ⟨v, β', rfl, hva, hm, hev⟩
    refine ⟨v, rfl, hw.v ((hr.v' (F := F) hm.ob (fun _ _ h => h) (fun b hb => .inl hb) (fun i oi b hi hb => hm.notF i oi b hi hb)).1 v hva), ?_⟩
    exact ⟨⟨hev.os, hev.tape.1, hev.output, hev.size, fun b hb => hev.keep b hb (hno b)⟩, hev.tape.2⟩

/-! ### Names of objects -/

inductive RenA (σ : Sto) (ren : Nat → Nat) : AV → AV → Prop
  | t (x : Tr) : RenA σ ren (.t x) (.t x)
  | own (id g off len : Nat) {n : Nat} (h : (sget σ id).isSome = true) (hn : ren id = n) : RenA σ ren (.own id g off len) (.own n g off len)
  | ptr (id g i j : Nat) {n : Nat} (h : (sget σ id).isSome = true) (hn : ren id = n) : RenA σ ren (.ptr id g i j) (.ptr n g i j)
  | agg (cs ds : List AV) (hl : cs.length = ds.length) (h : ∀ (i : Nat) c d, cs[i]? = some c → ds[i]? = some d → RenA σ ren c d) : RenA σ ren (.agg cs) (.agg ds)
  | tup (cs ds : List AV) (hl : cs.length = ds.length) (h : ∀ (i : Nat) c d, cs[i]? = some c → ds[i]? = some d → RenA σ ren c d) : RenA σ ren (.tup cs) (.tup ds)
  | fn (f : FuncId) (cs ds : List AV) (hl : cs.length = ds.length) (h : ∀ (i : Nat) c d, cs[i]? = some c → ds[i]? = some d → RenA σ ren c d) : RenA σ ren (.fn f cs) (.fn f ds)

theorem RenA.one {σ : Sto} {ren : Nat → Nat} {x y : AV} (h : RenA σ ren x y) : x.one = y.one := by cases h <;> rfl

theorem V.same {w : World} {H H' : Nat → Prop} (hH : ∀ b, H' b → H b) {x : Tr} {v : Value} (h : V w H x v) : V w H' x v :=
  V.mono (w := w) (w' := w) (Nat.le_refl _) (fun b _ hn => ⟨fun h => hn (hH b h), rfl⟩) h

theorem RenA.to {σ : Sto} {ren : Nat → Nat} {x y : AV} (h : RenA σ ren x y) {w : World} {H H' : Nat → Prop} {β β' : Nat → Option Nat} {σ' : Sto} (hH : ∀ b, H' b → H b)
    (hs : ∀ id ob, sget σ id = some ob → sget σ' (ren id) = some ob ∧ β' (ren id) = β id) : ∀ {v : Value}, VA w H β σ x v → VA w H' β' σ' y v := by
  induction h with
  | t x => intro v hv; cases hv with | t hv => exact .t (hv.same hH)
  | own id g off len h hn =>
    subst hn
    intro v hv
    cases hv with
    | own g1 g2 g3 g4 g5 g6 g7 => exact .own (hs _ _ g1).1 g2 ((hs _ _ g1).2.trans g3) g4 g5 g6 g7
    | ownNil g1 g2 g3 g4 => exact .ownNil (hs _ _ g1).1 g2 ((hs _ _ g1).2.trans g3) g4
    | ownZ g1 g2 g3 g4 g5 => exact .ownZ (hs _ _ g1).1 g2 ((hs _ _ g1).2.trans g3) g4 g5
    | ownE g1 g2 g3 g4 => exact .ownE (hs _ _ g1).1 g2 ((hs _ _ g1).2.trans g3) g4
    | stale g1 g2 g3 => exact .stale (hs _ _ g1).1 g2 g3
  | ptr id g i j h hn =>
    subst hn
    intro v hv
    cases hv with
    | ptr g1 g2 g3 g4 g5 => exact .ptr (hs _ _ g1).1 g2 ((hs _ _ g1).2.trans g3) g4 g5
    | stalep g1 g2 g3 => exact .stalep (hs _ _ g1).1 g2 g3
  | agg cs ds hl hcd ih =>
    intro v hv
    cases hv with
    | @agg _ vs hl' h1 hva =>
      refine .agg (by omega) (fun j d hd => ?_) (fun j d u hd hu => ?_)
      · have hc : cs[j]? = some (cs[j]'(by rw [hl]; exact lt_get hd)) := List.getElem?_eq_getElem _
        rw [← (hcd j _ d hc hd).one]; exact h1 j _ hc
      · have hc : cs[j]? = some (cs[j]'(by rw [hl]; exact lt_get hd)) := List.getElem?_eq_getElem _
        exact ih j _ d hc hd (hva j _ u hc hu)
  | tup cs ds hl hcd ih =>
    intro v hv
    cases hv with
    | @tup _ vs hl' hva =>
      refine .tup (by omega) (fun j d u hd hu => ?_)
      have hc : cs[j]? = some (cs[j]'(by rw [hl]; exact lt_get hd)) := List.getElem?_eq_getElem _
      exact ih j _ d hc hd (hva j _ u hc hu)
  | fn f cs ds hl hcd ih =>
    intro v hv
    cases hv with
    | @fn _ _ vs hl' hva =>
      refine .fn (by omega) (fun j d u hd hu => ?_)
      have hc : cs[j]? = some (cs[j]'(by rw [hl]; exact lt_get hd)) := List.getElem?_eq_getElem _
      exact ih j _ d hc hd (hva j _ u hc hu)

theorem RenA.of {σ : Sto} {ren : Nat → Nat} {x y : AV} (h : RenA σ ren x y) {w : World} {H H' : Nat → Prop} {β β' : Nat → Option Nat} {σ' : Sto} (hH : ∀ b, H b → H' b)
    (hs : ∀ id ob, sget σ id = some ob → sget σ' (ren id) = some ob ∧ β' (ren id) = β id) : ∀ {v : Value}, VA w H' β' σ' y v → VA w H β σ x v := by
  induction h with
  | t x => intro v hv; cases hv with | t hv => exact .t (hv.same hH)
  | own id g off len h hn =>
    subst hn
    obtain ⟨ob, ho⟩ := Option.isSome_iff_exists.1 h
    obtain ⟨h1, h2⟩ := hs _ _ ho
    intro v hv
    cases hv with
    | own g1 g2 g3 g4 g5 g6 g7 => rw [h1] at g1; cases g1; exact .own ho g2 (h2.symm.trans g3) g4 g5 g6 g7
    | ownNil g1 g2 g3 g4 => rw [h1] at g1; cases g1; exact .ownNil ho g2 (h2.symm.trans g3) g4
    | ownZ g1 g2 g3 g4 g5 => rw [h1] at g1; cases g1; exact .ownZ ho g2 (h2.symm.trans g3) g4 g5
    | ownE g1 g2 g3 g4 => rw [h1] at g1; cases g1; exact .ownE ho g2 (h2.symm.trans g3) g4
    | stale g1 g2 g3 => rw [h1] at g1; cases g1; exact .stale ho g2 g3
  | ptr id g i j h hn =>
    subst hn
    obtain ⟨ob, ho⟩ := Option.isSome_iff_exists.1 h
    obtain ⟨h1, h2⟩ := hs _ _ ho
    intro v hv
    cases hv with
    | ptr g1 g2 g3 g4 g5 => rw [h1] at g1; cases g1; exact .ptr ho g2 (h2.symm.trans g3) g4 g5
    | stalep g1 g2 g3 => rw [h1] at g1; cases g1; exact .stalep ho g2 g3
  | agg cs ds hl hcd ih =>
    intro v hv
    cases hv with
    | @agg _ vs hl' h1 hva =>
      refine .agg (by omega) (fun j d hd => ?_) (fun j d u hd hu => ?_)
      · have hc : ds[j]? = some (ds[j]'(by rw [← hl]; exact lt_get hd)) := List.getElem?_eq_getElem _
        rw [(hcd j d _ hd hc).one]; exact h1 j _ hc
      · have hc : ds[j]? = some (ds[j]'(by rw [← hl]; exact lt_get hd)) := List.getElem?_eq_getElem _
        exact ih j d _ hd hc (hva j _ u hc hu)
  | tup cs ds hl hcd ih =>
    intro v hv
    cases hv with
    | @tup _ vs hl' hva =>
      refine .tup (by omega) (fun j d u hd hu => ?_)
      have hc : ds[j]? = some (ds[j]'(by rw [← hl]; exact lt_get hd)) := List.getElem?_eq_getElem _
      exact ih j d _ hd hc (hva j _ u hc hu)
  | fn f cs ds hl hcd ih =>
    intro v hv
    cases hv with
    | @fn _ _ vs hl' hva =>
      refine .fn (by omega) (fun j d u hd hu => ?_)
      have hc : ds[j]? = some (ds[j]'(by rw [← hl]; exact lt_get hd)) := List.getElem?_eq_getElem _
      exact ih j d _ hd hc (hva j _ u hc hu)

/-! ### The objects that a call yields, in the caller's names -/

def upsOf (ren : Nat → Nat) : Sto → List (Nat × Ob)
  | [] => []
  | (id, some ob) :: l => (ren id, ob) :: upsOf ren l
  | (_, none) :: l => upsOf ren l

def keysOK (ren : Nat → Nat) : Sto → Bool
  | [] => true
  | x :: l => x.2.isSome && (l.all fun y => !(Nat.beq (ren x.1) (ren y.1))) && keysOK ren l

theorem keys_head {ren : Nat → Nat} {x : Nat × Option Ob} {l : Sto} (h : keysOK ren (x :: l) = true) : x.2.isSome = true ∧ (∀ y, y ∈ l → ren x.1 ≠ ren y.1) ∧ keysOK ren l = true := by
  simp only [keysOK, Bool.and_eq_true] at h
  refine ⟨h.1.1, fun y hy e => ?_, h.2⟩
  have := List.all_eq_true.1 h.1.2 y hy
  rw [e] at this
  simp at this

theorem sget_mem : ∀ {σ : Sto} {id : Nat} {ob : Ob}, sget σ id = some ob → (id, some ob) ∈ σ
  | [], id, ob, h => by simp [sget] at h
  | x :: l, id, ob, h => by
    rw [show x :: l = sput l x.1 x.2 from rfl, sget_sput] at h
    split at h
    · rename_i e
      rw [show (id, some ob) = x from by rw [e, ← h]]
      exact List.mem_cons_self
    · exact List.mem_cons_of_mem _ (sget_mem h)

theorem keys_inj {ren : Nat → Nat} : ∀ {σ : Sto}, keysOK ren σ = true → ∀ x y, x ∈ σ → y ∈ σ → ren x.1 = ren y.1 → x = y
  | [], _, x, y, hx, _, _ => by simp at hx
  | z :: l, h, x, y, hx, hy, e => by
    obtain ⟨_, h2, h3⟩ := keys_head h
    simp only [List.mem_cons] at hx hy
    rcases hx with rfl | hx <;> rcases hy with rfl | hy
    · rfl
    · exact absurd e (h2 y hy)
    · exact absurd e.symm (h2 x hx)
    · exact keys_inj h3 x y hx hy e

theorem upAll_ups {ren : Nat → Nat} : ∀ {σ1 : Sto}, keysOK ren σ1 = true → ∀ (σ : Sto) (n : Nat),
    (∀ id ob, (id, some ob) ∈ σ1 → ren id = n → sget (upAll σ (upsOf ren σ1)) n = some ob) ∧ ((∀ x, x ∈ σ1 → ren x.1 ≠ n) → sget (upAll σ (upsOf ren σ1)) n = sget σ n)
  | [], _, σ, n => ⟨fun id ob h => by simp at h, fun _ => rfl⟩
  | (id0, none) :: l, h, σ, n => by
    have := (keys_head h).1
    simp at this
  | (id0, some ob0) :: l, h, σ, n => by
    obtain ⟨_, h2, h3⟩ := keys_head h
    obtain ⟨k1, k2⟩ := upAll_ups h3 (sput σ (ren id0) (some ob0)) n
    refine ⟨fun id ob hm e => ?_, fun hne => ?_⟩
    · simp only [List.mem_cons] at hm
      rcases hm with hm | hm
      · cases hm
        show sget (upAll (sput σ (ren _) (some _)) (upsOf ren l)) n = some _
        rw [k2 (fun x hx e2 => h2 x hx (e.trans e2.symm)), e]
        exact sget_sput_same _ _ _
      · exact k1 id ob hm e
    · show sget (upAll (sput σ (ren id0) (some ob0)) (upsOf ren l)) n = sget σ n
      rw [k2 (fun x hx => hne x (List.mem_cons_of_mem _ hx)), sget_sput_ne]
      exact fun e => hne _ List.mem_cons_self e.symm

def treeEls (ob : Ob) : Prop := ∀ x, x ∈ ob.els → ∃ t, x = .t t

theorem treeEls_t {xs : List Tr} {k g : Nat} {ty : TypeId} : treeEls ⟨k, ty, g, xs.map .t⟩ := fun x hx => by
  simp only [List.mem_map] at hx
  obtain ⟨t, _, rfl⟩ := hx
  exact ⟨t, rfl⟩

/-- Objects: all of them satisfy p. -/
def AllS (p : Nat → Ob → Prop) : Sto → Prop
  | [] => True
  | (id, some ob) :: l => p id ob ∧ AllS p l
  | (_, none) :: l => AllS p l

theorem AllS.get {p : Nat → Ob → Prop} : ∀ {σ : Sto}, AllS p σ → ∀ id ob, sget σ id = some ob → p id ob
  | [], _, id, ob, h => by simp [sget] at h
  | (n, none) :: l, h, id, ob, hs => by
    rw [show (n, none) :: l = sput l n none from rfl, sget_sput] at hs
    split at hs
    · cases hs
    · exact AllS.get (σ := l) h id ob hs
  | (n, some o) :: l, h, id, ob, hs => by
    rw [show (n, some o) :: l = sput l n (some o) from rfl, sget_sput] at hs
    split at hs
    · rename_i e; cases hs; subst e; exact h.1
    · exact AllS.get (σ := l) h.2 id ob hs

def RenL (σ : Sto) (ren : Nat → Nat) : List AV → List AV → Prop
  | [], [] => True
  | x :: xs, y :: ys => RenA σ ren x y ∧ RenL σ ren xs ys
  | _, _ => False

theorem RenL.len {σ : Sto} {ren : Nat → Nat} : ∀ (xs ys : List AV), RenL σ ren xs ys → xs.length = ys.length
  | [], [], _ => rfl
  | _ :: xs, _ :: ys, h => by simp [RenL.len xs ys h.2]
  | [], _ :: _, h => h.elim
  | _ :: _, [], h => h.elim

theorem RenL.get {σ : Sto} {ren : Nat → Nat} : ∀ (xs ys : List AV), RenL σ ren xs ys → ∀ (i : Nat) x y, xs[i]? = some x → ys[i]? = some y → RenA σ ren x y
  | [], [], _, i, x, y, h, _ => by simp at h
  | a :: xs, b :: ys, h, i, x, y, hx, hy => by
    cases i with
    | zero => simp at hx hy; subst hx; subst hy; exact h.1
    | succ i => exact RenL.get xs ys h.2 i x y (by simpa using hx) (by simpa using hy)
  | [], _ :: _, h, _, _, _, _, _ => h.elim
  | _ :: _, [], h, _, _, _, _, _ => h.elim

end Go.Tv

end
section
namespace Go.Tv

variable {P : Program} {o : Oper} {D : St}

theorem G_eq_mono {w : World} {H H' : Nat → Prop} {β β' : Nat → Option Nat} {σ σ' : Sto} {id n : Nat} {ob : Ob} (ht : treeEls ob) (hH : ∀ b, H' b → H b) (hb : β' n = β id) (h : ObOK w H β σ id ob) : ObOK w H' β' σ' n ob := by
  rcases h with ⟨h1, h2⟩ | ⟨b, c, h1, h2, h3, h4, h5⟩
  · exact .inl ⟨hb.trans h1, h2⟩
  · refine .inr ⟨b, c, hb.trans h1, h2, h3, h4, fun i x j y hx hy => ?_⟩
    obtain ⟨g1, u, hu, hva⟩ := h5 i x j y hx hy
    refine ⟨g1, u, hu, ?_⟩
    obtain ⟨t, rfl⟩ := ht x (List.mem_of_getElem? hx)
    simp only [AV.cells, List.getElem?_map, Option.map_eq_some_iff] at hy
    obtain ⟨y', _, rfl⟩ := hy
    cases hva with
    | t hva => exact .t (hva.same hH)

theorem eff_callG {f : FuncId} {x : Operand} {args : Array Operand} {ats : Array TypeId} {σ0 σ1 : Sto} {xs : List AV} {r r' : AV} (hret : RetG P f σ0 xs σ1 r) (hf : callOK P f = true) (ren : Nat → Nat)
    (hd : dstOK D.n o.dst = true) (ho : o.op = .call { callee := .value x, args := args, argTypes := ats }) (hx : D.ev x = .t (.fn f []))
    (hargs : RenL σ0 ren xs (args.toList.map D.ev)) (hr' : RenA σ1 ren r r') (hkeys : keysOK ren σ1 = true)
    (h0 : AllS (fun id ob => sget D.st (ren id) = some ob ∧ treeEls ob ∧ ∃ ob1, sget σ1 id = some ob1 ∧ ob.gen < ob1.gen) σ0)
    (h1 : AllS (fun id ob => treeEls ob ∧ ((sget σ0 id).isSome = true ∨ (sget D.st (ren id)).isNone = true)) σ1) :
    Eff P o D ⟨r', upsOf ren σ1⟩ := by
  intro s hs hfresh F β a w hrel next Q hnext
  have hsd := hs.st
  -- the objects that are lent
  have k0 : ∀ id ob, sget σ0 id = some ob → sget s.st (ren id) = some ob ∧ treeEls ob ∧ ∃ ob1, sget σ1 id = some ob1 ∧ ob.gen < ob1.gen := fun id ob h => by
    obtain ⟨q1, q2, q3⟩ := h0.get id ob h
    exact ⟨hsd _ _ q1, q2, q3⟩
  have memUps : ∀ (σ : Sto) id ob, (id, some ob) ∈ σ → (ren id, ob) ∈ upsOf ren σ := by
    intro σ
    induction σ with
    | nil => intro id ob h; simp at h
    | cons y l ih =>
      intro id ob h
      obtain ⟨i, q⟩ := y
      simp only [List.mem_cons] at h
      rcases h with h | h
      · cases h; exact List.mem_cons_self
      · cases q with
        | none => exact ih id ob h
        | some q => exact List.mem_cons_of_mem _ (ih id ob h)
  have k1 : ∀ id ob, sget σ1 id = some ob → treeEls ob ∧ ((∃ ob0, sget σ0 id = some ob0) ∨ sget s.st (ren id) = none) := fun id ob h => by
    obtain ⟨q1, q2⟩ := h1.get id ob h
    refine ⟨q1, q2.imp (fun h => Option.isSome_iff_exists.1 h) (fun h2 => ?_)⟩
    exact hfresh (ren id) ob (memUps _ _ _ (sget_mem h)) (Option.isNone_iff_eq_none.1 h2)
  have inj1 : ∀ i j oi oj, sget σ1 i = some oi → sget σ1 j = some oj → ren i = ren j → i = j := fun i j oi oj hi hj e => by
    have := keys_inj hkeys _ _ (sget_mem hi) (sget_mem hj) e
    exact congrArg Prod.fst this
  -- the callee's view
  let lent : Nat → Prop := fun n => ∃ id ob, sget σ0 id = some ob ∧ ren id = n
  let Fc : Nat → Prop := fun b => F b ∨ ∃ n ob, sget s.st n = some ob ∧ β n = some b ∧ ¬ lent n
  let β0 : Nat → Option Nat := fun id => β (ren id)
  have hG0 : ∀ b, G Fc β0 σ0 b ↔ G F β s.st b := by
    intro b
    constructor
    · rintro ((h | ⟨n, ob, hn, hb, _⟩) | ⟨id, ob, hid, hb⟩)
      · exact .inl h
      · exact .inr ⟨n, ob, hn, hb⟩
      · exact .inr ⟨ren id, ob, (k0 id ob hid).1, hb⟩
    · rintro (h | ⟨n, ob, hn, hb⟩)
      · exact .inl (.inl h)
      · by_cases hl : lent n
        · obtain ⟨id, ob', hid, rfl⟩ := hl
          exact .inr ⟨id, ob', hid, hb⟩
        · exact .inl (.inr ⟨n, ob, hn, hb, hl⟩)
  have hto : ∀ id ob, sget σ0 id = some ob → sget s.st (ren id) = some ob ∧ β (ren id) = β0 id := fun id ob h => ⟨(k0 id ob h).1, rfl⟩
  have inj0 : ∀ i j oi oj, sget σ0 i = some oi → sget σ0 j = some oj → ren i = ren j → i = j := fun i j oi oj hi hj e => by
    obtain ⟨_, _, o1, q1, _⟩ := k0 i oi hi
    obtain ⟨_, _, o2, q2, _⟩ := k0 j oj hj
    exact inj1 i j o1 o2 q1 q2 e
  have hmem0 : Mem Fc β0 σ0 w := by
    refine ⟨fun id ob h => ?_, fun i j oi oj b hi hj hbi hbj => ?_, fun i oi b hi hb => ?_, fun b hb => ?_⟩
    · exact G_eq_mono (β := β) (β' := β0) (id := ren id) (n := id) (k0 id ob h).2.1 (fun b hb => (hG0 b).1 hb) rfl (hrel.ob (ren id) ob (k0 id ob h).1)
    · exact inj0 i j oi oj hi hj (hrel.inj _ _ oi oj b (k0 i oi hi).1 (k0 j oj hj).1 hbi hbj)
    · rintro (h | ⟨n, ob, hn, hbn, hl⟩)
      · exact hrel.notF (ren i) oi b (k0 i oi hi).1 hb h
      · have := hrel.inj (ren i) n oi ob b (k0 i oi hi).1 hn hb hbn
        exact hl ⟨i, oi, hi, this⟩
    · exact hrel.ltG b ((hG0 b).1 (.inl hb))
  have hlen : args.toList.length = xs.length := by rw [hargs.len]; simp
  have hxv := hrel.evT hs hx
  generalize hxe : a.eval x = xv at hxv
  cases hxv with
  | fn f cs vs hl' hcv =>
    have hvs : vs = [] := List.length_eq_zero_iff.1 hl'
    subst hvs
    have hvals : ∀ (i : Nat) (y : AV) (v : Value), xs[i]? = some y → (args.toList.map a.eval)[i]? = some v → VA w (G Fc β0 σ0) β0 σ0 y v := by
      intro i y v hy hv
      rw [List.getElem?_map, Option.map_eq_some_iff] at hv
      obtain ⟨op, hop, rfl⟩ := hv
      have hz : (args.toList.map D.ev)[i]? = some (D.ev op) := by rw [List.getElem?_map, hop]; rfl
      exact (hargs.get _ _ i y _ hy hz).of (fun b hb => (hG0 b).1 hb) hto (hrel.evA hs rfl)
    have := hret Fc β0 w (args.toList.map a.eval) hmem0 (by simpa using hlen) hvals
    unfold Oper.wp
    rw [execCall ho hxe hf w, Oper.upon_enter]
    rw [show (args.toList.map a.eval).toArray = args.map a.eval ++ ([] : List Value).toArray from by apply Array.ext'; simp] at this
    refine Calls.mono this ?_
    rintro e w' ⟨v, β1, rfl, hva, hm1, hev⟩
    -- the caller's view behind the call
    let β2 : Nat → Option Nat := fun n => match σ1.find? (fun y => Nat.beq (ren y.1) n) with
      | some y => β1 y.1
      | none => β n
    have hβhit : ∀ id ob, sget σ1 id = some ob → β2 (ren id) = β1 id := by
      intro id ob h
      show (match σ1.find? (fun y => Nat.beq (ren y.1) (ren id)) with | some y => β1 y.1 | none => β (ren id)) = β1 id
      cases hfd : σ1.find? (fun y => Nat.beq (ren y.1) (ren id)) with
      | none =>
        have := List.find?_eq_none.1 hfd _ (sget_mem h)
        simp at this
      | some y =>
        have hy := List.find?_some hfd
        have hm := List.mem_of_find?_eq_some hfd
        have := keys_inj hkeys _ _ hm (sget_mem h) (Nat.eq_of_beq_eq_true hy)
        rw [this]
    have hβmiss : ∀ n, (∀ id ob, sget σ1 id = some ob → ren id ≠ n) → (∀ y, y ∈ σ1 → ren y.1 ≠ n) → β2 n = β n := by
      intro n _ h
      show (match σ1.find? (fun y => Nat.beq (ren y.1) n) with | some y => β1 y.1 | none => β n) = β n
      rw [List.find?_eq_none.2 (fun y hy he => h y hy (Nat.eq_of_beq_eq_true he))]
    have memSome : ∀ (σ : Sto), keysOK ren σ = true → ∀ y, y ∈ σ → ∃ ob, sget σ y.1 = some ob := by
      intro σ
      induction σ with
      | nil => intro _ y h; simp at h
      | cons z l ih =>
        intro hk y h
        obtain ⟨q1, q2, q3⟩ := keys_head hk
        rw [show z :: l = sput l z.1 z.2 from rfl, sget_sput]
        by_cases e : y.1 = z.1
        · rw [if_pos e]; exact Option.isSome_iff_exists.1 q1
        · rw [if_neg e]
          simp only [List.mem_cons] at h
          rcases h with rfl | h
          · exact absurd rfl e
          · exact ih q3 y h
    have missOf : ∀ n, (∀ id ob, sget σ1 id = some ob → ren id ≠ n) → ∀ y, y ∈ σ1 → ren y.1 ≠ n := fun n h y hy => by
      obtain ⟨ob, hob⟩ := memSome σ1 hkeys y hy
      exact h _ _ hob
    let σ2 : Sto := upAll s.st (upsOf ren σ1)
    have hσhit : ∀ id ob, sget σ1 id = some ob → sget σ2 (ren id) = some ob := fun id ob h => (upAll_ups hkeys s.st (ren id)).1 id ob (sget_mem h) rfl
    have hσmiss : ∀ n, (∀ id ob, sget σ1 id = some ob → ren id ≠ n) → sget σ2 n = sget s.st n := fun n h => (upAll_ups hkeys s.st n).2 (missOf n h)
    have hcase : ∀ n, (∃ id ob, sget σ1 id = some ob ∧ ren id = n) ∨ (∀ id ob, sget σ1 id = some ob → ren id ≠ n) := fun n => by
      by_cases h : ∃ id ob, sget σ1 id = some ob ∧ ren id = n
      · exact .inl h
      · exact .inr fun id ob h1 h2 => h ⟨id, ob, h1, h2⟩
    have hG1 : ∀ b, G F β2 σ2 b ↔ G Fc β1 σ1 b := by
      intro b
      constructor
      · rintro (h | ⟨n, ob, hn, hb⟩)
        · exact .inl (.inl h)
        · rcases hcase n with ⟨id, ob1, hid, rfl⟩ | hmiss
          · exact .inr ⟨id, ob1, hid, by rw [← hβhit id ob1 hid]; exact hb⟩
          · rw [hσmiss n hmiss] at hn
            rw [hβmiss n hmiss (missOf n hmiss)] at hb
            refine .inl (.inr ⟨n, ob, hn, hb, ?_⟩)
            rintro ⟨id, ob0, hid, rfl⟩
            obtain ⟨_, _, o1, q1, _⟩ := k0 id ob0 hid
            exact hmiss id o1 q1 rfl
      · rintro ((h | ⟨n, ob, hn, hb, hl⟩) | ⟨id, ob, hid, hb⟩)
        · exact .inl h
        · have hmiss : ∀ id ob, sget σ1 id = some ob → ren id ≠ n := by
            rintro id ob1 hid rfl
            rcases (k1 id ob1 hid).2 with ⟨ob0, h00⟩ | hnone
            · exact hl ⟨id, ob0, h00, rfl⟩
            · rw [hn] at hnone; cases hnone
          exact .inr ⟨n, ob, by rw [hσmiss n hmiss]; exact hn, by rw [hβmiss n hmiss (missOf n hmiss)]; exact hb⟩
        · exact .inr ⟨ren id, ob, hσhit id ob hid, by rw [hβhit id ob hid]; exact hb⟩
    have hkeepG : ∀ b, b < w.heap.size → ¬ G F β s.st b → ¬ G F β2 σ2 b ∧ w'.heap[b]? = w.heap[b]? := by
      intro b hb hn
      have hn0 : ¬ Owned β0 σ0 b := fun h => hn ((hG0 b).1 (.inr h))
      refine ⟨fun h => ?_, hev.keep b hb hn0⟩
      rcases (hG1 b).1 h with h | h
      · exact hn ((hG0 b).1 (.inl h))
      · rcases hev.own b h with h | h
        · omega
        · exact hn0 h
    have hmissHeap : ∀ n ob b, sget s.st n = some ob → β n = some b → (∀ id ob, sget σ1 id = some ob → ren id ≠ n) → w'.heap[b]? = w.heap[b]? := by
      intro n ob b hn hb hmiss
      refine hev.keep b (hrel.ltG b (.inr ⟨n, ob, hn, hb⟩)) ?_
      rintro ⟨id, ob0, hid, hb0⟩
      have := hrel.inj n (ren id) ob ob0 b hn (k0 id ob0 hid).1 hb hb0
      obtain ⟨_, _, o1, q1, _⟩ := k0 id ob0 hid
      exact hmiss id o1 q1 this.symm
    have hturn : Turns w w' β β2 s.st σ2 := by
      intro n ob hn
      rcases hcase n with ⟨id, ob1, hid, rfl⟩ | hmiss
      · refine ⟨ob1, hσhit id ob1 hid, .inl ?_⟩
        rcases (k1 id ob1 hid).2 with ⟨ob0, h00⟩ | hnone
        · obtain ⟨q1, _, o1, q2, q3⟩ := k0 id ob0 h00
          rw [hid] at q2; cases q2
          rw [hn] at q1; cases q1
          exact q3
        · rw [hn] at hnone; cases hnone
      · refine ⟨ob, by rw [hσmiss n hmiss]; exact hn, .inr ⟨rfl, rfl, rfl, rfl, hβmiss n hmiss (missOf n hmiss), fun b c hb hc => ⟨c, ?_, rfl⟩⟩⟩
        rw [hmissHeap n ob b hn hb hmiss]; exact hc
    have hmono : ∀ {y : AV} {v : Value}, VA w (G F β s.st) β s.st y v → VA w' (G F β2 σ2) β2 σ2 y v := fun hv => VA.mono hev.size hkeepG hturn hv
    have hrel2 : Rel F β2 ⟨s.n, s.fr, σ2⟩ a w' := by
      refine ⟨hrel.defers, hrel.size, fun i => hmono (hrel.fr i), fun n ob hn => ?_, fun i j oi oj b hi hj hbi hbj => ?_, fun i oi b hi hb => ?_, fun b hb => Nat.lt_of_lt_of_le (hrel.ltF b hb) hev.size⟩
      · change sget σ2 n = some ob at hn
        rcases hcase n with ⟨id, ob1, hid, rfl⟩ | hmiss
        · rw [hσhit id ob1 hid] at hn; cases hn
          exact G_eq_mono (k1 id _ hid).1 (fun b hb => (hG1 b).1 hb) (hβhit id _ hid) (hm1.ob id _ hid)
        · rw [hσmiss n hmiss] at hn
          rcases hrel.ob n ob hn with ⟨q1, q2⟩ | ⟨b, c, q1, q2, q3, q4, q5⟩
          · exact .inl ⟨(hβmiss n hmiss (missOf n hmiss)).trans q1, q2⟩
          · refine .inr ⟨b, c, (hβmiss n hmiss (missOf n hmiss)).trans q1, by rw [hmissHeap n ob b hn q1 hmiss]; exact q2, q3, q4, fun i x j y hx hy => ?_⟩
            obtain ⟨g1, u, hu, hva⟩ := q5 i x j y hx hy
            exact ⟨g1, u, hu, hmono hva⟩
      · change sget σ2 i = some oi at hi
        change sget σ2 j = some oj at hj
        rcases hcase i with ⟨id, ob1, hid, rfl⟩ | hmi <;> rcases hcase j with ⟨jd, ob2, hjd, rfl⟩ | hmj
        · rw [hβhit id ob1 hid] at hbi
          rw [hβhit jd ob2 hjd] at hbj
          rw [hm1.inj id jd ob1 ob2 b hid hjd hbi hbj]
        · rw [hβhit id ob1 hid] at hbi
          rw [hσmiss j hmj] at hj
          rw [hβmiss j hmj (missOf j hmj)] at hbj
          refine absurd (show Fc b from .inr ⟨j, oj, hj, hbj, ?_⟩) (hm1.notF id ob1 b hid hbi)
          rintro ⟨id', ob0, hid', rfl⟩
          obtain ⟨_, _, o1, q1, _⟩ := k0 id' ob0 hid'
          exact hmj id' o1 q1 rfl
        · rw [hβhit jd ob2 hjd] at hbj
          rw [hσmiss i hmi] at hi
          rw [hβmiss i hmi (missOf i hmi)] at hbi
          refine absurd (show Fc b from .inr ⟨i, oi, hi, hbi, ?_⟩) (hm1.notF jd ob2 b hjd hbj)
          rintro ⟨id', ob0, hid', rfl⟩
          obtain ⟨_, _, o1, q1, _⟩ := k0 id' ob0 hid'
          exact hmi id' o1 q1 rfl
        · rw [hσmiss i hmi] at hi
          rw [hσmiss j hmj] at hj
          rw [hβmiss i hmi (missOf i hmi)] at hbi
          rw [hβmiss j hmj (missOf j hmj)] at hbj
          exact hrel.inj i j oi oj b hi hj hbi hbj
      · change sget σ2 i = some oi at hi
        rcases hcase i with ⟨id, ob1, hid, rfl⟩ | hmi
        · rw [hβhit id ob1 hid] at hb
          exact fun hF => hm1.notF id ob1 b hid hb (.inl hF)
        · rw [hσmiss i hmi] at hi
          rw [hβmiss i hmi (missOf i hmi)] at hb
          exact hrel.notF i oi b hi hb
    have hva2 : VA w' (G F β2 σ2) β2 σ2 r' v := hr'.to (fun b hb => (hG1 b).1 hb) (fun id ob h => ⟨hσhit id ob h, hβhit id ob h⟩) hva
    refine hnext β2 _ _ (hrel2.put (by rw [show (St.mk s.n s.fr σ2).n = s.n from rfl, hs.n]; exact hd) hva2) ⟨hev.os, hev.tape, hev.output, hev.size, fun b hb hn => ?_, fun b hb => ?_, hev.shp⟩
    · refine hev.keep b hb ?_
      rintro ⟨id, ob0, hid, hb0⟩
      exact hn ⟨ren id, ob0, (k0 id ob0 hid).1, hb0⟩
    · obtain ⟨n, ob, hn, hbn⟩ := hb
      change sget σ2 n = some ob at hn
      rcases hcase n with ⟨id, ob1, hid, rfl⟩ | hmiss
      · rw [hβhit id ob1 hid] at hbn
        rcases hev.own b ⟨id, ob1, hid, hbn⟩ with h | ⟨id0, ob0, hid0, hb0⟩
        · exact .inl h
        · exact .inr ⟨ren id0, ob0, (k0 id0 ob0 hid0).1, hb0⟩
      · rw [hσmiss n hmiss] at hn
        rw [hβmiss n hmiss (missOf n hmiss)] at hbn
        exact .inr ⟨n, ob, hn, hbn⟩

end Go.Tv

end
section
namespace Go.Tv

variable {P : Program} {o : Oper} {D : St}

/-! ### x == nil at slices -/

theorem effS_nilEq {t ty e : TypeId} {x : Operand} {k : Nat} {ag : Bool} {v : AV} {m : Nat} (hd : dstOK D.n o.dst = true) (ho : o.op = .binOp .eql t x (.const (.slice none 0 0)) ty) (ht : elemOf P t = some (e, k, ag))
    (hx : D.ev x = v) (hv : (∃ xs fl, v = .t (.sl xs fl) ∧ xs.length = m) ∨ ∃ id g off ob, v = .own id g off m ∧ sget D.st id = some ob ∧ ob.gen = g) :
    EffS P o D (fun e => ∃ b : Bool, e = ⟨.t (.bool b), []⟩ ∧ (b = true → m = 0)) := by
  intro s hs _ F β a w hr next Q hnext
  have hu := (elemOf_spec ht).1
  have hval : ∃ p c, a.eval x = .slice p m c ∧ (p = none → m = 0) := by
    have h := hr.evA hs hx
    generalize a.eval x = u at h
    rcases hv with ⟨xs, fl, rfl, rfl⟩ | ⟨id, g, off, ob, rfl, hso, hg⟩
    · cases h with
      | t h =>
        cases h with
        | nils f => exact ⟨none, 0, rfl, fun _ => rfl⟩
        | nilsE f ad => exact ⟨_, 0, rfl, fun h => by cases h⟩
        | sl xs f k b o cap vs => exact ⟨_, cap, rfl, fun h => by cases h⟩
    · have hst := hs.st _ _ hso
      cases h with
      | own g1 g2 g3 g4 g5 g6 g7 => exact ⟨_, _, rfl, fun h => by cases h⟩
      | ownNil => exact ⟨none, 0, rfl, fun _ => rfl⟩
      | ownZ => exact ⟨_, 0, rfl, fun h => by cases h⟩
      | ownE => exact ⟨_, 0, rfl, fun h => by cases h⟩
      | stale h1 h2 => rw [hst] at h1; cases h1; omega
  obtain ⟨p, c, hp, hpn⟩ := hval
  have hrun : (execOp a.eval o).run P w = .ok (.value (.bool p.isNone)) w := by
    have h2 : a.eval (.const (.slice none 0 0)) = .slice none 0 0 := rfl
    simp only [execOp, ho, hp, h2, Sem.run_bind]
    have hg : (eqGuard .eql t x (.const (.slice none 0 0)) (.slice p m c) (.slice none 0 0)).run P w = .ok () w := by
      unfold eqGuard; rfl
    have he : (Op.equal t (.slice p m c) (.slice none 0 0)).run P w = .ok p.isNone w := by
      have key : ∀ d, (Op.equalIn (d + 1) t (.slice p m c) (.slice none 0 0)).run P w = .ok p.isNone w := by
        intro d
        simp only [Op.equalIn, Sem.run_bind, run_underlying' w hu, Result.andThen_ok]
        cases p <;> rfl
      exact key 9999
    simp only [hg, Result.andThen_ok, binOp, Sem.run_bind, he, Sem.run_pure]
  unfold Oper.wp
  rw [hrun]
  refine hnext ⟨.t (.bool p.isNone), []⟩ ⟨p.isNone, rfl, fun h => hpn (Option.isNone_iff_eq_none.1 h)⟩ β _ w (hr.put (by rw [hs.n]; exact hd) (.t (.bool _))) (Evo.refl _ _ _)

theorem RW.nilEq {all l : List Oper} {n : Nat} {fr : Fra} {st : Sto} {K : St → Prop} {t ty e : TypeId} {x : Operand} {k : Nat} {ag : Bool} {xs : List Tr} {fl : Bool} {d : Tmp} (hg : o.guard = none) (hdd : o.dst = some d)
    (hd : dstOK n o.dst = true) (ho : o.op = .binOp .eql t x (.const (.slice none 0 0)) ty) (ht : elemOf P t = some (e, k, ag)) (hx : St.ev ⟨n, fr, st⟩ x = .t (.sl xs fl))
    (hk : ∀ b : Bool, (b = true → xs = []) → RW P all l ⟨n, (d, .t (.bool b)) :: fr, st⟩ K) : RW P all (o :: l) ⟨n, fr, st⟩ K :=
  ⟨_, Weak.refl _, rfl, .inr (.inr (.inl ⟨hg, _, effS_nilEq (D := ⟨n, fr, st⟩) (m := xs.length) hd ho ht hx (.inl ⟨xs, fl, rfl, rfl⟩), fun e ⟨b, he, hb⟩ => by
    subst he
    have := hk b (fun h => List.length_eq_zero_iff.1 (hb h))
    rw [hdd]; exact this⟩))⟩

/-! ### Strings of bytes -/

/-! ### Names -/

/-- An empty slice that cannot grow in place is an empty slice of one's own. -/
theorem weak_adopt {n : Nat} {fr : Fra} {st : Sto} {d : Tmp} {id k : Nat} {ty : TypeId} (h : fget fr d = .t (.sl [] true)) (hid : sget st id = none) :
    Weak ⟨n, fr, st⟩ ⟨n, (d, .own id 0 0 0) :: fr, (id, some ⟨k, ty, 0, []⟩) :: st⟩ := by
  intro F β a w hr
  let β' : Nat → Option Nat := fun m => if m = id then none else β m
  have hst : ∀ m, sget ((id, some (⟨k, ty, 0, []⟩ : Ob)) :: st) m = if m = id then some ⟨k, ty, 0, []⟩ else sget st m := fun m => sget_sput st id m _
  have hown : ∀ b, Owned β' ((id, some ⟨k, ty, 0, []⟩) :: st) b ↔ Owned β st b := by
    intro b
    constructor
    · rintro ⟨m, ob, hm, hb⟩
      rw [hst] at hm
      by_cases e : m = id
      · subst e; simp [β'] at hb
      · rw [if_neg e] at hm
        exact ⟨m, ob, hm, by simpa [β', e] using hb⟩
    · rintro ⟨m, ob, hm, hb⟩
      have e : m ≠ id := fun e => by subst e; rw [hid] at hm; cases hm
      exact ⟨m, ob, by rw [hst, if_neg e]; exact hm, by simpa [β', e] using hb⟩
  have hG : ∀ b, G F β' ((id, some ⟨k, ty, 0, []⟩) :: st) b ↔ G F β st b := fun b => ⟨fun h => h.imp (fun h => h) (hown b).1, fun h => h.imp (fun h => h) (hown b).2⟩
  have hmono : ∀ {x : AV} {v : Value}, VA w (G F β st) β st x v → VA w (G F β' ((id, some ⟨k, ty, 0, []⟩) :: st)) β' ((id, some ⟨k, ty, 0, []⟩) :: st) x v := fun hv =>
    VA.mono (Nat.le_refl _) (fun b _ hn => ⟨fun h => hn ((hG b).1 h), rfl⟩) (fun m ob hm => by
      have e : m ≠ id := fun e => by subst e; rw [hid] at hm; cases hm
      exact ⟨ob, by rw [hst, if_neg e]; exact hm, .inr ⟨rfl, rfl, rfl, rfl, by simp [β', e], fun b c _ hc => ⟨c, hc, rfl⟩⟩⟩) hv
  refine ⟨β', ⟨hr.defers, hr.size, fun i => ?_, fun m ob hm => ?_, fun i j oi oj b hi hj hbi hbj => ?_, fun i oi b hi hb => ?_, hr.ltF⟩, fun b => (hown b).1⟩
  · show VA w _ _ _ (fget ((d, .own id 0 0 0) :: fr) i) _
    rw [show (d, AV.own id 0 0 0) :: fr = fput fr d (.own id 0 0 0) from rfl, fget_fput]
    by_cases e : i = d
    · rw [if_pos e]
      have hv := hr.fr d
      rw [show fget (St.mk n fr st).fr d = fget fr d from rfl, h] at hv
      rw [e]
      have hsid : sget ((id, some (⟨k, ty, 0, []⟩ : Ob)) :: st) id = some ⟨k, ty, 0, []⟩ := by rw [hst, if_pos rfl]
      generalize vAt a d = u at hv
      cases hv with
      | t hv =>
        cases hv with
        | nils f => exact .ownNil hsid rfl (by simp [β']) rfl
        | nilsE f ad => exact .ownE hsid rfl (by simp [β']) rfl
        | sl xs f k' b p cap vs hb hF hf =>
          have hc0 : cap = 0 := hf rfl
          subst hc0
          exact .ownE hsid rfl (by simp [β']) rfl
    · rw [if_neg e]; exact hmono (hr.fr i)
  · change sget ((id, some ⟨k, ty, 0, []⟩) :: st) m = some ob at hm
    rw [hst] at hm
    by_cases e : m = id
    · rw [if_pos e] at hm; cases hm
      exact .inl ⟨by simp [β', e], rfl⟩
    · rw [if_neg e] at hm
      rcases hr.ob m ob hm with ⟨q1, q2⟩ | ⟨b, c, q1, q2, q3, q4, q5⟩
      · exact .inl ⟨by simp [β', e, q1], q2⟩
      · refine .inr ⟨b, c, by simp [β', e, q1], q2, q3, q4, fun i x j y hx hy => ?_⟩
        obtain ⟨g1, u, hu, hva⟩ := q5 i x j y hx hy
        exact ⟨g1, u, hu, hmono hva⟩
  · change sget ((id, some ⟨k, ty, 0, []⟩) :: st) i = some oi at hi
    change sget ((id, some ⟨k, ty, 0, []⟩) :: st) j = some oj at hj
    rw [hst] at hi hj
    have e1 : i ≠ id := fun e => by subst e; simp [β'] at hbi
    have e2 : j ≠ id := fun e => by subst e; simp [β'] at hbj
    rw [if_neg e1] at hi
    rw [if_neg e2] at hj
    exact hr.inj i j oi oj b hi hj (by simpa [β', e1] using hbi) (by simpa [β', e2] using hbj)
  · change sget ((id, some ⟨k, ty, 0, []⟩) :: st) i = some oi at hi
    rw [hst] at hi
    have e1 : i ≠ id := fun e => by subst e; simp [β'] at hb
    rw [if_neg e1] at hi
    exact hr.notF i oi b hi (by simpa [β', e1] using hb)

/-- One slice over one object: the object's count may be raised. -/
theorem weak_bump {off len k g g' id : Nat} {ty : TypeId} {xs : List Tr} :
    Weak ⟨1, [(0, .own id g off len)], [(id, some ⟨k, ty, g, xs.map .t⟩)]⟩ ⟨1, [(0, .own id g' off len)], [(id, some ⟨k, ty, g', xs.map .t⟩)]⟩ := by
  intro F β a w hr
  have hst : ∀ (g : Nat) m, sget [(id, some (⟨k, ty, g, xs.map .t⟩ : Ob))] m = if m = id then some ⟨k, ty, g, xs.map .t⟩ else none := fun g m => by
    have := sget_sput [] id m (some (⟨k, ty, g, xs.map .t⟩ : Ob))
    simpa [sget, sput] using this
  have hown : ∀ b, Owned β [(id, some ⟨k, ty, g', xs.map .t⟩)] b ↔ Owned β [(id, some ⟨k, ty, g, xs.map .t⟩)] b := by
    intro b
    constructor <;> rintro ⟨m, ob, hm, hb⟩ <;> rw [hst] at hm <;> split at hm <;> first | (cases hm; done) | (rename_i e; exact ⟨m, _, by rw [hst, if_pos e], hb⟩)
  have hG : ∀ b, G F β [(id, some ⟨k, ty, g', xs.map .t⟩)] b ↔ G F β [(id, some ⟨k, ty, g, xs.map .t⟩)] b := fun b => ⟨fun h => h.imp (fun h => h) (hown b).1, fun h => h.imp (fun h => h) (hown b).2⟩
  have hs1 : sget [(id, some (⟨k, ty, g', xs.map .t⟩ : Ob))] id = some ⟨k, ty, g', xs.map .t⟩ := by rw [hst, if_pos rfl]
  refine ⟨β, ⟨hr.defers, hr.size, fun i => ?_, fun m ob hm => ?_, fun i j oi oj b hi hj _ _ => ?_, fun i oi b hi hb => ?_, hr.ltF⟩, fun b => (hown b).1⟩
  · have hv := hr.fr i
    show VA w _ _ _ (fget [(0, .own id g' off len)] i) _
    change VA w _ _ _ (fget [(0, .own id g off len)] i) _ at hv
    have hf : ∀ g, fget [(0, .own id g off len)] i = if i = 0 then .own id g off len else .junk := fun g => by
      have := fget_fput [] 0 i (.own id g off len)
      simpa [fget, fput] using this
    rw [hf] at hv ⊢
    split at hv
    · rename_i e
      rw [if_pos e]
      generalize vAt a i = u at hv
      cases hv with
      | own g1 g2 g3 g4 g5 g6 g7 => change sget [(id, some (⟨k, ty, g, xs.map .t⟩ : Ob))] id = _ at g1; rw [hst, if_pos rfl] at g1; cases g1; exact .own (ob := ⟨k, ty, g', xs.map .t⟩) hs1 rfl g3 g4 g5 g6 g7
      | ownNil g1 g2 g3 g4 => change sget [(id, some (⟨k, ty, g, xs.map .t⟩ : Ob))] id = _ at g1; rw [hst, if_pos rfl] at g1; cases g1; exact .ownNil (ob := ⟨k, ty, g', xs.map .t⟩) hs1 rfl g3 g4
      | ownZ g1 g2 g3 g4 g5 => change sget [(id, some (⟨k, ty, g, xs.map .t⟩ : Ob))] id = _ at g1; rw [hst, if_pos rfl] at g1; cases g1; exact .ownZ (ob := ⟨k, ty, g', xs.map .t⟩) hs1 rfl g3 g4 g5
      | ownE g1 g2 g3 g4 => change sget [(id, some (⟨k, ty, g, xs.map .t⟩ : Ob))] id = _ at g1; rw [hst, if_pos rfl] at g1; cases g1; exact .ownE (ob := ⟨k, ty, g', xs.map .t⟩) hs1 rfl g3 g4
      | stale g1 g2 g3 => change sget [(id, some (⟨k, ty, g, xs.map .t⟩ : Ob))] id = _ at g1; rw [hst, if_pos rfl] at g1; cases g1; exact absurd g2 (Nat.lt_irrefl _)
    · rename_i e
      rw [if_neg e]; exact .junk _
  · change sget [(id, some ⟨k, ty, g', xs.map .t⟩)] m = some ob at hm
    rw [hst] at hm
    split at hm
    · rename_i e
      cases hm
      subst e
      have := hr.ob m ⟨k, ty, g, xs.map .t⟩ (by show sget [(m, some (⟨k, ty, g, xs.map .t⟩ : Ob))] m = _; rw [hst, if_pos rfl])
      exact G_eq_mono (treeEls_t (k := k) (g := g') (ty := ty)) (fun b hb => (hG b).1 hb) rfl this
    · cases hm
  · change sget [(id, some ⟨k, ty, g', xs.map .t⟩)] i = some oi at hi
    change sget [(id, some ⟨k, ty, g', xs.map .t⟩)] j = some oj at hj
    rw [hst] at hi hj
    split at hi
    · split at hj
      · rename_i e1 e2; rw [e1, e2]
      · cases hj
    · cases hi
  · change sget [(id, some ⟨k, ty, g', xs.map .t⟩)] i = some oi at hi
    rw [hst] at hi
    split at hi
    · rename_i e
      exact hr.notF i ⟨k, ty, g, xs.map .t⟩ b (by show sget [(id, some (⟨k, ty, g, xs.map .t⟩ : Ob))] i = _; rw [hst, if_pos e]) hb
    · cases hi

end Go.Tv

end
section
namespace Go.Tv

variable {P : Program} {o : Oper} {D : St}

theorem zrep_flat {z : Tr} {k : Nat} (hk : z.cells.length = k) (l : Nat) : (List.replicate l (AV.t z)).flatMap AV.cells = zeroCellsA z (l * k) := by
  have hek : ∀ (i : Nat) x, (List.replicate l (AV.t z))[i]? = some x → x.cells.length = k := by
    intro i x hx
    rw [List.getElem?_replicate] at hx
    split at hx
    · cases hx; simp [AV.cells, hk]
    · cases hx
  have hl : ((List.replicate l (AV.t z)).flatMap AV.cells).length = l * k := by rw [flat_length (k := k) _ hek]; simp
  apply List.ext_getElem?
  intro n
  by_cases hn : n < l * k
  · have hk0 : 0 < k := by
      rcases Nat.eq_zero_or_pos k with h | h
      · rw [h] at hn; simp at hn
      · exact h
    have hi : n / k < l := by rw [Nat.div_lt_iff_lt_mul hk0]; exact hn
    have hj : n % k < k := Nat.mod_lt _ hk0
    have hc : (AV.t z).cells[n % k]? = some (.t (z.cells[n % k]'(by omega))) := by
      simp [AV.cells, List.getElem?_map, List.getElem?_eq_getElem (show n % k < z.cells.length by omega)]
    have := flat_get _ hek (n / k) (.t z) (n % k) _ (by rw [List.getElem?_replicate, if_pos hi]) hc
    rw [Nat.div_add_mod' n k] at this
    rw [this]
    unfold zeroCellsA
    subst hk
    rw [List.getElem?_map, List.getElem?_range hn, Option.map_some, List.getElem?_eq_getElem (show n % z.cells.length < z.cells.length by omega)]
  · rw [List.getElem?_eq_none (by omega), List.getElem?_eq_none (by simp [zeroCellsA]; omega)]

theorem eff_clear {t e : TypeId} {x : Operand} {k id g off len : Nat} {ag : Bool} {ob : Ob} {z : Tr} (hdn : o.dst = none)
    (ho : o.op = .call { callee := .builtin .clear, args := #[x], argTypes := #[t] }) (ht : elemOf P t = some (e, k, ag)) (hz : zeroOf P e = some z) (hzk : z.cells.length = k) (hk0 : k ≠ 0)
    (hx : D.ev x = .own id g off len) (hs : sget D.st id = some ob) (hg : ob.gen = g) (hk : ob.k = k) (hfit : off + len ≤ ob.els.length) :
    Eff P o D ⟨.junk, [(id, { ob with gen := g, els := ob.els.take off ++ List.replicate len (.t z) ++ ob.els.drop (off + len) })]⟩ := by
  intro s hs' _ F β a w hr next Q hnext
  have hst := hs'.st _ _ hs
  have hxv := hr.evA hs' hx
  obtain ⟨hu, hte⟩ := elemOf_spec ht
  obtain ⟨zv, hzr, hzV, hzn, hzs⟩ := zeroOf_run hz w (G F β s.st)
  have hcr := zero_cr (β := β) (σ := s.st) hzV hzn (by rw [hzk]; exact hk0) (len * k)
  obtain ⟨Z, hZ⟩ : ∃ Z, Z = ((Array.range (len * k)).map fun i => zv.cells[i % zv.cells.size]!) := ⟨_, rfl⟩
  rw [← hZ] at hcr
  have hzvs : zv.cells.size = k := by rw [← hzk]; exact hzs
  have hsput : ∀ ob', ob' = ob → ∀ m, sget (sput s.st id (some ob')) m = sget s.st m := fun ob' he m => by
    rw [sget_sput, he]; split
    · rename_i em; rw [em, hst]
    · rfl
  have fin : ∀ v, (execOp a.eval o).run P w = .ok (.value v) w → len = 0 → o.wp P a w next Q := by
    intro v hrun hl0
    unfold Oper.wp
    rw [hrun]
    show next (a.put o.dst v) w
    rw [hdn]
    have hobe : ({ ob with gen := g, els := ob.els.take off ++ List.replicate len (.t z) ++ ob.els.drop (off + len) } : Ob) = ob := by
      subst hl0; cases ob; simp_all
    refine hnext β _ _ ?_ ?_
    · show Rel F β { n := s.n, fr := fputO s.fr o.dst .junk, st := sput s.st id (some { ob with gen := g, els := ob.els.take off ++ List.replicate len (.t z) ++ ob.els.drop (off + len) }) } _ _
      rw [hdn]
      exact hr.ext rfl (fun _ => rfl) (hsput _ hobe)
    · exact (Evo.refl s.st β w).ext (hsput _ hobe)
  generalize hxe : a.eval x = xv at hxv
  have hrunOf : ∀ v w', (Builtin.clear_ #[t] o.type #[a.eval x]).run P w = .ok v w' → (execOp a.eval o).run P w = .ok (.value v) w' := by
    intro v w' h
    simp only [execOp, ho, resolve, List.map_toArray, List.map_cons, List.map_nil, Sem.run_bind, Sem.run_pure, Result.andThen_ok, invoke, builtin, h]
  have hrun0 : ∀ p c, a.eval x = .slice p 0 c → (execOp a.eval o).run P w = .ok (.value (.tuple #[])) w := by
    intro p c hp
    refine hrunOf _ _ ?_
    rw [hp]
    cases p <;> simp [Builtin.clear_, run_underlying' w hu]
  cases hxv with
  | @own _ _ _ _ b cap ob' c g1 g2 g3 g4 g5 g6 g7 =>
    rw [hst] at g1; cases g1
    rcases Nat.eq_zero_or_pos len with hl0 | hl0
    · subst hl0
      exact fin _ (hrun0 _ _ hxe) rfl
    · obtain ⟨c', hh, hsz, hel, hrow⟩ := hr.row hst g3
      rw [g6] at hh; cases hh
      have hcapk : (off + len) * k ≤ c.size := by
        have h3 : (off + len) * k ≤ ob.els.length * k := Nat.mul_le_mul_right k hfit
        rw [hk] at hsz
        omega
      have hlz : Z.toList.length = len * k := by rw [hZ]; simp
      have hst2 : (storeCells ⟨b, off * ob.k, none⟩ Z.toList).run P w = .ok () (setB w b (.cells (writeAt c (off * k) Z.toList) ob.ty (0, 0))) := by
        have := run_storeCells P Z.toList w c (off * k) 0 g6 (cr_one hcr) (by rw [hlz]; rw [Nat.add_mul] at hcapk; omega)
        rw [hk]
        simpa using this
      have hrun : (execOp a.eval o).run P w = .ok (.value (.tuple #[])) (setB w b (.cells (writeAt c (off * k) Z.toList) ob.ty (0, 0))) := by
        refine hrunOf _ _ ?_
        rw [hxe]
        have hzz : Builtin.zeroCells zv.cells len = Z := by unfold Builtin.zeroCells; rw [hZ, hzvs]
        have hne : len ≠ 0 := by omega
        simp [Builtin.clear_, run_underlying' w hu, hne, hzr, hzz, hst2]
      have hyel : ∀ y, y ∈ List.replicate len (AV.t z) → y.noTup = true ∧ y.cells.length = k := fun y hy => by
        have := List.eq_of_mem_replicate hy
        subst this
        exact ⟨hzn, by simp [AV.cells, hzk]⟩
      have hrow' : RowOf w (G F β s.st) β s.st (writeAt c (off * k) Z.toList) (ob.els.take off ++ List.replicate len (.t z) ++ ob.els.drop (off + len)) k := by
        have := RowOf.write (m := off) (ys := List.replicate len (AV.t z)) (d := Z) (hk ▸ hel) hyel (by omega) (hk ▸ hrow) (by rw [zrep_flat hzk]; exact hcr) (by simpa using hcapk)
        simpa using this
      have hlen : (ob.els.take off ++ List.replicate len (AV.t z) ++ ob.els.drop (off + len)).length = ob.els.length := by simp; omega
      have hall : ∀ y, y ∈ ob.els.take off ++ List.replicate len (AV.t z) ++ ob.els.drop (off + len) → y.noTup = true ∧ y.cells.length = k := fun y hm => by
        rcases List.mem_append.1 hm with hm | hm
        · rcases List.mem_append.1 hm with hm | hm
          · exact hk ▸ hel y (List.mem_of_mem_take hm)
          · exact hyel y hm
        · exact hk ▸ hel y (List.mem_of_mem_drop hm)
      obtain ⟨hrel, hev, hmono⟩ := hr.upd (g' := g) (els' := ob.els.take off ++ List.replicate len (AV.t z) ++ ob.els.drop (off + len)) (c' := writeAt c (off * k) Z.toList) hst g3 g6 (writeAt_size _ _ _) (.inl ⟨hg.symm, hlen⟩)
        (by rw [hlen]; exact hsz) (fun i x hx => by rw [hk]; exact hall x (List.mem_of_getElem? hx)) (by rw [hk]; exact hrow')
      unfold Oper.wp
      rw [hrun]
      show next (a.put o.dst _) _
      rw [hdn]
      refine hnext β _ _ ?_ hev
      show Rel F β { n := s.n, fr := fputO s.fr o.dst .junk, st := sput s.st id (some { ob with gen := g, els := ob.els.take off ++ List.replicate len (.t z) ++ ob.els.drop (off + len) }) } _ _
      rw [hdn]
      exact hrel
  | ownNil g1 g2 g3 g4 => exact fin _ (hrun0 _ _ hxe) rfl
  | ownZ g1 g2 g3 g4 g5 => exact fin _ (hrun0 _ _ hxe) rfl
  | ownE g1 g2 g3 g4 => exact fin _ (hrun0 _ _ hxe) rfl
  | stale g1 g2 => rw [hst] at g1; cases g1; omega

end Go.Tv

end
section
namespace Go.Tv

variable {P : Program}

abbrev Tch := List (Option Tmp × List Nat)

def hid (tch : Tch) (cl : List (List Nat)) (i : Nat) : Tch :=
  ((List.range tch.length).filter fun j => j != i && !(cl.getD i []).contains j && !(cl.getD j []).contains i).map fun j => tch.getD j (none, [])

def RD (P : Program) (all : List Oper) (tch : Tch) (cl : List (List Nat)) : Nat → List Oper → St → (St → Prop) → Prop
  | _, [], s, K => K s
  | i, o :: l, s, K => ∃ e, (o.dst, idsOf e) = tch.getD i (none, []) ∧ OpAt P all (forget (hid tch cl i) s) o e ∧ RD P all tch cl (i + 1) l (s.app o.dst e) K

theorem RD.es {all : List Oper} {tch : Tch} {cl : List (List Nat)} {K : St → Prop} : ∀ (l : List Oper) (i : Nat) (s : St), RD P all tch cl i l s K →
    ∃ es : List Ef, l.length = es.length ∧ K (appL s l es) ∧ ∀ (j : Nat) o e, l[j]? = some o → es[j]? = some e → (o.dst, idsOf e) = tch.getD (i + j) (none, []) ∧
      OpAt P all (forget (hid tch cl (i + j)) (appL s (l.take j) (es.take j))) o e
  | [], i, s, h => ⟨[], rfl, h, fun j o e ho => by simp at ho⟩
  | o :: l, i, s, ⟨e, he, hop, h⟩ => by
    obtain ⟨es, hl, hK, hall⟩ := RD.es l (i + 1) _ h
    refine ⟨e :: es, by simp [hl], hK, fun j o' e' ho' he' => ?_⟩
    cases j with
    | zero =>
      simp at ho' he'; subst ho'; subst he'
      exact ⟨he, hop⟩
    | succ j =>
      obtain ⟨h1, h2⟩ := hall j o' e' (by simpa using ho') (by simpa using he')
      rw [show i + 1 + j = i + (j + 1) from by omega] at h1 h2
      refine ⟨h1, ?_⟩
      rw [List.take_succ_cons, List.take_succ_cons]
      exact h2

theorem forget_fget {t : Tmp} : ∀ (l : Tch) (s : St), fget (forget l s).fr t = if (l.any fun x => x.1 == some t) then .junk else fget s.fr t
  | [], s => rfl
  | x :: l, s => by
    rw [forget, forget_fget l, List.any_cons]
    cases hx : (x.1 == some t) with
    | true =>
      have hx' : x.1 = some t := by simpa using hx
      simp only [Bool.true_or, if_true]
      split
      · rfl
      · rw [hx']; exact fget_fput_same _ _ _
    | false =>
      simp only [Bool.false_or]
      split
      · rfl
      · cases hd : x.1 with
        | none => rfl
        | some d =>
          refine fget_fput_ne _ _ _ _ (fun e => ?_)
          rw [hd, e] at hx
          simp at hx

theorem forget_sget {id : Nat} : ∀ (l : Tch) (s : St), sget (forget l s).st id = if (l.any fun x => x.2.contains id) then none else sget s.st id
  | [], s => rfl
  | x :: l, s => by
    rw [forget, forget_sget l, List.any_cons]
    simp only [foldl_none]
    cases hx : x.2.contains id with
    | true =>
      have : id ∈ x.2 := by simpa using hx
      simp [this]
    | false =>
      have : id ∉ x.2 := by simpa using hx
      simp only [this, if_false, Bool.false_or]

theorem Eff.ext {o : Oper} {D D' : St} {e : Ef} (h : Eff P o D e) (hn : D'.n = D.n) (hf : ∀ t, fget D'.fr t = fget D.fr t) (hs : ∀ id, sget D'.st id = sget D.st id) : Eff P o D' e := by
  intro s hle hfresh F β a w hr next Q hnext
  refine h s ⟨hle.n.trans hn, fun t => ?_, fun id ob hob => hle.st id ob (by rw [hs]; exact hob)⟩ (fun id ob hm hnone => hfresh id ob hm (by rw [hs]; exact hnone)) F β a w hr next Q hnext
  have := hle.fr t
  rwa [hf] at this

theorem OpAt.ext {all : List Oper} {o : Oper} {D D' : St} {e : Ef} (h : OpAt P all D o e) (hn : D'.n = D.n) (hf : ∀ t, fget D'.fr t = fget D.fr t) (hs : ∀ id, sget D'.st id = sget D.st id) : OpAt P all D' o e := by
  rcases h with ⟨hg, he⟩ | ⟨j, want, og, d, b, hg, hj, hd, hb, hh⟩ | ⟨j, want, og, d, hg, hj, hd, hb, hh⟩
  · exact .inl ⟨hg, he.ext hn hf hs⟩
  · exact .inr (.inl ⟨j, want, og, d, b, hg, hj, hd, by rw [hf]; exact hb, hh.imp (fun h => ⟨h.1, h.2.ext hn hf hs⟩) (fun h => h)⟩)
  · exact .inr (.inr ⟨j, want, og, d, hg, hj, hd, by rw [hf]; exact hb, hh⟩)

theorem foldP_take : ∀ (os : List Oper) (es : List Ef) (i m : Nat) (s : St), os.length = es.length → foldP (fun j => decide (j < i + m)) (zipE i os es) s = appL s (os.take m) (es.take m)
  | [], [], i, m, s, _ => by simp [zipE, foldP, appL]
  | o :: os, e :: es, i, m, s, hl => by
    have hl' : os.length = es.length := by simpa using hl
    cases m with
    | zero =>
      have hno : ∀ (L : List (Nat × Option Tmp × Ef)) (s : St), (∀ x, x ∈ L → i ≤ x.1) → foldP (fun j => decide (j < i + 0)) L s = s := by
        intro L
        induction L with
        | nil => intro s _; rfl
        | cons x L ih =>
          intro s hx
          rw [foldP, if_neg (by have := hx x List.mem_cons_self; simp; omega)]
          exact ih s (fun y hy => hx y (List.mem_cons_of_mem _ hy))
      rw [hno _ _ (fun x hx => (zipE_get _ _ _ hl x hx).1)]
      rfl
    | succ m =>
      rw [zipE, foldP, if_pos (by simp), List.take_succ_cons, List.take_succ_cons]
      have := foldP_take os es (i + 1) m (s.app o.dst e) hl'
      rw [show i + 1 + m = i + (m + 1) from by omega] at this
      exact this
  | [], _ :: _, _, _, _, h => by simp at h
  | _ :: _, [], _, _, _, h => by simp at h

theorem zipE_fst : ∀ (os : List Oper) (es : List Ef) (i : Nat), os.length = es.length → (zipE i os es).map (·.1) = List.range' i os.length
  | [], [], _, _ => rfl
  | o :: os, e :: es, i, hl => by rw [zipE, List.map_cons, zipE_fst os es (i + 1) (by simpa using hl)]; rfl
  | [], _ :: _, _, h => by simp at h
  | _ :: _, [], _, h => by simp at h

theorem rd_any {s : St} {K : St → Prop} {ops : Array Oper} (tch : Tch) (cl : List (List Nat)) (hm : P.follows .mixedOrders = true) (hlen : tch.length = ops.toList.length)
    (hcl : clOK 0 ops.toList cl = true) (hap : apartAll cl ((List.range tch.length).map fun j => (j, tch.getD j (none, []))) = true)
    (hd : (ops.toList.all fun o => dstOK s.n o.dst) = true) (h : RD P ops.toList tch cl 0 ops.toList s K) {F : Nat → Prop} {β : Nat → Option Nat} {a : Act} {w : World} (hr : Rel F β s a w) {QQ : Exit → Act → World → Prop}
    (hQ : ∀ s' β' a' w', K s' → Rel F β' s' a' w' → Evo s.st β w.drew s'.st β' w' → QQ .normal a' w') : wpAny P .any ops QQ ops.size (Array.replicate ops.size false) a w.drew := by
  obtain ⟨es, hl, hK, hall⟩ := h.es
  have hdd : ∀ (i : Nat) (o : Oper), ops[i]? = some o → dstOK s.n o.dst = true := fun i o ho => List.all_eq_true.1 hd o (List.mem_of_getElem? (by rw [Array.getElem?_toList]; exact ho))
  have hL : ∀ x, x ∈ zipE 0 ops.toList es → (x.2.1, idsOf x.2.2) = tch.getD x.1 (none, []) := by
    intro x hx
    obtain ⟨_, o, h1, h2, h3⟩ := zipE_get _ _ _ hl x hx
    rw [Nat.sub_zero] at h1 h2
    have := (hall x.1 o x.2.2 h1 h2).1
    rw [Nat.zero_add] at this
    rw [h3]; exact this
  have hfst : (zipE 0 ops.toList es).map (·.1) = List.range tch.length := by rw [zipE_fst _ _ _ hl, hlen, List.range_eq_range']
  refine draw_any es cl hm hl hcl ?_ hdd (fun i o e ho he => ?_) hr (fun β' a' w' hr' hev => hQ _ β' a' w' (by rw [foldP_appL]; exact hK) hr' hev)
  · rw [← hfst] at hap
    rw [List.map_map] at hap
    have : (zipE 0 ops.toList es).map (fun x => (x.1, x.2.1, idsOf x.2.2)) = (zipE 0 ops.toList es).map ((fun j => (j, tch.getD j (none, []))) ∘ fun x => x.1) := by
      apply List.map_congr_left
      intro x hx
      show (x.1, x.2.1, idsOf x.2.2) = (x.1, tch.getD x.1 (none, []))
      rw [← hL x hx]
    rw [this]; exact hap
  · obtain ⟨_, hop⟩ := hall i o e ho he
    rw [Nat.zero_add] at hop
    have hhid : hid tch cl i = ((zipE 0 ops.toList es).filter fun x => x.1 != i && !(cl.getD i []).contains x.1 && !(cl.getD x.1 []).contains i).map fun x => (x.2.1, idsOf x.2.2) := by
      unfold hid
      rw [← hfst, List.filter_map, List.map_map]
      symm
      apply List.map_congr_left
      intro x hx
      exact hL x (List.mem_filter.1 hx).1
    have happ : appL s (ops.toList.take i) (es.take i) = foldP (fun j => decide (j < i)) (zipE 0 ops.toList es) s := by
      have := foldP_take ops.toList es 0 i s hl
      rw [Nat.zero_add] at this
      exact this.symm
    have hclo := clOK_get _ _ hcl
    -- all that is ahead of i and not hidden is among those that surely have run
    have hnot : ∀ x, x ∈ zipE 0 ops.toList es → (cl.getD i []).contains x.1 ≠ decide (x.1 < i) → (x.2.1, idsOf x.2.2) ∈ hid tch cl i := by
      intro x hx hne
      rw [hhid]
      refine List.mem_map.2 ⟨x, List.mem_filter.2 ⟨hx, ?_⟩, rfl⟩
      obtain ⟨_, ox, h1, h2, _⟩ := zipE_get _ _ _ hl x hx
      rw [Nat.sub_zero] at h1
      have hlt : ∀ (j : Nat) oj, ops.toList[j]? = some oj → ∀ q, q ∈ cl.getD j [] → q < j := by
        intro j
        induction j using Nat.strongRecOn with
        | _ j ih =>
          intro oj hoj q hq
          have hj := hclo j oj hoj
          rw [Nat.zero_add] at hj
          obtain ⟨p, hp, hqp⟩ := hj.2 q hq
          have hpj := hj.1 p hp
          rcases hqp with rfl | hqp
          · exact hpj
          · have hpl : p < ops.toList.length := by have := lt_get hoj; omega
            have := ih p hpj _ (List.getElem?_eq_getElem hpl) q hqp
            omega
      by_cases hc : (cl.getD i []).contains x.1 = true
      · have hm : x.1 ∈ cl.getD i [] := by simpa using hc
        have := hlt i o ho _ hm
        rw [hc] at hne
        exact absurd (decide_eq_true this).symm hne
      · have hcf : (cl.getD i []).contains x.1 = false := by simpa using hc
        rw [hcf] at hne
        have hxi : x.1 < i := by
          by_cases h : x.1 < i
          · exact h
          · exact absurd (decide_eq_false h).symm hne
        have hci : (cl.getD x.1 []).contains i = false := by
          cases hcc : (cl.getD x.1 []).contains i with
          | false => rfl
          | true =>
            have hm : i ∈ cl.getD x.1 [] := by simpa using hcc
            have := hlt x.1 ox h1 _ hm
            omega
        simp only [hcf, hci, Bool.not_false, Bool.and_true, bne_iff_ne, ne_eq]
        omega
    refine hop.ext ?_ (fun t => ?_) (fun idd => ?_)
    · rw [dep, forget_n, forget_n, foldP_n, happ, foldP_n]
    · rw [dep, ← hhid, forget_fget, forget_fget, happ]
      by_cases h : ((hid tch cl i).any fun x => x.1 == some t) = true
      · rw [if_pos h, if_pos h]
      · rw [if_neg h, if_neg h]
        refine foldP_fr _ _ _ rfl (fun x hx hne ht => h ?_)
        exact List.any_eq_true.2 ⟨_, hnot x hx hne, by rw [ht]; simp⟩
    · rw [dep, ← hhid, forget_sget, forget_sget, happ]
      by_cases h : ((hid tch cl i).any fun x => x.2.contains idd) = true
      · rw [if_pos h, if_pos h]
      · rw [if_neg h, if_neg h]
        refine foldP_st _ _ _ rfl (fun x hx hne => ?_)
        cases hti : touchesId x.2 idd with
        | false => rfl
        | true =>
          refine absurd (List.any_eq_true.2 ⟨_, hnot x hx hne, ?_⟩) h
          have := touchesId_ids.1 hti
          simpa using this

theorem awp_rd {s : St} {Q : Exit → St → Prop} {id : Nat} {ops : Array Oper} (tch : Tch) (cl : List (List Nat)) (hm : P.follows .mixedOrders = true) (hlen : tch.length = ops.toList.length)
    (hcl : clOK 0 ops.toList cl = true) (hap : apartAll cl ((List.range tch.length).map fun j => (j, tch.getD j (none, []))) = true)
    (hd : (ops.toList.all fun o => dstOK s.n o.dst) = true) (h : RD P ops.toList tch cl 0 ops.toList s (Q .normal)) : AWP P (.region id ops true) s Q := by
  intro F β a w hr
  exact wp_region_any hm (rd_any tch cl hm hlen hcl hap hd h hr (fun s' β' a' w' hk hr' hev => ⟨s', β', hk, hr', hev.of_drew⟩))


section
variable {all l : List Oper} {o : Oper} {n i : Nat} {fr : Fra} {st : Sto} {K : St → Prop} {tch : Tch} {cl : List (List Nat)}

theorem RD.nil {s : St} (h : K s) : RD P all tch cl i [] s K := h

theorem RD.op {v : AV} {d : Tmp} (hg : o.guard = none) (hd : o.dst = some d) (ht : tch.getD i (none, []) = (some d, [])) (he : Eff P o (forget (hid tch cl i) ⟨n, fr, st⟩) ⟨v, []⟩)
    (h : RD P all tch cl (i + 1) l ⟨n, (d, v) :: fr, st⟩ K) : RD P all tch cl i (o :: l) ⟨n, fr, st⟩ K :=
  ⟨_, by rw [ht, hd]; rfl, .inl ⟨hg, he⟩, by rw [hd]; exact h⟩

theorem RD.new {v : AV} {d : Tmp} {id : Nat} {ob : Ob} (hg : o.guard = none) (hd : o.dst = some d) (ht : tch.getD i (none, []) = (some d, [id])) (he : Eff P o (forget (hid tch cl i) ⟨n, fr, st⟩) ⟨v, [(id, ob)]⟩)
    (h : RD P all tch cl (i + 1) l ⟨n, (d, v) :: fr, (id, some ob) :: st⟩ K) : RD P all tch cl i (o :: l) ⟨n, fr, st⟩ K :=
  ⟨_, by rw [ht, hd]; rfl, .inl ⟨hg, he⟩, by rw [hd]; exact h⟩

theorem RD.store {v : AV} {id : Nat} {ob : Ob} (hg : o.guard = none) (hd : o.dst = none) (ht : tch.getD i (none, []) = (none, [id])) (he : Eff P o (forget (hid tch cl i) ⟨n, fr, st⟩) ⟨v, [(id, ob)]⟩)
    (h : RD P all tch cl (i + 1) l ⟨n, fr, (id, some ob) :: st⟩ K) : RD P all tch cl i (o :: l) ⟨n, fr, st⟩ K :=
  ⟨_, by rw [ht, hd]; rfl, .inl ⟨hg, he⟩, by rw [hd]; exact h⟩

theorem RD.gop {v : AV} {d gd : Tmp} {j : Nat} {want b : Bool} {og : Oper} (hg : o.guard = some (j, want)) (hd : o.dst = some d) (ht : tch.getD i (none, []) = (some d, [])) (hj : all[j]? = some og) (hgd : og.dst = some gd)
    (hb : fget (forget (hid tch cl i) ⟨n, fr, st⟩).fr gd = .t (.bool b)) (hbw : b = want)
    (he : Eff P o (forget (hid tch cl i) ⟨n, fr, st⟩) ⟨v, []⟩) (h : RD P all tch cl (i + 1) l ⟨n, (d, v) :: fr, st⟩ K) : RD P all tch cl i (o :: l) ⟨n, fr, st⟩ K :=
  ⟨_, by rw [ht, hd]; rfl, .inr (.inl ⟨j, want, og, gd, b, hg, hj, hgd, hb, .inl ⟨hbw, he⟩⟩), by rw [hd]; exact h⟩

theorem RD.gskip {d gd : Tmp} {j : Nat} {want b : Bool} {og : Oper} (hg : o.guard = some (j, want)) (hd : o.dst = some d) (ht : tch.getD i (none, []) = (some d, [])) (hj : all[j]? = some og) (hgd : og.dst = some gd)
    (hb : fget (forget (hid tch cl i) ⟨n, fr, st⟩).fr gd = .t (.bool b)) (hbw : b ≠ want)
    (h : RD P all tch cl (i + 1) l ⟨n, (d, .tup []) :: fr, st⟩ K) : RD P all tch cl i (o :: l) ⟨n, fr, st⟩ K :=
  ⟨_, by rw [ht, hd]; rfl, .inr (.inl ⟨j, want, og, gd, b, hg, hj, hgd, hb, .inr ⟨hbw, rfl⟩⟩), by rw [hd]; exact h⟩

end

end Go.Tv

end
section
namespace Go.Tv

def ResP (σ : Sto) : List AV → List Tr → Prop
  | [], [] => True
  | x :: xs, y :: ys => Res σ x y ∧ ResP σ xs ys
  | _, _ => False

theorem ResP.len {σ : Sto} : ∀ (xs : List AV) (ys : List Tr), ResP σ xs ys → ys.length = xs.length
  | [], [], _ => rfl
  | _ :: xs, _ :: ys, h => by simp [ResP.len xs ys h.2]
  | [], _ :: _, h => h.elim
  | _ :: _, [], h => h.elim

theorem ResP.get {σ : Sto} : ∀ (xs : List AV) (ys : List Tr), ResP σ xs ys → ∀ (i : Nat) x y, xs[i]? = some x → ys[i]? = some y → Res σ x y
  | [], [], _, i, x, y, h, _ => by simp at h
  | a :: xs, b :: ys, h, i, x, y, hx, hy => by
    cases i with
    | zero => simp at hx hy; subst hx; subst hy; exact h.1
    | succ i => exact ResP.get xs ys h.2 i x y (by simpa using hx) (by simpa using hy)
  | [], _ :: _, h, _, _, _, _, _ => h.elim
  | _ :: _, [], h, _, _, _, _, _ => h.elim

theorem Res.aggP {σ : Sto} {cs : List AV} {xs : List Tr} (h : ResP σ cs xs) : Res σ (.agg cs) (.agg xs) := .agg _ _ h.len h.get

/-- A slice of one's own that is as long as its object. -/
theorem Res.ownM {σ : Sto} {id g len k : Nat} {ty : TypeId} {xs : List Tr} (hs : sget σ id = some ⟨k, ty, g, xs.map .t⟩) (hl : len = xs.length) : Res σ (.own id g 0 len) (.sl xs false) :=
  .ownT hs rfl rfl hl

end Go.Tv

end
section
namespace Go.Tv

variable {P : Program} {o : Oper} {D : St}

theorem Rel.bump {F : Nat → Prop} {β : Nat → Option Nat} {s : St} {a : Act} {w : World} (hr : Rel F β s a w) {id g' : Nat} {ob : Ob} (hs : sget s.st id = some ob) (hg : ob.gen < g') :
    Rel F β { n := s.n, fr := s.fr, st := sput s.st id (some { ob with gen := g' }) } a w ∧ Evo s.st β w (sput s.st id (some { ob with gen := g' })) β w ∧
      ∀ {off len : Nat} {v : Value}, VA w (G F β s.st) β s.st (.own id ob.gen off len) v → VA w (G F β (sput s.st id (some { ob with gen := g' }))) β (sput s.st id (some { ob with gen := g' })) (.own id g' off len) v := by
  have hown : ∀ b, Owned β (sput s.st id (some { ob with gen := g' })) b ↔ Owned β s.st b := by
    intro b
    constructor
    · rintro ⟨m, q, hm, hb⟩
      rw [sget_sput] at hm
      by_cases e : m = id
      · subst e; exact ⟨m, ob, hs, hb⟩
      · rw [if_neg e] at hm; exact ⟨m, q, hm, hb⟩
    · rintro ⟨m, q, hm, hb⟩
      by_cases e : m = id
      · subst e; exact ⟨m, _, sget_sput_same _ _ _, hb⟩
      · exact ⟨m, q, by rw [sget_sput, if_neg e]; exact hm, hb⟩
  have hG : ∀ b, G F β (sput s.st id (some { ob with gen := g' })) b ↔ G F β s.st b := fun b => ⟨fun h => h.imp (fun h => h) (hown b).1, fun h => h.imp (fun h => h) (hown b).2⟩
  have hmono : ∀ {x : AV} {v : Value}, VA w (G F β s.st) β s.st x v → VA w (G F β (sput s.st id (some { ob with gen := g' }))) β (sput s.st id (some { ob with gen := g' })) x v := fun hv =>
    VA.mono (Nat.le_refl _) (fun b _ hn => ⟨fun h => hn ((hG b).1 h), rfl⟩) (fun m q hm => by
      by_cases e : m = id
      · subst e
        rw [hs] at hm; cases hm
        exact ⟨_, sget_sput_same _ _ _, .inl hg⟩
      · exact ⟨q, by rw [sget_sput, if_neg e]; exact hm, .inr ⟨rfl, rfl, rfl, rfl, rfl, fun b c _ hc => ⟨c, hc, rfl⟩⟩⟩) hv
  refine ⟨⟨hr.defers, hr.size, fun i => hmono (hr.fr i), fun m q hm => ?_, fun i j oi oj b hi hj hbi hbj => ?_, fun i oi b hi hb => ?_, hr.ltF⟩, ⟨rfl, .refl _, rfl, Nat.le_refl _, fun _ _ _ => rfl, fun b hb => .inr ((hown b).1 hb), fun _ c _ h => ⟨c, h, rfl⟩⟩, ?_⟩
  · have key : ∃ q0, sget s.st m = some q0 ∧ q.els = q0.els ∧ q.k = q0.k ∧ q.ty = q0.ty := by
      change sget (sput s.st id (some { ob with gen := g' })) m = some q at hm
      rw [sget_sput] at hm
      split at hm
      · rename_i e; cases hm; exact ⟨ob, by rw [e]; exact hs, rfl, rfl, rfl⟩
      · exact ⟨q, hm, rfl, rfl, rfl⟩
    obtain ⟨q0, hq0, e1, e2, e3⟩ := key
    rcases hr.ob m q0 hq0 with ⟨h1, h2⟩ | ⟨b, c, h1, h2, h3, h4, h5⟩
    · exact .inl ⟨h1, by rw [e1]; exact h2⟩
    · refine .inr ⟨b, c, h1, by rw [e3]; exact h2, by rw [e1, e2]; exact h3, by rw [e1, e2]; exact h4, fun i x j y hx hy => ?_⟩
      rw [e1] at hx
      obtain ⟨g1, u, hu, hva⟩ := h5 i x j y hx hy
      exact ⟨g1, u, by rw [e2]; exact hu, hmono hva⟩
  · have key : ∀ m q, sget (sput s.st id (some { ob with gen := g' })) m = some q → ∃ q0, sget s.st m = some q0 := fun m q hm => by
      rw [sget_sput] at hm
      split at hm
      · rename_i e; exact ⟨ob, by rw [e]; exact hs⟩
      · exact ⟨q, hm⟩
    obtain ⟨q1, h1⟩ := key i oi hi
    obtain ⟨q2, h2⟩ := key j oj hj
    exact hr.inj i j q1 q2 b h1 h2 hbi hbj
  · have key : ∃ q0, sget s.st i = some q0 := by
      change sget (sput s.st id (some { ob with gen := g' })) i = some oi at hi
      rw [sget_sput] at hi
      split at hi
      · rename_i e; exact ⟨ob, by rw [e]; exact hs⟩
      · exact ⟨oi, hi⟩
    obtain ⟨q0, h0⟩ := key
    exact hr.notF i q0 b h0 hb
  · intro off len v hv
    cases hv with
    | own g1 g2 g3 g4 g5 g6 g7 => rw [hs] at g1; cases g1; exact .own (ob := { ob with gen := g' }) (sget_sput_same _ _ _) rfl g3 g4 g5 g6 g7
    | ownNil g1 g2 g3 g4 => rw [hs] at g1; cases g1; exact .ownNil (ob := { ob with gen := g' }) (sget_sput_same _ _ _) rfl g3 g4
    | ownZ g1 g2 g3 g4 g5 => rw [hs] at g1; cases g1; exact .ownZ (ob := { ob with gen := g' }) (sget_sput_same _ _ _) rfl g3 g4 g5
    | ownE g1 g2 g3 g4 => rw [hs] at g1; cases g1; exact .ownE (ob := { ob with gen := g' }) (sget_sput_same _ _ _) rfl g3 g4
    | stale g1 g2 g3 => rw [hs] at g1; cases g1; exact absurd g2 (Nat.lt_irrefl _)

/-- append(x, y..) at x's frontier, whatever y holds. -/
theorem eff_appendAny {t t2 e : TypeId} {x y : Operand} {k bytes id g len : Nat} {ob : Ob} {ys : List AV} (hd : dstOK D.n o.dst = true)
    (ho : o.op = .call { callee := .builtin .append, args := #[x, y], argTypes := #[t, t2] }) (hT : AppT P t t2 e k bytes) (hx : D.ev x = .own id g 0 len) (hs : sget D.st id = some ob) (hg : ob.gen = g)
    (hlen : len = ob.els.length) (hk : ob.k = k) (hty : ob.ty = e) (hy : Src D k (D.ev y) ys) (hlim : (len + ys.length) * bytes ≤ 140737488355328) (hlim2 : len + ys.length ≤ 4611686018427387904) :
    Eff P o D ⟨.own id (g + 1) 0 (len + ys.length), [(id, { ob with gen := g + 1, els := ob.els ++ ys })]⟩ := by
  rcases Nat.eq_zero_or_pos ys.length with h0 | h0
  · have hy0 : ys = [] := List.length_eq_zero_iff.1 h0
    subst hy0
    intro s hs' hfresh F β a w hr next Q hnext
    have hst := hs'.st _ _ hs
    refine eff_appendNil hd ho hT hx (.inr ⟨id, g, 0, len, ob, rfl, hs, hg⟩) hy s hs' (fun i b hm => by simp at hm) F β a w hr next Q (fun β' a' w' hr' hev => ?_)
    have hst' : sget (s.app o.dst ⟨.own id g 0 len, []⟩).st id = some ob := hst
    obtain ⟨q1, q2, q3⟩ := hr'.bump (g' := g + 1) hst' (by omega)
    -- the slot is told anew
    have hobe : ({ ob with gen := g + 1, els := ob.els ++ [] } : Ob) = { ob with gen := g + 1 } := by simp
    refine hnext β' a' w' ?_ ?_
    · have hdn : dstOK s.n o.dst = true := by rw [hs'.n]; exact hd
      show Rel F β' ⟨s.n, fputO s.fr o.dst (.own id (g + 1) 0 (len + ([] : List AV).length)), sput s.st id (some { ob with gen := g + 1, els := ob.els ++ [] })⟩ a' w'
      rw [hobe]
      refine ⟨q1.defers, q1.size, fun i => ?_, q1.ob, q1.inj, q1.notF, q1.ltF⟩
      cases hdst : o.dst with
      | none =>
        have := q1.fr i
        rw [show (s.app o.dst ⟨AV.own id g 0 len, []⟩).fr = s.fr from by rw [hdst]; rfl] at this
        exact this
      | some d =>
        show VA w' _ _ _ (fget (fput s.fr d _) i) _
        rw [fget_fput]
        by_cases e : i = d
        · rw [if_pos e]
          have hv := hr'.fr i
          have e2 : fget (s.app o.dst ⟨AV.own id g 0 len, []⟩).fr i = .own id g 0 len := by
            rw [hdst, e]; exact fget_fput_same _ _ _
          rw [e2] at hv
          rw [← hg] at hv
          exact q3 hv
        · rw [if_neg e]
          have := q1.fr i
          rw [show fget (s.app o.dst ⟨AV.own id g 0 len, []⟩).fr i = fget s.fr i from by rw [hdst]; exact fget_fput_ne _ _ _ _ e] at this
          exact this
    · show Evo s.st β w (sput s.st id (some { ob with gen := g + 1, els := ob.els ++ [] })) β' w'
      rw [hobe]
      exact hev.trans q2
  · exact eff_append hd ho hT hx hs hg hlen hk hty hy h0 hlim hlim2

theorem one_cells {x : AV} (h : x.one = true) : x.cells = [x] := by
  cases x with
  | t x => cases x <;> first | rfl | simp [AV.one, Tr.one] at h
  | _ => first | rfl | simp [AV.one] at h

theorem flat_one : ∀ (els : List AV), (els.all AV.one) = true → els.flatMap AV.cells = els
  | [], _ => rfl
  | x :: l, h => by
    simp only [List.all_cons, Bool.and_eq_true] at h
    rw [List.flatMap_cons, one_cells h.1, flat_one l h.2]; rfl

theorem eff_buildSlice1 {t e : TypeId} {len id : Nat} {ag : Bool} {parts : Array (Nat × Operand)} {z : Tr} {els : List AV} (hd : dstOK D.n o.dst = true) (ho : o.op = .buildSlice t len parts)
    (ht : elemOf P t = some (e, 1, ag)) (hz : zeroOf P e = some z) (hzk : z.cells.length = 1) (hlim : len * 1 ≤ 16777216)
    (hf : fillA (fun i => some (i * 1, 1)) (zeroCellsA z (len * 1)) (parts.toList.map fun p => (p.1, D.ev p.2)) = some els)
    (h1 : (els.all AV.one) = true) (hel : els.length = len) (hid : sget D.st id = none) :
    Eff P o D ⟨.own id 0 0 len, [(id, ⟨1, e, 0, els⟩)]⟩ :=
  eff_buildSlice hd ho ht hz hzk (by decide) hlim hf (flat_one els h1) (fun x hx => by
    have := List.all_eq_true.1 h1 x hx
    refine ⟨?_, by rw [one_cells this]; rfl⟩
    cases x with
    | t x => cases x <;> first | rfl | simp [AV.one, Tr.one] at this
    | _ => first | rfl | simp [AV.one] at this) hel hid

theorem srcOwn {x : Operand} {k id g off len : Nat} {ob : Ob} {ys : List AV} (hx : D.ev x = .own id g off len) (hs : sget D.st id = some ob) (hg : ob.gen = g) (hk : ob.k = k) (hl : Nat.ble (off + len) ob.els.length = true)
    (he : (ob.els.drop off).take len = ys) : Src D k (D.ev x) ys := by
  rw [hx, ← he]; exact .own hs hg hk (Nat.le_of_ble_eq_true hl)

theorem srcOwn' {x : Operand} {k id g off len : Nat} {ob : Ob} {ys : List AV} (hx : D.ev x = .own id g off len) (hs : sget D.st id = some ob) (hg : ob.gen = g) (hk : ob.k = k) (hl : off + len ≤ ob.els.length)
    (he : (ob.els.drop off).take len = ys) : Src D k (D.ev x) ys := by
  rw [hx, ← he]; exact .own hs hg hk hl

theorem srcM {α : Type} {x : Operand} {k : Nat} {g : α → Tr} {l : List α} {fl : Bool} (hx : D.ev x = .t (.sl (l.map g) fl)) (hk : ∀ a, (g a).cells.length = k) : Src D k (D.ev x) ((l.map g).map .t) := by
  rw [hx]; refine .t (fun y hy => ?_)
  obtain ⟨a, _, rfl⟩ := List.mem_map.1 hy
  exact hk a

/-! ### Strings of bytes that are equal -/

/-! ### Letting objects go -/

theorem wa_okA1' {σf σ : Sto} {x : AV} (h : okA1 σ x = true) : Wa σf σ x x := by
  cases x with
  | t x => exact .t x
  | own id g off len =>
    obtain ⟨ob, ho⟩ := Option.isSome_iff_exists.1 (show (sget σ id).isSome = true from h)
    exact .own id g off len ho
  | ptr id g i j =>
    obtain ⟨ob, ho⟩ := Option.isSome_iff_exists.1 (show (sget σ id).isSome = true from h)
    exact .ptr id g i j ho
  | junk => exact .junk _
  | _ => simp [okA1] at h

theorem wa_eq {σf σ : Sto} {x y : AV} (e : x = y) (h : okA1 σ y = true) : Wa σf σ x y := by
  rw [e]; exact wa_okA1' h

theorem wa_okA' {σf σ : Sto} {x : AV} (h : okA σ x = true) (h1 : ∀ cs, x = .agg cs → ∀ y, y ∈ cs → y.one = true) : Wa σf σ x x := by
  cases x with
  | agg cs =>
    simp only [okA, Bool.and_eq_true] at h
    have e : mkAgg cs = .agg cs := by unfold mkAgg; rw [Option.isNone_iff_eq_none.1 h.2]
    have := Wa.agg (σf := σf) (σ' := σ) (cs := cs) (ds := cs) rfl (fun i x y hx hy => by
      rw [hx] at hy; cases hy
      exact wa_okA1' (List.all_eq_true.1 h.1 x (List.mem_of_getElem? hx))) (h1 cs rfl)
    rwa [e] at this
  | fn f cs =>
    exact .fn rfl (fun i x y hx hy => by
      rw [hx] at hy; cases hy
      exact wa_okA1' (List.all_eq_true.1 (show cs.all (okA1 σ) = true from h) x (List.mem_of_getElem? hx)))
  | tup cs => simp [okA, okA1] at h
  | t x => exact wa_okA1' h
  | own id g off len => exact wa_okA1' h
  | ptr id g i j => exact wa_okA1' h
  | junk => exact wa_okA1' h

/-- Some slots and objects are kept; the objects σf are let go, and what pointed into them is read as trees. -/
theorem weak_frz {n : Nat} {fr fr' : Fra} {st st' : Sto} (σf : Sto) (hfree : AllS (fun id ob => sget st id = some ob) σf) (hdis : AllS (fun id _ => sget σf id = none) st') (hf : WaF σf st' fr fr') (hs : KeS st st' st') :
    Weak ⟨n, fr, st⟩ ⟨n, fr', st'⟩ := by
  intro F β a w hr
  refine Weak.of (s := ⟨n, fr, st⟩) (s' := ⟨n, fr', st'⟩) (σf := σf) ⟨rfl, fun id ob h => hfree.get id ob h, fun i => hf.get _ i, fun id ob hob => ?_⟩ F β a w hr
  obtain ⟨h1, h2⟩ := hs.get _ id ob hob
  refine ⟨hdis.get id ob hob, ob, h1, rfl, rfl, rfl, rfl, fun i x y hx hy => ?_⟩
  rw [hx] at hy; cases hy
  rcases hr.ob id ob h1 with ⟨_, h0⟩ | ⟨b, c, g1, g2, g3, g4, g5⟩
  · rw [h0] at hx; simp at hx
  · refine ⟨(g4 i x hx).1, rfl, fun j c' d hc hd => ?_⟩
    rw [hc] at hd; cases hd
    obtain ⟨q1, _⟩ := g5 i x j c' hx hc
    refine ⟨q1, ?_⟩
    have hx2 := h2 x (List.mem_of_getElem? hx)
    have hmem := List.mem_of_getElem? hc
    cases x with
    | t x =>
      simp only [AV.cells, List.mem_map] at hmem
      obtain ⟨y, _, rfl⟩ := hmem
      exact .t y
    | agg cs =>
      simp only [okA, Bool.and_eq_true] at hx2
      exact wa_okA1' (List.all_eq_true.1 hx2.1 c' hmem)
    | _ =>
      simp only [AV.cells, List.mem_singleton] at hmem
      subst hmem
      refine wa_okA' hx2 (fun cs hcs => ?_)
      cases hcs

end Go.Tv

end
section
namespace Go.Tv

theorem adopt_core {F : Nat → Prop} {β : Nat → Option Nat} {n : Nat} {fr : Fra} {st : Sto} {a : Act} {w : World} (hr : Rel F β ⟨n, fr, st⟩ a w) (id k : Nat) (ty : TypeId) (hid : sget st id = none) :
    ∃ β', Rel F β' ⟨n, fr, (id, some ⟨k, ty, 0, []⟩) :: st⟩ a w ∧ (∀ b, Owned β' ((id, some ⟨k, ty, 0, []⟩) :: st) b → Owned β st b) ∧
      ∀ v, VA w (G F β' ((id, some ⟨k, ty, 0, []⟩) :: st)) β' ((id, some ⟨k, ty, 0, []⟩) :: st) (.t (.sl [] true)) v →
        VA w (G F β' ((id, some ⟨k, ty, 0, []⟩) :: st)) β' ((id, some ⟨k, ty, 0, []⟩) :: st) (.own id 0 0 0) v := by
  let β' : Nat → Option Nat := fun m => if m = id then none else β m
  have hst : ∀ m, sget ((id, some (⟨k, ty, 0, []⟩ : Ob)) :: st) m = if m = id then some ⟨k, ty, 0, []⟩ else sget st m := fun m => sget_sput st id m _
  have hown : ∀ b, Owned β' ((id, some ⟨k, ty, 0, []⟩) :: st) b ↔ Owned β st b := by
    intro b
    constructor
    · rintro ⟨m, ob, hm, hb⟩
      rw [hst] at hm
      by_cases e : m = id
      · subst e; simp [β'] at hb
      · rw [if_neg e] at hm
        exact ⟨m, ob, hm, by simpa [β', e] using hb⟩
    · rintro ⟨m, ob, hm, hb⟩
      have e : m ≠ id := fun e => by subst e; rw [hid] at hm; cases hm
      exact ⟨m, ob, by rw [hst, if_neg e]; exact hm, by simpa [β', e] using hb⟩
  have hG : ∀ b, G F β' ((id, some ⟨k, ty, 0, []⟩) :: st) b ↔ G F β st b := fun b => ⟨fun h => h.imp (fun h => h) (hown b).1, fun h => h.imp (fun h => h) (hown b).2⟩
  have hmono : ∀ {x : AV} {v : Value}, VA w (G F β st) β st x v → VA w (G F β' ((id, some ⟨k, ty, 0, []⟩) :: st)) β' ((id, some ⟨k, ty, 0, []⟩) :: st) x v := fun hv =>
    VA.mono (Nat.le_refl _) (fun b _ hn => ⟨fun h => hn ((hG b).1 h), rfl⟩) (fun m ob hm => by
      have e : m ≠ id := fun e => by subst e; rw [hid] at hm; cases hm
      exact ⟨ob, by rw [hst, if_neg e]; exact hm, .inr ⟨rfl, rfl, rfl, rfl, by simp [β', e], fun b c _ hc => ⟨c, hc, rfl⟩⟩⟩) hv
  have hsid : sget ((id, some (⟨k, ty, 0, []⟩ : Ob)) :: st) id = some ⟨k, ty, 0, []⟩ := by rw [hst, if_pos rfl]
  refine ⟨β', ⟨hr.defers, hr.size, fun i => hmono (hr.fr i), fun m ob hm => ?_, fun i j oi oj b hi hj hbi hbj => ?_, fun i oi b hi hb => ?_, hr.ltF⟩, fun b => (hown b).1, fun v hv => ?_⟩
  · change sget ((id, some ⟨k, ty, 0, []⟩) :: st) m = some ob at hm
    rw [hst] at hm
    by_cases e : m = id
    · rw [if_pos e] at hm; cases hm
      exact .inl ⟨by simp [β', e], rfl⟩
    · rw [if_neg e] at hm
      rcases hr.ob m ob hm with ⟨q1, q2⟩ | ⟨b, c, q1, q2, q3, q4, q5⟩
      · exact .inl ⟨by simp [β', e, q1], q2⟩
      · refine .inr ⟨b, c, by simp [β', e, q1], q2, q3, q4, fun i x j y hx hy => ?_⟩
        obtain ⟨g1, u, hu, hva⟩ := q5 i x j y hx hy
        exact ⟨g1, u, hu, hmono hva⟩
  · change sget ((id, some ⟨k, ty, 0, []⟩) :: st) i = some oi at hi
    change sget ((id, some ⟨k, ty, 0, []⟩) :: st) j = some oj at hj
    rw [hst] at hi hj
    have e1 : i ≠ id := fun e => by subst e; simp [β'] at hbi
    have e2 : j ≠ id := fun e => by subst e; simp [β'] at hbj
    rw [if_neg e1] at hi
    rw [if_neg e2] at hj
    exact hr.inj i j oi oj b hi hj (by simpa [β', e1] using hbi) (by simpa [β', e2] using hbj)
  · change sget ((id, some ⟨k, ty, 0, []⟩) :: st) i = some oi at hi
    rw [hst] at hi
    have e1 : i ≠ id := fun e => by subst e; simp [β'] at hb
    rw [if_neg e1] at hi
    exact hr.notF i oi b hi (by simpa [β', e1] using hb)
  · cases hv with
    | t hv =>
      cases hv with
      | nils f => exact .ownNil hsid rfl (by simp [β']) rfl
      | nilsE f ad => exact .ownE hsid rfl (by simp [β']) rfl
      | sl xs f k' b p cap vs hb hF hf =>
        have hc0 : cap = 0 := hf rfl
        subst hc0
        exact .ownE hsid rfl (by simp [β']) rfl

end Go.Tv

end
section
namespace Go.Tv

variable {P : Program} {o : Oper} {D : St}

theorem eff_sliceM {α : Type} {t e : TypeId} {x : Operand} {lo hi : Option Operand} {k : Nat} {ag fl : Bool} {l h : Option Nat} {g : α → Tr} {xs r : List α} (hd : dstOK D.n o.dst = true) (ho : o.op = .slice t x lo hi none)
    (ht : elemOf P t = some (e, k, ag)) (hx : D.ev x = .t (.sl (xs.map g) fl)) (hk : ∀ a, (g a).cells.length = k) (hlo : Bnd D lo l) (hhi : Bnd D hi h) (h1 : l.getD 0 ≤ h.getD xs.length)
    (h2 : h.getD xs.length ≤ xs.length) (hr : (xs.take (h.getD xs.length)).drop (l.getD 0) = r) : Eff P o D ⟨.t (.sl (r.map g) false), []⟩ := by
  have := eff_sliceT (P := P) (fl' := false) hd ho ht hx (fun y hy => by obtain ⟨a, _, rfl⟩ := List.mem_map.1 hy; exact hk a) hlo hhi (by simpa using h1) (by simpa using h2) (fun h => by cases h)
  rw [List.length_map, ← List.map_take, ← List.map_drop, hr] at this
  exact this

section
variable {all l : List Oper} {n : Nat} {fr : Fra} {st : Sto} {K : St → Prop}

theorem RW.new2 {v : AV} {d : Tmp} {i1 i2 : Nat} {o1 o2 : Ob} (hg : o.guard = none) (hd : o.dst = some d) (he : Eff P o ⟨n, fr, st⟩ ⟨v, [(i1, o1), (i2, o2)]⟩)
    (h : RW P all l ⟨n, (d, v) :: fr, (i2, some o2) :: (i1, some o1) :: st⟩ K) : RW P all (o :: l) ⟨n, fr, st⟩ K :=
  ⟨_, Weak.refl _, rfl, .inl ⟨hg, _, he, by rw [hd]; exact h⟩⟩

end

def flatEls (ob : Ob) : Prop := ∀ x, x ∈ ob.els → ∃ t, x = .t t ∧ t.flat = true

theorem flatEls_t {xs : List Tr} {k g : Nat} {ty : TypeId} (h : ∀ x, x ∈ xs → x.flat = true) : flatEls ⟨k, ty, g, xs.map .t⟩ := fun x hx => by
  obtain ⟨t, ht, rfl⟩ := List.mem_map.1 hx
  exact ⟨t, rfl, h t ht⟩

inductive FlatA : AV → Prop
  | t (x : Tr) (h : x.flat = true) : FlatA (.t x)
  | own (id g off len : Nat) : FlatA (.own id g off len)
  | tup (cs : List AV) (h : ∀ c, c ∈ cs → FlatA c) : FlatA (.tup cs)

theorem FlatA.to {σ : Sto} {ren : Nat → Nat} {x y : AV} (hf : FlatA x) (hr : RenA σ ren x y) {w : World} {H H' : Nat → Prop} {β β' : Nat → Option Nat} {σ' : Sto}
    (hs : ∀ id ob, sget σ id = some ob → sget σ' (ren id) = some ob ∧ β' (ren id) = β id) (hne : ∀ id ob, sget σ id = some ob → ob.els ≠ []) :
    ∀ {v : Value}, VA w H β σ x v → VA w H' β' σ' y v := by
  induction hf generalizing y with
  | t x h =>
    cases hr with
    | t => intro v hv; cases hv with | t hv => exact .t (flat_v h hv)
  | own id g off len =>
    cases hr with
    | own _ _ _ _ h hn =>
      subst hn
      intro v hv
      cases hv with
      | own g1 g2 g3 g4 g5 g6 g7 => exact .own (hs _ _ g1).1 g2 ((hs _ _ g1).2.trans g3) g4 g5 g6 g7
      | ownNil g1 g2 g3 g4 => exact .ownNil (hs _ _ g1).1 g2 ((hs _ _ g1).2.trans g3) g4
      | ownZ g1 g2 g3 g4 g5 => exact .ownZ (hs _ _ g1).1 g2 ((hs _ _ g1).2.trans g3) g4 g5
      | ownE g1 g2 g3 g4 => exact absurd g4 (hne _ _ g1)
      | stale g1 g2 g3 => exact .stale (hs _ _ g1).1 g2 g3
  | tup cs h ih =>
    cases hr with
    | tup _ ds hl hcd =>
      intro v hv
      cases hv with
      | @tup _ vs hl' hva =>
        refine .tup (by omega) (fun j d u hd hu => ?_)
        have hc : cs[j]? = some (cs[j]'(by rw [hl]; exact lt_get hd)) := List.getElem?_eq_getElem _
        exact ih _ (List.mem_of_getElem? hc) (hcd j _ d hc hd) (hva j _ u hc hu)

theorem flat_ob {w : World} {H H' : Nat → Prop} {β β' : Nat → Option Nat} {σ σ' : Sto} {id n : Nat} {ob : Ob} (ht : flatEls ob) (hb : β' n = β id) (h : ObOK w H β σ id ob) : ObOK w H' β' σ' n ob := by
  rcases h with ⟨h1, h2⟩ | ⟨b, c, h1, h2, h3, h4, h5⟩
  · exact .inl ⟨hb.trans h1, h2⟩
  · refine .inr ⟨b, c, hb.trans h1, h2, h3, h4, fun i x j y hx hy => ?_⟩
    obtain ⟨g1, u, hu, hva⟩ := h5 i x j y hx hy
    refine ⟨g1, u, hu, ?_⟩
    obtain ⟨t, rfl, hfl⟩ := ht x (List.mem_of_getElem? hx)
    simp only [AV.cells, List.getElem?_map, Option.map_eq_some_iff] at hy
    obtain ⟨y', hy', rfl⟩ := hy
    have hy1 : y'.flat = true := by
      have hm := List.mem_of_getElem? hy'
      cases t with
      | agg cs =>
        have h1 := List.all_eq_true.1 (show cs.all Tr.flat1 = true from hfl) y' hm
        cases y' <;> first | rfl | simp [Tr.flat1] at h1
      | _ =>
        simp only [Tr.cells, List.mem_singleton] at hm
        subst hm
        exact hfl
    cases hva with
    | t hva => exact .t (flat_v hy1 hva)

end Go.Tv

end
section
namespace Go.Tv

def RenF (σ : Sto) (ren : Nat → Nat) : Fra → Fra → Prop
  | [], [] => True
  | x :: l, y :: m => x.1 = y.1 ∧ (RenA σ ren x.2 y.2 ∨ y.2 = .junk) ∧ RenF σ ren l m
  | _, _ => False

theorem RenF.get {σ : Sto} {ren : Nat → Nat} : ∀ (fr fr' : Fra), RenF σ ren fr fr' → ∀ i, RenA σ ren (fget fr i) (fget fr' i) ∨ fget fr' i = .junk
  | [], [], _, i => .inr rfl
  | x :: l, y :: m, h, i => by
    rw [show x :: l = fput l x.1 x.2 from rfl, show y :: m = fput m y.1 y.2 from rfl, fget_fput, fget_fput, ← h.1]
    split
    · exact h.2.1
    · exact RenF.get l m h.2.2 i
  | [], _ :: _, h, _ => h.elim
  | _ :: _, [], h, _ => h.elim

end Go.Tv

end
section
namespace Go.Tv

theorem weak_bumpS {n : Nat} {fr : Fra} {st : Sto} {d : Tmp} {id g off len k : Nat} {ty : TypeId} {els : List AV} (g' : Nat) (h : fget fr d = .own id g off len) (hs : sget st id = some ⟨k, ty, g, els⟩) (hg : g < g') :
    Weak ⟨n, fr, st⟩ ⟨n, (d, .own id g' off len) :: fr, (id, some ⟨k, ty, g', els⟩) :: st⟩ := by
  intro F β a w hr
  obtain ⟨q1, _, q3⟩ := hr.bump (g' := g') (ob := ⟨k, ty, g, els⟩) hs hg
  refine ⟨β, ⟨q1.defers, q1.size, fun i => ?_, q1.ob, q1.inj, q1.notF, q1.ltF⟩, fun b hb => ?_⟩
  · show VA w _ _ _ (fget (fput fr d (.own id g' off len)) i) _
    rw [fget_fput]
    split
    · rename_i e
      rw [e]
      have hv := hr.fr d
      rw [show fget (St.mk n fr st).fr d = fget fr d from rfl, h] at hv
      exact q3 hv
    · exact q1.fr i
  · obtain ⟨m, ob, hm, hb⟩ := hb
    change sget (sput st id (some ⟨k, ty, g', els⟩)) m = some ob at hm
    rw [sget_sput] at hm
    split at hm
    · rename_i e; rw [e] at hb; exact ⟨id, _, hs, hb⟩
    · exact ⟨m, ob, hm, hb⟩

section
variable {P : Program} {o : Oper} {D : St}

theorem eff_convIntE {src dst : TypeId} {x : Operand} {k k' : IntKind} {n m : Int} (hd : dstOK D.n o.dst = true) (ho : o.op = .convert src dst x)
    (hsrc : (P.underlying src).isSome = true) (hdst : P.underlying dst = some (.int k')) (hx : D.ev x = .t (.int k n)) (hw : k'.wrap n = m) : Eff P o D ⟨.t (.int k' m), []⟩ := by
  subst hw; exact eff_convInt hd ho hsrc hdst hx

theorem eff_shrE {t ty : TypeId} {x y : Operand} {k yk : IntKind} {n m r : Int} (hd : dstOK D.n o.dst = true) (ho : o.op = .binOp .shr t x y ty)
    (hx : D.ev x = .t (.int k n)) (hy : D.ev y = .t (.int yk m)) (hm : 0 ≤ m) (hr : n.fdiv (2 ^ (min m.toNat k.bits)) = r) : Eff P o D ⟨.t (.int k r), []⟩ := by
  subst hr; exact eff_shr hd ho hx hy hm

theorem wrapU64 {n : Int} (h : 0 ≤ n) (h2 : n < 18446744073709551616) : IntKind.u64.wrap n = n := by
  show (if (false && decide (n % 2 ^ 64 ≥ 2 ^ (64 - 1))) = true then n % 2 ^ 64 - 2 ^ 64 else n % 2 ^ 64) = n
  rw [Bool.false_and, if_neg (by decide)]
  omega

theorem shr1 (n : Nat) : (n : Int).fdiv (2 ^ (min (1 : Int).toNat IntKind.u64.bits)) = ((n / 2 : Nat) : Int) := by
  show (n : Int).fdiv 2 = _
  rw [Int.fdiv_eq_ediv_of_nonneg _ (by decide)]
  omega
end

theorem Res.ownPre {σ : Sto} {id g len : Nat} {ob : Ob} {xs : List Tr} (rest : List AV) (hs : sget σ id = some ob) (hg : ob.gen = g) (he : ob.els = xs.map .t ++ rest) (hl : len = xs.length) : Res σ (.own id g 0 len) (.sl xs false) :=
  .own id g 0 len ob xs hs hg (by rw [he, hl]; simp) hl.symm (fun i e x h1 h2 => by
    have hi := lt_get h2
    rw [he, Nat.zero_add, List.getElem?_append_left (by simpa using hi), List.getElem?_map, h2] at h1
    cases h1; exact .t x)

end Go.Tv

end
section
namespace Go.Tv

end Go.Tv

end
section
namespace Go.Tv

end Go.Tv

end
section
namespace Go.Tv

theorem RowOf.cr {w : World} {H : Nat → Prop} {β : Nat → Option Nat} {σ : Sto} {c : Array Value} {els : List AV} {k : Nat} (hk : ∀ y, y ∈ els → y.noTup = true ∧ y.cells.length = k)
    (h : RowOf w H β σ c els k) (hc : els.length * k ≤ c.size) {m n : Nat} (hmn : m + n ≤ els.length) :
    CR w H β σ ((c.toList.drop (m * k)).take (n * k)).toArray (((els.drop m).take n).flatMap AV.cells) := by
  have hmk : m * k + n * k ≤ els.length * k := by rw [← Nat.add_mul]; exact Nat.mul_le_mul_right _ hmn
  have hsub : ∀ y, y ∈ (els.drop m).take n → y.cells.length = k := fun y hy => (hk y (List.mem_of_mem_drop (List.mem_of_mem_take hy))).2
  have hfl : (((els.drop m).take n).flatMap AV.cells).length = n * k := by
    rw [flat_length (k := k) _ (fun i x hx => hsub x (List.mem_of_getElem? hx)), List.length_take, List.length_drop]
    congr 1; omega
  refine ⟨by rw [hfl]; simp; omega, fun j y hy => ?_⟩
  have hj : j < n * k := by rw [← hfl]; exact lt_of_get hy
  have hk0 : 0 < k := by
    rcases Nat.eq_zero_or_pos k with h | h
    · subst h; simp at hj
    · exact h
  have hdm : j / k * k + j % k = j := by rw [Nat.mul_comm]; exact Nat.div_add_mod j k
  have hi : j / k < n := (Nat.div_lt_iff_lt_mul hk0).2 hj
  have hlt : m + j / k < els.length := by omega
  have hel : els[m + j / k]? = some els[m + j / k] := List.getElem?_eq_getElem hlt
  have hyk := (hk _ (List.getElem_mem hlt)).2
  have hz : (els[m + j / k]).cells[j % k]? = some ((els[m + j / k]).cells[j % k]'(by rw [hyk]; exact Nat.mod_lt _ hk0)) := List.getElem?_eq_getElem _
  obtain ⟨h1, u, hu, hva⟩ := h _ _ _ _ hel hz
  have hidx : (m + j / k) * k + j % k = m * k + j := by rw [Nat.add_mul]; omega
  rw [hidx] at hu
  have hsubi : ((els.drop m).take n)[j / k]? = some els[m + j / k] := by rw [List.getElem?_take_of_lt hi, List.getElem?_drop]; exact hel
  have := flat_get (k := k) ((els.drop m).take n) (fun i x hx => hsub x (List.mem_of_getElem? hx)) (j / k) _ (j % k) _ hsubi hz
  rw [hdm, hy] at this
  cases this
  refine ⟨h1, u, ?_, hva⟩
  simp only [List.getElem?_toArray]
  rw [List.getElem?_take_of_lt hj, List.getElem?_drop, Array.getElem?_toList]
  exact hu

def InsShift (P : Program) (F : FuncId) (tE : TypeId) (k : Nat) : Prop :=
  ∀ (b n c i vb vc : Nat) (ca cv : Array Value) (vs : List Value) (w : World) (_ : i < n) (_ : n + 1 ≤ c) (_ : n + 1 ≤ 9223372036854775807) (_ : vb ≠ b)
    (_ : w.heap[b]? = some (.cells ca tE (0, 0))) (_ : w.heap[vb]? = some (.cells cv tE (0, 0))) (_ : c * k ≤ ca.size) (_ : vs.length = k)
    (_ : ∀ (j : Nat) v, vs[j]? = some v → w.cell? ⟨vb, 0 + j, none⟩ = some v)
    (_ : ∀ (j : Nat) v, j < n * k → ca[j]? = some v → v.oneCell' = true) (_ : ∀ v, v ∈ vs → v.oneCell' = true),
    Calls P F #[.slice (some ⟨b, 0, none⟩) n c, .int .i64 i, .slice (some ⟨vb, 0, none⟩) 1 vc] w fun e w' =>
      e = .returned (.slice (some ⟨b, 0, none⟩) (n + 1) c) ∧
      w' = setB w.drew b (.cells (writeAt (writeAt ca ((i + 1) * k) ((ca.toList.drop (i * k)).take ((n - i) * k))) (i * k) vs) tE (0, 0))

def InsGrow (P : Program) (F : FuncId) (tE : TypeId) (k bytes : Nat) : Prop :=
  ∀ (b n c i vb vc : Nat) (ca cv : Array Value) (vs : List Value) (w : World) (_ : i < n) (_ : n ≤ c) (_ : c < n + 1) (_ : vb ≠ b) (_ : (n + 1) * bytes ≤ 140737488355328)
    (_ : w.heap[b]? = some (.cells ca tE (0, 0))) (_ : w.heap[vb]? = some (.cells cv tE (0, 0))) (_ : n * k ≤ ca.size) (_ : vs.length = k)
    (_ : ∀ (j : Nat) v, vs[j]? = some v → w.cell? ⟨vb, 0 + j, none⟩ = some v)
    (_ : ∀ (j : Nat) v, j < n * k → ca[j]? = some v → v.oneCell' = true) (_ : ∀ v, v ∈ vs → v.oneCell' = true),
    Calls P F #[.slice (some ⟨b, 0, none⟩) n c, .int .i64 i, .slice (some ⟨vb, 0, none⟩) 1 vc] w fun e w' => ∃ G rest, n + 1 ≤ G ∧ rest.size = (G - (n + 1)) * k ∧
      e = .returned (.slice (some ⟨w.heap.size, 0, none⟩) (n + 1) G) ∧
      w' = w.drew.drew.alloc (.cells ((ca.toList.take (i * k)).toArray ++ vs.toArray ++ ((ca.toList.drop (i * k)).take ((n - i) * k)).toArray ++ rest) tE)

theorem own_inv {w : World} {H : Nat → Prop} {β : Nat → Option Nat} {σ : Sto} {id g off len : Nat} {ob : Ob} {v : Value} (h : VA w H β σ (.own id g off len) v) (hs : sget σ id = some ob) (hg : ob.gen = g) (hl : 0 < len) :
    ∃ b cap c, v = .slice (some ⟨b, off * ob.k, none⟩) len cap ∧ β id = some b ∧ off + len ≤ ob.els.length ∧ ob.els.length ≤ off + cap ∧ w.heap[b]? = some (.cells c ob.ty (0, 0)) ∧ (off + cap) * ob.k ≤ c.size := by
  generalize hx : AV.own id g off len = x at h
  cases h with
  | own g1 g2 g3 g4 g5 g6 g7 => cases hx; rw [hs] at g1; cases g1; exact ⟨_, _, _, rfl, g3, g4, g5, g6, g7⟩
  | ownNil g1 g2 g3 g4 => cases hx; omega
  | ownZ g1 g2 g3 g4 g5 => cases hx; omega
  | ownE g1 g2 g3 g4 => cases hx; omega
  | stale g1 g2 g3 => cases hx; rw [hs] at g1; cases g1; omega
  | t h => cases hx
  | ptr => cases hx
  | stalep => cases hx
  | agg => cases hx
  | tup => cases hx
  | fn => cases hx
  | junk => cases hx

theorem Rel.ofMem {F : Nat → Prop} {β : Nat → Option Nat} {σ : Sto} {w : World} (h : Mem F β σ w) : Rel F β ⟨1, [], σ⟩ { tmps := #[undef], defers := [] } w :=
  ⟨rfl, rfl, fun i => .junk _, h.ob, h.inj, h.notF, h.ltF⟩

theorem CR.drew {w : World} {H : Nat → Prop} {β : Nat → Option Nat} {σ : Sto} {c : Array Value} {ys : List AV} (h : CR w H β σ c ys) : CR w.drew H β σ c ys :=
  ⟨h.1, fun j y hy => by obtain ⟨h1, u, hu, hva⟩ := h.2 j y hy; exact ⟨h1, u, hu, hva.drew⟩⟩

theorem RowOf.drew {w : World} {H : Nat → Prop} {β : Nat → Option Nat} {σ : Sto} {c : Array Value} {ys : List AV} {k : Nat} (h : RowOf w H β σ c ys k) : RowOf w.drew H β σ c ys k :=
  fun i x j y hx hy => by obtain ⟨h1, u, hu, hva⟩ := h i x j y hx hy; exact ⟨h1, u, hu, hva.drew⟩

set_option maxHeartbeats 1000000 in
/-- slices.Insert(s, i, x), i < len(s). -/
theorem insert_retG {P : Program} {F : FuncId} {tE : TypeId} {k bytes : Nat} (hS : InsShift P F tE k) (hG : InsGrow P F tE k bytes) (l : List Tr) (x : Tr) (g i : Nat) (hi : i < l.length)
    (hlim : (l.length + 1) * bytes ≤ 140737488355328) (hl63 : l.length + 1 ≤ 9223372036854775807) :
    RetG P F [(0, some ⟨k, tE, g, l.map .t⟩), (1, some ⟨k, tE, 0, [.t x]⟩)] [.own 0 g 0 l.length, .t (.int .i64 (i : Nat)), .own 1 0 0 1]
      [(0, some ⟨k, tE, g + 1, (l.take i ++ [x] ++ l.drop i).map .t⟩), (1, some ⟨k, tE, 1, [.t x]⟩)] (.own 0 (g + 1) 0 (l.length + 1)) := by
  intro Fr β w vals hM hlen hv
  obtain ⟨v0, v1, v2, rfl⟩ : ∃ v0 v1 v2, vals = [v0, v1, v2] := by
    match vals, hlen with
    | [a, b, c], _ => exact ⟨a, b, c, rfl⟩
  have h0 := hv 0 _ v0 rfl rfl
  have h1 := hv 1 _ v1 rfl rfl
  have h2 := hv 2 _ v2 rfl rfl
  have hr := Rel.ofMem hM
  have hs0 : sget ([(0, some ⟨k, tE, g, l.map .t⟩), (1, some ⟨k, tE, 0, [.t x]⟩)] : Sto) 0 = some ⟨k, tE, g, l.map .t⟩ := rfl
  have hs1 : sget ([(0, some ⟨k, tE, g, l.map .t⟩), (1, some ⟨k, tE, 0, [.t x]⟩)] : Sto) 1 = some ⟨k, tE, 0, [.t x]⟩ := rfl
  obtain rfl : v1 = .int .i64 (i : Nat) := by cases h1 with | t h => cases h; rfl
  obtain ⟨b, c, ca, rfl, g3, g4, g5, g6, g7⟩ := own_inv h0 hs0 rfl (by omega)
  obtain ⟨vb, vc, cv, rfl, k3, k4, k5, k6, k7⟩ := own_inv h2 hs1 rfl (by omega)
  simp only [List.length_map, List.length_singleton, Nat.zero_add, Nat.zero_mul] at g4 g5 g6 g7 k4 k5 k6 k7 ⊢
  have hvb : vb ≠ b := fun e => by
    subst e
    have := hM.inj 0 1 _ _ vb hs0 hs1 g3 k3
    omega
  obtain ⟨ca', e1, hca, hce, hrow⟩ := hr.row hs0 g3
  rw [g6] at e1; cases e1
  obtain ⟨cv', e2, hcv, hve, hrowv⟩ := hr.row hs1 k3
  rw [k6] at e2; cases e2
  simp only [List.length_map, List.length_singleton, Nat.one_mul] at hca hcv
  have hxk : x.noTup = true ∧ x.cells.length = k := by have := hve _ (List.mem_singleton.2 rfl); simpa [AV.noTup, AV.cells] using this
  have hlk : ∀ y, y ∈ l.map AV.t → y.noTup = true ∧ y.cells.length = k := hce
  -- the rows' pieces
  have hA := RowOf.cr hlk hrow (by simpa using hca) (m := 0) (n := i) (by simp; omega)
  have hB := RowOf.cr hlk hrow (by simpa using hca) (m := i) (n := l.length - i) (by simp; omega)
  have hX := RowOf.cr hve hrowv (by simpa using hcv) (m := 0) (n := 1) (by simp)
  have hall := RowOf.cr hlk hrow (by simpa using hca) (m := 0) (n := l.length) (by simp)
  simp only [Nat.zero_mul, List.drop_zero, Nat.one_mul] at hA hB hX hall
  obtain ⟨vs, hvs⟩ : ∃ vs, vs = cv.toList.take k := ⟨_, rfl⟩
  rw [← hvs] at hX
  have hvl : vs.length = k := by rw [hvs, List.length_take, Array.length_toList]; omega
  have hvr : ∀ (j : Nat) v, vs[j]? = some v → w.cell? ⟨vb, 0 + j, none⟩ = some v := by
    intro j v hj
    rw [cell_of_heap k6, Nat.zero_add, ← Array.getElem?_toList]
    rw [hvs, List.getElem?_take] at hj
    split at hj
    · exact hj
    · cases hj
  have h1v : ∀ v, v ∈ vs → v.oneCell' = true := fun v hv => cr_one hX v (by simpa using hv)
  have h1c : ∀ (j : Nat) v, j < l.length * k → ca[j]? = some v → v.oneCell' = true := by
    intro j v hj hc
    refine cr_one hall v ?_
    rw [List.mem_iff_getElem?]
    refine ⟨j, ?_⟩
    rw [List.getElem?_take_of_lt hj, Array.getElem?_toList]
    exact hc
  have hels : (l.take i ++ [x] ++ l.drop i).map AV.t = (l.map AV.t).take i ++ [.t x] ++ (l.map AV.t).drop i := by simp [List.map_take, List.map_drop]
  have hi' : i ≤ (l.map AV.t).length := by simp; omega
  rcases Nat.lt_or_ge l.length c with hroom | hroom
  · refine (hS b l.length c i vb vc ca cv vs w hi hroom hl63 hvb g6 k6 g7 hvl hvr h1c h1v).mono ?_
    rintro e w' ⟨rfl, rfl⟩
    have hm1 : i + 1 ≤ (l.map AV.t).length := by simp; omega
    have hw1 := RowOf.write hlk (fun y hy => hlk y (List.mem_of_mem_drop (List.mem_of_mem_take hy))) hm1 hrow.drew hB.drew (by rw [List.length_take, List.length_drop, List.length_map]; exact Nat.le_trans (Nat.mul_le_mul_right _ (by omega)) g7)
    have hsz1 : (writeAt ca ((i + 1) * k) ((ca.toList.drop (i * k)).take ((l.length - i) * k))).size = ca.size := writeAt_size _ _ _
    have ht1 : ((l.map AV.t).drop i).take (l.length - i) = (l.map AV.t).drop i := List.take_of_length_le (by simp)
    rw [ht1] at hw1
    have hd1 : (l.map AV.t).drop (i + 1 + ((l.map AV.t).drop i).length) = [] := List.drop_of_length_le (by rw [List.length_drop, List.length_map]; omega)
    rw [hd1, List.append_nil] at hw1
    have hk1 : ∀ y, y ∈ (l.map AV.t).take (i + 1) ++ (l.map AV.t).drop i → y.noTup = true ∧ y.cells.length = k := fun y hy =>
      (List.mem_append.1 hy).elim (fun h => hlk y (List.mem_of_mem_take h)) (fun h => hlk y (List.mem_of_mem_drop h))
    have hw2 := RowOf.write (m := i) hk1 (fun y hy => hve y (List.mem_of_mem_take hy)) (by simp; omega) hw1 hX.drew (by rw [hsz1]; simp; exact Nat.le_trans (Nat.mul_le_mul_right _ (by omega)) g7)
    have e1 : ((l.map AV.t).take (i + 1) ++ (l.map AV.t).drop i).take i = (l.map AV.t).take i := by
      rw [List.take_append_of_le_length (by simp; omega), List.take_take]; congr 1; omega
    have e2 : ((l.map AV.t).take (i + 1) ++ (l.map AV.t).drop i).drop (i + (List.take 1 [AV.t x]).length) = (l.map AV.t).drop i := by
      rw [show i + (List.take 1 [AV.t x]).length = ((l.map AV.t).take (i + 1)).length by simp; omega, List.drop_left]
    rw [e1, e2, show List.take 1 [AV.t x] = [AV.t x] from rfl, ← hels] at hw2
    have hfin := hr.drew.upd (id := 0) (g' := g + 1) (els' := (l.take i ++ [x] ++ l.drop i).map .t) (c' := writeAt (writeAt ca ((i + 1) * k) ((ca.toList.drop (i * k)).take ((l.length - i) * k))) (i * k) vs)
      hs0 g3 g6 (by rw [writeAt_size, writeAt_size]) (.inr (Nat.lt_succ_self g)) (by
        have : ((l.take i ++ [x] ++ l.drop i).map AV.t).length = l.length + 1 := by simp; omega
        rw [this]; exact Nat.le_trans (Nat.mul_le_mul_right _ hroom) g7)
      (fun j y hy => by
        have hm := List.mem_of_getElem? hy
        rw [hels] at hm
        rcases List.mem_append.1 hm with hm | hm
        · rcases List.mem_append.1 hm with hm | hm
          · exact hlk y (List.mem_of_mem_take hm)
          · rw [List.mem_singleton.1 hm]; exact hve _ (List.mem_singleton.2 rfl)
        · exact hlk y (List.mem_of_mem_drop hm)) hw2
    obtain ⟨hr2, hev2, hva2⟩ := hfin
    have hs1' : sget (sput ([(0, some ⟨k, tE, g, l.map .t⟩), (1, some ⟨k, tE, 0, [.t x]⟩)] : Sto) 0 (some ⟨k, tE, g + 1, (l.take i ++ [x] ++ l.drop i).map .t⟩)) 1 = some ⟨k, tE, 0, [.t x]⟩ := rfl
    obtain ⟨hr3, hev3, _⟩ := hr2.bump (id := 1) (g' := 1) hs1' (Nat.lt_succ_self 0)
    have hsame : ∀ n, sget ([(0, some ⟨k, tE, g + 1, (l.take i ++ [x] ++ l.drop i).map .t⟩), (1, some ⟨k, tE, 1, [.t x]⟩)] : Sto) n =
        sget (sput (sput ([(0, some ⟨k, tE, g, l.map .t⟩), (1, some ⟨k, tE, 0, [.t x]⟩)] : Sto) 0 (some ⟨k, tE, g + 1, (l.take i ++ [x] ++ l.drop i).map .t⟩)) 1 (some ⟨k, tE, 1, [.t x]⟩)) n := by
      intro n
      match n with
      | 0 => rfl
      | 1 => rfl
      | n + 2 => rfl
    have hr4 := hr3.ext (s' := ⟨1, [], [(0, some ⟨k, tE, g + 1, (l.take i ++ [x] ++ l.drop i).map .t⟩), (1, some ⟨k, tE, 1, [.t x]⟩)]⟩) rfl (fun _ => rfl) hsame
    refine ⟨_, β, rfl, ?_, hr4.mem, ((hev2.of_drew).trans hev3).ext hsame⟩
    have hva := VA.own (w := setB w.drew b (.cells (writeAt (writeAt ca ((i + 1) * k) ((ca.toList.drop (i * k)).take ((l.length - i) * k))) (i * k) vs) tE (0, 0)))
      (H := G Fr β [(0, some ⟨k, tE, g + 1, (l.take i ++ [x] ++ l.drop i).map .t⟩), (1, some ⟨k, tE, 1, [.t x]⟩)]) (β := β)
      (σ := [(0, some ⟨k, tE, g + 1, (l.take i ++ [x] ++ l.drop i).map .t⟩), (1, some ⟨k, tE, 1, [.t x]⟩)]) (id := 0) (g := g + 1) (ob := ⟨k, tE, g + 1, (l.take i ++ [x] ++ l.drop i).map .t⟩)
      (b := b) (cap := c) (off := 0) (len := l.length + 1) (c := writeAt (writeAt ca ((i + 1) * k) ((ca.toList.drop (i * k)).take ((l.length - i) * k))) (i * k) vs) rfl rfl g3 (by simp; omega) (by simp; omega) (setB_same _ (lt_of_heap g6))
      (by rw [writeAt_size, writeAt_size]; simpa using g7)
    rw [Nat.zero_mul] at hva
    exact hva
  · refine (hG b l.length c i vb vc ca cv vs w hi (by omega) (by omega) hvb hlim g6 k6 hca hvl hvr h1c h1v).mono ?_
    rintro e w' ⟨Gc, rest, hGn, hrs, rfl, rfl⟩
    have hX' : CR w.drew.drew (G Fr β [(0, some ⟨k, tE, g, l.map .t⟩), (1, some ⟨k, tE, 0, [.t x]⟩)]) β [(0, some ⟨k, tE, g, l.map .t⟩), (1, some ⟨k, tE, 0, [.t x]⟩)] vs.toArray (([AV.t x]).flatMap AV.cells) := hX.drew.drew
    have hc0 := (hA.drew.drew).append hX'
    rw [← List.flatMap_append] at hc0
    have ht1 : ((l.map AV.t).drop i).take (l.length - i) = (l.map AV.t).drop i := List.take_of_length_le (by simp)
    rw [ht1] at hB
    have hlen2 : ((l.map AV.t).take i ++ [AV.t x]).length + ((l.map AV.t).drop i).length = l.length + 1 := by simp; omega
    obtain ⟨β', hr2, hev2⟩ := app_new hr.drew (id := 0) (g' := g + 1) (e := tE) (xs := (l.map AV.t).take i ++ [AV.t x]) (ys := (l.map AV.t).drop i) (nc := Gc) (kz := k) (d := some 0)
      (fun ob₀ h => by rw [hs0] at h; cases h; exact Nat.lt_succ_self g)
      (fun y hm => by
        rcases List.mem_append.1 hm with hm | hm
        · exact hlk y (List.mem_of_mem_take hm)
        · rw [List.mem_singleton.1 hm]; exact hve _ (List.mem_singleton.2 rfl))
      (fun y hm => hlk y (List.mem_of_mem_drop hm)) hc0 hB.drew.drew (by rw [hlen2]; exact hGn) (by rw [hlen2]; exact hrs) rfl rfl
    rw [← hels] at hr2 hev2
    have hs1' : sget (sput ([(0, some ⟨k, tE, g, l.map .t⟩), (1, some ⟨k, tE, 0, [.t x]⟩)] : Sto) 0 (some ⟨k, tE, g + 1, (l.take i ++ [x] ++ l.drop i).map .t⟩)) 1 = some ⟨k, tE, 0, [.t x]⟩ := rfl
    obtain ⟨hr3, hev3, _⟩ := hr2.bump (id := 1) (g' := 1) hs1' (Nat.lt_succ_self 0)
    have hsame : ∀ n, sget ([(0, some ⟨k, tE, g + 1, (l.take i ++ [x] ++ l.drop i).map .t⟩), (1, some ⟨k, tE, 1, [.t x]⟩)] : Sto) n =
        sget (sput (sput ([(0, some ⟨k, tE, g, l.map .t⟩), (1, some ⟨k, tE, 0, [.t x]⟩)] : Sto) 0 (some ⟨k, tE, g + 1, (l.take i ++ [x] ++ l.drop i).map .t⟩)) 1 (some ⟨k, tE, 1, [.t x]⟩)) n := by
      intro n
      match n with
      | 0 => rfl
      | 1 => rfl
      | n + 2 => rfl
    have hr4 := hr3.ext (s' := ⟨1, fputO [] (some 0) (.own 0 (g + 1) 0 (((l.map AV.t).take i ++ [AV.t x]).length + ((l.map AV.t).drop i).length)), [(0, some ⟨k, tE, g + 1, (l.take i ++ [x] ++ l.drop i).map .t⟩), (1, some ⟨k, tE, 1, [.t x]⟩)]⟩) rfl (fun _ => rfl) hsame
    refine ⟨_, β', rfl, ?_, hr4.mem, ((hev2.of_drew).trans hev3).ext hsame⟩
    have hfr := hr4.fr 0
    rw [hlen2] at hfr
    exact hfr

end Go.Tv

end
section
namespace Go.Tv

theorem Res.fnP {σ : Sto} {f : FuncId} {cs : List AV} {xs : List Tr} (h : ResP σ cs xs) : Res σ (.fn f cs) (.fn f xs) :=
  .fn f cs xs (ResP.len cs xs h) (ResP.get cs xs h)

theorem Res.ptrT {σ : Sto} {id g : Nat} {ob : Ob} {x : Tr} (hs : sget σ id = some ob) (hg : ob.gen = g) (he : ob.els = [.t x]) : Res σ (.ptr id g 0 0) (.ptr x.cells) :=
  .ptr id g 0 0 ob (.t x) x.cells hs hg (by rw [he]; rfl) (by simp [AV.cells]) (fun n e y h1 h2 => by
    simp only [AV.cells, Nat.zero_add, List.getElem?_map] at h1
    rw [h2] at h1
    cases h1
    exact .t y)

/-- A step that leaves all cells where a tree's value may look leaves the tree. -/
theorem V.cells_mono {w w' : World} {F : Nat → Prop} (hs : w.heap.size ≤ w'.heap.size)
    (hk : ∀ (b o : Nat) v, ¬ F b → w.cell? ⟨b, o, none⟩ = some v → w'.cell? ⟨b, o, none⟩ = some v)
    (hk2 : ∀ (b : Nat) L, b < w.heap.size → ¬ F b → w.heap[b]? = some (mapM L) → w'.heap[b]? = some (mapM L)) {x : Tr} {v : Value} (h : V w F x v) : V w' F x v := by
  induction h with
  | bool b => exact .bool b
  | int k n => exact .int k n
  | str s => exact .str s
  | nilp => exact .nilp
  | nilf => exact .nilf
  | nils f => exact .nils f
  | nilsE f a => exact .nilsE f a
  | ptr cs b o vs hb hF h1 hc hv ih =>
    exact .ptr cs b o vs (Nat.lt_of_lt_of_le hb hs) hF h1 (fun j c h => hk _ _ _ hF (hc j c h)) ih
  | sl xs f k b o cap vs hb hF hf hcap hkk h1 hc hv ih =>
    exact .sl xs f k b o cap vs (Nat.lt_of_lt_of_le hb hs) hF hf hcap hkk h1 (fun i x j c hx hx' => hk _ _ _ hF (hc i x j c hx hx')) ih
  | agg cs vs hl h1 hv ih => exact .agg cs vs hl h1 ih
  | tup cs vs hl hv ih => exact .tup cs vs hl ih
  | fn f cs vs hl hv ih => exact .fn f cs vs hl ih
  | yld l => exact .yld l
  | mp b => exact .mp b
  | mpn => exact .mpn
  | adr b o => exact .adr b o
  | mpd L L' b hb hF hp hm => exact .mpd L L' b (Nat.lt_of_lt_of_le hb hs) hF hp (hk2 b L' hb hF hm)
  | mpx b L hb hF hm => exact .mpx b L (Nat.lt_of_lt_of_le hb hs) hF (hk2 b L hb hF hm)

/-- Old blocks alone: what lay before n₀ is all that a tree's value looks at. -/
def oldB (n₀ : Nat) (F : Nat → Prop) : Nat → Prop := fun b => n₀ ≤ b ∨ F b

theorem V.old {w : World} {F : Nat → Prop} {x : Tr} {v : Value} (h : V w F x v) : V w (oldB w.heap.size F) x v :=
  h.mono (Nat.le_refl _) (fun b hb hn => ⟨fun h => h.elim (fun h => by omega) hn, rfl⟩)

theorem V.free {w : World} {F F' : Nat → Prop} {x : Tr} {v : Value} (h : V w F x v) (hf : ∀ b, b < w.heap.size → ¬ F b → ¬ F' b) : V w F' x v :=
  h.mono (Nat.le_refl _) (fun b hb hn => ⟨hf b hb hn, rfl⟩)

end Go.Tv

end
section
namespace Go.Tv

def FW : Option Nat → Fence
  | none => Fence.wide
  | some l => Fence.wide.inRound l

theorem FW.fn (ro : Option Nat) (f : FuncId) : (FW ro).fn f := by cases ro <;> trivial
theorem FW.round (ro : Option Nat) : (FW ro).round = ro := by cases ro <;> rfl
theorem FW.nodepth (ro : Option Nat) : (FW ro).depth = none := by cases ro <;> rfl
variable {P : Program}

theorem callsFW {ro : Option Nat} {n : Nat} {f : FuncId} {args : Array Value} {w : World} {R : Ending → World → Prop} (h : Calls P f args w R) : CallsIn (FW ro) n P f args w R := by
  cases ro with
  | none => exact callsIn_wide.2 h
  | some l => exact (callsIn_wide.2 h : CallsIn Fence.wide n P f args w R)

theorem rowsFW {ro : Option Nat} {n : Nat} {r : String} {args : Array Value} {w : World} {R : Value → World → Prop} (h : Rows P r args w R) : RowsIn (FW ro) n P r args w R := by
  have h0 : RowsIn Fence.wide n P r args w R := fun c cs _ => let ⟨v, w', hr, hs⟩ := h c cs; ⟨v, w', hr, stepsIn_wide.2 hs⟩
  cases ro with
  | none => exact h0
  | some l => exact h0

/-- The activation with more deferred calls behind its own. -/
def shift (ds : List Deferred) (a : Act) : Act := { tmps := a.tmps, defers := a.defers ++ ds }

theorem shift_put (ds : List Deferred) (a : Act) (d : Option Tmp) (v : Value) : (shift ds a).put d v = shift ds (a.put d v) := by
  cases d <;> rfl

/-- An operation's rule, in a fence. -/
theorem oper_in {ro : Option Nat} {n : Nat} {o : Oper} {a : Act} {w : World} {K K' : Act → World → Prop} {Q Q' : Exit → Act → World → Prop} {ds : List Deferred} (hnd : ∀ c, o.op ≠ .defer c)
    (hQ : ∀ e a w, Q' e a w → e = .normal) (h : o.wp P a w K' Q') (hK : ∀ a' w', K' a' w' → (∃ v, a'.tmps = (a.put o.dst v).tmps) → K (shift ds a') w') : o.wpIn (FW ro) n P (shift ds a) w K Q := by
  refine ⟨fun f _ => FW.fn ro f, ?_⟩
  rw [FW.round, Oper.semAt_eq _ _ _ hnd]
  unfold Oper.wp at h
  have he : (shift ds a).eval = a.eval := rfl
  rw [he]
  generalize (execOp a.eval o).run P w = r at h
  cases r with
  | ok x w' =>
    cases x with
    | value v => show K _ _; rw [shift_put]; exact hK _ _ h ⟨v, rfl⟩
    | skip => show K _ _; rw [shift_put]; exact hK _ _ h ⟨undef, rfl⟩
    | defer d =>
      have h1 := hK _ _ h ⟨undef, by cases o.dst <;> rfl⟩
      show K _ _
      cases hd : o.dst <;> rw [hd] at h1 <;> exact h1
    | enter f args =>
      refine ⟨fun h => (by rw [FW.nodepth] at h; cases h), callsFW (Calls.mono h ?_)⟩
      rintro e w'' he
      cases e with
      | returned v => show K _ _; rw [shift_put]; exact hK _ _ he ⟨v, rfl⟩
      | panicked ch => exact absurd (hQ _ _ _ he) (by simp)
      | outgrown => obtain ⟨a0, w0, h0⟩ := he; exact absurd (hQ _ _ _ h0) (by simp)
    | row r args =>
      refine ⟨fun h => (by rw [FW.nodepth] at h; cases h), rowsFW (Rows.mono h ?_)⟩
      rintro v w'' he
      rw [shift_put]; exact hK _ _ he ⟨v, rfl⟩
    | _ => exact h.elim
  | halt hh w' =>
    cases hh with
    | panic v => exact absurd (hQ _ _ _ h) (by simp)
    | _ => exact h.elim

/-- Another party's memory: J: its invariant, over what is ours (M) and what is its own (C); ds: the marks that the activation bears. -/
structure JP (γ : Type) where
  q : Prop := False
  J : γ → (Nat → Prop) → (Nat → Prop) → World → Prop
  ds : γ → List Deferred
  stable : ∀ g M C w M' w', J g M C w → w.heap.size ≤ w'.heap.size → w'.os = w.os → TapeLe w w' → w'.output = w.output → (∀ b, b < w.heap.size → ¬ M b → w'.heap[b]? = w.heap[b]?) →
    (∀ b, M' b → (M b ∨ w.heap.size ≤ b) ∧ b < w'.heap.size ∧ ∃ c ty fz, w'.heap[b]? = some (.cells c ty fz)) → J g M' C w'

structure EvoJ (q : Prop) (F : Nat → Prop) (σ : Sto) (β : Nat → Option Nat) (w : World) (F' : Nat → Prop) (σ' : Sto) (β' : Nat → Option Nat) (w' : World) : Prop where
  os : w'.os = w.os
  tape : TapeLe w w'
  output : w'.output = w.output
  size : w.heap.size ≤ w'.heap.size
  keep : ∀ b, b < w.heap.size → ¬ F b → ¬ Owned β σ b → w'.heap[b]? = w.heap[b]?
  own : ∀ b, Owned β' σ' b → w.heap.size ≤ b ∨ Owned β σ b
  fn : ∀ b, F' b → F b ∨ w.heap.size ≤ b
  shp : q → ∀ (b : Nat) (c : Array Value) (ty : TypeId), w.heap[b]? = some (.cells c ty (0, 0)) → ∃ c', w'.heap[b]? = some (.cells c' ty (0, 0)) ∧ c'.size = c.size

theorem EvoJ.of {q : Prop} {F : Nat → Prop} {σ σ' : Sto} {β β' : Nat → Option Nat} {w w' : World} (h : Evo σ β w σ' β' w') : EvoJ q F σ β w F σ' β' w' :=
  ⟨h.os, h.tape, h.output, h.size, fun b hb _ hn => h.keep b hb hn, h.own, fun _ h => .inl h, fun _ => h.shp⟩

theorem EvoJ.refl {q : Prop} (F : Nat → Prop) (σ : Sto) (β : Nat → Option Nat) (w : World) : EvoJ q F σ β w F σ β w := .of (Evo.refl σ β w)

theorem EvoJ.trans {q : Prop} {F1 F2 F3 : Nat → Prop} {σ₁ σ₂ σ₃ : Sto} {β₁ β₂ β₃ : Nat → Option Nat} {w₁ w₂ w₃ : World} (h : EvoJ q F1 σ₁ β₁ w₁ F2 σ₂ β₂ w₂) (k : EvoJ q F2 σ₂ β₂ w₂ F3 σ₃ β₃ w₃) : EvoJ q F1 σ₁ β₁ w₁ F3 σ₃ β₃ w₃ where
  os := k.os.trans h.os
  tape := k.tape.trans h.tape
  output := k.output.trans h.output
  size := Nat.le_trans h.size k.size
  keep := fun b hb hF hn => (k.keep b (Nat.lt_of_lt_of_le hb h.size) (fun hf => (h.fn b hf).elim hF (fun hh => by omega)) (fun ho => (h.own b ho).elim (fun hh => by omega) hn)).trans (h.keep b hb hF hn)
  own := fun b hb => (k.own b hb).elim (fun hh => .inl (Nat.le_trans h.size hh)) (h.own b)
  fn := fun b hb => (k.fn b hb).elim (h.fn b) (fun hh => .inr (Nat.le_trans h.size hh))
  shp := fun hq b c ty hc => by
    obtain ⟨c1, h1, e1⟩ := h.shp hq b c ty hc
    obtain ⟨c2, h2, e2⟩ := k.shp hq b c1 ty h1
    exact ⟨c2, h2, e2.trans e1⟩

/-- Blocks that are owned hold cells. -/
theorem Rel.owned_cells {F : Nat → Prop} {β : Nat → Option Nat} {s : St} {a : Act} {w : World} (h : Rel F β s a w) {b : Nat} (hb : Owned β s.st b) : b < w.heap.size ∧ ∃ c ty fz, w.heap[b]? = some (.cells c ty fz) := by
  obtain ⟨id, ob, hs, hbe⟩ := hb
  rcases h.ob id ob hs with ⟨h0, _⟩ | ⟨b', c, hb', hh, _⟩
  · rw [hbe] at h0; cases h0
  · rw [hbe] at hb'; cases hb'; exact ⟨lt_of_heap hh, c, _, _, hh⟩

section
variable {γ : Type} {X : JP γ}

theorem JP.evo {g : γ} {F : Nat → Prop} {σ : Sto} {β : Nat → Option Nat} {w : World} {s' : St} {β' : Nat → Option Nat} {a' : Act} {w' : World} (hJ : X.J g (Owned β σ) F w) (hr : Rel F β' s' a' w')
    (he : Evo σ β w s'.st β' w') : X.J g (Owned β' s'.st) F w' :=
  X.stable g _ F w _ w' hJ he.size he.os he.tape he.output he.keep (fun b hb => ⟨(he.own b hb).symm, hr.owned_cells hb⟩)

/-- The slots that are kept. -/
def Keeps (kp : Nat → Bool) (a a' : Act) : Prop := ∀ i, kp i = true → a'.tmps[i]? = a.tmps[i]?

theorem Keeps.refl (kp : Nat → Bool) (a : Act) : Keeps kp a a := fun _ _ => rfl
theorem Keeps.trans {kp : Nat → Bool} {a b c : Act} (h : Keeps kp a b) (k : Keeps kp b c) : Keeps kp a c := fun i hi => (k i hi).trans (h i hi)

/-- Code c in the fence of ro, from the abstract state s, beside the other party at g. -/
def AWJ (P : Program) (ro : Option Nat) (kp : Nat → Bool) (X : JP γ) (c : Code) (s : St) (g : γ) (Q : Exit → St → γ → Prop) : Prop :=
  ∀ n F β a w, Rel F β s a w → X.J g (Owned β s.st) F w → c.wpIn (FW ro) n P (fun e a' w' => ∃ s' β' g' F' a'', Q e s' g' ∧ Rel F' β' s' a'' w' ∧ a' = shift (X.ds g') a'' ∧ X.J g' (Owned β' s'.st) F' w' ∧
    EvoJ X.q F s.st β w F' s'.st β' w' ∧ Keeps kp a a'') (shift (X.ds g) a) w

variable {kp : Nat → Bool} {ro : Option Nat} {s : St} {g : γ} {Q : Exit → St → γ → Prop}

theorem AWJ.mono {c : Code} {Q' : Exit → St → γ → Prop} (h : AWJ P ro kp X c s g Q) (hq : ∀ e s g, Q e s g → Q' e s g) : AWJ P ro kp X c s g Q' :=
  fun n F β a w hr hJ => wpIn_mono (h n F β a w hr hJ) (fun _ _ _ ⟨s', β', g', F', a'', q, r⟩ => ⟨s', β', g', F', a'', hq _ _ _ q, r⟩)

theorem awj_skip (h : Q .normal s g) : AWJ P ro kp X .skip s g Q := fun _ F β a _ hr hJ => wpIn_skip ⟨s, β, g, F, a, h, hr, rfl, hJ, EvoJ.refl _ _ _ _, Keeps.refl _ _⟩
theorem awj_exit {id : Nat} (h : Q (.exit id) s g) : AWJ P ro kp X (.exit id) s g Q := fun _ F β a _ hr hJ => wpIn_exit ⟨s, β, g, F, a, h, hr, rfl, hJ, EvoJ.refl _ _ _ _, Keeps.refl _ _⟩
theorem awj_ret (h : Q .ret s g) : AWJ P ro kp X .ret s g Q := fun _ F β a _ hr hJ => wpIn_ret ⟨s, β, g, F, a, h, hr, rfl, hJ, EvoJ.refl _ _ _ _, Keeps.refl _ _⟩

def thenJ (next : St → γ → Prop) (Q : Exit → St → γ → Prop) : Exit → St → γ → Prop
  | .normal, s, g => next s g
  | e, s, g => Q e s g

theorem awj_seq {x y : Code} (h : AWJ P ro kp X x s g (thenJ (fun s' g' => AWJ P ro kp X y s' g' Q) Q)) : AWJ P ro kp X (.seq x y) s g Q := by
  intro n F β a w hr hJ
  refine wpIn_seq (wpIn_mono (h n F β a w hr hJ) ?_)
  rintro e a' w' ⟨s', β', g', F', a'', q, hr', rfl, hJ', hev, hkp⟩
  cases e with
  | normal =>
    exact wpIn_mono (q n F' β' a'' w' hr' hJ') (fun e a3 w3 ⟨s3, β3, g3, F3, a4, q3, hr3, e3, hJ3, hev3, hkp3⟩ => ⟨s3, β3, g3, F3, a4, q3, hr3, e3, hJ3, hev.trans hev3, hkp.trans hkp3⟩)
  | exit id => exact ⟨s', β', g', F', a'', q, hr', rfl, hJ', hev, hkp⟩
  | goto l => exact ⟨s', β', g', F', a'', q, hr', rfl, hJ', hev, hkp⟩
  | ret => exact ⟨s', β', g', F', a'', q, hr', rfl, hJ', hev, hkp⟩
  | panic ch => exact ⟨s', β', g', F', a'', q, hr', rfl, hJ', hev, hkp⟩
  | outgrown => exact ⟨s', β', g', F', a'', q, hr', rfl, hJ', hev, hkp⟩

theorem awj_cond {c : Operand} {x y : Code} {t : Bool} (hc : s.ev c = .t (.bool t)) (ht : t = true → AWJ P ro kp X x s g Q) (hf : t = false → AWJ P ro kp X y s g Q) :
    AWJ P ro kp X (.cond c x y) s g Q := by
  intro n F β a w hr hJ
  have h := hr.ev c
  rw [hc] at h
  have hv : a.eval c = .bool t := by
    generalize a.eval c = v at h
    cases h with
    | t h => cases h; rfl
  have hv' : (shift (X.ds g) a).eval c = .bool t := hv
  exact wpIn_cond_split hv' (fun e => ht e n F β a w hr hJ) (fun e => hf e n F β a w hr hJ)

def blockJ (id : Nat) (Q : Exit → St → γ → Prop) : Exit → St → γ → Prop
  | .exit id', s, g => if id' = id then Q .normal s g else Q (.exit id') s g
  | e, s, g => Q e s g

theorem awj_block {id : Nat} {c : Code} (h : AWJ P ro kp X c s g (blockJ id Q)) : AWJ P ro kp X (.block id c) s g Q := by
  intro n F β a w hr hJ
  refine wpIn_block (wpIn_mono (h n F β a w hr hJ) ?_)
  rintro e a' w' ⟨s', β', g', F', a'', q, hr', rfl, hJ', hev, hkp⟩
  cases e with
  | normal => exact ⟨s', β', g', F', a'', q, hr', rfl, hJ', hev, hkp⟩
  | exit id' =>
    simp only [blockJ, Exit.inBlock] at q ⊢
    split
    · rename_i h; rw [if_pos h] at q; exact ⟨s', β', g', F', a'', q, hr', rfl, hJ', hev, hkp⟩
    · rename_i h; rw [if_neg h] at q; exact ⟨s', β', g', F', a'', q, hr', rfl, hJ', hev, hkp⟩
  | goto l => exact ⟨s', β', g', F', a'', q, hr', rfl, hJ', hev, hkp⟩
  | ret => exact ⟨s', β', g', F', a'', q, hr', rfl, hJ', hev, hkp⟩
  | panic ch => exact ⟨s', β', g', F', a'', q, hr', rfl, hJ', hev, hkp⟩
  | outgrown => exact ⟨s', β', g', F', a'', q, hr', rfl, hJ', hev, hkp⟩

theorem evoJ_weak {q : Prop} {F : Nat → Prop} {s s' : St} {β β' : Nat → Option Nat} {w w' : World} {F2 : Nat → Prop} {σ2 : Sto} {β2 : Nat → Option Nat} (ho : ∀ b, Owned β' s'.st b → Owned β s.st b)
    (h : EvoJ q F s'.st β' w F2 σ2 β2 w') : EvoJ q F s.st β w F2 σ2 β2 w' :=
  ⟨h.os, h.tape, h.output, h.size, fun b hb hF hn => h.keep b hb hF (fun hh => hn (ho b hh)), fun b hb => (h.own b hb).imp id (ho b), h.fn, h.shp⟩

theorem JP.weak {F : Nat → Prop} {β β' : Nat → Option Nat} {s s' : St} {a : Act} {w : World} (hJ : X.J g (Owned β s.st) F w) (hr : Rel F β' s' a w) (ho : ∀ b, Owned β' s'.st b → Owned β s.st b) : X.J g (Owned β' s'.st) F w :=
  X.stable g _ F w _ w hJ (Nat.le_refl _) rfl (.refl _) rfl (fun _ _ _ => rfl) (fun b hb => ⟨.inl (ho b hb), hr.owned_cells hb⟩)

theorem awj_weak {c : Code} {s' : St} (hw : Weak s s') (h : AWJ P ro kp X c s' g Q) : AWJ P ro kp X c s g Q := by
  intro n F β a w hr hJ
  obtain ⟨β', hr', ho⟩ := hw F β a w hr
  refine wpIn_mono (h n F β' a w hr' (JP.weak hJ hr' ho)) ?_
  rintro e a' w' ⟨s'', β'', g'', F'', a'', q, hr'', e'', hJ'', hev, hkp⟩
  exact ⟨s'', β'', g'', F'', a'', q, hr'', e'', hJ'', evoJ_weak ho hev, hkp⟩

theorem least_of {p : Nat → Prop} : (∃ m, p m) → ∃ m, p m ∧ ∀ k, p k → m ≤ k := by
  rintro ⟨m, hm⟩
  induction m using Nat.strongRecOn with
  | _ m ih =>
    by_cases h : ∃ k, k < m ∧ p k
    · obtain ⟨k, hk, hp⟩ := h; exact ih k hk hp
    · exact ⟨m, hm, fun k hk => Nat.le_of_not_lt (fun hlt => h ⟨k, hlt, hk⟩)⟩

open Classical in
theorem awj_loopW {c : Code} (I : Nat → St → γ → Prop) (n₀ : Nat) (h₀ : ∃ s1, Weak s s1 ∧ I n₀ s1 g)
    (round : ∀ n s g, I n s g → AWJ P ro kp X c s g (thenJ (fun s' g' => ∃ m, m < n ∧ ∃ s1, Weak s' s1 ∧ I m s1 g') Q)) : AWJ P ro kp X (.loop c) s g Q := by
  intro n F β a w hr hJ
  let Inv : Nat → Act → World → Prop := fun m a' w' => ∃ s' β' g' F' a'', I m s' g' ∧ Rel F' β' s' a'' w' ∧ a' = shift (X.ds g') a'' ∧ X.J g' (Owned β' s'.st) F' w' ∧ EvoJ X.q F s.st β w F' s'.st β' w' ∧ Keeps kp a a''
  let μ : Act → World → Nat := fun a' w' => if h : ∃ m, Inv m a' w' then Classical.choose (least_of h) else 0
  refine wpIn_loop (fun a' w' => ∃ m, Inv m a' w') μ ?_ ?_
  · obtain ⟨s1, hw, hI⟩ := h₀
    obtain ⟨β1, hr1, ho⟩ := hw F β a w hr
    exact ⟨n₀, s1, β1, g, F, a, hI, hr1, rfl, JP.weak hJ hr1 ho, evoJ_weak ho (EvoJ.refl _ _ _ _), Keeps.refl _ _⟩
  · rintro a' w' hex
    have hμ : μ a' w' = Classical.choose (least_of hex) := dif_pos hex
    obtain ⟨s', β', g', F', a'', hI, hr', rfl, hJ', hev, hkp⟩ := (Classical.choose_spec (least_of hex)).1
    refine wpIn_mono (round _ s' g' hI n F' β' a'' w' hr' hJ') ?_
    rintro e a3 w3 ⟨s3, β3, g3, F3, a4, q, hr3, e3, hJ3, hev3, hkp3⟩
    cases e with
    | normal =>
      obtain ⟨m, hm, s1, hw, hI1⟩ := q
      obtain ⟨β1, hr1, ho⟩ := hw F3 β3 a4 w3 hr3
      have hex3 : ∃ m, Inv m a3 w3 := ⟨m, s1, β1, g3, F3, a4, hI1, hr1, e3, JP.weak hJ3 hr1 ho, (hev.trans hev3).trans (evoJ_weak ho (EvoJ.refl _ _ _ _)), hkp.trans hkp3⟩
      refine ⟨hex3, ?_⟩
      have h1 : μ a3 w3 = Classical.choose (least_of hex3) := dif_pos hex3
      rw [h1, hμ]
      exact Nat.lt_of_le_of_lt ((Classical.choose_spec (least_of hex3)).2 _ ⟨s1, β1, g3, F3, a4, hI1, hr1, e3, JP.weak hJ3 hr1 ho, (hev.trans hev3).trans (evoJ_weak ho (EvoJ.refl _ _ _ _)), hkp.trans hkp3⟩) hm
    | exit id => exact ⟨s3, β3, g3, F3, a4, q, hr3, e3, hJ3, hev.trans hev3, hkp.trans hkp3⟩
    | goto l => exact ⟨s3, β3, g3, F3, a4, q, hr3, e3, hJ3, hev.trans hev3, hkp.trans hkp3⟩
    | ret => exact ⟨s3, β3, g3, F3, a4, q, hr3, e3, hJ3, hev.trans hev3, hkp.trans hkp3⟩
    | panic ch => exact ⟨s3, β3, g3, F3, a4, q, hr3, e3, hJ3, hev.trans hev3, hkp.trans hkp3⟩
    | outgrown => exact ⟨s3, β3, g3, F3, a4, q, hr3, e3, hJ3, hev.trans hev3, hkp.trans hkp3⟩

end
end Go.Tv

end
section
namespace Go.Tv
variable {P : Program} {γ : Type} {X : JP γ} {ro : Option Nat} {kp : Nat → Bool}

/-- Operation o, from the state D with the other party at g, has one of the effects S. -/
def EffJ (P : Program) (ro : Option Nat) (X : JP γ) (o : Oper) (D : St) (g : γ) (S : Ef → γ → Prop) : Prop :=
  ∀ n F β a w, Rel F β D a w → X.J g (Owned β D.st) F w → ∀ (K : Act → World → Prop) (Q : Exit → Act → World → Prop),
    (∀ e g', S e g' → ∀ F' β' a' w', Rel F' β' (D.app o.dst e) a' w' → X.J g' (Owned β' (D.app o.dst e).st) F' w' → EvoJ X.q F D.st β w F' (D.app o.dst e).st β' w' → (∃ v, a'.tmps = (a.put o.dst v).tmps) → K (shift (X.ds g') a') w') →
    o.wpIn (FW ro) n P (shift (X.ds g) a) w K Q

def noDefer (o : Oper) : Bool := match o.op with | .defer _ => false | _ => true

theorem noDefer_ne {o : Oper} (h : noDefer o = true) : ∀ c, o.op ≠ .defer c := by
  intro c hc; unfold noDefer at h; rw [hc] at h; cases h

theorem effJ_of {o : Oper} {D : St} {g : γ} {e : Ef} (hnd : noDefer o = true) (h : Eff P o D e) : EffJ P ro X o D g (fun e' g' => e' = e ∧ g' = g) := by
  intro n F β a w hr hJ K Q hK
  refine oper_in (Q' := fun _ _ _ => False) (K' := fun a' w' => ∃ β', Rel F β' (D.app o.dst e) a' w' ∧ Evo D.st β w (D.app o.dst e).st β' w') (noDefer_ne hnd) (fun _ _ _ h => h.elim) ?_ ?_
  · exact h D (Le.refl D) (fun _ _ _ h => h) F β a w hr _ _ (fun β' a' w' hr' hev => ⟨β', hr', hev⟩)
  · rintro a' w' ⟨β', hr', hev⟩ hv
    exact hK e g ⟨rfl, rfl⟩ F β' a' w' hr' (JP.evo hJ hr' hev) (.of hev) hv

/-- Operations in the order of the text. -/
def RJ (P : Program) (ro : Option Nat) (X : JP γ) (all : List Oper) : List Oper → St → γ → (St → γ → Prop) → Prop
  | [], s, g, K => ∃ s', Weak s s' ∧ K s' g
  | o :: l, s, g, K => ∃ s', Weak s s' ∧ s'.n = s.n ∧
      (((o.guard = none ∨ ∃ j want og d b, o.guard = some (j, want) ∧ all[j]? = some og ∧ og.dst = some d ∧ fget s'.fr d = .t (.bool b) ∧ b = want) ∧ ∃ S, EffJ P ro X o s' g S ∧ ∀ e g', S e g' → RJ P ro X all l (s'.app o.dst e) g' K) ∨
       ((∃ j want og d b, o.guard = some (j, want) ∧ all[j]? = some og ∧ og.dst = some d ∧ fget s'.fr d = .t (.bool b) ∧ b ≠ want) ∧ RJ P ro X all l (s'.app o.dst ⟨.tup [], []⟩) g K) ∨
       ((∃ j want og d, o.guard = some (j, want) ∧ all[j]? = some og ∧ og.dst = some d ∧ fget s'.fr d = .tup []) ∧ RJ P ro X all l (s'.app o.dst ⟨.tup [], []⟩) g K))

theorem yielded_bool {ops : Array Oper} {F : Nat → Prop} {β : Nat → Option Nat} {s : St} {a : Act} {w : World} (hr : Rel F β s a w) {j : Nat} {og : Oper} {d : Tmp} {b : Bool}
    (hdst : ∀ (i : Nat) (o : Oper), ops[i]? = some o → dstOK s.n o.dst = true) (hj : ops[j]? = some og) (hd : og.dst = some d) (hb : fget s.fr d = .t (.bool b)) : yielded ops a.tmps j = some b := by
  have hval : a.tmps[d]? = some (.bool b) := by
    have hv := hr.fr d
    rw [hb] at hv
    have hdn : d < a.tmps.size := by have := hdst j og hj; rw [hd] at this; rw [hr.size]; simpa [dstOK] using this
    rw [vAt_lt hdn] at hv
    cases hv with
    | t hv =>
      generalize hx : a.tmps.getD d undef = x at hv
      cases hv
      simpa [Array.getElem?_eq_getElem hdn, hdn] using hx
  unfold yielded
  simp only [hj, Option.bind_some, hd, hval]

theorem yielded_undef {ops : Array Oper} {F : Nat → Prop} {β : Nat → Option Nat} {s : St} {a : Act} {w : World} (hr : Rel F β s a w) {j : Nat} {og : Oper} {d : Tmp}
    (hj : ops[j]? = some og) (hd : og.dst = some d) (hb : fget s.fr d = .tup []) : yielded ops a.tmps j = none := by
  have hval : a.tmps.getD d undef = undef := by
    have hv := hr.fr d
    rw [hb] at hv
    rcases Nat.lt_or_ge d a.tmps.size with hlt | hge
    · rw [vAt_lt hlt] at hv
      generalize a.tmps.getD d undef = x at hv
      cases hv with
      | @tup _ vs hl' hva =>
        have : vs = [] := List.length_eq_zero_iff.1 hl'
        subst this; rfl
    · rw [Array.getD_eq_getD_getElem?, Array.getElem?_eq_none hge]; rfl
  unfold yielded
  simp only [hj, Option.bind_some, hd]
  cases hx : a.tmps[d]? with
  | none => rfl
  | some x =>
    have : x = undef := by
      have hlt : d < a.tmps.size := by
        rcases Nat.lt_or_ge d a.tmps.size with h' | h'
        · exact h'
        · rw [Array.getElem?_eq_none h'] at hx; cases hx
      rw [Array.getElem?_eq_getElem hlt] at hx
      cases hx
      simpa [hlt] using hval
    rw [this]; rfl

/-- The operations write no slot that is kept. -/
def kpOK (kp : Nat → Bool) (o : Oper) : Bool := match o.dst with | some d => !kp d | none => true

theorem keeps_put {o : Oper} (h : kpOK kp o = true) {a a' : Act} (hv : ∃ v, a'.tmps = (a.put o.dst v).tmps) : Keeps kp a a' := by
  obtain ⟨v, hv⟩ := hv
  intro i hi
  rw [hv]
  unfold kpOK at h
  cases hd : o.dst with
  | none => rfl
  | some d =>
    rw [hd] at h
    have hne : d ≠ i := fun e => by subst e; simp [hi] at h
    simp only [Act.put]
    rw [Array.getElem?_setIfInBounds_ne hne]

theorem wpOpsIn_of_rj {ops : Array Oper} (hkp : (ops.toList.all (kpOK kp)) = true) : ∀ (l : List Oper) (i : Nat) (s : St) (g : γ) (K : St → γ → Prop), (∀ j, l[j]? = ops.toList[i + j]?) →
    (∀ (i : Nat) (o : Oper), ops[i]? = some o → dstOK s.n o.dst = true) → RJ P ro X ops.toList l s g K →
    ∀ n F β a w (QQ : Exit → Act → World → Prop), Rel F β s a w → X.J g (Owned β s.st) F w →
      (∀ s' β' g' F' a'' w', K s' g' → Rel F' β' s' a'' w' → X.J g' (Owned β' s'.st) F' w' → EvoJ X.q F s.st β w F' s'.st β' w' → Keeps kp a a'' → QQ .normal (shift (X.ds g') a'') w') →
      wpOpsIn (FW ro) n P ops QQ (List.range' i l.length) (shift (X.ds g) a) w
  | [], i, s, g, K, _, _, ⟨s1, hw, h⟩, n, F, β, a, w, QQ, hr, hJ, hq => by
    obtain ⟨β1, hr1, ho⟩ := hw F β a w hr
    exact hq s1 β1 g F a w h hr1 (JP.weak hJ hr1 ho) (evoJ_weak ho (EvoJ.refl _ _ _ _)) (Keeps.refl _ _)
  | o :: l, i, s0, g, K, hl, hdst0, ⟨s, hw, hn0, h⟩, n, F, β0, a, w, QQ, hr0, hJ0, hq0 => by
    obtain ⟨β, hr, hown⟩ := hw F β0 a w hr0
    have hJ := JP.weak hJ0 hr hown
    have hdst : ∀ (i : Nat) (o : Oper), ops[i]? = some o → dstOK s.n o.dst = true := by rw [hn0]; exact hdst0
    have hq : ∀ s' β' g' F' a'' w', K s' g' → Rel F' β' s' a'' w' → X.J g' (Owned β' s'.st) F' w' → EvoJ X.q F s.st β w F' s'.st β' w' → Keeps kp a a'' → QQ .normal (shift (X.ds g') a'') w' :=
      fun s' β' g' F' a'' w' hk hr' hj he hke => hq0 s' β' g' F' a'' w' hk hr' hj (evoJ_weak hown he) hke
    have ho : ops[i]? = some o := by have := hl 0; rw [Array.getElem?_toList] at this; simpa using this.symm
    have hko : kpOK kp o = true := List.all_eq_true.1 hkp o (List.mem_of_getElem? (by rw [Array.getElem?_toList]; exact ho))
    have hl' : ∀ j, l[j]? = ops.toList[i + 1 + j]? := fun j => by have := hl (j + 1); rw [show i + 1 + j = i + (j + 1) from by omega]; simpa using this
    rw [List.length_cons, List.range'_succ]
    simp only [wpOpsIn, ho]
    have hn : ∀ (d : Option Tmp) (e : Ef), (s.app d e).n = s.n := fun _ _ => rfl
    have skip : RJ P ro X ops.toList l (s.app o.dst ⟨.tup [], []⟩) g K → wpOpsIn (FW ro) n P ops QQ (List.range' (i + 1) l.length) ((shift (X.ds g) a).put o.dst undef) w := fun hrest => by
      rw [shift_put]
      exact wpOpsIn_of_rj hkp l (i + 1) (s.app o.dst ⟨.tup [], []⟩) g K hl' (by simpa [hn] using hdst) hrest n F β _ w QQ (putUndef hr _ (hdst i o ho)) hJ (fun s'' β'' g'' F'' a'' w'' hk hr'' hj'' hev' hke => hq s'' β'' g'' F'' a'' w'' hk hr'' hj'' hev' ((keeps_put hko ⟨undef, rfl⟩).trans hke))
    have hyl : yielded ops (shift (X.ds g) a).tmps = yielded ops a.tmps := rfl
    rw [hyl]
    rcases h with ⟨hg, S, hS, hrest⟩ | ⟨⟨j, want, og, d, b, hg, hj, hd, hb, hbw⟩, hrest⟩ | ⟨⟨j, want, og, d, hg, hj, hd, hb⟩, hrest⟩
    · have hw1 : Region.wanted o (yielded ops a.tmps) = true := by
        rcases hg with hg | ⟨j, want, og, d, b, hg, hj, hd, hb, hbw⟩
        · exact wanted_none _ hg
        · rw [Array.getElem?_toList] at hj
          have hy := yielded_bool hr hdst hj hd hb
          unfold Region.wanted
          rw [hg]
          simp only [hy, hbw]
          cases want <;> rfl
      rw [if_pos hw1]
      exact hS n F β a w hr hJ _ _ (fun e g' he F' β' a' w' hr' hj' hev hv =>
        wpOpsIn_of_rj hkp l (i + 1) (s.app o.dst e) g' K hl' (by simpa [hn] using hdst) (hrest e g' he) n F' β' a' w' QQ hr' hj' (fun s'' β'' g'' F'' a'' w'' hk hr'' hj'' hev' hke => hq s'' β'' g'' F'' a'' w'' hk hr'' hj'' (hev.trans hev') ((keeps_put hko hv).trans hke)))
    · rw [Array.getElem?_toList] at hj
      have hy := yielded_bool hr hdst hj hd hb
      have hw1 : Region.wanted o (yielded ops a.tmps) = false := by
        unfold Region.wanted
        rw [hg]
        simp only [hy]
        cases b <;> cases want <;> first | rfl | exact absurd rfl hbw
      rw [hw1, if_neg (by decide)]
      exact ⟨fun f _ => FW.fn ro f, skip hrest⟩
    · rw [Array.getElem?_toList] at hj
      have hy := yielded_undef (ops := ops) hr hj hd hb
      have hw1 : Region.wanted o (yielded ops a.tmps) = false := by
        unfold Region.wanted
        rw [hg]
        simp only [hy]
        rfl
      rw [hw1, if_neg (by decide)]
      exact ⟨fun f _ => FW.fn ro f, skip hrest⟩

theorem awj_rj {s : St} {g : γ} {Q : Exit → St → γ → Prop} {id : Nat} {ops : Array Oper} (hd : (ops.toList.all fun o => dstOK s.n o.dst) = true) (h : RJ P ro X ops.toList ops.toList s g (Q .normal)) (hkp : (ops.toList.all (kpOK kp)) = true := by rfl) :
    AWJ P ro kp X (.region id ops false) s g Q := by
  have hdd : ∀ (i : Nat) (o : Oper), ops[i]? = some o → dstOK s.n o.dst = true := fun i o ho => List.all_eq_true.1 hd o (List.mem_of_getElem? (by rw [Array.getElem?_toList]; exact ho))
  intro n F β a w hr hJ
  refine wpIn_region ?_
  have := wpOpsIn_of_rj (P := P) hkp ops.toList 0 s g (Q .normal) (fun j => by rw [Nat.zero_add]) hdd h n F β a w
    (fun e a' w' => ∃ s' β' g' F' a'', Q e s' g' ∧ Rel F' β' s' a'' w' ∧ a' = shift (X.ds g') a'' ∧ X.J g' (Owned β' s'.st) F' w' ∧ EvoJ X.q F s.st β w F' s'.st β' w' ∧ Keeps kp a a'') hr hJ
    (fun s' β' g' F' a'' w' hk hr' hj hev hke => ⟨s', β', g', F', a'', hk, hr', rfl, hj, hev, hke⟩)
  rw [Array.length_toList, ← List.range_eq_range'] at this
  exact this

section
variable {all l : List Oper} {o : Oper} {n : Nat} {fr : Fra} {st : Sto} {g : γ} {K : St → γ → Prop}
theorem RJ.nil {s : St} (h : K s g) : RJ P ro X all [] s g K := ⟨s, Weak.refl s, h⟩
theorem RJ.op {v : AV} {d : Tmp} (hg : o.guard = none) (hd : o.dst = some d) (he : Eff P o ⟨n, fr, st⟩ ⟨v, []⟩) (h : RJ P ro X all l ⟨n, (d, v) :: fr, st⟩ g K) (hnd : noDefer o = true := by rfl) : RJ P ro X all (o :: l) ⟨n, fr, st⟩ g K :=
  ⟨_, Weak.refl _, rfl, .inl ⟨.inl hg, _, effJ_of hnd he, fun e g' ⟨h1, h2⟩ => by subst h1 h2; rw [hd]; exact h⟩⟩
theorem RJ.new {v : AV} {d : Tmp} {id : Nat} {ob : Ob} (hg : o.guard = none) (hd : o.dst = some d) (he : Eff P o ⟨n, fr, st⟩ ⟨v, [(id, ob)]⟩) (h : RJ P ro X all l ⟨n, (d, v) :: fr, (id, some ob) :: st⟩ g K) (hnd : noDefer o = true := by rfl) : RJ P ro X all (o :: l) ⟨n, fr, st⟩ g K :=
  ⟨_, Weak.refl _, rfl, .inl ⟨.inl hg, _, effJ_of hnd he, fun e g' ⟨h1, h2⟩ => by subst h1 h2; rw [hd]; exact h⟩⟩
theorem RJ.store {v : AV} {id : Nat} {ob : Ob} (hg : o.guard = none) (hd : o.dst = none) (he : Eff P o ⟨n, fr, st⟩ ⟨v, [(id, ob)]⟩) (h : RJ P ro X all l ⟨n, fr, (id, some ob) :: st⟩ g K) (hnd : noDefer o = true := by rfl) : RJ P ro X all (o :: l) ⟨n, fr, st⟩ g K :=
  ⟨_, Weak.refl _, rfl, .inl ⟨.inl hg, _, effJ_of hnd he, fun e g' ⟨h1, h2⟩ => by subst h1 h2; rw [hd]; exact h⟩⟩
theorem RJ.gop {v : AV} {d gd : Tmp} {j : Nat} {want b : Bool} {og : Oper} (hg : o.guard = some (j, want)) (hd : o.dst = some d) (hj : all[j]? = some og) (hgd : og.dst = some gd) (hb : fget fr gd = .t (.bool b)) (hbw : b = want)
    (he : Eff P o ⟨n, fr, st⟩ ⟨v, []⟩) (h : RJ P ro X all l ⟨n, (d, v) :: fr, st⟩ g K) (hnd : noDefer o = true := by rfl) : RJ P ro X all (o :: l) ⟨n, fr, st⟩ g K :=
  ⟨_, Weak.refl _, rfl, .inl ⟨.inr ⟨j, want, og, gd, b, hg, hj, hgd, hb, hbw⟩, _, effJ_of hnd he, fun e g' ⟨h1, h2⟩ => by subst h1 h2; rw [hd]; exact h⟩⟩
theorem RJ.gnew {v : AV} {d gd : Tmp} {j id : Nat} {ob : Ob} {want b : Bool} {og : Oper} (hg : o.guard = some (j, want)) (hd : o.dst = some d) (hj : all[j]? = some og) (hgd : og.dst = some gd) (hb : fget fr gd = .t (.bool b)) (hbw : b = want)
    (he : Eff P o ⟨n, fr, st⟩ ⟨v, [(id, ob)]⟩) (h : RJ P ro X all l ⟨n, (d, v) :: fr, (id, some ob) :: st⟩ g K) (hnd : noDefer o = true := by rfl) : RJ P ro X all (o :: l) ⟨n, fr, st⟩ g K :=
  ⟨_, Weak.refl _, rfl, .inl ⟨.inr ⟨j, want, og, gd, b, hg, hj, hgd, hb, hbw⟩, _, effJ_of hnd he, fun e g' ⟨h1, h2⟩ => by subst h1 h2; rw [hd]; exact h⟩⟩
theorem RJ.gskip {d gd : Tmp} {j : Nat} {want b : Bool} {og : Oper} (hg : o.guard = some (j, want)) (hd : o.dst = some d) (hj : all[j]? = some og) (hgd : og.dst = some gd) (hb : fget fr gd = .t (.bool b)) (hbw : b ≠ want)
    (h : RJ P ro X all l ⟨n, (d, .tup []) :: fr, st⟩ g K) : RJ P ro X all (o :: l) ⟨n, fr, st⟩ g K :=
  ⟨_, Weak.refl _, rfl, .inr (.inl ⟨⟨j, want, og, gd, b, hg, hj, hgd, hb, hbw⟩, by rw [hd]; exact h⟩)⟩
theorem RJ.weak {s s' : St} (hw : Weak s s') (hn : s'.n = s.n) (h : RJ P ro X all l s' g K) : RJ P ro X all l s g K := by
  cases l with
  | nil => obtain ⟨s2, h2, hk⟩ := h; exact ⟨s2, hw.trans h2, hk⟩
  | cons o l => obtain ⟨s2, h2, hn2, hk⟩ := h; exact ⟨s2, hw.trans h2, hn2.trans hn, hk⟩
theorem RJ.split (d : Tmp) {b : Bool} (hb : fget fr d = .t (.bool b))
    (ht : b = true → RJ P ro X all l ⟨n, (d, .t (.bool true)) :: fr, st⟩ g K) (hf : b = false → RJ P ro X all l ⟨n, (d, .t (.bool false)) :: fr, st⟩ g K) : RJ P ro X all l ⟨n, fr, st⟩ g K := by
  have hw : ∀ v, fget fr d = v → Weak ⟨n, fr, st⟩ ⟨n, (d, v) :: fr, st⟩ := fun v hv => Weak.ext rfl (fun t => fget_again hv t) (fun _ => rfl)
  cases b with
  | true => exact RJ.weak (hw _ hb) rfl (ht rfl)
  | false => exact RJ.weak (hw _ hb) rfl (hf rfl)
/-- An operation with several ends. -/
theorem RJ.many {S : Ef → γ → Prop} (hg : o.guard = none ∨ ∃ j want og d b, o.guard = some (j, want) ∧ all[j]? = some og ∧ og.dst = some d ∧ fget fr d = .t (.bool b) ∧ b = want)
    (he : EffJ P ro X o ⟨n, fr, st⟩ g S) (h : ∀ e g', S e g' → RJ P ro X all l (St.app ⟨n, fr, st⟩ o.dst e) g' K) : RJ P ro X all (o :: l) ⟨n, fr, st⟩ g K :=
  ⟨_, Weak.refl _, rfl, .inl ⟨hg, S, he, h⟩⟩
end

/-! ### Regions that draw -/

theorem wpAny_in {ops : Array Oper} {Q Q' : Exit → Act → World → Prop} {ds : List Deferred} {n : Nat} (a0 : Act) (hkp : (ops.toList.all (kpOK kp)) = true) (hnd : (ops.toList.all noDefer) = true) (hQ : ∀ e a w, Q' e a w → e = .normal)
    (hN : ∀ a w, Q' .normal a w → Keeps kp a0 a → Q .normal (shift ds a) w) : ∀ (fuel : Nat) (listed : Array Bool) (a : Act) (w : World), Keeps kp a0 a → wpAny P .any ops Q' fuel listed a w → wpAnyIn (FW ro) n P .any ops Q fuel listed (shift ds a) w
  | 0, listed, a, w, hke, h => ⟨h.1, hN _ _ h.2 hke⟩
  | fuel + 1, listed, a, w, hke, h => by
    refine ⟨fun hr => hN _ _ (h.1 hr) hke, fun i hi => ?_⟩
    have h1 := h.2 i hi
    unfold wpOp at h1
    unfold wpOpIn
    cases ho : ops[i]? with
    | none => rw [ho] at h1; exact wpAny_in a0 hkp hnd hQ hN fuel _ a w hke h1
    | some o =>
      rw [ho] at h1
      have hyl : yielded ops (shift ds a).tmps = yielded ops a.tmps := rfl
      simp only [hyl] at h1 ⊢
      have hndo : noDefer o = true := List.all_eq_true.1 hnd o (List.mem_of_getElem? (by rw [Array.getElem?_toList]; exact ho))
      have hko : kpOK kp o = true := List.all_eq_true.1 hkp o (List.mem_of_getElem? (by rw [Array.getElem?_toList]; exact ho))
      by_cases hw : Region.wanted o (yielded ops a.tmps) = true
      · rw [if_pos hw] at h1 ⊢
        rcases h1 with h1 | ⟨_, a1, w0, h0⟩
        · exact oper_in (noDefer_ne hndo) hQ h1 (fun a' w' h' hv => wpAny_in a0 hkp hnd hQ hN fuel _ a' w' (hke.trans (keeps_put hko hv)) h')
        · exact absurd (hQ _ _ _ h0) (by simp)
      · rw [if_neg hw] at h1 ⊢
        exact ⟨fun f _ => FW.fn ro f, by rw [shift_put]; exact wpAny_in a0 hkp hnd hQ hN fuel _ _ w (hke.trans (keeps_put hko ⟨undef, rfl⟩)) h1⟩

theorem awj_rd {s : St} {g : γ} {Q : Exit → St → γ → Prop} {id : Nat} {ops : Array Oper} (tch : Tch) (cl : List (List Nat)) (hm : P.follows .mixedOrders = true) (hlen : tch.length = ops.toList.length)
    (hcl : clOK 0 ops.toList cl = true) (hap : apartAll cl ((List.range tch.length).map fun j => (j, tch.getD j (none, []))) = true)
    (hd : (ops.toList.all fun o => dstOK s.n o.dst) = true) (h : RD P ops.toList tch cl 0 ops.toList s (fun s' => Q .normal s' g)) (hnd : (ops.toList.all noDefer) = true := by rfl) (hkp : (ops.toList.all (kpOK kp)) = true := by rfl) : AWJ P ro kp X (.region id ops true) s g Q := by
  intro n F β a w hr hJ
  refine wpIn_region_any hm ?_
  refine wpAny_in (Q' := fun e a' w' => e = .normal ∧ ∃ s' β', Q .normal s' g ∧ Rel F β' s' a' w' ∧ Evo s.st β w s'.st β' w') a hkp hnd (fun _ _ _ h => h.1) ?_ _ _ a w.drew (Keeps.refl _ _)
    (rd_any tch cl hm hlen hcl hap hd h hr (fun s' β' a' w' hk hr' hev => ⟨rfl, s', β', hk, hr', hev.of_drew⟩))
  rintro a' w' ⟨_, s', β', hq, hr', hev⟩ hke
  exact ⟨s', β', g, F, a', hq, hr', rfl, JP.evo hJ hr' hev, .of hev, hke⟩
end Go.Tv

end
section
namespace Go.Tv
variable {P : Program}

/-! ### Steps beside what is told -/

theorem heap_of_cell {w : World} {b o : Nat} {v : Value} (h : w.cell? ⟨b, o, none⟩ = some v) : ∃ c ty fz, w.heap[b]? = some (.cells c ty fz) := by
  unfold World.cell? at h
  cases hb : w.heap[b]? with
  | none => simp [hb] at h
  | some ob => cases ob <;> simp [hb] at h ⊢

theorem cell_same {w w' : World} {b o : Nat} (h : w'.heap[b]? = w.heap[b]?) : w'.cell? ⟨b, o, none⟩ = w.cell? ⟨b, o, none⟩ := by
  unfold World.cell?; simp only [h]

/-- Blocks that data may look at. -/
def dataObj : Obj → Bool
  | .cells _ _ _ => true
  | .map _ _ => true
  | _ => false

theorem VA.others {w w' : World} {H : Nat → Prop} {β : Nat → Option Nat} {σ : Sto} (hs : w.heap.size ≤ w'.heap.size) (hk : ∀ (b : Nat) q, dataObj q = true → w.heap[b]? = some q → w'.heap[b]? = w.heap[b]?)
    {x : AV} {v : Value} (h : VA w H β σ x v) : VA w' H β σ x v := by
  induction h with
  | t h => exact .t (h.cells_mono hs (fun b o v _ hc => by obtain ⟨c, ty, fz, hh⟩ := heap_of_cell hc; rw [cell_same (hk _ _ rfl hh)]; exact hc) (fun b L _ _ hm => (hk b _ rfl hm).trans hm))
  | own h1 h2 h3 h4 h5 h6 h7 => exact .own h1 h2 h3 h4 h5 ((hk _ _ rfl h6).trans h6) h7
  | ownNil h1 h2 h3 h4 => exact .ownNil h1 h2 h3 h4
  | ownZ h1 h2 h3 h4 h5 => exact .ownZ h1 h2 h3 h4 (Nat.lt_of_lt_of_le h5 hs)
  | ownE h1 h2 h3 h4 => exact .ownE h1 h2 h3 h4
  | stale h1 h2 h3 => exact .stale h1 h2 h3
  | ptr h1 h2 h3 h4 h5 => exact .ptr h1 h2 h3 h4 h5
  | stalep h1 h2 h3 => exact .stalep h1 h2 h3
  | agg hl h1 _ ih => exact .agg hl h1 ih
  | tup hl _ ih => exact .tup hl ih
  | fn hl _ ih => exact .fn hl ih
  | junk v => exact .junk v

/-- Blocks that hold no cells are nothing to the relation. -/
theorem Rel.others {F : Nat → Prop} {β : Nat → Option Nat} {s : St} {a : Act} {w w' : World} (h : Rel F β s a w) (hs : w.heap.size ≤ w'.heap.size)
    (hk : ∀ (b : Nat) q, dataObj q = true → w.heap[b]? = some q → w'.heap[b]? = w.heap[b]?) : Rel F β s a w' where
  defers := h.defers
  size := h.size
  fr := fun i => (h.fr i).others hs hk
  ob := fun id ob ho => by
    rcases h.ob id ob ho with h0 | ⟨b, c, h1, h2, h3, h4, h5⟩
    · exact .inl h0
    · refine .inr ⟨b, c, h1, (hk _ _ rfl h2).trans h2, h3, h4, fun i x j y hx hy => ?_⟩
      obtain ⟨g1, v, hv, hva⟩ := h5 i x j y hx hy
      exact ⟨g1, v, hv, hva.others hs hk⟩
  inj := h.inj
  notF := h.notF
  ltF := fun b hb => Nat.lt_of_lt_of_le (h.ltF b hb) hs

theorem putObj_cells {w : World} {r : Nat} {o o' : Obj} (h : w.heap[r]? = some o) (ho : dataObj o = false) : ∀ (b : Nat) q, dataObj q = true → w.heap[b]? = some q → (w.putObj r o').heap[b]? = w.heap[b]? := by
  intro b q hq hb
  refine World.putObj_heap_other (fun e => ?_)
  subst e; rw [h] at hb; cases hb; rw [ho] at hq; cases hq

/-- Another party's step, and another view of what is the other's. -/
theorem Rel.party {F1 F2 : Nat → Prop} {β : Nat → Option Nat} {s : St} {a : Act} {w w' : World} (h : Rel F1 β s a w) (hs : w.heap.size ≤ w'.heap.size)
    (hk : ∀ b, b < w.heap.size → ¬ F1 b → w'.heap[b]? = w.heap[b]? ∧ ¬ F2 b) (hlt : ∀ b, F2 b → b < w'.heap.size) : Rel F2 β s a w' := by
  have hown : ∀ id ob b, sget s.st id = some ob → β id = some b → b < w.heap.size := fun id ob b hs hb => (h.owned_cells ⟨id, ob, hs, hb⟩).1
  have hG : ∀ b, b < w.heap.size → ¬ G F1 β s.st b → ¬ G F2 β s.st b ∧ w'.heap[b]? = w.heap[b]? := fun b hb hn =>
    ⟨fun hg => hg.elim (hk b hb (fun h => hn (.inl h))).2 (fun ho => hn (.inr ho)), (hk b hb (fun h => hn (.inl h))).1⟩
  have hturn : Turns w w' β β s.st s.st := fun id ob ho => ⟨ob, ho, .inr ⟨rfl, rfl, rfl, rfl, rfl, fun b c hb hh => ⟨c, by rw [(hk b (hown _ _ _ ho hb) (h.notF id ob b ho hb)).1]; exact hh, rfl⟩⟩⟩
  have hmono : ∀ {x : AV} {v : Value}, VA w (G F1 β s.st) β s.st x v → VA w' (G F2 β s.st) β s.st x v := fun hv => VA.mono hs hG hturn hv
  refine ⟨h.defers, h.size, fun i => hmono (h.fr i), fun id ob ho => ?_, h.inj, fun i oi b hi hb => (hk b (hown _ _ _ hi hb) (h.notF i oi b hi hb)).2, hlt⟩
  rcases h.ob id ob ho with h0 | ⟨b, c, h1, h2, h3, h4, h5⟩
  · exact .inl h0
  · refine .inr ⟨b, c, h1, by rw [(hk b (hown _ _ _ ho h1) (h.notF id ob b ho h1)).1]; exact h2, h3, h4, fun i x j y hx hy => ?_⟩
    obtain ⟨g1, v, hv, hva⟩ := h5 i x j y hx hy
    exact ⟨g1, v, hv, hmono hva⟩

/-! ### The iterator's contract -/

/-- A call of yield at x: what the round's party answers, R. M: the iterator's own blocks. -/
def YOK {γ : Type} (P : Program) (X : JP γ) (l : Nat) (g : γ) (x : Tr) (R : Bool → γ → Prop) : Prop :=
  ∀ n M F w v, X.J g M F w → (∀ b, F b → b < w.heap.size ∧ ¬ M b) → V w (fun b => F b ∨ M b) x v →
    YieldAt Fence.wide n P l #[v] w (fun e w' => ∃ b g' F', e = .returned (.bool b) ∧ R b g' ∧ X.J g' M F' w' ∧ w'.os = w.os ∧ TapeLe w w' ∧ w'.output = w.output ∧ w.heap.size ≤ w'.heap.size ∧
      (∀ b, b < w.heap.size → ¬ F b → w'.heap[b]? = w.heap[b]?) ∧ (∀ b, F' b → (F b ∨ w.heap.size ≤ b) ∧ b < w'.heap.size))

/-- Function f with the captured trees caps is an iterator: it calls yield at xs, one after the other, till it answers no. -/
def Iter (P : Program) (f : FuncId) (caps xs : List Tr) : Prop :=
  ∀ (γ : Type) (X : JP γ) (_ : ∀ g, X.ds g = [] ∧ ¬ X.q) (At : Nat → γ → Prop) (Stop : γ → Prop) (l : Nat)
    (_ : ∀ (i : Nat) x g, xs[i]? = some x → At i g → YOK P X l g x (fun b g' => (b = true ∧ At (i + 1) g') ∨ (b = false ∧ Stop g')))
    (g : γ) (F : Nat → Prop) (w : World) (vals : List Value), At 0 g → (∀ b, F b → b < w.heap.size) → VL w F caps vals → X.J g (fun _ => False) F w →
    Calls P f (#[.func (.yield l) #[] #[]] ++ vals.toArray) w fun e w' => (∃ v, e = .returned v) ∧ ∃ g' M' F', (At xs.length g' ∨ Stop g') ∧ X.J g' M' F' w'

section
variable {γ : Type} {X : JP γ}

theorem eff_yield {o : Oper} {D : St} {x y : Operand} {l : Nat} {g : γ} {tx : Tr} {R : Bool → γ → Prop} (hd : dstOK D.n o.dst = true) {ats : Array TypeId}
    (ho : o.op = .call { callee := .value x, args := #[y], argTypes := ats }) (hx : D.ev x = .t (.yld l)) (hy : D.ev y = .t tx) (hds : ∀ g, X.ds g = [] ∧ ¬ X.q) (hY : YOK P X l g tx R) :
    EffJ P none X o D g (fun e g' => ∃ b, e = ⟨.t (.bool b), []⟩ ∧ R b g') := by
  intro n F β a w hr hJ K Q hK
  have hvx : a.eval x = .func (.yield l) #[] #[] := by
    have h := hr.ev x
    rw [hx] at h
    generalize a.eval x = v at h
    cases h with
    | t h => cases h; rfl
  have hvy : V w (fun b => F b ∨ Owned β D.st b) tx (a.eval y) := by
    have h := hr.ev y
    rw [hy] at h
    generalize a.eval y = v at h
    cases h with
    | t h => exact h
  obtain ⟨fn, tmps, assign, body, hyr, hround⟩ := hY (n - 1) (Owned β D.st) F w _ hJ (fun b hb => ⟨hr.ltF b hb, fun ⟨id, ob, hs, hbe⟩ => hr.notF id ob b hs hbe hb⟩) hvy
  refine ⟨fun f _ => trivial, ?_⟩
  have hnd : ∀ c, o.op ≠ .defer c := fun c h => by rw [ho] at h; cases h
  have hround0 : (FW none).round = none := rfl
  rw [hround0, Oper.semAt_none]
  have hrun : (execOp (shift (X.ds g) a).eval o).run P w = .ok (.round l fn tmps assign body) w := by
    have hex : (shift (X.ds g) a).eval x = .func (.yield l) #[] #[] := hvx
    have hey : (shift (X.ds g) a).eval y = a.eval y := rfl
    simp [execOp, ho, resolve, Deferred.ofValue, hex, hey, invoke, hyr]
  rw [hrun]
  refine ⟨fun h => (by cases h), hround.mono ?_⟩
  rintro e w' ⟨b, g', F', rfl, hR, hJ', hos, htape, hout, hsz, hkeep, hF'⟩
  show K _ _
  rw [shift_put]
  have hr1 : Rel F' β D a w' := hr.party hsz (fun c hc hn => ⟨hkeep c hc hn, fun h => (hF' c h).1.elim hn (fun h => by omega)⟩) (fun c hc => (hF' c hc).2)
  have hr2 := hr1.put (d := o.dst) hd (x := .t (.bool b)) (v := .bool b) (.t (.bool b))
  have := hK ⟨.t (.bool b), []⟩ g' ⟨b, rfl, hR⟩ F' β (a.put o.dst (.bool b)) w' hr2 hJ'
    ⟨hos, htape, hout, hsz, fun c hc hF _ => hkeep c hc hF, fun c hc => .inr hc, fun c hc => (hF' c hc).1, fun hq => absurd hq (hds g).2⟩ ⟨.bool b, rfl⟩
  rw [(hds g').1] at this
  rw [(hds g).1]
  exact this
end
end Go.Tv

end
section
namespace Go.Tv
variable {P : Program}

theorem ofVL {F : Nat → Prop} {w : World} {xs : List Tr} {vals : List Value} {n : Nat} (hlt : ∀ b, F b → b < w.heap.size) (hV : VL w F xs vals) (hn : xs.length ≤ n) :
    Rel F (fun _ => none) ⟨n, initFr 0 xs, []⟩ { tmps := vals.toArray ++ Array.replicate (n - vals.toArray.size) undef, defers := [] } w := by
  obtain ⟨hl, hV⟩ := hV
  refine ⟨rfl, by simp; omega, fun i => ?_, fun id ob ho => by simp [sget] at ho, fun i j oi oj b ho => by simp [sget] at ho, fun i oi b ho => by simp [sget] at ho, hlt⟩
  show VA w _ _ _ (fget (initFr 0 xs) i) _
  rw [initFr_get, if_pos (Nat.zero_le _), Nat.sub_zero]
  cases hx : xs[i]? with
  | none => exact .junk _
  | some x =>
    have hi : i < vals.length := by
      rw [hl]
      rcases Nat.lt_or_ge i xs.length with h | h
      · exact h
      · rw [List.getElem?_eq_none h] at hx; cases hx
    have hg : (vals.toArray ++ Array.replicate (n - vals.toArray.size) undef).getD i undef = vals[i] := by
      simp [hi, Array.getElem?_append]
    rw [vAt_lt (by simp; omega), hg]
    have hv := hV i x vals[i] hx (List.getElem?_eq_getElem hi)
    exact .t (V.mono (w := w) (w' := w) (Nat.le_refl _) (fun b _ hn => ⟨fun hG => hG.elim hn (fun ⟨id, ob, ho, _⟩ => by simp [sget] at ho), rfl⟩) hv)

theorem not_owned_nil {β : Nat → Option Nat} {b : Nat} : ¬ Owned β [] b := fun ⟨id, ob, ho, _⟩ => by simp [sget] at ho

/-- An iterator, out of its body. -/
theorem iter_of_awj {f : FuncId} {fn : Func} {c : Code} {caps xs : List Tr} (hf : P.funcs[f]? = some fn) (hb : fn.body = some c) (hn : caps.length + 1 ≤ fn.ntmps) (hres : fn.results = #[])
    (h : ∀ (γ : Type) (X : JP γ) (_ : ∀ g, X.ds g = [] ∧ ¬ X.q) (At : Nat → γ → Prop) (Stop : γ → Prop) (l : Nat)
      (_ : ∀ (i : Nat) x g, xs[i]? = some x → At i g → YOK P X l g x (fun b g' => (b = true ∧ At (i + 1) g') ∨ (b = false ∧ Stop g'))) (g : γ), At 0 g →
      AWJ P none (fun _ => false) X c ⟨fn.ntmps, initFr 0 (.yld l :: caps), []⟩ g (fun e _ g' => (e = .normal ∨ e = .ret) ∧ (At xs.length g' ∨ Stop g'))) : Iter P f caps xs := by
  intro γ X hds At Stop l hy g F w vals hAt hlt hV hJ
  refine (callsIn_wide (n := 0)).1 (callsIn_of_wp (F := Fence.wide) hf hb trivial ?_)
  have hV2 : VL w F (.yld l :: caps) (.func (.yield l) #[] #[] :: vals) := by
    refine ⟨by simp [hV.1], fun i x v hx hv => ?_⟩
    cases i with
    | zero => simp at hx hv; subst hx hv; exact .yld l
    | succ i => exact hV.2 i x v (by simpa using hx) (by simpa using hv)
  have h0 := ofVL (n := fn.ntmps) hlt hV2 (by simpa using hn)
  have ha : (#[Value.func (.yield l) #[] #[]] ++ vals.toArray) = (.func (.yield l) #[] #[] :: vals).toArray := by simp
  rw [ha]
  have hJ' : X.J g (Owned (fun _ => none) ([] : Sto)) F w := X.stable g _ F w _ w hJ (Nat.le_refl _) rfl (.refl _) rfl (fun _ _ _ => rfl) (fun b hb => absurd hb not_owned_nil)
  have := h γ X hds At Stop l hy g hAt 0 F _ _ w h0 hJ'
  rw [(hds g).1] at this
  refine wpIn_mono this ?_
  rintro e a' w' ⟨s', β', g', F', a'', ⟨he, hend⟩, hr', rfl, hJ'', hev, _⟩
  have hpost : ∃ v, (results fn (shift (X.ds g') a'').tmps).run P w' = .ok v w' := by
    have hm : ((#[] : Array ResultVar).mapM (resOf (shift (X.ds g') a'').tmps)).run P w' = .ok #[] w' := by
      rw [Array.mapM_eq_mapM_toList, Sem.run_map]; rfl
    rw [results_eq, hres]
    refine ⟨.tuple #[], ?_⟩
    rw [Sem.run_bind, hm]; rfl
  obtain ⟨v, hv⟩ := hpost
  have hdf : (shift (X.ds g') a'').defers = [] := by rw [(hds g').1]; simp [shift, hr'.defers]
  rcases he with rfl | rfl <;> exact ⟨hdf, v, hv, ⟨v, rfl⟩, g', _, F', hend, hJ''⟩

/-! ### The party of a caller: protected memory, and the marks of the loops that are over -/

def mark (D : Nat) : Deferred := { target := .collected D, args := #[] }

def JC (F0 : Nat → Prop) (w0 : World) : JP (List Nat) where
  J := fun Ds M C w => (∀ b, C b ↔ F0 b ∨ b ∈ Ds) ∧ (∀ b, F0 b → b < w.heap.size ∧ w.heap[b]? = w0.heap[b]? ∧ ¬ M b) ∧
    (∀ D, D ∈ Ds → ¬ F0 D ∧ ¬ M D ∧ w0.heap.size ≤ D ∧ w.heap[D]? = some (.deferred (some []))) ∧ Ds.Nodup ∧ w0.heap.size ≤ w.heap.size
  ds := fun Ds => Ds.map mark
  stable := by
    rintro Ds M C w M' w' ⟨h1, h2, h3, h4, h5⟩ hs _ _ _ hk hM
    refine ⟨h1, fun b hb => ?_, fun D hD => ?_, h4, Nat.le_trans h5 hs⟩
    · obtain ⟨g1, g2, g3⟩ := h2 b hb
      exact ⟨Nat.lt_of_lt_of_le g1 hs, (hk b g1 g3).trans g2, fun hm => (hM b hm).1.elim g3 (fun h => by omega)⟩
    · obtain ⟨g1, g2, g3, g4⟩ := h3 D hD
      have hlt := lt_of_heap g4
      exact ⟨g1, fun hm => (hM D hm).1.elim g2 (fun h => by omega), g3, (hk D hlt g2).trans g4⟩

theorem jc_start {F0 : Nat → Prop} {w : World} {M : Nat → Prop} (hlt : ∀ b, F0 b → b < w.heap.size ∧ ¬ M b) : (JC F0 w).J [] M F0 w :=
  ⟨fun b => by simp, fun b hb => ⟨(hlt b hb).1, rfl, (hlt b hb).2⟩, fun D hD => by simp at hD, List.nodup_nil, Nat.le_refl _⟩

/-- The marks are taken at the function's return. -/
theorem leaves_marks {fn : Func} {tmps : Array Value} {R : Ending → World → Prop} {n : Nat} : ∀ (Ds : List Nat) (w : World), Ds.Nodup → (∀ D, D ∈ Ds → w.heap[D]? = some (.deferred (some []))) →
    (∀ w', w'.heap.size = w.heap.size → w'.os = w.os → TapeLe w w' → w'.output = w.output → (∀ b, b ∉ Ds → w'.heap[b]? = w.heap[b]?) → ∃ v, (results fn tmps).run P w' = .ok v w' ∧ R (.returned v) w') →
    LeavesInM Fence.wide n P fn tmps R (Ds.map mark) .returning w
  | [], w, _, _, h => h w rfl rfl (.refl _) rfl (fun _ _ => rfl)
  | D :: Ds, w, hnd, hd, h => by
    refine ⟨by simp, .inl ⟨D, _, rfl, run_takeDeferred (hd D List.mem_cons_self), ?_⟩⟩
    have hnd' := List.nodup_cons.1 hnd
    refine leaves_marks Ds _ hnd'.2 (fun E hE => ?_) (fun w' h1 h2 h3 h4 h5 => h w' ?_ h2 h3 h4 (fun b hb => ?_))
    · rw [World.putObj_heap_other (fun e => by subst e; exact hnd'.1 hE)]; exact hd E (List.mem_cons_of_mem _ hE)
    · rw [h1]; simp
    · rw [List.mem_cons, not_or] at hb
      rw [h5 b hb.2, World.putObj_heap_other hb.1]

/-- A contract out of a body that ranges over functions. -/
theorem ret_of_awj {f : FuncId} {fn : Func} {c : Code} {xs : List Tr} {r : Tr} (hf : P.funcs[f]? = some fn) (hb : fn.body = some c) (hn : xs.length ≤ fn.ntmps)
    (h : ∀ F0 w0, AWJ P none (fun _ => false) (JC F0 w0) c ⟨fn.ntmps, initFr 0 xs, []⟩ [] (fun e s _ => (e = .normal ∨ e = .ret) ∧ ∃ rs, RVars P s fn.results.toList rs ∧ Wk (packT rs) r)) : Ret P f xs r := by
  intro F w vals hlt hV
  refine (callsIn_wide (n := 0)).1 (callsIn_of_wp_marks (F := Fence.wide) hf hb trivial ?_)
  have h0 := ofVL (n := fn.ntmps) hlt hV hn
  have hJ0 : (JC F w).J [] (Owned (fun _ => none) ([] : Sto)) F w := jc_start (fun b hb => ⟨hlt b hb, not_owned_nil⟩)
  refine wpIn_mono (h F w 0 F _ _ w h0 hJ0) ?_
  rintro e a' w' ⟨s', β', Ds, F', a'', ⟨he, rs, hrs, hwk⟩, hr', rfl, ⟨j1, j2, j3, j4, j5⟩, hev, _⟩
  have hds : (shift ((JC F w).ds Ds) a'').defers = Ds.map mark := by simp [shift, hr'.defers, JC]
  have main : LeavesInM Fence.wide 0 P fn (shift ((JC F w).ds Ds) a'').tmps (fun e w'' => ∃ v, e = .returned v ∧ V w'' F r v ∧ BelowD w.heap.size w w'') (shift ((JC F w).ds Ds) a'').defers .returning w' := by
    rw [hds]
    refine leaves_marks Ds w' j4 (fun D hD => (j3 D hD).2.2.2) (fun w'' h1 h2 h3 h4 h5 => ?_)
    have hk : ∀ (b : Nat) q, dataObj q = true → w'.heap[b]? = some q → w''.heap[b]? = w'.heap[b]? := fun b q hq hb => h5 b (fun hD => by have := (j3 b hD).2.2.2; rw [hb] at this; cases this; cases hq)
    have hr2 := hr'.others (w' := w'') (by rw [h1]; exact Nat.le_refl _) hk
    obtain ⟨vs, hvs, hvl, hvV⟩ := RVars.run hr2 _ _ hrs
    have hres : ∃ v, (results fn a''.tmps).run P w'' = .ok v w'' ∧ V w'' F' (packT rs) v := by
      have hm : (fn.results.mapM (resOf a''.tmps)).run P w'' = .ok vs.toArray w'' := by
        rw [Array.mapM_eq_mapM_toList, Sem.run_map, hvs]; rfl
      refine ⟨if h : vs.toArray.size = 1 then vs.toArray[0] else .tuple vs.toArray, ?_, ?_⟩
      · rw [results_eq, Sem.run_bind, hm]; rfl
      · match rs, vs, hvl with
        | [], [], _ => exact .tup [] [] rfl (fun j c v h => by simp at h)
        | [x], [v], _ => exact hvV 0 x v rfl rfl
        | x :: y :: rs, v :: u :: vs, hl => exact .tup _ _ hl (fun j c z hc hz => hvV j c z hc hz)
    obtain ⟨v, hv, hVv⟩ := hres
    refine ⟨v, hv, v, rfl, ?_, ?_⟩
    · exact hwk.v (hVv.free (fun b _ hn hF => hn ((j1 b).2 (.inl hF))))
    · have h6 := h3.trans hev.tape
      refine ⟨⟨h2.trans hev.os, h6.1, h4.trans hev.output, by rw [h1]; exact hev.size, fun b hb => ?_⟩, h6.2⟩
      have hbD : b ∉ Ds := fun hD => by have := (j3 b hD).2.2.1; omega
      rw [h5 b hbD]
      by_cases hF : F b
      · exact (j2 b hF).2.1
      · exact hev.keep b hb hF not_owned_nil
  rcases he with rfl | rfl <;> exact main

end Go.Tv

end
section
namespace Go.Tv
variable {P : Program}

/-- What a round's end gives. -/
def roundEnd (I : Nat → St → Prop) (Ix : Code → St → Prop) (i : Nat) : Exit → St → List Nat → Prop
  | .normal, s, Ds => Ds = [] ∧ ∃ s4, Weak s s4 ∧ I (i + 1) s4
  | .ret, s, Ds => Ds = [] ∧ ∃ s4, Weak s s4 ∧ Ix .ret s4
  | .exit id, s, Ds => Ds = [] ∧ ∃ s4, Weak s s4 ∧ Ix (.exit id) s4
  | _, _, _ => False

structure LoopJ (F : Nat → Prop) (s0 : St) (β0 : Nat → Option Nat) (w0 : World) (a : Act) (L D : Nat) (rec : LoopState → Option Code → Loop) (I : Nat → St → Prop) (Ix : Code → St → Prop)
    (g : Option Code × Nat × St) (M C : Nat → Prop) (W : World) (β : Nat → Option Nat) : Prop where
  rel : Rel (fun b => F b ∨ M b ∨ b = L ∨ b = D) β g.2.2 a W
  inv : match g.1 with | none => I g.2.1 g.2.2 | some c => Ix c g.2.2
  rc : W.heap[L]? = some (.loop (rec (if g.1.isNone then .ready else .done) g.1))
  df : W.heap[D]? = some (.deferred (some []))
  ciff : ∀ b, C b ↔ (F b ∨ Owned β g.2.2.st b ∨ b = L ∨ b = D)
  os : W.os = w0.os
  tape : TapeLe w0 W
  output : W.output = w0.output
  size : w0.heap.size ≤ W.heap.size
  keep : ∀ b, b < w0.heap.size → (F b ∨ ¬ Owned β0 s0.st b) → W.heap[b]? = w0.heap[b]?
  own : ∀ b, Owned β g.2.2.st b → w0.heap.size ≤ b ∨ Owned β0 s0.st b
  mnew : ∀ b, M b → w0.heap.size ≤ b ∧ b ≠ L ∧ b ≠ D

def LJP (F : Nat → Prop) (s0 : St) (β0 : Nat → Option Nat) (w0 : World) (a : Act) (L D : Nat) (rec : LoopState → Option Code → Loop) (I : Nat → St → Prop) (Ix : Code → St → Prop)
    (hF : ∀ b, F b → b < w0.heap.size) : JP (Option Code × Nat × St) where
  J := fun g M C W => ∃ β, LoopJ F s0 β0 w0 a L D rec I Ix g M C W β
  ds := fun _ => []
  stable := by
    rintro g M C W M' W' ⟨β, h⟩ hs h1 h2 h3 hk hM
    have hLM : ¬ M L := fun hm => (h.mnew L hm).2.1 rfl
    have hDM : ¬ M D := fun hm => (h.mnew D hm).2.2 rfl
    have hLs := lt_of_heap h.rc
    have hDs := lt_of_heap h.df
    have hM'L : ∀ b, M' b → M b ∨ W.heap.size ≤ b := fun b hb => (hM b hb).1
    refine ⟨β, ⟨?_, h.inv, (hk L hLs hLM).trans h.rc, (hk D hDs hDM).trans h.df, h.ciff, h1.trans h.os, h2.trans h.tape, h3.trans h.output, Nat.le_trans h.size hs, ?_, h.own, ?_⟩⟩
    · refine h.rel.party hs (fun b hb hn => ?_) (fun b hb => ?_)
      · have hn' : ¬ F b ∧ ¬ M b ∧ b ≠ L ∧ b ≠ D := ⟨fun h => hn (.inl h), fun h => hn (.inr (.inl h)), fun h => hn (.inr (.inr (.inl h))), fun h => hn (.inr (.inr (.inr h)))⟩
        refine ⟨hk b hb hn'.2.1, ?_⟩
        rintro (h | h | h | h)
        · exact hn'.1 h
        · exact (hM'L b h).elim hn'.2.1 (fun h => by omega)
        · exact hn'.2.2.1 h
        · exact hn'.2.2.2 h
      · rcases hb with h0 | h0 | h0 | h0
        · exact Nat.lt_of_lt_of_le (h.rel.ltF b (.inl h0)) hs
        · exact (hM b h0).2.1
        · rw [h0]; exact Nat.lt_of_lt_of_le hLs hs
        · rw [h0]; exact Nat.lt_of_lt_of_le hDs hs
    · intro b hb hn
      rw [hk b (Nat.lt_of_lt_of_le hb h.size) (fun hm => by have := (h.mnew b hm).1; omega)]
      exact h.keep b hb hn
    · intro b hb
      rcases hM'L b hb with h0 | h0
      · exact h.mnew b h0
      · have := h.size
        exact ⟨by omega, fun e => by subst e; omega, fun e => by subst e; omega⟩

set_option maxHeartbeats 1000000 in
theorem awj_rangeFunc {kp kp' : Nat → Bool} {F0 : Nat → Prop} {w0 : World} {gop : Operand} {ps : Array Tmp} {assign body : Code} {s : St} {Ds : List Nat} {Q : Exit → St → List Nat → Prop} {f : FuncId} {caps xs : List Tr} {p : Tmp}
    (hg : s.ev gop = .t (.fn f caps)) (hc : callOK P f = true) (hI : Iter P f caps xs) (hps : ps = #[p]) (hp : dstOK s.n (some p) = true) (hkp : kp' p = false)
    (I : Nat → St → Prop) (Ix : Code → St → Prop) (h0 : ∃ s1, Weak s s1 ∧ I 0 s1)
    (hn : ∀ i s1, I i s1 → s1.n = s.n ∧ ∀ j, fget s1.fr j = .junk ∨ kp' j = true) (hnx : ∀ c s1, Ix c s1 → s1.n = s.n ∧ ∀ j, fget s1.fr j = .junk ∨ kp' j = true)
    (hround : ∀ l (i : Nat) x s1, I i s1 → xs[i]? = some x → ∀ F1 w1, AWJ P (some l) kp' (JC F1 w1) assign ⟨s1.n, (p, .t x) :: s1.fr, s1.st⟩ [] (fun e s2 Ds2 => e = .normal ∧ Ds2 = [] ∧
      ∀ F2 w2, AWJ P (some l) kp' (JC F2 w2) body s2 [] (roundEnd I Ix i)))
    (hdone : ∀ D s1, I xs.length s1 → Q .normal s1 (D :: Ds))
    (hstop : ∀ D c s1, Ix c s1 → AWJ P none kp (JC F0 w0) c s1 (D :: Ds) Q) : AWJ P none kp (JC F0 w0) (.rangeFunc gop ps assign body) s Ds Q := by
  subst hps
  intro n F β a w hr hJ
  have hV := hr.ev gop
  rw [hg] at hV
  obtain ⟨vs, hvs, hcaps⟩ : ∃ vs : List Value, a.eval gop = .func (.func f) #[] vs.toArray ∧ VL w (G F β s.st) caps vs := by
    generalize a.eval gop = v at hV
    cases hV with
    | t hV => cases hV with
      | fn f cs vs hl hv => exact ⟨vs, rfl, hl, fun i x v hx hv' => hv i x v hx hv'⟩
  refine wpIn_rangeFunc (F := FW none) (fun fn _ => ?_)
  obtain ⟨L, hL⟩ : ∃ L, L = w.heap.size + 1 := ⟨_, rfl⟩
  obtain ⟨D, hD⟩ : ∃ D, D = w.heap.size := ⟨_, rfl⟩
  obtain ⟨rec, hrec⟩ : ∃ rec : LoopState → Option Code → Loop, rec = fun st pe => { state := st, pending := pe, fn, tmps := a.tmps, params := #[p], assign, body, defers := w.heap.size } := ⟨_, rfl⟩
  obtain ⟨W1, hW1⟩ : ∃ W1, W1 = (w.alloc (.deferred (some []))).alloc (.loop (rec .ready none)) := ⟨_, rfl⟩
  have hs1 : W1.heap.size = w.heap.size + 2 := by rw [hW1]; simp
  have hL1 : W1.heap[L]? = some (.loop (rec .ready none)) := by
    rw [hW1, hL]; have := World.alloc_heap_new (w.alloc (.deferred (some []))) (.loop (rec .ready none)); rwa [World.size_alloc] at this
  have hD1 : W1.heap[D]? = some (.deferred (some [])) := by
    rw [hW1, hD]; exact (RowKit.Below.heap_alloc _ _ _ (by simp)).trans (World.alloc_heap_new w _)
  have hold : ∀ b, b < w.heap.size → W1.heap[b]? = w.heap[b]? := fun b hb => by
    rw [hW1, RowKit.Below.heap_alloc _ _ _ (by simp; omega), RowKit.Below.heap_alloc _ _ _ hb]
  have hsh : (shift ((JC F0 w0).ds Ds) a).tmps = a.tmps := rfl
  -- the caller's state, weakened, and its party
  obtain ⟨s1, hw1, hI0⟩ := h0
  obtain ⟨β1, hr1, ho1⟩ := hw1 F β a w hr
  have hXF : ∀ b, F b → b < w.heap.size := hr.ltF
  obtain ⟨X, hX⟩ : ∃ X, X = LJP F s β w a L D rec I Ix hXF := ⟨_, rfl⟩
  have hr2 : Rel (fun b => F b ∨ False ∨ b = L ∨ b = D) β1 s1 a W1 := hr1.party (by omega) (fun b hb hn => ⟨hold b hb, fun h => by
      rcases h with h | h | h | h
      · exact hn h
      · exact h
      · omega
      · omega⟩) (fun b hb => by
      rcases hb with h | h | h | h
      · have := hr.ltF b h; omega
      · exact h.elim
      · omega
      · omega)
  have hJ1 : X.J (none, 0, s1) (fun _ => False) (fun b => F b ∨ Owned β1 s1.st b ∨ b = L ∨ b = D) W1 := by
    rw [hX]
    refine ⟨β1, ⟨hr2, hI0, hL1, hD1, fun b => Iff.rfl, by rw [hW1]; rfl, by rw [hW1]; exact TapeLe.refl w, by rw [hW1]; rfl, by omega, fun b hb _ => hold b hb, fun b hb => .inr (ho1 b hb), fun b hb => hb.elim⟩⟩
  have hVL : VL W1 (fun b => F b ∨ Owned β1 s1.st b ∨ b = L ∨ b = D) caps vs := by
    refine ⟨hcaps.1, fun i x v hx hv => (hcaps.2 i x v hx hv).mono (by omega) (fun b hb hng => ⟨fun h => ?_, hold b hb⟩)⟩
    rcases h with h | h | h | h
    · exact hng (.inl h)
    · exact hng (.inr (ho1 b h))
    · omega
    · omega
  refine ⟨L, [mark D], W1, { target := .fn (.func f) vs.toArray, args := #[.func (.yield L) #[] #[]] }, W1, f, #[.func (.yield L) #[] #[]] ++ vs.toArray, W1, ?_, ?_, fun _ _ => trivial, ?_, (fun h => by cases h), ?_⟩
  · rw [hW1, hL, hD, hrec]; exact run_enterLoop_outer _ _ _ _ _
  · have hev : (shift ((JC F0 w0).ds Ds) a).eval gop = .func (.func f) #[] vs.toArray := hvs
    simp only [resolve, hev]
    simp [go_sem]
  · simp [invoke, go_sem, run_callFunc hc]
  · refine callsFW (ro := none) (Calls.mono (hI _ X (fun g => by rw [hX]; exact ⟨rfl, id⟩) (fun i g => g.1 = none ∧ g.2.1 = i) (fun g => ∃ c, g.1 = some c) L ?_ (none, 0, s1)
      (fun b => F b ∨ Owned β1 s1.st b ∨ b = L ∨ b = D) W1 vs ⟨rfl, rfl⟩ ?_ hVL hJ1) ?_)
    · -- a round
      rintro i x ⟨pe, i', si⟩ hx ⟨hpe, hi⟩
      simp only at hpe hi
      subst hpe hi
      intro m M C W v hJW hCM hVx
      rw [hX] at hJW
      obtain ⟨βi, hj⟩ := hJW
      have hrecL := hj.rc
      simp only [Option.isNone_none, if_true] at hrecL
      have hy := run_yield (P := P) (args := #[v]) hrecL (by rw [hrec]; rfl)
      rw [hrec] at hy
      refine ⟨fn, _, assign, body, hy, roundIn_of_wpIn (F := Fence.wide) trivial ?_⟩
      obtain ⟨hni, hki⟩ := hn i' si hj.inv
      have hF1lt : ∀ b, (F b ∨ M b ∨ b = L ∨ b = D) → b < W.heap.size ∧ ¬ Owned βi si.st b := fun b hb => ⟨hj.rel.ltF b hb, fun ⟨id, ob, hs, hbe⟩ => hj.rel.notF id ob b hs hbe hb⟩
      have hVx' : V W (G (fun b => F b ∨ M b ∨ b = L ∨ b = D) βi si.st) x v := hVx.free (fun b _ hn h => hn (by
        rcases h with (h | h | h | h) | h
        · exact .inl ((hj.ciff b).2 (.inl h))
        · exact .inr h
        · exact .inl ((hj.ciff b).2 (.inr (.inr (.inl h))))
        · exact .inl ((hj.ciff b).2 (.inr (.inr (.inr h))))
        · exact .inl ((hj.ciff b).2 (.inr (.inl h)))))
      have hput := hj.rel.put (d := some p) (by show dstOK si.n (some p) = true; rw [hni]; exact hp) (x := .t x) (v := v) (.t hVx')
      have hact : ((#[p].zip #[v]).foldl (fun tmps (x : Nat × Value) => tmps.setIfInBounds x.1 x.2) a.tmps) = (a.put (some p) v).tmps := by simp [Act.put]
      have hassign := hround L i' x si hj.inv hx (fun b => F b ∨ M b ∨ b = L ∨ b = D) W m _ βi (a.put (some p) v) W hput (jc_start hF1lt)
      have e0 : shift ((JC (fun b => F b ∨ M b ∨ b = L ∨ b = D) W).ds []) (a.put (some p) v) = { tmps := (a.put (some p) v).tmps, defers := [] } := by
        simp [shift, JC, hput.defers]
      rw [e0] at hassign
      have e1 : { tmps := ((#[p].zip #[v]).foldl (fun tmps (x : Nat × Value) => tmps.setIfInBounds x.1 x.2) a.tmps), defers := [] } = ({ tmps := (a.put (some p) v).tmps, defers := [] } : Act) := by rw [hact]
      rw [show ((#[p].zip #[v]).foldl (fun tmps x => match x with | (t, a) => tmps.setIfInBounds t a) a.tmps) = (a.put (some p) v).tmps from hact]
      refine wpIn_mono hassign ?_
      rintro e2 a2' W2 ⟨s2, β2, Ds2, F2, a2, ⟨rfl, rfl, hbody⟩, hrel2, rfl, ⟨k1, k2, k3, _, k5⟩, hev2, hke2⟩
      show ∃ w₂, _ ∧ _
      have hF2 : F2 = (fun b => F b ∨ M b ∨ b = L ∨ b = D) := by funext b; exact propext (by simpa using k1 b)
      subst hF2
      have hL2 : W2.heap[L]? = some (.loop (rec .ready none)) := (k2 L (.inr (.inr (.inl rfl)))).2.1.trans hrecL
      refine ⟨_, run_beginRound hL2 (by rw [hrec]), ?_⟩
      obtain ⟨W3, hW3⟩ : ∃ W3, W3 = W2.putObj L (.loop { rec .ready none with state := .busy }) := ⟨_, rfl⟩
      rw [← hW3]
      have hcell3 : ∀ (b : Nat) q, dataObj q = true → W2.heap[b]? = some q → W3.heap[b]? = W2.heap[b]? := by rw [hW3]; exact putObj_cells hL2 rfl
      have hsz3 : W3.heap.size = W2.heap.size := by rw [hW3]; simp
      have hrel3 := hrel2.others (by rw [hsz3]; exact Nat.le_refl _) hcell3
      have hL3 : W3.heap[L]? = some (.loop { rec .ready none with state := .busy }) := by rw [hW3]; exact World.putObj_heap_same (lt_of_heap hL2)
      have hJ3 : (JC (fun b => F b ∨ M b ∨ b = L ∨ b = D) W3).J [] (Owned β2 s2.st) (fun b => F b ∨ M b ∨ b = L ∨ b = D) W3 :=
        jc_start (fun b hb => ⟨hrel3.ltF b hb, fun ⟨id, ob, hs, hbe⟩ => hrel3.notF id ob b hs hbe hb⟩)
      have hb3 := hbody (fun b => F b ∨ M b ∨ b = L ∨ b = D) W3 m _ β2 a2 W3 hrel3 hJ3
      have e3 : shift ((JC (fun b => F b ∨ M b ∨ b = L ∨ b = D) W3).ds []) a2 = shift ((JC (fun b => F b ∨ M b ∨ b = L ∨ b = D) W).ds []) a2 := rfl
      rw [← e3]
      refine wpIn_mono hb3 ?_
      rintro e4 a4' W4 ⟨s4, β4, Ds4, F4, a4, hend, hrel4, rfl, ⟨q1, q2, q3, _, q5⟩, hev4, hke4⟩
      -- what every end has in common
      have fin : ∀ (pe : Option Code) (s5 : St), Weak s4 s5 → Ds4 = [] → (s5.n = s.n ∧ ∀ j, fget s5.fr j = .junk ∨ kp' j = true) → (match pe with | none => I (i' + 1) s5 | some c => Ix c s5) →
          ∃ v' w', (Instr.endRound L pe).run P W4 = .ok v' w' ∧ ∃ b g' F', Ending.returned v' = .returned (.bool b) ∧ ((b = true ∧ g'.1 = none ∧ g'.2.1 = i' + 1) ∨ (b = false ∧ ∃ c, g'.1 = some c)) ∧ X.J g' M F' w' ∧
            w'.os = W.os ∧ TapeLe W w' ∧ w'.output = W.output ∧ W.heap.size ≤ w'.heap.size ∧ (∀ b, b < W.heap.size → ¬ C b → w'.heap[b]? = W.heap[b]?) ∧ (∀ b, F' b → (C b ∨ W.heap.size ≤ b) ∧ b < w'.heap.size) := by
        intro pe s5 hw5 hDs4 hk5 hinv
        subst hDs4
        have hF4 : F4 = (fun b => F b ∨ M b ∨ b = L ∨ b = D) := by funext b; exact propext (by simpa using q1 b)
        subst hF4
        have hL4 : W4.heap[L]? = some (.loop { rec .ready none with state := .busy }) := (q2 L (.inr (.inr (.inl rfl)))).2.1.trans hL3
        obtain ⟨β5, hrel5, ho5⟩ := hw5 _ β4 a4 W4 hrel4
        obtain ⟨W5, hW5⟩ : ∃ W5, W5 = W4.putObj L (.loop (rec (if pe.isNone then .ready else .done) pe)) := ⟨_, rfl⟩
        have hrun : (Instr.endRound L pe).run P W4 = .ok (.bool pe.isNone) W5 := by
          have := run_endRound (P := P) pe hL4
          rw [hrec] at this hW5
          rw [hW5]; exact this
        have hsz5 : W5.heap.size = W4.heap.size := by rw [hW5]; simp
        have hcell5 : ∀ (b : Nat) q, dataObj q = true → W4.heap[b]? = some q → W5.heap[b]? = W4.heap[b]? := by rw [hW5]; exact putObj_cells hL4 rfl
        have hrel6 := hrel5.others (by rw [hsz5]; exact Nat.le_refl _) hcell5
        have hLD : L ≠ D := by omega
        have hother5 : ∀ b, b ≠ L → W5.heap[b]? = W4.heap[b]? := fun b hb => by rw [hW5]; exact World.putObj_heap_other hb
        have hother3 : ∀ b, b ≠ L → W3.heap[b]? = W2.heap[b]? := fun b hb => by rw [hW3]; exact World.putObj_heap_other hb
        have hprot : ∀ b, (F b ∨ M b ∨ b = D) → b ≠ L → W5.heap[b]? = W.heap[b]? := fun b hb hne => by
          have hb' : F b ∨ M b ∨ b = L ∨ b = D := hb.elim .inl (fun h => h.elim (fun h => .inr (.inl h)) (fun h => .inr (.inr (.inr h))))
          rw [hother5 b hne, (q2 b hb').2.1, hother3 b hne, (k2 b hb').2.1]
        have hFL : ∀ b, F b → b ≠ L := fun b hb e => by have := hr.ltF b hb; omega
        have hkeepW : ∀ b, b < W.heap.size → b ≠ L → ¬ Owned βi si.st b → W5.heap[b]? = W.heap[b]? := fun b hb hne hno => by
          by_cases hp : F b ∨ M b ∨ b = D
          · exact hprot b hp hne
          · have hnb : ¬ (F b ∨ M b ∨ b = L ∨ b = D) := fun h => by
              rcases h with h | h | h | h
              · exact hp (.inl h)
              · exact hp (.inr (.inl h))
              · exact hne h
              · exact hp (.inr (.inr h))
            have hno2 : ¬ Owned β2 s2.st b := fun h => (hev2.own b h).elim (fun h => by omega) hno
            have hb2 : b < W2.heap.size := Nat.lt_of_lt_of_le hb hev2.size
            rw [hother5 b hne, hev4.keep b (by rw [hsz3]; exact hb2) hnb hno2, hother3 b hne, hev2.keep b hb hnb hno]
        have hown5 : ∀ b, Owned β5 s5.st b → W.heap.size ≤ b ∨ Owned βi si.st b := fun b hb => by
          rcases hev4.own b (ho5 b hb) with h | h
          · exact .inl (by rw [hsz3] at h; exact Nat.le_trans hev2.size h)
          · exact hev2.own b h
        have hszW : W.heap.size ≤ W5.heap.size := by rw [hsz5]; have h1 := hev4.size; rw [hsz3] at h1; exact Nat.le_trans hev2.size h1
        -- the activation of the caller again
        have hrel7 : Rel (fun b => F b ∨ M b ∨ b = L ∨ b = D) β5 s5 a W5 := by
          refine ⟨hr.defers, by rw [hr.size, hk5.1], fun j => ?_, hrel6.ob, hrel6.inj, hrel6.notF, hrel6.ltF⟩
          rcases hk5.2 j with h | h
          · rw [h]; exact .junk _
          · have hjp : j ≠ p := fun e => by rw [e, hkp] at h; cases h
            have e5 : a4.tmps[j]? = a.tmps[j]? := by
              rw [hke4 j h, hke2 j h]
              show (a.tmps.setIfInBounds p v)[j]? = _
              rw [Array.getElem?_setIfInBounds_ne (Ne.symm hjp)]
            have e6 : vAt a4 j = vAt a j := by
              have e8 : a4.tmps.size = a.tmps.size := hrel6.size.trans (hk5.1.trans hr.size.symm)
              unfold vAt; rw [e8]; simp only [Array.getD_eq_getD_getElem?, e5]
            have := hrel6.fr j
            rw [e6] at this; exact this
        have hDsame : W5.heap[D]? = some (.deferred (some [])) := (hprot D (.inr (.inr rfl)) (Ne.symm hLD)).trans hj.df
        have hLfin : W5.heap[L]? = some (.loop (rec (if pe.isNone then .ready else .done) pe)) := by rw [hW5]; exact World.putObj_heap_same (lt_of_heap hL4)
        refine ⟨_, W5, hrun, pe.isNone, (pe, i' + 1, s5), (fun b => F b ∨ Owned β5 s5.st b ∨ b = L ∨ b = D), rfl, ?_, ?_, ?_, ?_, ?_, hszW, ?_, ?_⟩
        · cases pe with
          | none => exact .inl ⟨rfl, rfl, rfl⟩
          | some c => exact .inr ⟨rfl, c, rfl⟩
        · rw [hX]
          refine ⟨β5, ⟨hrel7, hinv, hLfin, hDsame, fun b => Iff.rfl, ?_, ?_, ?_, Nat.le_trans hj.size hszW, ?_, ?_, hj.mnew⟩⟩
          · rw [hW5]; show W4.os = _; rw [hev4.os, hW3]; show W2.os = _; rw [hev2.os]; exact hj.os
          · rw [hW5]; exact TapeLe.trans (b := W4) (.refl W4) (hev4.tape.trans (by rw [hW3]; exact TapeLe.trans (b := W2) (.refl W2) (hev2.tape.trans hj.tape)))
          · rw [hW5]; show W4.output = _; rw [hev4.output, hW3]; show W2.output = _; rw [hev2.output]; exact hj.output
          · intro b hb hno
            have hbL : b ≠ L := by omega
            have hbW := Nat.lt_of_lt_of_le hb hj.size
            rw [← hj.keep b hb hno]
            rcases hno with h | h
            · exact hprot b (.inl h) hbL
            · exact hkeepW b hbW hbL (fun ho => (hj.own b ho).elim (fun h => by omega) h)
          · intro b hb
            rcases hown5 b hb with h | h
            · exact .inl (Nat.le_trans hj.size h)
            · exact hj.own b h
        · rw [hW5]; show W4.os = _; rw [hev4.os, hW3]; exact hev2.os
        · rw [hW5]; exact TapeLe.trans (b := W4) (.refl W4) (hev4.tape.trans (by rw [hW3]; exact TapeLe.trans (b := W2) (.refl W2) hev2.tape))
        · rw [hW5]; show W4.output = _; rw [hev4.output, hW3]; exact hev2.output
        · intro b hb hnC
          have h1 : ¬ Owned βi si.st b := fun h => hnC ((hj.ciff b).2 (.inr (.inl h)))
          have h2 : b ≠ L := fun h => hnC ((hj.ciff b).2 (.inr (.inr (.inl h))))
          exact hkeepW b hb h2 h1
        · intro b hb
          rcases hb with h | h | h | h
          · exact ⟨.inl ((hj.ciff b).2 (.inl h)), Nat.lt_of_lt_of_le (hj.rel.ltF b (.inl h)) hszW⟩
          · exact ⟨(hown5 b h).elim .inr (fun h => .inl ((hj.ciff b).2 (.inr (.inl h)))), (hrel7.owned_cells h).1⟩
          · exact ⟨.inl ((hj.ciff b).2 (.inr (.inr (.inl h)))), by rw [h]; exact lt_of_heap hLfin⟩
          · exact ⟨.inl ((hj.ciff b).2 (.inr (.inr (.inr h)))), by rw [h]; exact lt_of_heap hDsame⟩
      cases e4 with
      | normal =>
        obtain ⟨hd4, s5, hw5, hi5⟩ := hend
        exact fin none s5 hw5 hd4 (hn _ _ hi5) hi5
      | ret =>
        obtain ⟨hd4, s5, hw5, hi5⟩ := hend
        exact fin (some .ret) s5 hw5 hd4 (hnx _ _ hi5) hi5
      | exit id =>
        obtain ⟨hd4, s5, hw5, hi5⟩ := hend
        exact fin (some (.exit id)) s5 hw5 hd4 (hnx _ _ hi5) hi5
      | goto t => exact hend.elim
      | panic ch => exact hend.elim
      | outgrown => exact hend.elim
    · intro b hb
      rcases hb with h | h | h | h
      · have := hr.ltF b h; omega
      · have := (hr1.owned_cells h).1; omega
      · omega
      · omega
    · -- behind the iterator
      rintro e W5 ⟨⟨v, rfl⟩, ⟨pe, i', si⟩, M', C', hfin, hJ5⟩
      rw [hX] at hJ5
      obtain ⟨β5, hj⟩ := hJ5
      have hrc := hj.rc
      simp only at hrc
      have hbusy : (rec (if pe.isNone then LoopState.ready else LoopState.done) pe).state ≠ .busy := by rw [hrec]; cases pe <;> simp
      have hend := run_endLoop (P := P) hrc hbusy
      obtain ⟨W6, hW6⟩ : ∃ W6, W6 = W5.putObj L (.loop { rec (if pe.isNone then .ready else .done) pe with state := .exhausted }) := ⟨_, rfl⟩
      replace hend : (Instr.endLoop L).run P W5 = .ok pe W6 := by rw [hW6]; rw [hrec] at hend ⊢; exact hend
      have hsz6 : W6.heap.size = W5.heap.size := by rw [hW6]; simp
      have hoth6 : ∀ b, b ≠ L → W6.heap[b]? = W5.heap[b]? := fun b hb => by rw [hW6]; exact World.putObj_heap_other hb
      have hrel6 := hj.rel.others (w' := W6) (by rw [hsz6]; exact Nat.le_refl _) (by rw [hW6]; exact putObj_cells hrc rfl)
      have hDlt := lt_of_heap hj.df
      have hrel7 : Rel (fun b => F b ∨ b = D) β5 si a W6 := hrel6.party (Nat.le_refl _) (fun b _ hn => ⟨rfl, fun h => hn (h.elim .inl (fun h => .inr (.inr (.inr h))))⟩) (fun b hb => by
        rcases hb with h | h
        · rw [hsz6]; exact hj.rel.ltF b (.inl h)
        · rw [hsz6, h]; exact hDlt)
      obtain ⟨j1, j2, j3, j4, j5⟩ := hJ
      have hkeep6 : ∀ b, b < w.heap.size → (F b ∨ ¬ Owned β s.st b) → W6.heap[b]? = w.heap[b]? := fun b hb h => by rw [hoth6 b (by omega)]; exact hj.keep b hb h
      have hJ7 : (JC F0 w0).J (D :: Ds) (Owned β5 si.st) (fun b => F b ∨ b = D) W6 := by
        refine ⟨fun b => ?_, fun b hb => ?_, fun E hE => ?_, ?_, ?_⟩
        · show (F b ∨ b = D) ↔ _
          rw [j1 b, List.mem_cons]
          constructor
          · rintro ((h | h) | h)
            · exact .inl h
            · exact .inr (.inr h)
            · exact .inr (.inl h)
          · rintro (h | h | h)
            · exact .inl (.inl h)
            · exact .inr h
            · exact .inl (.inr h)
        · obtain ⟨g1, g2, g3⟩ := j2 b hb
          have hFb : F b := (j1 b).2 (.inl hb)
          refine ⟨by rw [hsz6]; exact Nat.lt_of_lt_of_le g1 hj.size, (hkeep6 b g1 (.inl hFb)).trans g2, ?_⟩
          rintro ⟨id, ob, hs, hbe⟩
          exact hrel7.notF id ob b hs hbe (.inl hFb)
        · rcases List.mem_cons.1 hE with rfl | hE
          · refine ⟨fun h => ?_, ?_, ?_, ?_⟩
            · have := (j2 _ h).1; omega
            · rintro ⟨id, ob, hs, hbe⟩
              exact hrel7.notF id ob _ hs hbe (.inr rfl)
            · omega
            · rw [hoth6 _ (by omega)]; exact hj.df
          · obtain ⟨g1, g2, g3, g4⟩ := j3 E hE
            have hFE : F E := (j1 E).2 (.inr hE)
            refine ⟨g1, ?_, g3, (hkeep6 E (lt_of_heap g4) (.inl hFE)).trans g4⟩
            rintro ⟨id, ob, hs, hbe⟩
            exact hrel7.notF id ob E hs hbe (.inl hFE)
        · refine List.nodup_cons.2 ⟨fun h => ?_, j4⟩
          have := lt_of_heap (j3 D h).2.2.2
          omega
        · rw [hsz6]; exact Nat.le_trans j5 hj.size
      have hev7 : EvoJ (JC F0 w0).q F s.st β w (fun b => F b ∨ b = D) si.st β5 W6 := by
        refine ⟨?_, ?_, ?_, by rw [hsz6]; exact hj.size, fun b hb hF hno => hkeep6 b hb (.inr hno), hj.own, fun b hb => hb.imp id (fun h => by omega), fun hq => hq.elim⟩
        · rw [hW6]; exact hj.os
        · rw [hW6]; exact hj.tape
        · rw [hW6]; exact hj.output
      have hact : ({ shift ((JC F0 w0).ds Ds) a with defers := [mark D] ++ (shift ((JC F0 w0).ds Ds) a).defers } : Act) = shift ((JC F0 w0).ds (D :: Ds)) a := by
        simp [shift, JC, hr.defers]
      show rangePost _ _ _ _ _ _ _ _
      rw [hact]
      refine ⟨pe, W6, hend, ?_⟩
      cases pe with
      | none =>
        rcases hfin with ⟨_, hi⟩ | ⟨c, hc⟩
        · simp only at hi
          subst hi
          exact ⟨si, β5, D :: Ds, _, a, hdone D si hj.inv, hrel7, rfl, hJ7, hev7, Keeps.refl _ _⟩
        · cases hc
      | some c =>
        refine wpIn_mono (hstop D c si hj.inv n _ β5 a W6 hrel7 hJ7) ?_
        rintro e8 a8 W8 ⟨s8, β8, D8, F8, a9, hq, hr8, e9, hJ8, hev8, hke8⟩
        exact ⟨s8, β8, D8, F8, a9, hq, hr8, e9, hJ8, hev7.trans hev8, hke8⟩

theorem kept_of {kp : Nat → Bool} {fr : Fra} (h : (fr.all fun x => kp x.1) = true) : ∀ j, fget fr j = .junk ∨ kp j = true := by
  induction fr with
  | nil => intro j; exact .inl rfl
  | cons x l ih =>
    intro j
    simp only [List.all_cons, Bool.and_eq_true] at h
    by_cases e : x.1 = j
    · subst e; exact .inr h.1
    · have : Nat.beq x.1 j = false := by rw [Bool.eq_false_iff]; intro h; exact e (Nat.eq_of_beq_eq_true h)
      simp only [fget, this, cond_false]
      exact ih h.2 j

theorem filter_take_succ {α : Type} {l : List α} {p : α → Bool} {i : Nat} (h : i < l.length) : (l.take (i + 1)).filter p = (l.take i).filter p ++ (if p l[i] then [l[i]] else []) := by
  rw [List.take_add_one, List.getElem?_eq_getElem h]
  simp only [Option.toList, List.filter_append, List.filter_cons, List.filter_nil]

theorem filter_get {α : Type} {l : List α} {p : α → Bool} {i : Nat} (h : i < l.length) (hp : p l[i] = true) : (l.filter p)[((l.take i).filter p).length]? = some l[i] := by
  have e : l = l.take i ++ (l[i] :: l.drop (i + 1)) := by rw [List.getElem_cons_drop, List.take_append_drop]
  have e2 : l.filter p = (l.take i).filter p ++ (l[i] :: (l.drop (i + 1)).filter p) := by
    conv => lhs; rw [e]
    rw [List.filter_append, List.filter_cons, if_pos hp]
  rw [e2, List.getElem?_append_right (Nat.le_refl _), Nat.sub_self]
  rfl

end Go.Tv

end
section
namespace Go.Tv
section
variable {k : IntKind} {a b : Int}
theorem iop_lss_t (h : a < b) : iop .lss k a b = some (.bool true) := by unfold iop; simp; omega
theorem iop_lss_f (h : b ≤ a) : iop .lss k a b = some (.bool false) := by unfold iop; simp; omega
end

/-- A scalar field of a value. -/
theorem eff_field {P : Program} {o : Oper} {D : St} {t : TypeId} {x : Operand} {f off : Nat} {cs : List Tr} {y : Tr} (hd : dstOK D.n o.dst = true) (ho : o.op = .field t x f)
    (hf : fldOf P t f = some (off, 1, false)) (hx : D.ev x = .t (.agg cs)) (hy : cs[off]? = some y) : Eff P o D ⟨.t y, []⟩ :=
  Eff.pure hd fun s hs F β a w hR => by
    have h := hR.evT hs hx
    obtain ⟨fs, fd, hu, hfd, hoff, ht⟩ := fldOf_spec hf
    generalize hv : a.eval x = v at h
    cases h with
    | agg cs vs hl h1 hva =>
      have hi : off < cs.length := by
        rcases Nat.lt_or_ge off cs.length with h | h
        · exact h
        · rw [List.getElem?_eq_none h] at hy; cases hy
      have hu2 : vs[off]? = some (vs[off]'(by omega)) := List.getElem?_eq_getElem (by omega)
      refine ⟨vs[off]'(by omega), ?_, .t (hva off y _ hy hu2)⟩
      simp only [execOp, ho, hv, Instr.field, run_underlying' w hu, hfd, hoff, Sem.run_bind, Sem.run_pure, Result.andThen_ok, asAgg, part, run_isAgg' w ht]
      simp [hu2]
theorem eff_remE {P : Program} {o : Oper} {D : St} {t ty : TypeId} {x y : Operand} {k : IntKind} {n m r : Int} (hd : dstOK D.n o.dst = true) (ho : o.op = .binOp .rem t x y ty)
    (hx : D.ev x = .t (.int k n)) (hy : D.ev y = .t (.int k m)) (hm : m ≠ 0) (hr : n.tmod m = r) : Eff P o D ⟨.t (.int k r), []⟩ := hr ▸ eff_rem hd ho hx hy hm

theorem WkP.len : ∀ {xs ys : List Tr}, WkP xs ys → xs.length = ys.length
  | [], [], _ => rfl
  | _ :: _, _ :: _, h => by simp [WkP.len h.2]
  | [], _ :: _, h => h.elim
  | _ :: _, [], h => h.elim

theorem WkP.get : ∀ {xs ys : List Tr}, WkP xs ys → ∀ (i : Nat) x y, xs[i]? = some x → ys[i]? = some y → Wk x y
  | _ :: _, _ :: _, h, 0, x, y, hx, hy => by simp at hx hy; subst hx hy; exact h.1
  | _ :: _, _ :: _, h, i + 1, x, y, hx, hy => WkP.get h.2 i x y (by simpa using hx) (by simpa using hy)

end Go.Tv

end
section
namespace Go.Tv

variable {P : Program} {o : Oper} {D : St}

end Go.Tv

end
section
namespace Go.Tv

variable {P : Program} {o : Oper} {D : St}

theorem run_indexAt_array {t e : TypeId} {n k : Nat} {g : Bool} (hu : P.underlying t = some (.array n e)) (ht : tinf P e = some (k, g)) (w : World) (b p i : Nat) (ik : IntKind) (hi : i < n) :
    (Instr.indexAt t (.pointer (some ⟨b, p, none⟩)) (.int ik i)).run P w = .ok (.pointer (some ⟨b, p + i * k, none⟩)) w := by
  have h1 : (0 : Int) ≤ (i : Int) ∧ (i : Int) < (n : Int) := ⟨by omega, by omega⟩
  simp [Instr.indexAt, asIntOf, run_underlying' w hu, h1, run_sizeOf' w ht, Addr.add_none, hi, Instr.sureAddr]

end Go.Tv

end
section
namespace Go.Tv

variable {P : Program} {o : Oper} {D : St}

/-! ### Arrays -/

end Go.Tv

end
section
namespace Go.Tv

/-! ### Places in a list that is sorted by a key -/

def cmpI (a b : Int) : Int := if a < b then -1 else if b < a then 1 else 0
end Go.Tv

end
section
namespace Go.Tv

end Go.Tv

end
section
namespace Go.Tv

variable {P : Program}

/-- As RD, with what is hidden and what is touched at each operation in a list. -/
def RH (P : Program) (all : List Oper) : List (Tch × (Option Tmp × List Nat)) → List Oper → St → (St → Prop) → Prop
  | _, [], s, K => K s
  | [], _ :: _, _, _ => False
  | h :: hs, o :: l, s, K => ∃ e, (o.dst, idsOf e) = h.2 ∧ OpAt P all (forget h.1 s) o e ∧ RH P all hs l (s.app o.dst e) K

section
variable {all l : List Oper} {o : Oper} {n : Nat} {fr : Fra} {st : Sto} {K : St → Prop} {hi : Tch} {t : Option Tmp × List Nat} {hs : List (Tch × (Option Tmp × List Nat))}

theorem RH.nil {s : St} (h : K s) : RH P all [] [] s K := h

theorem RH.op {v : AV} {d : Tmp} (hg : o.guard = none) (hd : o.dst = some d) (ht : t = (some d, [])) (he : Eff P o (forget hi ⟨n, fr, st⟩) ⟨v, []⟩)
    (h : RH P all hs l ⟨n, (d, v) :: fr, st⟩ K) : RH P all ((hi, t) :: hs) (o :: l) ⟨n, fr, st⟩ K :=
  ⟨_, by rw [ht, hd]; rfl, .inl ⟨hg, he⟩, by rw [hd]; exact h⟩

theorem RH.new {v : AV} {d : Tmp} {id : Nat} {ob : Ob} (hg : o.guard = none) (hd : o.dst = some d) (ht : t = (some d, [id])) (he : Eff P o (forget hi ⟨n, fr, st⟩) ⟨v, [(id, ob)]⟩)
    (h : RH P all hs l ⟨n, (d, v) :: fr, (id, some ob) :: st⟩ K) : RH P all ((hi, t) :: hs) (o :: l) ⟨n, fr, st⟩ K :=
  ⟨_, by rw [ht, hd]; rfl, .inl ⟨hg, he⟩, by rw [hd]; exact h⟩

theorem RH.store {v : AV} {id : Nat} {ob : Ob} (hg : o.guard = none) (hd : o.dst = none) (ht : t = (none, [id])) (he : Eff P o (forget hi ⟨n, fr, st⟩) ⟨v, [(id, ob)]⟩)
    (h : RH P all hs l ⟨n, fr, (id, some ob) :: st⟩ K) : RH P all ((hi, t) :: hs) (o :: l) ⟨n, fr, st⟩ K :=
  ⟨_, by rw [ht, hd]; rfl, .inl ⟨hg, he⟩, by rw [hd]; exact h⟩

theorem RH.gop {v : AV} {d gd : Tmp} {j : Nat} {want b : Bool} {og : Oper} (hg : o.guard = some (j, want)) (hd : o.dst = some d) (ht : t = (some d, [])) (hj : all[j]? = some og) (hgd : og.dst = some gd)
    (hb : fget (forget hi ⟨n, fr, st⟩).fr gd = .t (.bool b)) (hbw : b = want)
    (he : Eff P o (forget hi ⟨n, fr, st⟩) ⟨v, []⟩) (h : RH P all hs l ⟨n, (d, v) :: fr, st⟩ K) : RH P all ((hi, t) :: hs) (o :: l) ⟨n, fr, st⟩ K :=
  ⟨_, by rw [ht, hd]; rfl, .inr (.inl ⟨j, want, og, gd, b, hg, hj, hgd, hb, .inl ⟨hbw, he⟩⟩), by rw [hd]; exact h⟩

theorem RH.gskip {d gd : Tmp} {j : Nat} {want b : Bool} {og : Oper} (hg : o.guard = some (j, want)) (hd : o.dst = some d) (ht : t = (some d, [])) (hj : all[j]? = some og) (hgd : og.dst = some gd)
    (hb : fget (forget hi ⟨n, fr, st⟩).fr gd = .t (.bool b)) (hbw : b ≠ want)
    (h : RH P all hs l ⟨n, (d, .tup []) :: fr, st⟩ K) : RH P all ((hi, t) :: hs) (o :: l) ⟨n, fr, st⟩ K :=
  ⟨_, by rw [ht, hd]; rfl, .inr (.inl ⟨j, want, og, gd, b, hg, hj, hgd, hb, .inr ⟨hbw, rfl⟩⟩), by rw [hd]; exact h⟩

end

end Go.Tv

end
section
namespace Go.Tv

variable {P : Program} {o : Oper} {D : St}

def imax (a b : Int) : Int := if b > a then b else a
def imin (a b : Int) : Int := if b < a then b else a

theorem eff_max {t t2 : TypeId} {x y : Operand} {k : IntKind} {n m : Int} (hd : dstOK D.n o.dst = true)
    (ho : o.op = .call { callee := .builtin .max, args := #[x, y], argTypes := #[t, t2] }) (hx : D.ev x = .t (.int k n)) (hy : D.ev y = .t (.int k m)) : Eff P o D ⟨.t (.int k (imax n m)), []⟩ :=
  Eff.pure hd fun s hs' F β a w hR => by
    refine ⟨.int k (imax n m), ?_, .t (.int k _)⟩
    simp only [execOp, ho, resolve, List.map_toArray, List.map_cons, List.map_nil, hR.evInt hs' hx, hR.evInt hs' hy, invoke, builtin, Builtin.max_, List.foldlM_cons, List.foldlM_nil, Builtin.max2, Sem.run_bind, Sem.run_pure, Result.andThen_ok, imax]

theorem eff_min {t t2 : TypeId} {x y : Operand} {k : IntKind} {n m : Int} (hd : dstOK D.n o.dst = true)
    (ho : o.op = .call { callee := .builtin .min, args := #[x, y], argTypes := #[t, t2] }) (hx : D.ev x = .t (.int k n)) (hy : D.ev y = .t (.int k m)) : Eff P o D ⟨.t (.int k (imin n m)), []⟩ :=
  Eff.pure hd fun s hs' F β a w hR => by
    refine ⟨.int k (imin n m), ?_, .t (.int k _)⟩
    simp only [execOp, ho, resolve, List.map_toArray, List.map_cons, List.map_nil, hR.evInt hs' hx, hR.evInt hs' hy, invoke, builtin, Builtin.min_, List.foldlM_cons, List.foldlM_nil, Builtin.min2, Sem.run_bind, Sem.run_pure, Result.andThen_ok, imin]

end Go.Tv

end
section
namespace Go.Tv
variable {P : Program}

abbrev Gh := List (Nat × Obj)
def gget : Gh → Nat → Option Obj
  | [], _ => none
  | x :: l, b => if x.1 = b then some x.2 else gget l b
theorem gget_same (b : Nat) (o : Obj) (g : Gh) : gget ((b, o) :: g) b = some o := by simp [gget]
theorem gget_ne {b c : Nat} (o : Obj) (g : Gh) (h : b ≠ c) : gget ((b, o) :: g) c = gget g c := by simp [gget, h]

/-- The blocks F0 stand as in w0; the blocks of the ghost state hold what it says. -/
def JR (F0 : Nat → Prop) (w0 : World) : JP Gh where
  J := fun g M C w => (∀ b, C b ↔ F0 b ∨ (gget g b).isSome = true) ∧ (∀ b, F0 b → b < w.heap.size ∧ w.heap[b]? = w0.heap[b]? ∧ ¬ M b ∧ gget g b = none) ∧
    (∀ b o, gget g b = some o → w.heap[b]? = some o ∧ ¬ M b) ∧ w0.heap.size ≤ w.heap.size
  ds := fun _ => []
  stable := by
    rintro g M C w M' w' ⟨h1, h2, h3, h4⟩ hs _ _ _ hk hM
    refine ⟨h1, fun b hb => ?_, fun b o hb => ?_, Nat.le_trans h4 hs⟩
    · obtain ⟨g1, g2, g3, g4⟩ := h2 b hb
      exact ⟨Nat.lt_of_lt_of_le g1 hs, (hk b g1 g3).trans g2, fun hm => (hM b hm).1.elim g3 (fun h => by omega), g4⟩
    · obtain ⟨g1, g2⟩ := h3 b o hb
      have hlt := lt_of_heap g1
      exact ⟨(hk b hlt g2).trans g1, fun hm => (hM b hm).1.elim g2 (fun h => by omega)⟩

/-- The function f, at the trees xs over the raw blocks g0: S: what it returns over which raw blocks. -/
def RetR (P : Program) (f : FuncId) (xs : List Tr) (g0 : Gh) (S : Tr → Gh → Prop) : Prop :=
  ∀ (F0 : Nat → Prop) (w : World) (vals : List Value), (∀ b, F0 b → b < w.heap.size ∧ gget g0 b = none) → (∀ b o, gget g0 b = some o → w.heap[b]? = some o) →
    VL w (fun b => F0 b ∨ (gget g0 b).isSome = true) xs vals →
    Calls P f vals.toArray w fun e w' => ∃ v r g1, e = .returned v ∧ S r g1 ∧ V w' (fun b => F0 b ∨ (gget g1 b).isSome = true) r v ∧ (∀ b o, gget g1 b = some o → w'.heap[b]? = some o) ∧
      (∀ b, (gget g1 b).isSome = true → (gget g0 b).isSome = true ∨ w.heap.size ≤ b) ∧ w'.os = w.os ∧ TapeLe w w' ∧ w'.output = w.output ∧ w.heap.size ≤ w'.heap.size ∧
      ∀ b, b < w.heap.size → gget g0 b = none → w'.heap[b]? = w.heap[b]?

theorem V.less {w : World} {F F' : Nat → Prop} (h : ∀ b, F' b → F b) {x : Tr} {v : Value} (hv : V w F x v) : V w F' x v :=
  hv.mono (Nat.le_refl _) (fun b _ hn => ⟨fun hf => hn (h b hf), rfl⟩)

/-- A contract over raw blocks, out of a body. -/
theorem retR_of_awj {f : FuncId} {fn : Func} {c : Code} {xs : List Tr} {g0 : Gh} {S : Tr → Gh → Prop} (hf : P.funcs[f]? = some fn) (hb : fn.body = some c) (hn : xs.length ≤ fn.ntmps)
    (h : ∀ F0 w0, AWJ P none (fun _ => false) (JR F0 w0) c ⟨fn.ntmps, initFr 0 xs, []⟩ g0 (fun e s g => (e = .normal ∨ e = .ret) ∧ ∃ rs r g1, RVars P s fn.results.toList rs ∧ Wk (packT rs) r ∧ S r g1 ∧ ∀ b o, gget g1 b = some o → gget g b = some o)) :
    RetR P f xs g0 S := by
  intro F0 w vals hF hg hV
  refine (callsIn_wide (n := 0)).1 (callsIn_of_wp (F := Fence.wide) hf hb trivial ?_)
  have hlt : ∀ b, (F0 b ∨ (gget g0 b).isSome = true) → b < w.heap.size := fun b hb => hb.elim (fun h => (hF b h).1) (fun h => by
    obtain ⟨o, ho⟩ := Option.isSome_iff_exists.1 h
    exact lt_of_heap (hg b o ho))
  have h0 := ofVL (n := fn.ntmps) hlt hV hn
  have hJ0 : (JR F0 w).J g0 (Owned (fun _ => none) ([] : Sto)) (fun b => F0 b ∨ (gget g0 b).isSome = true) w :=
    ⟨fun b => Iff.rfl, fun b hb => ⟨(hF b hb).1, rfl, not_owned_nil, (hF b hb).2⟩, fun b o ho => ⟨hg b o ho, not_owned_nil⟩, Nat.le_refl _⟩
  have hrun := h F0 w 0 _ _ _ w h0 hJ0
  refine wpIn_mono hrun ?_
  rintro e a' w' ⟨s', β', g', F', a'', ⟨he, rs, r, g1, hrs, hwk, hS, hsub⟩, hr', rfl, ⟨j1, j2, j3, j4⟩, hev, _⟩
  obtain ⟨vs, hvs, hvl, hvV⟩ := RVars.run hr' _ _ hrs
  have hres : ∃ v, (results fn a''.tmps).run P w' = .ok v w' ∧ V w' F' (packT rs) v := by
    have hm : (fn.results.mapM (resOf a''.tmps)).run P w' = .ok vs.toArray w' := by
      rw [Array.mapM_eq_mapM_toList, Sem.run_map, hvs]; rfl
    refine ⟨if h : vs.toArray.size = 1 then vs.toArray[0] else .tuple vs.toArray, ?_, ?_⟩
    · rw [results_eq, Sem.run_bind, hm]; rfl
    · match rs, vs, hvl with
      | [], [], _ => exact .tup [] [] rfl (fun j c v h => by simp at h)
      | [x], [v], _ => exact hvV 0 x v rfl rfl
      | x :: y :: rs, v :: u :: vs, hl => exact .tup _ _ hl (fun j c z hc hz => hvV j c z hc hz)
  obtain ⟨v, hv, hVv⟩ := hres
  have hsome : ∀ b, (gget g1 b).isSome = true → (gget g' b).isSome = true := fun b hb => by
    obtain ⟨o, ho⟩ := Option.isSome_iff_exists.1 hb
    rw [hsub b o ho]; rfl
  have hdf : (shift ((JR F0 w).ds g') a'').defers = [] := by simp [shift, hr'.defers, JR]
  have hfin : ∃ v', (results fn (shift ((JR F0 w).ds g') a'').tmps).run P w' = .ok v' w' ∧ ∃ v r g1, Ending.returned v' = .returned v ∧ S r g1 ∧ V w' (fun b => F0 b ∨ (gget g1 b).isSome = true) r v ∧ (∀ b o, gget g1 b = some o → w'.heap[b]? = some o) ∧
      (∀ b, (gget g1 b).isSome = true → (gget g0 b).isSome = true ∨ w.heap.size ≤ b) ∧ w'.os = w.os ∧ TapeLe w w' ∧ w'.output = w.output ∧ w.heap.size ≤ w'.heap.size ∧
      ∀ b, b < w.heap.size → gget g0 b = none → w'.heap[b]? = w.heap[b]? := by
    refine ⟨v, hv, v, r, g1, rfl, hS, ?_, fun b o ho => (j3 b o (hsub b o ho)).1, fun b hb => ?_, hev.os, hev.tape, hev.output, hev.size, fun b hb hn => ?_⟩
    · exact hwk.v (hVv.less (fun b hb => (j1 b).2 (hb.imp id (hsome b))))
    · rcases hev.fn b ((j1 b).2 (.inr (hsome b hb))) with h | h
      · rcases h with h | h
        · have := (j2 b h).2.2.2
          have h2 := hsome b hb
          rw [this] at h2; cases h2
        · exact .inl h
      · exact .inr h
    · by_cases hb0 : F0 b
      · exact (j2 b hb0).2.1
      · exact hev.keep b hb (fun h => h.elim hb0 (fun h => by rw [hn] at h; cases h)) not_owned_nil
  rcases he with rfl | rfl <;> exact ⟨hdf, hfin⟩

end Go.Tv

end
section
namespace Go.Tv
variable {P : Program} {o : Oper} {D : St} {F0 : Nat → Prop} {w0 : World}

/-- What an operation on raw blocks must show: from the world w and the ghost state g it gives the value v that the tree x tells, the world w' and the ghost state g'. -/
structure RawStep (g : Gh) (w : World) (v : Value) (x : Tr) (g' : Gh) (w' : World) : Prop where
  val : ∀ (W : World) (F : Nat → Prop), V W F x v
  os : w'.os = w.os
  tape : TapeLe w w'
  output : w'.output = w.output
  size : w.heap.size ≤ w'.heap.size
  keep : ∀ b, b < w.heap.size → gget g b = none → w'.heap[b]? = w.heap[b]?
  holds : ∀ b q, gget g' b = some q → w'.heap[b]? = some q
  dom : ∀ b, (gget g' b).isSome = true → (gget g b).isSome = true ∨ w.heap.size ≤ b
  all : ∀ b, (gget g b).isSome = true → (gget g' b).isSome = true

theorem RawStep.refl {g : Gh} {w : World} {v : Value} {x : Tr} (hv : ∀ (W : World) (F : Nat → Prop), V W F x v) (hg : ∀ b q, gget g b = some q → w.heap[b]? = some q) : RawStep g w v x g w :=
  ⟨hv, rfl, .refl _, rfl, Nat.le_refl _, fun _ _ _ => rfl, hg, fun _ h => .inl h, fun _ h => h⟩

/-- The caller's view behind a raw step. -/
theorem raw_after {F : Nat → Prop} {β : Nat → Option Nat} {a : Act} {w w' : World} {g g' : Gh} (hd : dstOK D.n o.dst = true) (hr : Rel F β D a w) (hJ : (JR F0 w0).J g (Owned β D.st) F w) {x : AV} {v : Value}
    (hv : VA w' (G (fun b => F0 b ∨ (gget g' b).isSome = true) β D.st) β D.st x v) (hos : w'.os = w.os) (htape : TapeLe w w') (hout : w'.output = w.output) (hsz : w.heap.size ≤ w'.heap.size)
    (hkeep : ∀ b, b < w.heap.size → gget g b = none → w'.heap[b]? = w.heap[b]?) (hholds : ∀ b q, gget g' b = some q → w'.heap[b]? = some q)
    (hdom : ∀ b, (gget g' b).isSome = true → (gget g b).isSome = true ∨ w.heap.size ≤ b) {K : Act → World → Prop}
    (hK : ∀ F' β' a' w', Rel F' β' (D.app o.dst ⟨x, []⟩) a' w' → (JR F0 w0).J g' (Owned β' (D.app o.dst ⟨x, []⟩).st) F' w' → EvoJ (JR F0 w0).q F D.st β w F' (D.app o.dst ⟨x, []⟩).st β' w' → (∃ v, a'.tmps = (a.put o.dst v).tmps) → K (shift ((JR F0 w0).ds g') a') w') :
    K (shift ((JR F0 w0).ds g) (a.put o.dst v)) w' := by
  obtain ⟨j1, j2, j3, j4⟩ := hJ
  have hF' : ∀ b, (F0 b ∨ (gget g' b).isSome = true) → (F b ∨ w.heap.size ≤ b) ∧ b < w'.heap.size := fun b hb => by
    rcases hb with h | h
    · exact ⟨.inl ((j1 b).2 (.inl h)), Nat.lt_of_lt_of_le (j2 b h).1 hsz⟩
    · obtain ⟨q, hq⟩ := Option.isSome_iff_exists.1 h
      refine ⟨(hdom b h).imp (fun h => (j1 b).2 (.inr h)) id, lt_of_heap (hholds b q hq)⟩
  have hkF : ∀ b, b < w.heap.size → ¬ F b → w'.heap[b]? = w.heap[b]? := fun b hb hn => hkeep b hb (by
    cases hq : gget g b with
    | none => rfl
    | some q => exact absurd ((j1 b).2 (.inr (by rw [hq]; rfl))) hn)
  have hr1 : Rel (fun b => F0 b ∨ (gget g' b).isSome = true) β D a w' := hr.party hsz (fun c hc hn => ⟨hkF c hc hn, fun h => (hF' c h).1.elim hn (fun h => by omega)⟩) (fun c hc => (hF' c hc).2)
  have hr2 := hr1.put (d := o.dst) hd hv
  have hds : (JR F0 w0).ds g = (JR F0 w0).ds g' := rfl
  rw [hds]
  refine hK _ β (a.put o.dst v) w' hr2 ⟨fun b => Iff.rfl, fun b hb => ?_, fun b q hq => ?_, Nat.le_trans j4 hsz⟩ ⟨hos, htape, hout, hsz, fun c hc hF _ => hkF c hc hF, fun c hc => .inr hc, fun c hc => (hF' c hc).1, fun hq => hq.elim⟩ ⟨v, rfl⟩
  · obtain ⟨g1, g2, g3, g4⟩ := j2 b hb
    refine ⟨Nat.lt_of_lt_of_le g1 hsz, (hkeep b g1 g4).trans g2, g3, ?_⟩
    cases hq : gget g' b with
    | none => rfl
    | some q =>
      rcases hdom b (by rw [hq]; rfl) with h | h
      · rw [g4] at h; cases h
      · omega
  · refine ⟨hholds b q hq, fun hm => ?_⟩
    rcases hdom b (by rw [hq]; rfl) with h | h
    · obtain ⟨q0, hq0⟩ := Option.isSome_iff_exists.1 h
      exact (j3 b q0 hq0).2 hm
    · exact absurd (hr.owned_cells hm).1 (by omega)

/-- An operation that gives a value. -/
theorem raw_op {g : Gh} {S : Ef → Gh → Prop} (hd : dstOK D.n o.dst = true) (hnd : noDefer o = true)
    (h : ∀ F β a w, Rel F β D a w → (∀ b q, gget g b = some q → w.heap[b]? = some q) → ∃ v w' x g', (execOp a.eval o).run P w = .ok (.value v) w' ∧ S ⟨.t x, []⟩ g' ∧ RawStep g w v x g' w') : EffJ P none (JR F0 w0) o D g S := by
  intro n F β a w hr hJ K Q hK
  obtain ⟨v, w', x, g', hrun, hS, hst⟩ := h F β a w hr (fun b q hq => (hJ.2.2.1 b q hq).1)
  refine ⟨fun f _ => trivial, ?_⟩
  have hround0 : (FW none).round = none := rfl
  rw [hround0, Oper.semAt_eq _ _ _ (noDefer_ne hnd)]
  have he : (shift ((JR F0 w0).ds g) a).eval = a.eval := rfl
  rw [he, hrun]
  show K _ _
  rw [shift_put]
  exact raw_after hd hr hJ (.t (hst.val _ _)) hst.os hst.tape hst.output hst.size hst.keep hst.holds hst.dom (hK _ _ hS)

/-- An operation that gives none. -/
theorem raw_skip {g : Gh} {S : Ef → Gh → Prop} (hd : o.dst = none) (hnd : noDefer o = true)
    (h : ∀ F β a w, Rel F β D a w → (∀ b q, gget g b = some q → w.heap[b]? = some q) → ∃ w' g', (execOp a.eval o).run P w = .ok .skip w' ∧ S ⟨.junk, []⟩ g' ∧ RawStep g w (.bool true) (.bool true) g' w') : EffJ P none (JR F0 w0) o D g S := by
  intro n F β a w hr hJ K Q hK
  obtain ⟨w', g', hrun, hS, hst⟩ := h F β a w hr (fun b q hq => (hJ.2.2.1 b q hq).1)
  refine ⟨fun f _ => trivial, ?_⟩
  have hround0 : (FW none).round = none := rfl
  rw [hround0, Oper.semAt_eq _ _ _ (noDefer_ne hnd)]
  have he : (shift ((JR F0 w0).ds g) a).eval = a.eval := rfl
  rw [he, hrun]
  show K _ _
  rw [shift_put]
  exact raw_after (x := .junk) (by rw [hd]; rfl) hr hJ (.junk _) hst.os hst.tape hst.output hst.size hst.keep hst.holds hst.dom (hK _ _ hS)

end Go.Tv

end
section
namespace Go.Tv
open Go.ChangeMaps (setBlock)
variable {P : Program} {o : Oper} {D : St} {F0 : Nat → Prop} {w0 : World}

def itM (m n : Nat) (seen : List Nat) : Obj := .mapIter (some m) n seen.toArray n

theorem ents_length : ∀ (L : List (Value × Value)) (n : Nat), (entsFrom n L).length = L.length
  | [], _ => rfl
  | _ :: l, n => by simp [entsFrom, ents_length l]
theorem ents_get : ∀ (L : List (Value × Value)) (n i : Nat), (entsFrom n L)[i]? = (L[i]?).map fun k => { key := k.1, val := k.2, born := n + i }
  | [], n, i => by simp [entsFrom]
  | k :: l, n, 0 => by simp [entsFrom]
  | k :: l, n, i + 1 => by
    simp only [entsFrom, List.getElem?_cons_succ, ents_get l, show n + 1 + i = n + (i + 1) by omega]
theorem ents_append (k : Value × Value) : ∀ (L : List (Value × Value)) (n : Nat), entsFrom n (L ++ [k]) = entsFrom n L ++ [{ key := k.1, val := k.2, born := n + L.length }]
  | [], n => by simp [entsFrom]
  | x :: l, n => by simp only [List.cons_append, entsFrom, ents_append k l, List.length_cons, show n + 1 + l.length = n + (l.length + 1) by omega]
theorem ents_born : ∀ (L : List (Value × Value)) (n : Nat), (entsFrom n L).map (·.born) = List.range' n L.length
  | [], _ => rfl
  | _ :: l, n => by simp [entsFrom, ents_born l, List.range'_succ]

open Classical in
noncomputable def findV (k : Value) : List MapEntry → Nat → Option (Nat × Value)
  | [], _ => none
  | e :: es, i => if k = e.key then some (i, e.val) else findV k es (i + 1)

/-- What is asked of a type of keys: its good values are compared as they stand. -/
structure KeyT (P : Program) (kty : TypeId) (good : Value → Prop) : Prop where
  chk : ∀ (b : Bool) (w : World) (v : Value), good v → (Instr.checkKey b 10000 kty v).run P w = .ok () w
  find : ∀ (w : World) (k : Value) (es : List MapEntry), good k → (∀ e, e ∈ es → good e.key) → (Instr.findKey kty k es).run P w = .ok (findV k es 0) w
  same : ∀ v, good v → Instr.sameBits 10000 v v = true

open Classical in
/-- What the key k stands for. -/
noncomputable def lookV (k : Value) : List (Value × Value) → Option Value
  | [] => none
  | e :: l => if k = e.1 then some e.2 else lookV k l
open Classical in
/-- The map with k standing for v. -/
noncomputable def putV (k v : Value) : List (Value × Value) → List (Value × Value)
  | [] => [(k, v)]
  | e :: l => if k = e.1 then (k, v) :: l else e :: putV k v l

theorem findV_none {k : Value} : ∀ (L : List (Value × Value)) (n i : Nat), lookV k L = none → findV k (entsFrom n L) i = none
  | [], _, _, _ => rfl
  | x :: l, n, i, h => by
    unfold lookV at h
    by_cases e : k = x.1
    · rw [if_pos e] at h; cases h
    · rw [if_neg e] at h
      simp only [entsFrom, findV, if_neg e]
      exact findV_none l _ _ h
theorem findV_some {k u : Value} : ∀ (L : List (Value × Value)) (n i : Nat), lookV k L = some u → ∃ j, L[j]? = some (k, u) ∧ findV k (entsFrom n L) i = some (i + j, u) ∧ ∀ v, putV k v L = L.modify j (fun _ => (k, v))
  | [], _, _, h => by simp [lookV] at h
  | x :: l, n, i, h => by
    unfold lookV at h
    by_cases e : k = x.1
    · rw [if_pos e] at h
      cases h
      subst e
      exact ⟨0, rfl, by simp [entsFrom, findV], fun v => by simp [putV]⟩
    · rw [if_neg e] at h
      obtain ⟨j, h1, h2, h3⟩ := findV_some l (n + 1) (i + 1) h
      exact ⟨j + 1, by simpa using h1, by simp only [entsFrom, findV, if_neg e, h2, show i + 1 + j = i + (j + 1) by omega], fun v => by
        simp only [putV, if_neg e, h3 v, List.modify_succ_cons]⟩
theorem putV_none {k v : Value} : ∀ (L : List (Value × Value)), lookV k L = none → putV k v L = L ++ [(k, v)]
  | [], _ => rfl
  | x :: l, h => by
    unfold lookV at h
    by_cases e : k = x.1
    · rw [if_pos e] at h; cases h
    · rw [if_neg e] at h
      simp only [putV, if_neg e, putV_none l h, List.cons_append]
theorem ents_modify {k v : Value} : ∀ (L : List (Value × Value)) (n j : Nat), entsFrom n (L.modify j fun _ => (k, v)) = (entsFrom n L).modify j fun e => { e with key := k, val := v }
  | [], _, j => by cases j <;> rfl
  | x :: l, n, 0 => by simp [entsFrom]
  | x :: l, n, j + 1 => by simp only [List.modify_succ_cons, entsFrom, ents_modify l]

theorem setBk_other {w : World} {r : Nat} {o' : Obj} {b : Nat} (h : b ≠ r) : (setBlock w r o').heap[b]? = w.heap[b]? := by
  simp [setBlock, Ne.symm h]
theorem setBk_self {w : World} {r : Nat} {o' q : Obj} (h : w.heap[r]? = some q) : (setBlock w r o').heap[r]? = some o' := by
  have := lt_of_heap h
  simp [setBlock, this]
theorem setBk_size {w : World} {r : Nat} {o' : Obj} : (setBlock w r o').heap.size = w.heap.size := by simp [setBlock]

/-- A raw block gets another content. -/
theorem rawStep_put {g : Gh} {w w1 : World} {v : Value} {x : Tr} {r : Nat} {q q' : Obj} (hw : w1 = w ∨ w1 = w.drew) (hv : ∀ (W : World) (F : Nat → Prop), V W F x v) (hg : ∀ b q, gget g b = some q → w.heap[b]? = some q) (hr : gget g r = some q) :
    RawStep g w v x ((r, q') :: g) (setBlock w1 r q') := by
  have hh : w1.heap = w.heap := by rcases hw with rfl | rfl <;> rfl
  have hr' : w1.heap[r]? = some q := by rw [hh]; exact hg r q hr
  refine ⟨hv, by rcases hw with rfl | rfl <;> rfl, hw.elim (fun h => by subst h; exact .refl _) (fun h => by subst h; exact ⟨rfl, Nat.le_succ _⟩), by rcases hw with rfl | rfl <;> rfl, by rw [setBk_size, hh]; exact Nat.le_refl _, fun b hb hn => ?_, fun b p hp => ?_, fun b hb => ?_, fun b hb => ?_⟩
  · rw [setBk_other (fun e => by subst e; rw [hr] at hn; cases hn), hh]
  · by_cases e : r = b
    · subst e; rw [gget_same] at hp; cases hp; exact setBk_self hr'
    · rw [gget_ne _ _ e] at hp
      rw [setBk_other (fun h => e h.symm), hh]; exact hg b p hp
  · by_cases e : r = b
    · subst e; left; rw [hr]; rfl
    · rw [gget_ne _ _ e] at hb; exact .inl hb
  · by_cases e : r = b
    · subst e; rw [gget_same]; rfl
    · rw [gget_ne _ _ e]; exact hb

/-- A new raw block. -/
theorem rawStep_new {g : Gh} {w : World} {q : Obj} {v : Value} {x : Tr} (hv : ∀ (W : World) (F : Nat → Prop), V W F x v) (hg : ∀ b q, gget g b = some q → w.heap[b]? = some q) : gget g w.heap.size = none ∧ RawStep g w v x ((w.heap.size, q) :: g) (w.alloc q) := by
  have hn : gget g w.heap.size = none := by
    cases h : gget g w.heap.size with
    | none => rfl
    | some q => have := lt_of_heap (hg _ q h); omega
  have hold : ∀ b, b < w.heap.size → (w.alloc q).heap[b]? = w.heap[b]? := fun b hb => heap_alloc_old w q hb
  have hsz : (w.alloc q).heap.size = w.heap.size + 1 := by show (w.heap.push q).size = _; simp
  refine ⟨hn, hv, rfl, .refl _, rfl, by omega, fun b hb _ => hold b hb, fun b p hp => ?_, fun b hb => ?_, fun b hb => ?_⟩
  · by_cases e : w.heap.size = b
    · subst e; rw [gget_same] at hp; cases hp; exact heap_alloc_new w q
    · rw [gget_ne _ _ e] at hp
      have := hg b p hp
      rw [hold b (lt_of_heap this)]; exact this
  · by_cases e : w.heap.size = b
    · subst e; right; exact Nat.le_refl _
    · rw [gget_ne _ _ e] at hb; exact .inl hb
  · by_cases e : w.heap.size = b
    · subst e; rw [gget_same]; rfl
    · rw [gget_ne _ _ e]; exact hb

theorem effJ_makeMap {t : TypeId} {g : Gh} (hd : dstOK D.n o.dst = true) (ho : o.op = .makeMap t none) :
    EffJ P none (JR F0 w0) o D g (fun e g' => ∃ r, gget g r = none ∧ e = ⟨.t (.mp r), []⟩ ∧ g' = (r, mapM []) :: g) :=
  raw_op hd (by unfold noDefer; rw [ho]) fun F β a w hr hg => by
    obtain ⟨h1, h2⟩ := rawStep_new (q := mapM []) (v := .map (some w.heap.size)) (x := .mp w.heap.size) (fun _ _ => .mp _) hg
    refine ⟨_, _, _, _, ?_, ⟨_, h1, rfl, rfl⟩, h2⟩
    simp only [execOp, ho, Option.map_none, Instr.makeMap, Sem.run_bind, run_newObj, Result.andThen_ok, Sem.run_pure, World.alloc_eq]
    rfl

theorem mapM_good {good : Value → Prop} {L : List (Value × Value)} (h : ∀ k, k ∈ L → good k.1) : ∀ e, e ∈ (entsFrom 0 L) → good e.key := by
  intro e he
  obtain ⟨i, hi⟩ := List.mem_iff_getElem?.1 he
  rw [ents_get] at hi
  obtain ⟨k, hk, rfl⟩ := Option.map_eq_some_iff.1 hi
  exact h k (List.mem_of_getElem? hk)

theorem effJ_mapPut {t kty ety : TypeId} {m k x : Operand} {r : Nat} {kt xt : Tr} {kv xv : Value} {good : Value → Prop} {L : List (Value × Value)} {g : Gh} (hT : KeyT P kty good) (ht : P.underlying t = some (.map kty ety)) (hd : o.dst = none) (ho : o.op = .mapUpdate t m k x ∨ o.op = .insert t m k x)
    (hm : D.ev m = .t (.mp r)) (hk : D.ev k = .t kt) (hkv : ∀ (W : World) (F : Nat → Prop) (v : Value), V W F kt v → v = kv) (hx : D.ev x = .t xt) (hxv : ∀ (W : World) (F : Nat → Prop) (v : Value), V W F xt v → v = xv)
    (hg : gget g r = some (mapM L)) (hgk : good kv) (hgL : ∀ y, y ∈ L → good y.1) :
    EffJ P none (JR F0 w0) o D g (fun e g' => e = ⟨.junk, []⟩ ∧ g' = (r, mapM (putV kv xv L)) :: g) :=
  raw_skip hd (by unfold noDefer; rcases ho with ho | ho <;> rw [ho]) fun F β a w hr hgw => by
    have hmv : a.eval m = .map (some r) := by
      have h := hr.ev m; rw [hm] at h; generalize a.eval m = v at h
      cases h with | t h => cases h; rfl
    have hkv2 : a.eval k = kv := by
      have h := hr.ev k; rw [hk] at h; generalize a.eval k = v at h
      cases h with | t h => exact hkv _ _ _ h
    have hxv2 : a.eval x = xv := by
      have h := hr.ev x; rw [hx] at h; generalize a.eval x = v at h
      cases h with | t h => exact hxv _ _ _ h
    have hb : w.heap[r]? = some (.map (entsFrom 0 L).toArray L.length) := hgw r _ hg
    have hset : ∀ q, (setObj r q).run P w = .ok () (setBlock w r q) := fun q => by simp [setObj, Sem.run, hb, setBlock]
    refine ⟨setBlock w r (mapM (putV kv xv L)), _, ?_, ⟨rfl, rfl⟩, rawStep_put (.inl rfl) (fun _ _ => .bool _) hgw hg⟩
    have hget : (getObj r).run P w = .ok (.map (entsFrom 0 L).toArray L.length) w := by simp [getObj, Sem.run, hb]
    have hfind := hT.find w kv (entsFrom 0 L) hgk (mapM_good hgL)
    have hex : (execOp a.eval o).run P w = (do Instr.mapUpdate t (.map (some r)) kv xv; pure .skip : Sem Next).run P w := by
      rcases ho with ho | ho <;> simp only [execOp, ho, hmv, hkv2, hxv2]
    rw [hex]
    simp only [Instr.mapUpdate, Sem.run_bind, run_underlying' w ht, Result.andThen_ok, hget, hT.chk false w kv hgk, hfind]
    cases hl : lookV kv L with
    | some u =>
      obtain ⟨j, hj, hf, hp⟩ := findV_some L 0 0 hl
      rw [hf]
      have hej : ((entsFrom 0 L).toArray[0 + j]?).map (·.key) = some kv := by
        rw [Nat.zero_add, List.getElem?_toArray, ents_get, hj]; rfl
      have hmod : (entsFrom 0 L).toArray.modify (0 + j) (fun e => { e with key := kv, val := xv }) = (entsFrom 0 (putV kv xv L)).toArray := by
        apply Array.ext'
        rw [Array.toList_modify, hp, ents_modify, Nat.zero_add]
      have hlen : (putV kv xv L).length = L.length := by rw [hp]; simp
      simp only [hej, Option.getD_some, Instr.keyThatStays, hT.same kv hgk, if_true, Sem.run_bind, Sem.run_pure, Result.andThen_ok, hmod, hset]
      unfold mapM
      rw [hlen]
    | none =>
      rw [findV_none L 0 0 hl]
      have hpush : (entsFrom 0 L).toArray.push { key := kv, val := xv, born := L.length } = (entsFrom 0 (L ++ [(kv, xv)])).toArray := by
        rw [ents_append]; simp
      simp only [hpush, hset, Sem.run_pure, Result.andThen_ok]
      rw [putV_none L hl]
      unfold mapM
      rw [List.length_append]
      rfl

end Go.Tv

end
section
namespace Go.Tv
open Go.ChangeMaps (setBlock)
variable {P : Program} {o : Oper} {D : St} {F0 : Nat → Prop} {w0 : World}

/-- A tree that is this value in every world, and the value of no other. -/
structure Solid (x : Tr) (v : Value) : Prop where
  is : ∀ (W : World) (F : Nat → Prop), V W F x v
  eq : ∀ (W : World) (F : Nat → Prop) (u : Value), V W F x u → u = v

theorem solid_int (k : IntKind) (n : Int) : Solid (.int k n) (.int k n) := ⟨fun _ _ => .int _ _, fun _ _ _ h => by cases h; rfl⟩
theorem solid_bool (b : Bool) : Solid (.bool b) (.bool b) := ⟨fun _ _ => .bool _, fun _ _ _ h => by cases h; rfl⟩
theorem solid_adr (b n : Nat) : Solid (.adr b n) (.pointer (some ⟨b, n, none⟩)) := ⟨fun _ _ => .adr _ _, fun _ _ _ h => by cases h; rfl⟩
theorem solid_fn (f : FuncId) : Solid (.fn f []) (.func (.func f) #[] #[]) := ⟨fun _ _ => .fn f [] [] rfl (fun j c v h => by simp at h), fun _ _ _ h => by
  cases h with
  | fn f cs vs hl hv =>
    have : vs = [] := List.length_eq_zero_iff.1 hl
    subst this; rfl⟩
theorem solid_agg : ∀ {xs : List Tr} {vs : List Value}, vs.length = xs.length → (∀ (j : Nat) x, xs[j]? = some x → x.one = true) → (∀ (j : Nat) x v, xs[j]? = some x → vs[j]? = some v → Solid x v) → Solid (.agg xs) (.agg vs.toArray) := by
  intro xs vs hl h1 hf
  refine ⟨fun W F => .agg xs vs hl h1 (fun j x v hx hv => (hf j x v hx hv).is W F), fun W F u hu => ?_⟩
  cases hu with
  | agg _ us hl2 _ hv2 =>
    have : us = vs := by
      apply List.ext_getElem?
      intro j
      cases hx : xs[j]? with
      | none =>
        have hj := List.getElem?_eq_none_iff.1 hx
        rw [List.getElem?_eq_none (by omega), List.getElem?_eq_none (by omega)]
      | some x =>
        have hj := (List.getElem?_eq_some_iff.1 hx).1
        have h1 : us[j]? = some us[j] := List.getElem?_eq_getElem (by omega)
        have h2 : vs[j]? = some vs[j] := List.getElem?_eq_getElem (by omega)
        rw [h1, h2, (hf j x _ hx h2).eq W F _ (hv2 j x _ hx h1)]
    rw [this]

/-- Keys of a map, and what they are in Go. -/
structure MapK (P : Program) (kty : TypeId) (α : Type) where
  kt : α → Tr
  kv : α → Value
  flat : ∀ a, Solid (kt a) (kv a)
  inj : ∀ a b, kv a = kv b → a = b
  law : KeyT P kty (fun v => ∃ a, v = kv a)
/-- Values of a map. -/
structure MapX (β : Type) where
  xt : β → Tr
  xv : β → Value
  flat : ∀ a, Solid (xt a) (xv a)
def MapX.unit : MapX Unit := ⟨fun _ => .bool true, fun _ => .bool true, fun _ => solid_bool _⟩
def MapX.bool : MapX Bool := ⟨.bool, .bool, solid_bool⟩
def MapX.int : MapX Int := ⟨.int .i64, .int .i64, solid_int _⟩
def MapX.fn : MapX FuncId := ⟨fun f => .fn f [], fun f => .func (.func f) #[] #[], solid_fn⟩

variable {kty : TypeId} {α β : Type}
def mapL (K : MapK P kty α) (X : MapX β) (l : List (α × β)) : List (Value × Value) := l.map fun p => (K.kv p.1, X.xv p.2)
def mapO (K : MapK P kty α) (X : MapX β) (l : List (α × β)) : Obj := mapM (mapL K X l)
theorem mapL_good (K : MapK P kty α) (X : MapX β) (l : List (α × β)) : ∀ y, y ∈ mapL K X l → ∃ a, y.1 = K.kv a := by
  intro y hy
  unfold mapL at hy
  obtain ⟨p, _, rfl⟩ := List.mem_map.1 hy
  exact ⟨p.1, rfl⟩
theorem mapL_length (K : MapK P kty α) (X : MapX β) (l : List (α × β)) : (mapL K X l).length = l.length := by simp [mapL]
variable [DecidableEq α]
def lookA (a : α) : List (α × β) → Option β
  | [] => none
  | e :: l => if a = e.1 then some e.2 else lookA a l
def putA (a : α) (b : β) : List (α × β) → List (α × β)
  | [] => [(a, b)]
  | e :: l => if a = e.1 then (a, b) :: l else e :: putA a b l

theorem look_map (K : MapK P kty α) (X : MapX β) (a : α) : ∀ l : List (α × β), lookV (K.kv a) (mapL K X l) = (lookA a l).map X.xv
  | [] => rfl
  | e :: l => by
    unfold mapL
    rw [List.map_cons]
    unfold lookV lookA
    by_cases h : a = e.1
    · rw [if_pos (by rw [h]), if_pos h]; rfl
    · rw [if_neg (fun h2 => h (K.inj _ _ h2)), if_neg h]; exact look_map K X a l
theorem put_map (K : MapK P kty α) (X : MapX β) (a : α) (b : β) : ∀ l : List (α × β), putV (K.kv a) (X.xv b) (mapL K X l) = mapL K X (putA a b l)
  | [] => rfl
  | e :: l => by
    unfold mapL
    rw [List.map_cons]
    unfold putV putA
    by_cases h : a = e.1
    · rw [if_pos (by rw [h]), if_pos h]; rfl
    · rw [if_neg (fun h2 => h (K.inj _ _ h2)), if_neg h, List.map_cons]
      have := put_map K X a b l
      unfold mapL at this
      rw [this]
theorem Rel.solid {F : Nat → Prop} {β : Nat → Option Nat} {a : Act} {w : World} {x : Operand} {t : Tr} {v : Value} (hr : Rel F β D a w) (h : D.ev x = .t t) (hf : Solid t v) : a.eval x = v := by
  have h1 := hr.ev x
  rw [h] at h1
  generalize a.eval x = u at h1
  cases h1 with | t h => exact hf.eq _ _ _ h
theorem Rel.mp {F : Nat → Prop} {β : Nat → Option Nat} {a : Act} {w : World} {x : Operand} {r : Nat} (hr : Rel F β D a w) (h : D.ev x = .t (.mp r)) : a.eval x = .map (some r) := by
  have h1 := hr.ev x
  rw [h] at h1
  generalize a.eval x = u at h1
  cases h1 with | t h => cases h; rfl

theorem effJ_put (K : MapK P kty α) (X : MapX β) {t ety : TypeId} {m k x : Operand} {r : Nat} {a : α} {b : β} {l : List (α × β)} {g : Gh} (ht : P.underlying t = some (.map kty ety)) (hd : o.dst = none) (ho : o.op = .mapUpdate t m k x ∨ o.op = .insert t m k x)
    (hm : D.ev m = .t (.mp r)) (hk : D.ev k = .t (K.kt a)) (hx : D.ev x = .t (X.xt b)) (hg : gget g r = some (mapO K X l)) :
    EffJ P none (JR F0 w0) o D g (fun e g' => e = ⟨.junk, []⟩ ∧ g' = (r, mapO K X (putA a b l)) :: g) := by
  have h := effJ_mapPut (F0 := F0) (w0 := w0) K.law ht hd ho hm hk (K.flat a).eq hx (X.flat b).eq hg ⟨a, rfl⟩ (mapL_good K X l)
  rw [put_map] at h
  exact h

theorem effJ_get (K : MapK P kty α) (X : MapX β) {t ety : TypeId} {m k : Operand} {r : Nat} {a : α} {l : List (α × β)} {g : Gh} {z : Tr} {zv : Value} (ht : P.underlying t = some (.map kty ety)) (hz : zeroOf P ety = some z) (hzf : Solid z zv) (hd : dstOK D.n o.dst = true) {ok : Bool} (ho : o.op = .lookup t m k ok)
    (hm : D.ev m = .t (.mp r)) (hk : D.ev k = .t (K.kt a)) (hg : gget g r = some (mapO K X l)) {u : Tr} (hu : ((lookA a l).map X.xt).getD z = u) :
    EffJ P none (JR F0 w0) o D g (fun e g' => e = ⟨.t (bif ok then .tup [u, .bool (lookA a l).isSome] else u), []⟩ ∧ g' = g) :=
  raw_op hd (by unfold noDefer; rw [ho]) fun F β' a' w hr hgw => by
    have hmv := hr.mp hm
    have hkv2 := hr.solid hk (K.flat a)
    have hb : w.heap[r]? = some (.map (entsFrom 0 (mapL K X l)).toArray (mapL K X l).length) := hgw r _ hg
    have hget : (getObj r).run P w = .ok (.map (entsFrom 0 (mapL K X l)).toArray (mapL K X l).length) w := by simp [getObj, Sem.run, hb]
    have hfind := K.law.find w (K.kv a) (entsFrom 0 (mapL K X l)) ⟨a, rfl⟩ (mapM_good (good := fun v => ∃ a, v = K.kv a) (mapL_good K X l))
    obtain ⟨zv', hzr, hzV, _, _⟩ := zeroOf_run hz w (fun _ => False)
    have := hzf.eq _ _ _ hzV
    subst this
    have huf : Solid u (((lookA a l).map X.xv).getD zv') := by
      subst hu
      cases lookA a l with
      | none => exact hzf
      | some b => exact X.flat b
    refine ⟨bif ok then .tuple #[((lookA a l).map X.xv).getD zv', .bool (lookA a l).isSome] else ((lookA a l).map X.xv).getD zv', w, _, g, ?_, ⟨rfl, rfl⟩, RawStep.refl (fun W F => ?_) hgw⟩
    · simp only [execOp, ho, hmv, hkv2, Instr.lookup, Sem.run_bind, run_underlying' w ht, Result.andThen_ok, hget, Sem.run_pure, K.law.chk _ w (K.kv a) ⟨a, rfl⟩, hfind]
      have hl := look_map K X a l
      cases hla : lookA a l with
      | none =>
        rw [hla] at hl
        simp only [findV_none _ 0 0 hl, Sem.run_bind, hzr, Sem.run_pure, Result.andThen_ok]
        cases ok <;> rfl
      | some b =>
        rw [hla] at hl
        obtain ⟨j, _, hf, _⟩ := findV_some _ 0 0 hl
        simp only [hf, Sem.run_pure, Result.andThen_ok]
        cases ok <;> rfl
    · cases ok
      · exact huf.is W F
      · exact .tup [u, .bool (lookA a l).isSome] [_, .bool (lookA a l).isSome] rfl (fun j c v hc hv => by
          match j with
          | 0 => simp at hc hv; subst hc hv; exact huf.is W F
          | 1 => simp at hc hv; subst hc hv; exact .bool _
          | j + 2 => simp at hc)

theorem ents_mem {L : List (Value × Value)} {e : MapEntry} (h : e ∈ entsFrom 0 L) : ∃ (i : Nat) (hi : i < L.length), e = { key := L[i].1, val := L[i].2, born := i } := by
  obtain ⟨i, hi⟩ := List.mem_iff_getElem?.1 h
  rw [ents_get] at hi
  obtain ⟨k, hk, rfl⟩ := Option.map_eq_some_iff.1 hi
  obtain ⟨hl, rfl⟩ := List.getElem?_eq_some_iff.1 hk
  exact ⟨i, hl, by rw [Nat.zero_add]⟩

theorem v_pairB {W : World} {F : Nat → Prop} {x y : Tr} {u v : Value} (hx : V W F x u) (hy : V W F y v) : V W F (.tup [.bool true, x, y]) (.tuple #[.bool true, u, v]) :=
  .tup [.bool true, x, y] [.bool true, u, v] rfl (fun j c v hc hv => by
    match j with
    | 0 => simp at hc hv; subst hc hv; exact .bool _
    | 1 => simp at hc hv; subst hc hv; exact hx
    | 2 => simp at hc hv; subst hc hv; exact hy
    | j + 3 => simp at hc)

omit [DecidableEq α] in
/-- One step of the range over a map: an entry that did not come yet, whichever, or none is left. -/
theorem effJ_next (K : MapK P kty α) (X : MapX β) {x : Operand} {r m : Nat} {seen : List Nat} {l : List (α × β)} {g : Gh} (hd : dstOK D.n o.dst = true) (ho : o.op = .next x false) (hx : D.ev x = .t (.adr r 0))
    (hr0 : gget g r = some (itM m l.length seen)) (hg : gget g m = some (mapO K X l)) :
    EffJ P none (JR F0 w0) o D g (fun e g' => (e = ⟨.t (.tup [.bool false]), []⟩ ∧ g' = g ∧ ∀ i, i < l.length → i ∈ seen) ∨
      ∃ (i : Nat) (hi : i < l.length), i ∉ seen ∧ e = ⟨.t (.tup [.bool true, K.kt l[i].1, X.xt l[i].2]), []⟩ ∧ g' = (r, itM m l.length (seen ++ [i])) :: g) :=
  raw_op hd (by unfold noDefer; rw [ho]) fun F β' a w hr hgw => by
    have hxv := hr.solid hx (solid_adr r 0)
    have hb : w.heap[m]? = some (.map (entsFrom 0 (mapL K X l)).toArray (mapL K X l).length) := hgw m _ hg
    have hit : w.heap[r]? = some (.mapIter (some m) l.length seen.toArray l.length) := hgw r _ hr0
    rw [mapL_length] at hb
    have hold : ∀ y ∈ (entsFrom 0 (mapL K X l)).toArray.toList, y.born < l.length := fun y hy => by
      obtain ⟨i, hi, rfl⟩ := ents_mem (by simpa using hy)
      simpa [mapL_length] using hi
    rcases run_next_at (P := P) w o.type r m l.length l.length seen.toArray _ _ hit hb hold (Nat.le_refl _) with ⟨h0, hrun⟩ | ⟨e, he, w1, hw1, hrun⟩
    · refine ⟨.tuple #[.bool false], w, .tup [.bool false], g, ?_, .inl ⟨rfl, rfl, fun i hi => ?_⟩, RawStep.refl (fun _ _ => ?_) hgw⟩
      · simp only [execOp, ho, hxv, Sem.run_bind, hrun, Result.andThen_ok, Sem.run_pure]
      · refine Classical.byContradiction fun hn => ?_
        have : ({ key := K.kv l[i].1, val := X.xv l[i].2, born := i } : MapEntry) ∈ (leftOf (entsFrom 0 (mapL K X l)).toArray seen.toArray).toList := by
          unfold leftOf
          rw [Array.toList_filter]
          refine List.mem_filter.2 ⟨?_, by simpa using hn⟩
          refine List.mem_iff_getElem?.2 ⟨i, ?_⟩
          simp only []
          rw [ents_get]; simp [hi, mapL]
        rw [Array.size_eq_zero_iff.1 h0] at this
        simp at this
      · exact .tup [.bool false] [.bool false] rfl (fun j c v hc hv => by
          match j with
          | 0 => simp at hc hv; subst hc hv; exact .bool _
          | j + 1 => simp at hc)
    · unfold leftOf at he
      rw [Array.toList_filter] at he
      obtain ⟨he1, he2⟩ := List.mem_filter.1 he
      obtain ⟨i, hi, rfl⟩ := ents_mem (by simpa using he1)
      have hi' : i < l.length := by simpa [mapL_length] using hi
      have hk : (mapL K X l)[i] = (K.kv l[i].1, X.xv l[i].2) := by simp [mapL]
      refine ⟨.tuple #[.bool true, K.kv l[i].1, X.xv l[i].2], setBlock w1 r (itM m l.length (seen ++ [i])), .tup [.bool true, K.kt l[i].1, X.xt l[i].2], (r, itM m l.length (seen ++ [i])) :: g, ?_, .inr ⟨i, hi', by simpa using he2, rfl, rfl⟩, ?_⟩
      · simp only [execOp, ho, hxv, Sem.run_bind, hrun, Result.andThen_ok, Sem.run_pure, hk]
        unfold itM
        rw [show seen.toArray.push i = (seen ++ [i]).toArray from by simp]
      · exact rawStep_put hw1 (fun W F => v_pairB ((K.flat _).is W F) ((X.flat _).is W F)) hgw hr0

/-! ### Tables at fixed addresses -/

end Go.Tv

end
section
namespace Go.Tv
open Go.ChangeShapes Go.WideShapes Go.ChangeAt Go.RowKit
variable {P : Program}

/-- A reading at type t gives trees, one a cell, that satisfy ok. -/
def Reads (P : Program) (t : TypeId) (k : Nat) (ok : List Tr → Prop) : Prop :=
  P.cellsOf t = k ∧ ∀ {H : Type} (enc : TypeId × Value → H) (w : World) (fuel : Nat) (cs : List Value) (x : DataW H × List MemPlace), DataW.trod enc P w 0 (fun _ => true) true fuel t cs = some x →
    cs.length = k ∧ ∃ ts : List Tr, ts.length = k ∧ (∀ (i : Nat) c v, ts[i]? = some c → cs[i]? = some v → c.one = true ∧ V w (fun _ => False) c v) ∧ ok ts

theorem Reads.mono {t : TypeId} {k : Nat} {ok ok' : List Tr → Prop} (h : Reads P t k ok) (hk : ∀ ts, ok ts → ok' ts) : Reads P t k ok' :=
  ⟨h.1, fun enc w fuel cs x hx => by obtain ⟨h1, ts, h2, h3, h4⟩ := h.2 enc w fuel cs x hx; exact ⟨h1, ts, h2, h3, hk _ h4⟩⟩

theorem one_of {ts : List Tr} {cs : List Value} {c : Tr} {v : Value} {w : World} {F : Nat → Prop} (h1 : c.one = true) (hV : V w F c v) :
    ∀ (i : Nat) c' v', [c][i]? = some c' → [v][i]? = some v' → c'.one = true ∧ V w F c' v' := by
  intro i c' v' hc hv
  match i with
  | 0 => simp at hc hv; subst hc hv; exact ⟨h1, hV⟩
  | i + 1 => simp at hc

theorem reads_int {t : TypeId} {k : IntKind} (ht : P.underlying t = some (.int k)) (hc : P.cellsOf t = 1) : Reads P t 1 (fun ts => ∃ n, ts = [.int k n] ∧ (Lit.int k n).wf = true) := by
  refine ⟨hc, fun enc w fuel cs x hx => ?_⟩
  obtain ⟨n, rfl, _, hw⟩ := DataW.trod_int ht hx
  exact ⟨rfl, [.int k n], rfl, one_of (ts := []) (cs := []) rfl (.int k n), n, rfl, hw⟩

theorem reads_bool {t : TypeId} (ht : P.underlying t = some .bool) (hc : P.cellsOf t = 1) : Reads P t 1 (fun ts => ∃ b, ts = [.bool b]) := by
  refine ⟨hc, fun enc w fuel cs x hx => ?_⟩
  obtain ⟨b, rfl, _⟩ := DataW.trod_bool ht hx
  exact ⟨rfl, [.bool b], rfl, one_of (ts := []) (cs := []) rfl (.bool b), b, rfl⟩

/-- An element out of its cells. -/
def packE (g : Bool) (ts : List Tr) : Tr := if g then .agg ts else ts.headD .nilp

theorem packE_cells {g : Bool} {ts : List Tr} {k : Nat} (hg : g = true ∨ k = 1) (hl : ts.length = k) (h1 : ∀ c, c ∈ ts → c.one = true) : (packE g ts).cells = ts ∧ (packE g ts).noTup = true := by
  unfold packE
  cases g with
  | true => exact ⟨rfl, rfl⟩
  | false =>
    rcases hg with h | h
    · cases h
    · subst h
      match ts, hl with
      | [c], _ =>
        have h := h1 c List.mem_cons_self
        refine ⟨?_, ?_⟩
        · simp only [Bool.false_eq_true, if_false, List.headD_cons]
          exact (show c.cells = [c] by cases c <;> simp [Tr.one, Tr.cells] at h ⊢)
        · simp only [Bool.false_eq_true, if_false, List.headD_cons]
          cases c <;> simp [Tr.one, Tr.noTup] at h ⊢

theorem cells_row {w : World} {a : Addr} {n : Nat} {cs : List Value} (h : w.cells? 0 a n = some cs) : cs.length = n ∧ ∀ j, j < n → w.cell? (a.add j) = cs[j]? := by
  unfold World.cells? at h
  rw [if_pos (Nat.zero_le _)] at h
  refine ⟨by simpa using mapM_some_length h, fun j hj => ?_⟩
  have := mapM_some_get h j j (by simp [hj])
  exact this

theorem spot_none {w : World} {a : Addr} {v : Value} (h : w.cell? a = some v) : a = ⟨a.block, a.off, none⟩ ∧ a.block < w.heap.size := by
  unfold World.cell? at h
  cases hb : w.heap[a.block]? with
  | none => simp [hb] at h
  | some o =>
    have hlt := lt_of_heap hb
    cases o with
    | cells c ty fz =>
      simp only [hb] at h
      cases hs : a.spot with
      | none => refine ⟨?_, hlt⟩; cases a; simp_all
      | some s => simp [hs] at h
    | _ => simp [hb] at h

theorem reads_slice {t e : TypeId} {k : Nat} {g : Bool} {ok : List Tr → Prop} (ht : P.underlying t = some (.slice e)) (hc : P.cellsOf t = 1) (hk : 0 < k) (hg : g = true ∨ k = 1) (he : Reads P e k ok) :
    Reads P t 1 (fun ts => ∃ els : List Tr, ts = [.sl els false] ∧ els.length ≤ maxLen ∧ ∀ x, x ∈ els → ∃ cs, ok cs ∧ x = packE g cs) := by
  refine ⟨hc, fun {H} enc w fuel cs x hx => ?_⟩
  rcases DataW.trod_slice ht hx with ⟨rfl, _⟩ | ⟨a, len, cap, elems, rest, n, _, rfl, _, _, hlc, hcm, hlen, hel, hrest, _⟩
  · exact ⟨rfl, [.sl [] false], rfl, one_of (ts := []) (cs := []) rfl (.nils false), [], rfl, Nat.zero_le _, fun x hx => by simp at hx⟩
  · refine ⟨rfl, ?_⟩
    rw [he.1] at hel hrest
    -- each element's cells
    have hread : ∀ i, i < len → ∃ (cv : List Value) (ts : List Tr), cv.length = k ∧ ts.length = k ∧ (∀ j, j < k → w.cell? ((a.add (i * k)).add j) = cv[j]?) ∧ (∀ (j : Nat) c v, ts[j]? = some c → cv[j]? = some v → c.one = true ∧ V w (fun _ => False) c v) ∧ ok ts := by
      intro i hi
      have h := hel i hi
      rw [List.getElem?_eq_getElem (by omega)] at h
      obtain ⟨cv, hcv, htr⟩ := Option.bind_eq_some_iff.1 h
      obtain ⟨hcl, hcc⟩ := cells_row hcv
      obtain ⟨h1, ts, h2, h3, h4⟩ := he.2 enc w n cv _ htr
      exact ⟨cv, ts, h1, h2, hcc, h3, h4⟩
    by_cases h0 : cap = 0
    · have hl0 : len = 0 := by omega
      subst h0 hl0
      exact ⟨[.sl [] false], rfl, one_of (ts := []) (cs := []) rfl (.nilsE false a), [], rfl, Nat.zero_le _, fun x hx => by simp at hx⟩
    -- the address is that of cells
    have hfirst : ∃ v, w.cell? a = some v := by
      by_cases hl0 : len = 0
      · obtain ⟨hr1, hr2⟩ := hrest rfl
        have h := hr2 0 (by omega)
        rw [List.getElem?_eq_getElem (by omega)] at h
        obtain ⟨cv, hcv, _⟩ := Option.bind_eq_some_iff.1 h
        obtain ⟨hcl, hcc⟩ := cells_row hcv
        have := hcc 0 hk
        subst hl0
        simp only [Nat.zero_add, Nat.zero_mul, Addr.add, if_true] at this
        exact ⟨_, this.trans (List.getElem?_eq_getElem (by omega))⟩
      · obtain ⟨cv, ts, hcl, _, hcc, _⟩ := hread 0 (by omega)
        have := hcc 0 hk
        simp only [Nat.zero_mul, Addr.add, if_true] at this
        exact ⟨_, this.trans (List.getElem?_eq_getElem (by omega))⟩
    obtain ⟨v0, hv0⟩ := hfirst
    obtain ⟨ha, hlt⟩ := spot_none hv0
    obtain ⟨b, o, rfl⟩ : ∃ b o, a = ⟨b, o, none⟩ := ⟨_, _, ha⟩
    -- choose the elements
    have hex : ∀ i : Nat, ∃ (cv : List Value) (ts : List Tr), i < len → (cv.length = k ∧ ts.length = k ∧ (∀ j, j < k → w.cell? ⟨b, o + i * k + j, none⟩ = cv[j]?) ∧ (∀ (j : Nat) c v, ts[j]? = some c → cv[j]? = some v → c.one = true ∧ V w (fun _ => False) c v) ∧ ok ts) := by
      intro i
      by_cases hi : i < len
      · obtain ⟨cv, ts, h1, h2, h3, h4, h5⟩ := hread i hi
        refine ⟨cv, ts, fun _ => ⟨h1, h2, fun j hj => ?_, h4, h5⟩⟩
        have := h3 j hj
        rwa [Addr.add_none, Addr.add_none] at this
      · exact ⟨[], [], fun h => absurd h hi⟩
    let cv : Nat → List Value := fun i => Classical.choose (hex i)
    let ts : Nat → List Tr := fun i => Classical.choose (Classical.choose_spec (hex i))
    have hsp : ∀ i, i < len → ((cv i).length = k ∧ (ts i).length = k ∧ (∀ j, j < k → w.cell? ⟨b, o + i * k + j, none⟩ = (cv i)[j]?) ∧ (∀ (j : Nat) c v, (ts i)[j]? = some c → (cv i)[j]? = some v → c.one = true ∧ V w (fun _ => False) c v) ∧ ok (ts i)) :=
      fun i hi => Classical.choose_spec (Classical.choose_spec (hex i)) hi
    have hone : ∀ i, i < len → ∀ c, c ∈ ts i → c.one = true := by
      intro i hi c hc
      obtain ⟨h1, h2, h3, h4, h5⟩ := hsp i hi
      obtain ⟨j, hj, rfl⟩ := List.mem_iff_getElem.1 hc
      exact (h4 j _ _ (List.getElem?_eq_getElem hj) (List.getElem?_eq_getElem (by omega))).1
    let els : List Tr := (List.range len).map fun i => packE g (ts i)
    have hels : els.length = len := by simp [els]
    have hget : ∀ (i : Nat) x, els[i]? = some x → i < len ∧ x = packE g (ts i) := by
      intro i x hx
      simp only [els, List.getElem?_map, Option.map_eq_some_iff] at hx
      obtain ⟨m, hm, rfl⟩ := hx
      have hi : i < len := by have := lt_of_get hm; simpa using this
      rw [List.getElem?_range hi] at hm
      cases hm
      exact ⟨hi, rfl⟩
    have hcell : ∀ i, i < len → (packE g (ts i)).cells = ts i ∧ (packE g (ts i)).noTup = true := fun i hi => packE_cells hg (hsp i hi).2.1 (hone i hi)
    have hV : V w (fun _ => False) (.sl els false) (.slice (some ⟨b, o, none⟩) els.length cap) := by
      refine .sl els false k b o cap (fun i j => (cv i).getD j undef) hlt (fun h => h) (fun h => by cases h) (by rw [hels]; exact hlc) ?_ ?_ ?_ ?_
      · intro i x hx
        obtain ⟨hi, rfl⟩ := hget i x hx
        exact ⟨(hcell i hi).2, by rw [(hcell i hi).1]; exact (hsp i hi).2.1⟩
      · intro i x j c hx hc
        obtain ⟨hi, rfl⟩ := hget i x hx
        rw [(hcell i hi).1] at hc
        exact hone i hi c (List.mem_of_getElem? hc)
      · intro i x j c hx hc
        obtain ⟨hi, rfl⟩ := hget i x hx
        rw [(hcell i hi).1] at hc
        have hj : j < k := by have := lt_of_get hc; rw [(hsp i hi).2.1] at this; exact this
        rw [(hsp i hi).2.2.1 j hj, List.getElem?_eq_getElem (by rw [(hsp i hi).1]; exact hj)]
        simp [List.getD, (hsp i hi).1, hj]
      · intro i x j c hx hc
        obtain ⟨hi, rfl⟩ := hget i x hx
        rw [(hcell i hi).1] at hc
        have hj : j < k := by have := lt_of_get hc; rw [(hsp i hi).2.1] at this; exact this
        have hcv : (cv i)[j]? = some ((cv i)[j]'(by rw [(hsp i hi).1]; exact hj)) := List.getElem?_eq_getElem _
        have := ((hsp i hi).2.2.2.1 j c _ hc hcv).2
        simpa [List.getD, hcv] using this
    rw [hels] at hV
    refine ⟨[.sl els false], rfl, one_of (ts := []) (cs := []) rfl hV, els, rfl, by rw [hels]; omega, fun x hx => ?_⟩
    obtain ⟨i, hi, rfl⟩ := List.mem_iff_getElem.1 hx
    obtain ⟨hi', he'⟩ := hget i _ (List.getElem?_eq_getElem hi)
    exact ⟨ts i, (hsp i hi').2.2.2.2, he'⟩

/-! ### Structs -/

/-- The fields fs, from cell off on. -/
def RdFs (P : Program) (k : Nat) (fs : List Field) (off : Nat) (ok : List Tr → Prop) : Prop :=
  off ≤ k ∧ ∀ {H : Type} (enc : TypeId × Value → H) (w : World) (n : Nat) (cs : List Value), cs.length = k →
    (∀ f, f ∈ fs → ∃ x, DataW.trod enc P w 0 (fun _ => true) true n f.type ((cs.drop f.offset).take (P.cellsOf f.type)) = some x) →
    ∃ ts : List Tr, off + ts.length = k ∧ (∀ (i : Nat) c v, ts[i]? = some c → cs[off + i]? = some v → c.one = true ∧ V w (fun _ => False) c v) ∧ ok ts

theorem rdfs_nil {k : Nat} : RdFs P k [] k (fun ts => ts = []) :=
  ⟨Nat.le_refl _, fun _ _ _ _ _ _ => ⟨[], rfl, fun i c v h => by simp at h, rfl⟩⟩

theorem rdfs_cons {k kf off : Nat} {f : Field} {fs : List Field} {okf ok : List Tr → Prop} (ho : f.offset = off) (hf : Reads P f.type kf okf) (h : RdFs P k fs (off + kf) ok) :
    RdFs P k (f :: fs) off (fun ts => ∃ a b, ts = a ++ b ∧ okf a ∧ ok b) := by
  refine ⟨by have := h.1; omega, fun enc w n cs hl hx => ?_⟩
  obtain ⟨x, hx0⟩ := hx f List.mem_cons_self
  obtain ⟨h1, ts, h2, h3, h4⟩ := hf.2 enc w n _ x hx0
  obtain ⟨us, g1, g2, g3⟩ := h.2 enc w n cs hl (fun f' hf' => hx f' (List.mem_cons_of_mem _ hf'))
  refine ⟨ts ++ us, by rw [List.length_append]; omega, fun i c v hc hv => ?_, ts, us, rfl, h4, g3⟩
  by_cases hi : i < kf
  · rw [List.getElem?_append_left (by omega)] at hc
    refine h3 i c v hc ?_
    rw [hf.1, ho, List.getElem?_take_of_lt hi, List.getElem?_drop]; exact hv
  · rw [List.getElem?_append_right (by omega), h2] at hc
    refine g2 (i - kf) c v hc ?_
    rw [show off + kf + (i - kf) = off + i by omega]; exact hv

theorem reads_struct {t : TypeId} {fs : Array Field} {k : Nat} {ok : List Tr → Prop} (ht : P.underlying t = some (.struct fs)) (hc : P.cellsOf t = k) (h : RdFs P k fs.toList 0 ok) : Reads P t k ok := by
  refine ⟨hc, fun enc w fuel cs x hx => ?_⟩
  obtain ⟨xs, n, _, _, hl, hlen, hf⟩ := DataW.trod_struct ht hx
  rw [hc] at hl
  obtain ⟨ts, g1, g2, g3⟩ := h.2 enc w n cs hl (fun f hm => by
    obtain ⟨i, hi, rfl⟩ := List.mem_iff_getElem.1 hm
    have := hf i _ (by rw [← Array.getElem?_toList]; exact List.getElem?_eq_getElem hi)
    rw [List.getElem?_eq_getElem (by rw [hlen]; simpa using hi)] at this
    exact ⟨_, this⟩)
  exact ⟨hl, ts, by omega, fun i c v hc hv => g2 i c v hc (by simpa using hv), g3⟩

/-! ### Arguments -/
section
variable {H : Type} {enc : TypeId × Value → H} {W : World} {base : Nat} {v : Value} {d : DataW H} {ps : List MemPlace}

theorem arg_slice {t e : TypeId} {ok : List Tr → Prop} (ht : P.underlying t = some (.slice e)) (hR : Reads P t 1 ok) (hv : Value.okWide P W .any base t v) (h : DataW.Trod enc P W 0 (fun _ => true) true t v d ps) :
    ∃ x, V W (fun _ => False) x v ∧ ok [x] := by
  obtain ⟨fuel, h⟩ := h
  obtain ⟨_, ts, h2, h3, h4⟩ := hR.2 enc W fuel _ _ h
  unfold Value.okWide at hv
  rw [ht] at hv
  match ts, h2 with
  | [x], _ =>
    refine ⟨x, ?_, h4⟩
    have : v.cells.toList[0]? = some v := by cases v <;> simp [Cell.okWide, ht, Cell.ok, Value.cells] at hv ⊢
    exact (h3 0 x v rfl this).2

end

/-! ### Behind the call -/

theorem trodAll_behind {H : Type} {enc : TypeId × Value → H} (hl : laidOutB P = true) {W W' : World} (hb : Below W.heap.size W W') : ∀ {ts : List TypeId} {vs : List Value} {ds : List (DataW H)} {ps : List MemPlace},
    (∀ t, t ∈ ts → P.readableRec t = true ∧ t < P.types.size) → DataW.TrodAll enc P W 0 (fun _ => true) true ts vs ds ps → DataW.TrodAll enc P W' 0 (fun b => decide (b < W.heap.size)) true ts vs ds ps
  | [], _, _, _, _, h => by
    obtain ⟨rfl, rfl, rfl⟩ := trodAll_nil h
    exact trodAll_mk0
  | t :: ts, _, _, _, hr, h => by
    have hlt := DataW.TrodAll.lt h
    obtain ⟨v, vs, d, ds, p, q, rfl, rfl, rfl, h1, h2⟩ := trodAll_cons h
    obtain ⟨hr1, hr2⟩ := hr t List.mem_cons_self
    exact trodAll_cons_mk (Below.trod hl hr1 hr2 h1 hb (fun x hx => hlt x (List.mem_append_left _ hx))) (trodAll_behind hl hb (fun t' ht' => hr t' (List.mem_cons_of_mem _ ht')) h2)

theorem law_post {H : Type} {enc : TypeId × Value → H} {f : Func} {s : ChangeSpec} {W W' : World} {args : Array Value} {ds gs : List (DataW H)} {before : List MemPlace} {tb : TypeId} (hl : laidOutB P = true)
    (hsv : s.vars = []) (hr : ∀ t, t ∈ f.params.toList → P.readableRec t = true ∧ t < P.types.size) (hrt : f.resultTypes = #[tb]) (htb : P.underlying tb = some .bool)
    (hW : DataW.Whole enc P f.params.toList s.vars false W args.toList ds gs before) (hfn : (s.fn H (ds ++ gs)).results = [.lit (.bool true)] ∧ (s.fn H (ds ++ gs)).args = ds ∧ (s.fn H (ds ++ gs)).vars = [])
    (hb : Below W.heap.size W W') : s.post enc P f false true false false W args (.bool true) W' := by
  obtain ⟨p, q, hA, hV, rfl, hfz, hnd⟩ := id hW
  rw [hsv] at hV
  obtain ⟨rfl, rfl⟩ := trodVars_none hV
  refine ⟨ds, [], p ++ [], [], p, [], hW, ?_, ?_, ?_, ?_, fun h => by cases h⟩
  · rw [hfn.1, hrt]
    exact trodAll_mk1 ⟨1, by simp [DataW.trod, htb, Value.cells]⟩
  · rw [hfn.2.1]; exact trodAll_behind hl hb hr hA
  · rw [hfn.2.2, hsv]; rfl
  · refine World.keptBut_mono (fun x hx => ?_) (hb.frame (fun x => x ∈ p))
    exact ⟨List.mem_append_left _ hx, .inr (.inl hx)⟩

theorem vl_cons {w : World} {F : Nat → Prop} {x : Tr} {v : Value} {xs : List Tr} {vs : List Value} (h : V w F x v) (hs : VL w F xs vs) : VL w F (x :: xs) (v :: vs) := by
  refine ⟨by simp [hs.1], fun i y u hy hu => ?_⟩
  match i with
  | 0 => simp at hy hu; subst hy hu; exact h
  | i + 1 => exact hs.2 i y u (by simpa using hy) (by simpa using hu)

theorem vl_nil {w : World} {F : Nat → Prop} : VL w F [] [] := ⟨rfl, fun i y u hy => by simp at hy⟩
end Go.Tv

end
section
namespace Go.Tv
open Go.ChangeShapes Go.WideShapes Go.ChangeAt Go.RowKit
variable {P : Program} {o : Oper} {D : St}

/-- The package-level variables ts (number, pointer tree) hold what they hold, outside F. -/
def TabOK (w : World) (F : Nat → Prop) (ts : List (Nat × Tr)) : Prop := ∀ g x, (g, x) ∈ ts → V w F x (.pointer (some ⟨g, 0, none⟩))

/-- As Ret, where the tables are ts. -/
def RetT (P : Program) (f : FuncId) (ts : List (Nat × Tr)) (xs : List Tr) (r : Tr) : Prop :=
  ∀ (F : Nat → Prop) (w : World) (vals : List Value), (∀ b, F b → b < w.heap.size) → TabOK w F ts → VL w F xs vals →
    Calls P f vals.toArray w fun e w' => ∃ v, e = .returned v ∧ V w' F r v ∧ BelowD w.heap.size w w'

theorem Ret.t {f : FuncId} {ts : List (Nat × Tr)} {xs : List Tr} {r : Tr} (h : Ret P f xs r) : RetT P f ts xs r := fun F w vals hlt _ hV => h F w vals hlt hV

def tabFr (n : Nat) : List (Nat × Tr) → Fra
  | [] => []
  | p :: l => (n + p.1, .t p.2) :: tabFr n l

theorem fget_append : ∀ (l k : Fra) (i : Nat), (∀ x, x ∈ l → x.1 ≠ i) → fget (l ++ k) i = fget k i
  | [], _, _, _ => rfl
  | x :: l, k, i, h => by
    have h1 := h x List.mem_cons_self
    have : Nat.beq x.1 i = false := by
      rw [Bool.eq_false_iff]; intro e; exact h1 (Nat.eq_of_beq_eq_true e)
    show cond (Nat.beq x.1 i) x.2 (fget (l ++ k) i) = _
    rw [this]
    exact fget_append l k i (fun y hy => h y (List.mem_cons_of_mem _ hy))

theorem fget_append_left : ∀ (l k : Fra) (i : Nat), (∀ x, x ∈ k → x.1 ≠ i) → fget (l ++ k) i = fget l i
  | [], [], _, _ => rfl
  | [], y :: k, i, h => by
    have h1 := h y List.mem_cons_self
    have : Nat.beq y.1 i = false := by
      rw [Bool.eq_false_iff]; intro e; exact h1 (Nat.eq_of_beq_eq_true e)
    show cond (Nat.beq y.1 i) y.2 (fget k i) = _
    rw [this]
    exact fget_append_left [] k i (fun y hy => h y (List.mem_cons_of_mem _ hy))
  | x :: l, k, i, h => by
    show cond (Nat.beq x.1 i) x.2 (fget (l ++ k) i) = cond (Nat.beq x.1 i) x.2 (fget l i)
    rw [fget_append_left l k i h]

theorem tabFr_mem {n : Nat} : ∀ (ts : List (Nat × Tr)) {x : Nat × AV}, x ∈ tabFr n ts → ∃ g t, (g, t) ∈ ts ∧ x = (n + g, .t t)
  | [], _, h => by simp [tabFr] at h
  | p :: l, x, h => by
    rcases List.mem_cons.1 h with h | h
    · exact ⟨p.1, p.2, List.mem_cons_self, h⟩
    · obtain ⟨g, t, h1, h2⟩ := tabFr_mem l h
      exact ⟨g, t, List.mem_cons_of_mem _ h1, h2⟩

theorem tabFr_get {n : Nat} : ∀ (ts : List (Nat × Tr)) (i : Nat), fget (tabFr n ts) i = .junk ∨ ∃ g t, (g, t) ∈ ts ∧ i = n + g ∧ fget (tabFr n ts) i = .t t
  | [], _ => .inl rfl
  | p :: l, i => by
    show cond (Nat.beq (n + p.1) i) (.t p.2) (fget (tabFr n l) i) = _ ∨ _
    cases h : Nat.beq (n + p.1) i with
    | true =>
      refine .inr ⟨p.1, p.2, List.mem_cons_self, (Nat.eq_of_beq_eq_true h).symm, ?_⟩
      show cond (Nat.beq (n + p.1) i) (.t p.2) (fget (tabFr n l) i) = _
      rw [h]; rfl
    | false =>
      rcases tabFr_get l i with h2 | ⟨g, t, h2, h3, h4⟩
      · exact .inl h2
      · refine .inr ⟨g, t, List.mem_cons_of_mem _ h2, h3, ?_⟩
        show cond (Nat.beq (n + p.1) i) (.t p.2) (fget (tabFr n l) i) = _
        rw [h]; exact h4

theorem initFr_lt : ∀ (l : List Tr) (i : Nat) {x : Nat × AV}, x ∈ initFr i l → x.1 < i + l.length
  | [], _, _, h => by simp [initFr] at h
  | y :: l, i, x, h => by
    rcases List.mem_cons.1 h with h | h
    · rw [h]; simp
    · have := initFr_lt l (i + 1) h
      simp only [List.length_cons]; omega

theorem retT_of_awp {f : FuncId} {fn : Func} {c : Code} {ts : List (Nat × Tr)} {xs : List Tr} {r : Tr} (hf : P.funcs[f]? = some fn) (hb : fn.body = some c)
    (hn : xs.length ≤ fn.ntmps)
    (h : AWP P c ⟨fn.ntmps, initFr 0 xs ++ tabFr fn.ntmps ts, []⟩ (fun e s => (e = .normal ∨ e = .ret) ∧ ∃ rs, RVars P s fn.results.toList rs ∧ Wk (packT rs) r)) : RetT P f ts xs r := by
  intro F w vals hlt hT ⟨hl, hV⟩
  refine calls_of_wp hf hb ?_
  have hG : ∀ {x : Tr} {v : Value}, V w F x v → V w (G F (fun _ => none) []) x v := fun hv =>
    V.mono (w := w) (w' := w) (Nat.le_refl _) (fun b _ hn => ⟨fun hG => hG.elim hn (fun ⟨id, ob, ho, _⟩ => by simp [sget] at ho), rfl⟩) hv
  have h0 : Rel F (fun _ => none) ⟨fn.ntmps, initFr 0 xs ++ tabFr fn.ntmps ts, []⟩ { tmps := vals.toArray ++ Array.replicate (fn.ntmps - vals.toArray.size) undef, defers := [] } w := by
    refine ⟨rfl, by simp; omega, fun i => ?_, fun id ob ho => by simp [sget] at ho, fun i j oi oj b ho => by simp [sget] at ho, fun i oi b ho => by simp [sget] at ho, hlt⟩
    show VA w _ _ _ (fget (initFr 0 xs ++ tabFr fn.ntmps ts) i) _
    by_cases hi : i < fn.ntmps
    · rw [fget_append_left _ _ _ (fun x hx e => by obtain ⟨g, t, _, rfl⟩ := tabFr_mem ts hx; simp only at e; omega)]
      rw [initFr_get, if_pos (Nat.zero_le _), Nat.sub_zero]
      cases hx : xs[i]? with
      | none => exact .junk _
      | some x =>
        have hi : i < vals.length := by
          rw [hl]
          rcases Nat.lt_or_ge i xs.length with h | h
          · exact h
          · rw [List.getElem?_eq_none h] at hx; cases hx
        have hg : (vals.toArray ++ Array.replicate (fn.ntmps - vals.toArray.size) undef).getD i undef = vals[i] := by
          simp [hi, Array.getElem?_append]
        rw [vAt_lt (by simp; omega), hg]
        have hv := hV i x vals[i] hx (List.getElem?_eq_getElem hi)
        exact .t (hG hv)
    · rw [fget_append _ _ _ (fun x hx e => by have := initFr_lt xs 0 hx; omega)]
      rcases tabFr_get (n := fn.ntmps) ts i with h | ⟨g, t, h1, rfl, h3⟩
      · rw [h]; exact .junk _
      · rw [h3, vAt_glob (by simp; omega)]
        exact .t (hG (hT g t h1))
  refine wp_mono (h F _ _ w h0) ?_
  rintro e a' w' ⟨s', β', ⟨he, rs, hrs, hwk⟩, hr', hev⟩
  obtain ⟨vs, hvs, hvl, hvV⟩ := RVars.run hr' _ _ hrs
  have hres : ∃ v, (results fn a'.tmps).run P w' = .ok v w' ∧ V w' F (packT rs) v := by
    have hm : (fn.results.mapM (resOf a'.tmps)).run P w' = .ok vs.toArray w' := by
      rw [Array.mapM_eq_mapM_toList, Sem.run_map, hvs]; rfl
    refine ⟨if h : vs.toArray.size = 1 then vs.toArray[0] else .tuple vs.toArray, ?_, ?_⟩
    · rw [results_eq, Sem.run_bind, hm]; rfl
    · match rs, vs, hvl with
      | [x], [v], _ => exact hvV 0 x v rfl rfl
      | [], [], _ => exact .tup [] [] rfl hvV
      | x :: y :: l, u :: v :: m, hvl => exact .tup _ _ hvl hvV
  have hbel : BelowD w.heap.size w w' := ⟨⟨hev.os, hev.tape.1, hev.output, hev.size, fun b hb => hev.keep b hb (fun ⟨id, ob, ho, _⟩ => by simp [sget] at ho)⟩, hev.tape.2⟩
  obtain ⟨v, hv, hV'⟩ := hres
  rcases he with rfl | rfl
  · exact ⟨hr'.defers, v, hv, v, rfl, hwk.v hV', hbel⟩
  · exact ⟨hr'.defers, v, hv, v, rfl, hwk.v hV', hbel⟩

/-- The state knows the tables. -/
def TabIn (D : St) : List (Nat × Tr) → Prop
  | [] => True
  | p :: l => D.ev (.global p.1) = .t p.2 ∧ TabIn D l

theorem TabIn.get {D : St} : ∀ {ts : List (Nat × Tr)}, TabIn D ts → ∀ g x, (g, x) ∈ ts → D.ev (.global g) = .t x
  | [], _, _, _, h => by simp at h
  | p :: l, ⟨h1, h2⟩, g, x, h => by
    rcases List.mem_cons.1 h with h | h
    · cases h; exact h1
    · exact h2.get g x h

/-- A call of a function that reads tables. -/
theorem eff_callX {f : FuncId} {x : Operand} {args : Array Operand} {ats : Array TypeId} {ts : List (Nat × Tr)} {xs ys caps : List Tr} {r : Tr} (hd : dstOK D.n o.dst = true)
    (ho : o.op = .call { callee := .value x, args := args, argTypes := ats }) (hx : D.ev x = .t (.fn f caps)) (hf : callOK P f = true) (hT : TabIn D ts)
    (hargs : args.toList.map D.ev = xs.map .t) (hw : WkL xs ys) (hret : RetT P f ts (ys ++ caps) r) : Eff P o D ⟨.t r, []⟩ := by
  intro s hs _ F β a w hr next Q hnext
  have hxv := hr.evT hs hx
  have hl : args.size = xs.length := by
    have := congrArg List.length hargs
    simpa using this
  have hva : ∀ (i : Nat) (y : Operand) (t : Tr), args.toList[i]? = some y → ys[i]? = some t → V w (G F β s.st) t (a.eval y) := by
    intro i y t hy ht
    have hi : i < xs.length := by rw [hw.1]; exact lt_of_get ht
    have hxi : xs[i]? = some xs[i] := List.getElem?_eq_getElem hi
    have h1 : (args.toList.map D.ev)[i]? = some (D.ev y) := by rw [List.getElem?_map, hy]; rfl
    rw [hargs, List.getElem?_map, hxi] at h1
    have h2 : D.ev y = .t xs[i] := by simpa using h1.symm
    exact (hw.2 i _ t hxi ht).v (hr.evT hs h2)
  generalize hxe : a.eval x = xv at hxv
  cases hxv with
  | fn f cs vs hl' hcv =>
    have hvl : VL w (G F β s.st) (ys ++ caps) (args.toList.map a.eval ++ vs) := args_vl hva (by rw [hl, hw.1]) ⟨hl', hcv⟩
    unfold Oper.wp
    rw [execCall ho hxe hf w, Oper.upon_enter]
    have := hret (G F β s.st) w _ hr.ltG (fun g x hg => hr.evT hs (hT.get g x hg)) hvl
    rw [show (args.toList.map a.eval ++ vs).toArray = args.map a.eval ++ vs.toArray from by apply Array.ext'; simp] at this
    refine Calls.mono this ?_
    rintro e w' ⟨v, rfl, hV, hbel⟩
    obtain ⟨hrel, hev, _⟩ := hr.below hbel
    exact hnext β _ _ (hrel.put (by rw [hs.n]; exact hd) (.t hV)) hev

theorem eff_callXT {f : FuncId} {x : Operand} {args : Array Operand} {ats : Array TypeId} {ts : List (Nat × Tr)} {ys : List Tr} {r : Tr} (hret : RetT P f ts ys r) (hf : callOK P f = true) (hd : dstOK D.n o.dst = true)
    (ho : o.op = .call { callee := .value x, args := args, argTypes := ats }) (hx : D.ev x = .t (.fn f [])) (hT : TabIn D ts)
    (hargs : args.toList.map D.ev = ys.map .t) : Eff P o D ⟨.t r, []⟩ :=
  eff_callX hd ho hx hf hT hargs ⟨rfl, fun i x y hx hy => by rw [hx] at hy; cases hy; exact .refl _⟩ (by rw [List.append_nil]; exact hret)

theorem eff_callXW {f : FuncId} {x : Operand} {args : Array Operand} {ats : Array TypeId} {ts : List (Nat × Tr)} {xs ys : List Tr} {r : Tr} (hret : RetT P f ts ys r) (hf : callOK P f = true) (hd : dstOK D.n o.dst = true)
    (ho : o.op = .call { callee := .value x, args := args, argTypes := ats }) (hx : D.ev x = .t (.fn f [])) (hT : TabIn D ts)
    (hargs : args.toList.map D.ev = xs.map .t) (hw : WkP xs ys) : Eff P o D ⟨.t r, []⟩ :=
  eff_callX hd ho hx hf hT hargs (WkP.wkl _ _ hw) (by rw [List.append_nil]; exact hret)

/-- An element of a table. -/
theorem eff_indexAddrR {t e : TypeId} {x ix : Operand} {n k : Nat} {ag : Bool} {ik : IntKind} {m : Int} {i : Nat} {cs : List Tr} (hd : dstOK D.n o.dst = true)
    (ho : o.op = .indexAddr t x ix) (hu : P.underlying t = some (.array n e)) (ht : tinf P e = some (k, ag)) (hx : D.ev x = .t (.ptr cs)) (hi : D.ev ix = .t (.int ik m)) (hn : m = (i : Int)) (hin : i < n) :
    Eff P o D ⟨.t (.ptr (cs.drop (i * k))), []⟩ :=
  Eff.pure hd fun s hs' F β a w hR => by
    subst hn
    have h := hR.evT hs' hx
    have hiv := hR.evInt hs' hi
    generalize hv : a.eval x = v at h
    cases h with
    | ptr cs b p vs hb hF h1 hc hva =>
      refine ⟨_, ?_, .t (.ptr (cs.drop (i * k)) b (p + i * k) (fun n => vs (i * k + n)) hb hF (fun n c hn => ?_) (fun n c hn => ?_) (fun n c hn => ?_))⟩
      · simp only [execOp, ho, hv, hiv, Sem.run_bind, run_indexAt_array hu ht w _ _ i ik hin, Result.andThen_ok, Sem.run_pure]
      · exact h1 (i * k + n) c (by rw [List.getElem?_drop] at hn; exact hn)
      · have := hc (i * k + n) c (by rw [List.getElem?_drop] at hn; exact hn)
        rw [← Nat.add_assoc] at this; exact this
      · exact hva (i * k + n) c (by rw [List.getElem?_drop] at hn; exact hn)

/-- The cell at the front of what a pointer shows. -/
theorem eff_loadR {t : TypeId} {x : Operand} {k i : Nat} {cs : List Tr} {y : Tr} (hd : dstOK D.n o.dst = true) (ho : o.op = .load t x) (ht : tinf P t = some (k, false))
    (hx : D.ev x = .t (.ptr (cs.drop i))) (hy : cs[i]? = some y) : Eff P o D ⟨.t y, []⟩ :=
  eff_loadT1 hd ho ht hx (by rw [List.getElem?_drop]; exact hy)

/-- A contract with tables at what the arguments stand for, as the statement wants it. -/
theorem law_callsT {f : FuncId} {ts : List (Nat × Tr)} {xs : List Tr} {W : World} {vals : List Value} (hret : RetT P f ts xs (.bool true)) (hT : TabOK W (fun _ => False) ts) (hV : VL W (fun _ => False) xs vals) :
    Calls P f vals.toArray W fun e W' => e = .returned (.bool true) ∧ Below W.heap.size W W' :=
  (hret (fun _ => False) W vals (fun _ h => h.elim) hT hV).mono (by
    rintro e W' ⟨v, rfl, hv, hb⟩
    cases hv
    exact ⟨rfl, hb.toBelow⟩)
end Go.Tv

end
section
namespace Go.Tv
variable {P : Program} {o : Oper} {D : St}

/-- The elements name the same objects on both sides. -/
def selfEls (σ : Sto) (ren : Nat → Nat) (ob : Ob) : Prop := ∀ x, x ∈ ob.els → RenA σ ren x x

theorem RenA.cell {σ : Sto} {ren : Nat → Nat} {x : AV} (h : RenA σ ren x x) {j : Nat} {y : AV} (hy : x.cells[j]? = some y) : RenA σ ren y y := by
  have one : ∀ (z : AV), z.cells = [z] → RenA σ ren z z → ∀ (j : Nat) (y : AV), z.cells[j]? = some y → RenA σ ren y y := by
    intro z hz hr j y hy
    rw [hz] at hy
    match j with
    | 0 => simp at hy; subst hy; exact hr
    | j + 1 => simp at hy
  cases x with
  | t x =>
    simp only [AV.cells, List.getElem?_map, Option.map_eq_some_iff] at hy
    obtain ⟨y', _, rfl⟩ := hy
    exact .t _
  | agg cs => cases h with | agg _ _ hl h => exact h j y y hy hy
  | own id g off len => exact one _ rfl h j y hy
  | ptr id g i k => exact one _ rfl h j y hy
  | tup vs => exact one _ rfl h j y hy
  | fn f cs => exact one _ rfl h j y hy
  | junk => exact one _ rfl h j y hy

theorem ObOK.to {w : World} {H H' : Nat → Prop} {β β' : Nat → Option Nat} {σ σ' : Sto} {ren : Nat → Nat} {id n : Nat} {ob : Ob} (ht : selfEls σ ren ob) (hH : ∀ b, H' b → H b)
    (hs : ∀ id ob, sget σ id = some ob → sget σ' (ren id) = some ob ∧ β' (ren id) = β id) (hb : β' n = β id) (h : ObOK w H β σ id ob) : ObOK w H' β' σ' n ob := by
  rcases h with ⟨h1, h2⟩ | ⟨b, c, h1, h2, h3, h4, h5⟩
  · exact .inl ⟨hb.trans h1, h2⟩
  · refine .inr ⟨b, c, hb.trans h1, h2, h3, h4, fun i x j y hx hy => ?_⟩
    obtain ⟨g1, u, hu, hva⟩ := h5 i x j y hx hy
    exact ⟨g1, u, hu, ((ht x (List.mem_of_getElem? hx)).cell hy).to hH hs hva⟩

theorem ObOK.of {w : World} {H H' : Nat → Prop} {β β' : Nat → Option Nat} {σ σ' : Sto} {ren : Nat → Nat} {id n : Nat} {ob : Ob} (ht : selfEls σ ren ob) (hH : ∀ b, H b → H' b)
    (hs : ∀ id ob, sget σ id = some ob → sget σ' (ren id) = some ob ∧ β' (ren id) = β id) (hb : β id = β' n) (h : ObOK w H' β' σ' n ob) : ObOK w H β σ id ob := by
  rcases h with ⟨h1, h2⟩ | ⟨b, c, h1, h2, h3, h4, h5⟩
  · exact .inl ⟨hb.trans h1, h2⟩
  · refine .inr ⟨b, c, hb.trans h1, h2, h3, h4, fun i x j y hx hy => ?_⟩
    obtain ⟨g1, u, hu, hva⟩ := h5 i x j y hx hy
    exact ⟨g1, u, hu, ((ht x (List.mem_of_getElem? hx)).cell hy).of hH hs hva⟩

/-- The entry of a function that reads tables. -/
theorem ofVLT {F : Nat → Prop} {w : World} {ts : List (Nat × Tr)} {xs : List Tr} {vals : List Value} {n : Nat} (hlt : ∀ b, F b → b < w.heap.size) (hT : TabOK w F ts) (hV : VL w F xs vals) (hn : xs.length ≤ n) :
    Rel F (fun _ => none) ⟨n, initFr 0 xs ++ tabFr n ts, []⟩ { tmps := vals.toArray ++ Array.replicate (n - vals.toArray.size) undef, defers := [] } w := by
  obtain ⟨hl, hV⟩ := hV
  have hG : ∀ {x : Tr} {v : Value}, V w F x v → V w (G F (fun _ => none) []) x v := fun hv =>
    V.mono (w := w) (w' := w) (Nat.le_refl _) (fun b _ hn => ⟨fun hG => hG.elim hn (fun ⟨id, ob, ho, _⟩ => by simp [sget] at ho), rfl⟩) hv
  refine ⟨rfl, by simp; omega, fun i => ?_, fun id ob ho => by simp [sget] at ho, fun i j oi oj b ho => by simp [sget] at ho, fun i oi b ho => by simp [sget] at ho, hlt⟩
  show VA w _ _ _ (fget (initFr 0 xs ++ tabFr n ts) i) _
  by_cases hi : i < n
  · rw [fget_append_left _ _ _ (fun x hx e => by obtain ⟨g, t, _, rfl⟩ := tabFr_mem ts hx; simp only at e; omega)]
    rw [initFr_get, if_pos (Nat.zero_le _), Nat.sub_zero]
    cases hx : xs[i]? with
    | none => exact .junk _
    | some x =>
      have hi : i < vals.length := by
        rw [hl]
        rcases Nat.lt_or_ge i xs.length with h | h
        · exact h
        · rw [List.getElem?_eq_none h] at hx; cases hx
      have hg : (vals.toArray ++ Array.replicate (n - vals.toArray.size) undef).getD i undef = vals[i] := by
        simp [hi, Array.getElem?_append]
      rw [vAt_lt (by simp; omega), hg]
      have hv := hV i x vals[i] hx (List.getElem?_eq_getElem hi)
      exact .t (hG hv)
  · rw [fget_append _ _ _ (fun x hx e => by have := initFr_lt xs 0 hx; omega)]
    rcases tabFr_get (n := n) ts i with h | ⟨g, t, h1, rfl, h3⟩
    · rw [h]; exact .junk _
    · rw [h3, vAt_glob (by simp; omega)]
      exact .t (hG (hT g t h1))

end Go.Tv

end
section
namespace Go.Tv

/-- y is x, where what x names has the generations of σ'. -/
inductive GenA (σ σ' : Sto) : AV → AV → Prop
  | junk (x : AV) : GenA σ σ' x .junk
  | t (x : Tr) : GenA σ σ' (.t x) (.t x)
  | own (id g g' off len : Nat) {ob ob' : Ob} (h : sget σ id = some ob) (h' : sget σ' id = some ob') (hg : ob.gen = g) (hg' : ob'.gen = g') (hk : ob'.k = ob.k) (ht : ob'.ty = ob.ty) (hl : ob'.els.length = ob.els.length) :
      GenA σ σ' (.own id g off len) (.own id g' off len)
  | ptr (id g g' i j : Nat) {ob ob' : Ob} (h : sget σ id = some ob) (h' : sget σ' id = some ob') (hg : ob.gen = g) (hg' : ob'.gen = g') (hk : ob'.k = ob.k) (hl : ob'.els.length = ob.els.length) :
      GenA σ σ' (.ptr id g i j) (.ptr id g' i j)

theorem GenA.one {σ σ' : Sto} {x y : AV} (h : GenA σ σ' x y) (hy : y ≠ .junk) : y.one = x.one := by
  cases h <;> first | rfl | exact absurd rfl hy

theorem GenA.v {σ σ' : Sto} {x y : AV} (h : GenA σ σ' x y) {w : World} {H H' : Nat → Prop} {β : Nat → Option Nat} (hH : ∀ b, H' b → H b) {v : Value} (hv : VA w H β σ x v) : VA w H' β σ' y v := by
  cases h with
  | junk => exact .junk _
  | t x => cases hv with | t hv => exact .t (hv.same hH)
  | own id g g' off len h1 h2 hg hg' hk ht hl =>
    cases hv with
    | own g1 g2 g3 g4 g5 g6 g7 => rw [h1] at g1; cases g1; rw [← hk]; exact .own h2 hg' g3 (by omega) (by omega) (by rw [ht]; exact g6) (by rw [hk]; exact g7)
    | ownNil g1 g2 g3 g4 => rw [h1] at g1; cases g1; exact .ownNil h2 hg' g3 (List.length_eq_zero_iff.1 (by rw [hl, g4]; rfl))
    | ownZ g1 g2 g3 g4 g5 => rw [h1] at g1; cases g1; exact .ownZ h2 hg' g3 (by omega) g5
    | ownE g1 g2 g3 g4 => rw [h1] at g1; cases g1; exact .ownE h2 hg' g3 (List.length_eq_zero_iff.1 (by rw [hl, g4]; rfl))
    | stale g1 g2 g3 => rw [h1] at g1; cases g1; omega
  | ptr id g g' i j h1 h2 hg hg' hk hl =>
    cases hv with
    | ptr g1 g2 g3 g4 g5 => rw [h1] at g1; cases g1; rw [← hk]; exact .ptr h2 hg' g3 (by omega) (by omega)
    | stalep g1 g2 g3 => rw [h1] at g1; cases g1; omega

/-- An element, cell by cell. -/
inductive GenE (σ σ' : Sto) : AV → AV → Prop
  | one {x y : AV} (h : GenA σ σ' x y) (hn : y ≠ .junk) (hx : x.cells = [x]) (hy : y.cells = [y]) : GenE σ σ' x y
  | tree (x : Tr) : GenE σ σ' (.t x) (.t x)
  | agg {cs ds : List AV} (hl : cs.length = ds.length) (h : ∀ (i : Nat) x y, cs[i]? = some x → ds[i]? = some y → GenA σ σ' x y ∧ y ≠ .junk) : GenE σ σ' (.agg cs) (.agg ds)

def GenF (σ σ' : Sto) (fr : Fra) : Fra → Prop
  | [] => True
  | x :: l => GenA σ σ' (fget fr x.1) x.2 ∧ GenF σ σ' fr l

theorem GenF.get {σ σ' : Sto} {fr : Fra} : ∀ (l : Fra), GenF σ σ' fr l → ∀ i, GenA σ σ' (fget fr i) (fget l i)
  | [], _, i => .junk _
  | x :: l, ⟨h1, h2⟩, i => by
    show GenA σ σ' (fget fr i) (cond (Nat.beq x.1 i) x.2 (fget l i))
    cases h : Nat.beq x.1 i with
    | true => rw [← Nat.eq_of_beq_eq_true h]; exact h1
    | false => exact GenF.get l h2 i

def GenL (σ σ' : Sto) : List AV → List AV → Prop
  | [], [] => True
  | x :: l, y :: k => (GenA σ σ' x y ∧ y ≠ .junk) ∧ GenL σ σ' l k
  | _, _ => False

theorem GenL.len {σ σ' : Sto} : ∀ {l k : List AV}, GenL σ σ' l k → l.length = k.length
  | [], [], _ => rfl
  | _ :: _, _ :: _, ⟨_, h⟩ => by simp [h.len]
  | [], _ :: _, h => h.elim
  | _ :: _, [], h => h.elim

theorem GenL.get {σ σ' : Sto} : ∀ {l k : List AV}, GenL σ σ' l k → ∀ (i : Nat) x y, l[i]? = some x → k[i]? = some y → GenA σ σ' x y ∧ y ≠ .junk
  | [], [], _, i, x, y, h, _ => by simp at h
  | a :: l, b :: k, ⟨h1, h2⟩, i, x, y, hx, hy => by
    cases i with
    | zero => simp at hx hy; subst hx hy; exact h1
    | succ i => exact h2.get i x y (by simpa using hx) (by simpa using hy)
  | [], _ :: _, h, _, _, _, _, _ => h.elim
  | _ :: _, [], h, _, _, _, _, _ => h.elim

/-! ### Lists of scalars as objects -/
theorem mset {α : Type} {f : α → Tr} {l : List α} {i : Nat} {v : α} : ((l.map f).map AV.t).set i (.t (f v)) = ((l.set i v).map f).map AV.t := by
  rw [List.map_set, List.map_set]

/-! ### Cells that turn into trees -/

def WaL (σf σ' : Sto) : List AV → List AV → Prop
  | [], [] => True
  | x :: l, y :: k => (y.one = true ∧ Wa σf σ' x y) ∧ WaL σf σ' l k
  | _, _ => False

theorem WaL.len {σf σ' : Sto} : ∀ {l k : List AV}, WaL σf σ' l k → l.length = k.length
  | [], [], _ => rfl
  | _ :: _, _ :: _, ⟨_, h⟩ => by simp [h.len]
  | [], _ :: _, h => h.elim
  | _ :: _, [], h => h.elim

theorem WaL.get {σf σ' : Sto} : ∀ {l k : List AV}, WaL σf σ' l k → ∀ (i : Nat) x y, l[i]? = some x → k[i]? = some y → y.one = true ∧ Wa σf σ' x y
  | [], [], _, i, x, y, h, _ => by simp at h
  | a :: l, b :: k, ⟨h1, h2⟩, i, x, y, hx, hy => by
    cases i with
    | zero => simp at hx hy; subst hx hy; exact h1
    | succ i => exact h2.get i x y (by simpa using hx) (by simpa using hy)
  | [], _ :: _, h, _, _, _, _, _ => h.elim
  | _ :: _, [], h, _, _, _, _, _ => h.elim

theorem eff_makeSliceM {P : Program} {o : Oper} {D : St} {t e : TypeId} {x y : Operand} {k id bytes : Nat} {ag : Bool} {kx ky : IntKind} {nl nc : Int} {l : Nat} {z : Tr} {els : List AV} (hd : dstOK D.n o.dst = true) (ho : o.op = .makeSlice t x y)
    (ht : elemOf P t = some (e, k, ag)) (hz : zeroOf P e = some z) (hzk : z.cells.length = k) (hk0 : k ≠ 0) (hb : (P.info? e).map (·.bytes) = some bytes)
    (hx : D.ev x = .t (.int kx nl)) (hy : D.ev y = .t (.int ky nc)) (hl : nl = (l : Int)) (hc : nc = (l : Int)) (hlim : bytes * l ≤ 281474976710656) (hci : l ≤ 4611686018427387904)
    (hid : sget D.st id = none) (he : List.replicate l (.t z) = els) : Eff P o D ⟨.own id 0 0 l, [(id, ⟨k, e, 0, els⟩)]⟩ :=
  he ▸ eff_makeSlice hd ho ht hz hzk hk0 hb hx hy hl hc (Nat.le_refl _) hlim hci hid

end Go.Tv

end
section
namespace Go.Tv
variable {P : Program} {o : Oper} {D : St}

end Go.Tv

end
