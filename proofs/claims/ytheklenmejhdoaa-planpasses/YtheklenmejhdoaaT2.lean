/- Part of the proof that the laws of this seat return true for every input. No condition. -/
import Derived.Test.YtheklenmejhdoaaT1
import Derived.LaidMore
import Derived.OpenShut
import Derived.Stop.Joined
import Derived.Laws.IdiomStrings
import Derived.Shelf.SlSortCmp.NoneTotal
import Derived.Lib.QuietBelow
import Derived.Shelf.SortM.Plain
import Derived.Shelf.SortM.SortNone
import Derived.Test.YtheklenmejhdoaaProg
set_option linter.unnecessarySimpa false
set_option linter.unusedVariables false
set_option linter.unusedSimpArgs false
section
namespace Go.Tv

variable {P : Program} {o : Oper} {D : St}

inductive SK where
  | int (k : IntKind)
  | bool
  deriving DecidableEq
inductive Sc where
  | int (k : IntKind) (n : Int)
  | bool (b : Bool)
  deriving DecidableEq
def Sc.kind : Sc → SK
  | .int k _ => .int k
  | .bool _ => .bool
def Sc.v : Sc → Value
  | .int k n => .int k n
  | .bool b => .bool b
def Sc.tr : Sc → Tr
  | .int k n => .int k n
  | .bool b => .bool b
theorem Sc.solid (s : Sc) : Solid s.tr s.v := by cases s <;> first | exact solid_int _ _ | exact solid_bool _
theorem Sc.v_inj {a b : Sc} (h : a.v = b.v) : a = b := by
  cases a <;> cases b <;> simp [Sc.v] at h <;> simp [h]

/-- The fields of a struct from an offset on hold scalars, cell by cell. -/
def scFs (P : Program) (rec : TypeId → Option (List SK)) : Nat → List Field → Option (List SK)
  | _, [] => some []
  | off, f :: fs => match rec f.type with
    | some ks => if f.name ≠ "_" ∧ f.offset = off then (scFs P rec (off + ks.length) fs).map (ks ++ ·) else none
    | none => none

/-- The kinds of the cells of a type that holds scalars alone. -/
def scCells (P : Program) : Nat → TypeId → Option (List SK)
  | 0, _ => none
  | d + 1, t => match P.underlying t with
    | some (.int k) => match tinf P t with
      | some (1, false) => some [.int k]
      | _ => none
    | some .bool => match tinf P t with
      | some (1, false) => some [.bool]
      | _ => none
    | some (.struct fs) => match tinf P t, scFs P (scCells P d) 0 fs.toList with
      | some (k, true), some ks => if P.stoodInHeld t = false ∧ ks.length = k then some ks else none
      | _, _ => none
    | _ => none

/-- The cells of a part of an aggregate, as the value that it is. -/
def packS (g : Bool) (ns : List Sc) : Value := if g then .agg (ns.map Sc.v).toArray else (ns.headD (.bool false)).v

theorem scCells_tinf {d : Nat} {t : TypeId} {ks : List SK} (h : scCells P d t = some ks) : ∃ g, tinf P t = some (ks.length, g) ∧ (g = false → ks.length = 1) := by
  cases d with
  | zero => simp [scCells] at h
  | succ d =>
    unfold scCells at h
    split at h
    · split at h
      · rename_i h2; cases h; exact ⟨false, h2, fun _ => rfl⟩
      · cases h
    · split at h
      · rename_i h2; cases h; exact ⟨false, h2, fun _ => rfl⟩
      · cases h
    · split at h
      · rename_i h2 h3
        split at h
        · rename_i hc; cases h; exact ⟨true, by rw [h2, hc.2], fun h => by cases h⟩
        · cases h
      · cases h
    · cases h

theorem partS_run {t : TypeId} {k : Nat} {g : Bool} (h : tinf P t = some (k, g)) (hg : g = false → k = 1) (w : World) (ns : List Sc) (off : Nat) (hb : off + k ≤ ns.length) :
    (part t (ns.map Sc.v).toArray off).run P w = .ok (packS g ((ns.drop off).take k)) w := by
  unfold part
  cases g with
  | true =>
    simp only [Sem.run_bind, run_isAgg' w h, Result.andThen_ok, if_true, run_sizeOf' w h, Sem.run_pure]
    congr 2
    apply Array.ext'
    simp [List.map_take, List.map_drop, List.extract_eq_take_drop]
  | false =>
    have hk := hg rfl
    subst hk
    have hlt : off < ns.length := by omega
    simp only [Sem.run_bind, run_isAgg' w h, Result.andThen_ok, Bool.false_eq_true, if_false]
    have h2 : (List.map Sc.v ns).toArray[off]? = some (ns[off].v) := by simp [hlt]
    rw [h2]
    simp only [Sem.run_pure]
    have h3 : (ns.drop off).take 1 = [ns[off]] := by
      rw [List.drop_eq_getElem_cons hlt]; rfl
    rw [h3]; rfl

/-- The comparison of the fields of a struct, one after another. -/
theorem fieldsS_run {d : Nat} (e : Nat) (ih : ∀ (t : TypeId) (ks : List SK) (g : Bool), scCells P d t = some ks → tinf P t = some (ks.length, g) → ∀ (w : World) (ns ms : List Sc), ns.map Sc.kind = ks → ms.map Sc.kind = ks →
      (Op.equalIn (d + e) t (packS g ns) (packS g ms)).run P w = .ok (decide (ns = ms)) w) (w : World) (ns ms : List Sc) (hl : ns.map Sc.kind = ms.map Sc.kind) :
    ∀ (fs : List Field) (off : Nat), scFs P (scCells P d) off fs = some ((ns.map Sc.kind).drop off) → off ≤ ns.length →
      (do
        let r ← forIn (m := Sem) fs ((none, ()) : Option Bool × Unit) fun f _ => do
          if f.name ≠ "_" then
            if !(← Op.equalIn (d + e) f.type (← part f.type (ns.map Sc.v).toArray f.offset) (← part f.type (ms.map Sc.v).toArray f.offset)) then pure (ForInStep.done (some false, ())) else pure (ForInStep.yield (none, ()))
          else pure (ForInStep.yield (none, ()))
        match r.1 with
        | none => pure true
        | some b => pure b : Sem Bool).run P w = .ok (decide (ns.drop off = ms.drop off)) w
  | [], off, h, hoff => by
    have hlen : ns.length = ms.length := by simpa using congrArg List.length hl
    simp only [scFs, Option.some.injEq] at h
    have h0 := congrArg List.length h
    simp at h0
    have h1 : ns.drop off = [] := List.drop_eq_nil_of_le (by omega)
    have h2 : ms.drop off = [] := List.drop_eq_nil_of_le (by omega)
    rw [h1, h2]
    simp only [List.forIn_nil, Sem.run_bind, Sem.run_pure, Result.andThen_ok]
    rfl
  | f :: fs, off, h, hoff => by
    have hlen : ns.length = ms.length := by simpa using congrArg List.length hl
    unfold scFs at h
    split at h
    · rename_i ks hk
      split at h
      · rename_i hc
        obtain ⟨hn, ho⟩ := hc
        subst ho
        obtain ⟨g, ht, hg⟩ := scCells_tinf hk
        obtain ⟨rest, hrest, happ⟩ := Option.map_eq_some_iff.1 h
        have hb : f.offset + ks.length ≤ ns.length := by
          have := congrArg List.length happ
          simp at this; omega
        have hks : ((ns.drop f.offset).take ks.length).map Sc.kind = ks := by
          rw [List.map_take, List.map_drop, ← happ]; simp
        have hks2 : ((ms.drop f.offset).take ks.length).map Sc.kind = ks := by
          rw [List.map_take, List.map_drop, ← hl, ← happ]; simp
        have hrest2 : scFs P (scCells P d) (f.offset + ks.length) fs = some ((ns.map Sc.kind).drop (f.offset + ks.length)) := by
          rw [hrest, ← List.drop_drop, ← happ]; simp
        have hr := fieldsS_run e ih w ns ms hl fs (f.offset + ks.length) hrest2 hb
        have h1 := partS_run ht hg w ns f.offset hb
        have h2 := partS_run ht hg w ms f.offset (by omega)
        have h3 := ih f.type ks g hk ht w ((ns.drop f.offset).take ks.length) ((ms.drop f.offset).take ks.length) hks hks2
        have hsp : (ns.drop f.offset = ms.drop f.offset) ↔ ((ns.drop f.offset).take ks.length = (ms.drop f.offset).take ks.length ∧ ns.drop (f.offset + ks.length) = ms.drop (f.offset + ks.length)) := by
          constructor
          · intro he; rw [he]; refine ⟨rfl, ?_⟩
            rw [← List.drop_drop, ← List.drop_drop, he]
          · rintro ⟨ha, hb⟩
            rw [← List.take_append_drop ks.length (ns.drop f.offset), ← List.take_append_drop ks.length (ms.drop f.offset), ha, List.drop_drop, List.drop_drop, hb]
        rw [List.forIn_cons]
        by_cases he : (ns.drop f.offset).take ks.length = (ms.drop f.offset).take ks.length
        · have e1 : decide ((ns.drop f.offset).take ks.length = (ms.drop f.offset).take ks.length) = true := decide_eq_true he
          rw [e1] at h3
          have e2 : decide (ns.drop f.offset = ms.drop f.offset) = decide (ns.drop (f.offset + ks.length) = ms.drop (f.offset + ks.length)) := decide_eq_decide.2 (by rw [hsp]; exact ⟨fun h => h.2, fun h => ⟨he, h⟩⟩)
          rw [e2, ← hr]
          simp only [ne_eq, hn, not_false_eq_true, if_true, bind_assoc, Sem.run_bind, h1, h2, h3, Result.andThen_ok, Bool.not_true, Bool.false_eq_true, if_false, Sem.run_pure]
        · have e1 : decide ((ns.drop f.offset).take ks.length = (ms.drop f.offset).take ks.length) = false := decide_eq_false he
          rw [e1] at h3
          have e2 : decide (ns.drop f.offset = ms.drop f.offset) = false := decide_eq_false (fun h => he (hsp.1 h).1)
          rw [e2]
          simp only [ne_eq, hn, not_false_eq_true, if_true, bind_assoc, Sem.run_bind, h1, h2, h3, Result.andThen_ok, Bool.not_false, Sem.run_pure]
      · cases h
    · cases h

theorem equalS_run : ∀ (d e : Nat) (t : TypeId) (ks : List SK) (g : Bool), scCells P d t = some ks → tinf P t = some (ks.length, g) → ∀ (w : World) (ns ms : List Sc), ns.map Sc.kind = ks → ms.map Sc.kind = ks →
    (Op.equalIn (d + e) t (packS g ns) (packS g ms)).run P w = .ok (decide (ns = ms)) w
  | 0, _, _, _, _, h, _, _, _, _, _, _ => by simp [scCells] at h
  | d + 1, e, t, ks, g, h, ht, w, ns, ms, hn, hm => by
    have hde : d + 1 + e = (d + e) + 1 := by omega
    rw [hde]
    have hone : ∀ {k : SK} {l : List Sc}, l.map Sc.kind = [k] → ∃ s, l = [s] ∧ s.kind = k := by
      intro k l h
      match l, h with
      | [s], h => exact ⟨s, rfl, by simpa using h⟩
    unfold scCells at h
    split at h
    · rename_i k hu
      split at h
      · rename_i h2
        cases h
        rw [h2] at ht; cases ht
        obtain ⟨a, rfl, ha⟩ := hone hn
        obtain ⟨b, rfl, hb⟩ := hone hm
        cases a <;> simp [Sc.kind] at ha
        cases b <;> simp [Sc.kind] at hb
        subst ha; subst hb
        rename_i n k' m
        show (Op.equalIn (d + e + 1) t (.int k' n) (.int k' m)).run P w = _
        simp only [Op.equalIn, Sem.run_bind, run_underlying' w hu, Result.andThen_ok, if_true, Sem.run_pure]
        congr 1
        by_cases hnm : n = m
        · subst hnm; simp
        · simp [hnm]
      · cases h
    · rename_i hu
      split at h
      · rename_i h2
        cases h
        rw [h2] at ht; cases ht
        obtain ⟨a, rfl, ha⟩ := hone hn
        obtain ⟨b, rfl, hb⟩ := hone hm
        cases a <;> simp [Sc.kind] at ha
        cases b <;> simp [Sc.kind] at hb
        rename_i n m
        show (Op.equalIn (d + e + 1) t (.bool n) (.bool m)).run P w = _
        simp only [Op.equalIn, Sem.run_bind, run_underlying' w hu, Result.andThen_ok, Sem.run_pure]
        congr 1
        by_cases hnm : n = m
        · subst hnm; simp
        · simp [hnm]
      · cases h
    · rename_i fs hu
      split at h
      · rename_i k' ks' h2 hfs
        split at h
        · rename_i hc
          cases h
          obtain ⟨hst, hlen⟩ := hc
          rw [h2, hlen] at ht; cases ht
          rw [← hn] at hfs
          have := fieldsS_run e (fun t k g hk ht w ns ms hn hm => equalS_run d e t k g hk ht w ns ms hn hm) w ns ms (hn.trans hm.symm) fs.toList 0 (by simpa using hfs) (Nat.zero_le _)
          simp only [List.drop_zero] at this
          rw [← this]
          show (Op.equalIn (d + e + 1) t (.agg (ns.map Sc.v).toArray) (.agg (ms.map Sc.v).toArray)).run P w = _
          simp only [Op.equalIn, Sem.run_bind, run_underlying' w hu, Result.andThen_ok, run_program, hst, Bool.false_eq_true, if_false]
          rw [← Array.forIn_toList]
          congr 1
          funext a w'
          rcases a with ⟨_ | b, _⟩ <;> rfl
        · cases h
      · cases h
    · cases h

theorem solid_scs (ns : List Sc) : Solid (.agg (ns.map Sc.tr)) (packS true ns) := by
  refine solid_agg (by simp) (fun j x hx => ?_) (fun j x v hx hv => ?_)
  · rw [List.getElem?_map] at hx
    obtain ⟨s, _, rfl⟩ := Option.map_eq_some_iff.1 hx
    cases s <;> rfl
  · rw [List.getElem?_map] at hx hv
    obtain ⟨s, hs, rfl⟩ := Option.map_eq_some_iff.1 hx
    rw [hs] at hv
    cases hv
    exact s.solid

/-- Structs of scalars: equal where all their cells are. -/
theorem eff_structEqS {t ty : TypeId} {op : BinOp} {x y : Operand} {ks : List SK} {ns ms : List Sc} (hd : dstOK D.n o.dst = true) (ho : o.op = .binOp op t x y ty) (hop : op = .eql ∨ op = .neq)
    (ht : scCells P 8 t = some ks) (hta : tinf P t = some (ks.length, true)) (hgd : P.eqGuardType P.depth t = false)
    (hx : D.ev x = .t (.agg (ns.map Sc.tr))) (hy : D.ev y = .t (.agg (ms.map Sc.tr))) (hn : ns.map Sc.kind = ks) (hm : ms.map Sc.kind = ks) :
    Eff P o D ⟨.t (.bool (if op = .eql then decide (ns = ms) else decide (ns ≠ ms))), []⟩ :=
  Eff.pure hd fun s hs' F β a w hR => by
    have h1 := (solid_scs ns).eq _ _ _ (hR.evT hs' hx)
    have h2 := (solid_scs ms).eq _ _ _ (hR.evT hs' hy)
    refine ⟨.bool (if op = .eql then decide (ns = ms) else decide (ns ≠ ms)), ?_, .t (.bool _)⟩
    have he : (Op.equal t (packS true ns) (packS true ms)).run P w = .ok (decide (ns = ms)) w := equalS_run 8 9992 t ks true ht hta w ns ms hn hm
    have hg : ∀ op', (eqGuard op' t x y (packS true ns) (packS true ms)).run P w = .ok () w := by
      intro op'
      unfold eqGuard packS
      cases op' <;> simp [hgd]
    have hb1 : (binOp .eql t (packS true ns) (packS true ms)).run P w = .ok (.bool (decide (ns = ms))) w := by
      show (do pure (Value.bool (← Op.equal t (packS true ns) (packS true ms))) : Sem Value).run P w = _
      simp only [Sem.run_bind, he, Result.andThen_ok, Sem.run_pure]
    have hb2 : (binOp .neq t (packS true ns) (packS true ms)).run P w = .ok (.bool (decide (ns ≠ ms))) w := by
      show (do pure (Value.bool (!(← Op.equal t (packS true ns) (packS true ms)))) : Sem Value).run P w = _
      simp only [Sem.run_bind, he, Result.andThen_ok, Sem.run_pure]
      congr 2
      by_cases h : ns = ms <;> simp [h]
    rcases hop with rfl | rfl <;> simp only [execOp, ho, h1, h2, Sem.run_bind, hg, Result.andThen_ok, hb1, hb2, Sem.run_pure] <;> rfl

theorem eff_structEqlS {t ty : TypeId} {x y : Operand} {ks : List SK} {ns ms : List Sc} (hd : dstOK D.n o.dst = true) (ho : o.op = .binOp .eql t x y ty)
    (ht : scCells P 8 t = some ks) (hta : tinf P t = some (ks.length, true)) (hgd : P.eqGuardType P.depth t = false)
    (hx : D.ev x = .t (.agg (ns.map Sc.tr))) (hy : D.ev y = .t (.agg (ms.map Sc.tr))) (hn : ns.map Sc.kind = ks) (hm : ms.map Sc.kind = ks) :
    Eff P o D ⟨.t (.bool (decide (ns = ms))), []⟩ := eff_structEqS hd ho (.inl rfl) ht hta hgd hx hy hn hm
theorem eff_structNeqS {t ty : TypeId} {x y : Operand} {ks : List SK} {ns ms : List Sc} (hd : dstOK D.n o.dst = true) (ho : o.op = .binOp .neq t x y ty)
    (ht : scCells P 8 t = some ks) (hta : tinf P t = some (ks.length, true)) (hgd : P.eqGuardType P.depth t = false)
    (hx : D.ev x = .t (.agg (ns.map Sc.tr))) (hy : D.ev y = .t (.agg (ms.map Sc.tr))) (hn : ns.map Sc.kind = ks) (hm : ms.map Sc.kind = ks) :
    Eff P o D ⟨.t (.bool (decide (ns ≠ ms))), []⟩ := eff_structEqS hd ho (.inr rfl) ht hta hgd hx hy hn hm

theorem eff_structEqlA {α : Type} [DecidableEq α] {cells : α → List Sc} {t ty : TypeId} {x y : Operand} {ks : List SK} {a b : α} (hd : dstOK D.n o.dst = true) (ho : o.op = .binOp .eql t x y ty)
    (ht : scCells P 8 t = some ks) (hta : tinf P t = some (ks.length, true)) (hgd : P.eqGuardType P.depth t = false) (hinj : ∀ a b, cells a = cells b → a = b) (hk : ∀ a, (cells a).map Sc.kind = ks)
    (hx : D.ev x = .t (.agg ((cells a).map Sc.tr))) (hy : D.ev y = .t (.agg ((cells b).map Sc.tr))) : Eff P o D ⟨.t (.bool (decide (a = b))), []⟩ := by
  have := eff_structEqlS (P := P) hd ho ht hta hgd hx hy (hk a) (hk b)
  rwa [show decide (cells a = cells b) = decide (a = b) from decide_eq_decide.2 ⟨hinj a b, fun h => by rw [h]⟩] at this
theorem eff_structNeqA {α : Type} [DecidableEq α] {cells : α → List Sc} {t ty : TypeId} {x y : Operand} {ks : List SK} {a b : α} (hd : dstOK D.n o.dst = true) (ho : o.op = .binOp .neq t x y ty)
    (ht : scCells P 8 t = some ks) (hta : tinf P t = some (ks.length, true)) (hgd : P.eqGuardType P.depth t = false) (hinj : ∀ a b, cells a = cells b → a = b) (hk : ∀ a, (cells a).map Sc.kind = ks)
    (hx : D.ev x = .t (.agg ((cells a).map Sc.tr))) (hy : D.ev y = .t (.agg ((cells b).map Sc.tr))) : Eff P o D ⟨.t (.bool (decide (a ≠ b))), []⟩ := by
  have := eff_structNeqS (P := P) hd ho ht hta hgd hx hy (hk a) (hk b)
  rwa [show decide (cells a ≠ cells b) = decide (a ≠ b) from decide_eq_decide.2 ⟨fun h e => h (by rw [e]), fun h e => h (hinj a b e)⟩] at this

/-! ### Keys -/

theorem checkS_run : ∀ (d e : Nat) (t : TypeId) (ks : List SK) (g : Bool), scCells P d t = some ks → tinf P t = some (ks.length, g) → ∀ (b : Bool) (w : World) (ns : List Sc), ns.map Sc.kind = ks →
    (Instr.checkKey b (d + e) t (packS g ns)).run P w = .ok () w
  | 0, _, _, _, _, h, _, _, _, _, _ => by simp [scCells] at h
  | d + 1, e, t, ks, g, h, ht, b, w, ns, hn => by
    have hde : d + 1 + e = (d + e) + 1 := by omega
    rw [hde]
    unfold scCells at h
    split at h
    · rename_i k hu
      unfold Instr.checkKey
      simp only [Sem.run_bind, run_underlying' w hu, Result.andThen_ok, Sem.run_pure]
    · rename_i hu
      unfold Instr.checkKey
      simp only [Sem.run_bind, run_underlying' w hu, Result.andThen_ok, Sem.run_pure]
    · rename_i fs hu
      split at h
      · rename_i k' ks' h2 hfs
        split at h
        · rename_i hc
          cases h
          obtain ⟨hst, hlen⟩ := hc
          rw [h2, hlen] at ht; cases ht
          have key : ∀ (fs : List Field) (off : Nat), scFs P (scCells P d) off fs = some (ks.drop off) → off ≤ ks.length →
              (forIn (m := Sem) fs PUnit.unit fun f (_ : PUnit) =>
                if f.name ≠ "_" then do
                  Instr.checkKey b (d + e) f.type (← part f.type (ns.map Sc.v).toArray f.offset)
                  pure (ForInStep.yield PUnit.unit)
                else pure (ForInStep.yield PUnit.unit)).run P w = .ok () w := by
            intro fs
            induction fs with
            | nil => intro off _ _; simp only [List.forIn_nil, Sem.run_pure]
            | cons f fs ih2 =>
              intro off h hoff
              unfold scFs at h
              split at h
              · rename_i ks2 hk2
                split at h
                · rename_i hc2
                  obtain ⟨hnm, ho⟩ := hc2
                  subst ho
                  obtain ⟨g2, ht2, hg2⟩ := scCells_tinf hk2
                  obtain ⟨rest, hrest, happ⟩ := Option.map_eq_some_iff.1 h
                  have hnl : ns.length = ks.length := by rw [← hn]; simp
                  have hb : f.offset + ks2.length ≤ ns.length := by
                    have := congrArg List.length happ
                    simp at this; omega
                  have hks : ((ns.drop f.offset).take ks2.length).map Sc.kind = ks2 := by
                    rw [List.map_take, List.map_drop, hn, ← happ]; simp
                  have hrest2 : scFs P (scCells P d) (f.offset + ks2.length) fs = some (ks.drop (f.offset + ks2.length)) := by
                    rw [hrest, ← List.drop_drop, ← happ]; simp
                  have h1 := partS_run ht2 hg2 w ns f.offset hb
                  have h3 := checkS_run d e f.type ks2 g2 hk2 ht2 b w _ hks
                  have hr := ih2 _ hrest2 (by omega)
                  rw [List.forIn_cons]
                  simp only [ne_eq, hnm, not_false_eq_true, if_true, bind_assoc, Sem.run_bind, h1, h3, Result.andThen_ok, Sem.run_pure, pure_bind]
                  simpa only [ne_eq, bind_assoc] using hr
                · cases h
              · cases h
          show (Instr.checkKey b (d + e + 1) t (.agg (ns.map Sc.v).toArray)).run P w = _
          unfold Instr.checkKey
          simp only [Sem.run_bind, run_underlying' w hu, Result.andThen_ok]
          rw [← Array.forIn_toList]
          have hk := key fs.toList 0 (by simpa using hfs) (Nat.zero_le _)
          rw [hk]
          simp only [Result.andThen_ok, Sem.run_pure]
        · cases h
      · cases h
    · cases h

theorem sameBits_sc (n : Nat) (s : Sc) : Instr.sameBits n s.v s.v = true := by cases s <;> cases n <;> simp [Sc.v, Instr.sameBits]

open Classical in
theorem findAsking_scs {t : TypeId} {ks : List SK} (ht : scCells P 8 t = some ks) (hta : tinf P t = some (ks.length, true)) (w : World) (k : List Sc) (hk : k.map Sc.kind = ks) :
    ∀ (es : List MapEntry) (i : Nat), (∀ e, e ∈ es → ∃ ns : List Sc, ns.map Sc.kind = ks ∧ e.key = packS true ns) → (Instr.findAsking t (packS true k) es i).run P w = .ok (findV (packS true k) es i) w
  | [], i, _ => by simp [Instr.findAsking, findV, Sem.run_pure]
  | e :: es, i, h => by
    obtain ⟨ns, hns, hkey⟩ := h e List.mem_cons_self
    have he : (Op.equal t (packS true k) e.key).run P w = .ok (decide (k = ns)) w := by
      rw [hkey]; exact equalS_run 8 9992 t ks true ht hta w k ns hk hns
    have hiff : packS true k = e.key ↔ k = ns := by
      rw [hkey]
      constructor
      · intro h
        have h2 : (k.map Sc.v) = (ns.map Sc.v) := by
          have h3 : Value.agg (k.map Sc.v).toArray = .agg (ns.map Sc.v).toArray := h
          simpa using h3
        exact List.map_inj_right (fun a b h => Sc.v_inj h) |>.1 h2
      · intro h; rw [h]
    unfold Instr.findAsking findV
    simp only [Sem.run_bind, he, Result.andThen_ok]
    by_cases hkn : k = ns
    · rw [if_pos (hiff.2 hkn), decide_eq_true hkn]; simp only [if_true, Sem.run_pure]
    · rw [if_neg (fun h => hkn (hiff.1 h)), decide_eq_false hkn]
      simp only [Bool.false_eq_true, if_false]
      exact findAsking_scs ht hta w k hk es (i + 1) (fun e he => h e (List.mem_cons_of_mem _ he))

theorem keyT_scs {t : TypeId} {ks : List SK} {fs : Array Field} (hu : P.underlying t = some (.struct fs)) (ht : scCells P 8 t = some ks) (hta : tinf P t = some (ks.length, true)) {good : Value → Prop} (hgood : ∀ v, good v → ∃ ns : List Sc, ns.map Sc.kind = ks ∧ v = packS true ns) : KeyT P t good where
  chk := fun b w v hv => by
    obtain ⟨ns, hns, rfl⟩ := hgood v hv
    exact checkS_run 8 9992 t ks true ht hta b w ns hns
  find := fun w k es hk hes => by
    obtain ⟨ns, hns, rfl⟩ := hgood k hk
    have hrun := findAsking_scs ht hta w ns hns es 0 (fun e he => hgood _ (hes e he))
    unfold Instr.findKey
    simp only [Sem.run_bind, run_underlying' w hu, Result.andThen_ok]
    cases es with
    | nil => simp [Instr.findNow, findV, Sem.run_pure]
    | cons e es =>
      have h0 : Instr.findNow (.struct fs) (packS true ns) (e :: es) 0 = none := by
        unfold Instr.findNow Instr.sameNow
        rfl
      rw [h0]
      exact hrun
  same := fun v hv => by
    obtain ⟨ns, _, rfl⟩ := hgood v hv
    show Instr.sameBits 10000 (.agg (ns.map Sc.v).toArray) (.agg (ns.map Sc.v).toArray) = true
    unfold Instr.sameBits
    simp only [beq_self_eq_true, Bool.true_and, List.all_eq_true]
    intro x hx
    have : ∃ s : Sc, x = (s.v, s.v) := by
      have h2 : ∀ (l : List Value) (y : Value × Value), y ∈ l.zip l → ∃ z, z ∈ l ∧ y = (z, z) := by
        intro l
        induction l with
        | nil => intro y hy; simp at hy
        | cons a l ih =>
          intro y hy
          rw [List.zip_cons_cons] at hy
          rcases List.mem_cons.1 hy with h | h
          · exact ⟨a, List.mem_cons_self, h⟩
          · obtain ⟨z, hz, e⟩ := ih y h
            exact ⟨z, List.mem_cons_of_mem _ hz, e⟩
      obtain ⟨z, hz, e⟩ := h2 _ x hx
      obtain ⟨s, _, rfl⟩ := List.mem_map.1 hz
      exact ⟨s, e⟩
    obtain ⟨s, rfl⟩ := this
    exact sameBits_sc _ s

open Classical in
theorem findNow_int {ik : IntKind} (k : Int) : ∀ (es : List MapEntry) (i : Nat), (∀ e, e ∈ es → ∃ n, e.key = .int ik n) → Instr.findNow (.int ik) (.int ik k) es i = some (findV (.int ik k) es i)
  | [], i, _ => by simp [Instr.findNow, findV]
  | e :: es, i, h => by
    obtain ⟨n, hn⟩ := h e List.mem_cons_self
    unfold Instr.findNow findV Instr.sameNow
    rw [hn]
    by_cases hkn : k = n
    · subst hkn; simp
    · have : ¬ Value.int ik k = .int ik n := fun h => hkn (by simpa using h)
      simp only [if_true, if_neg this]
      rw [show (k == n) = false by simpa using hkn]
      exact findNow_int k es (i + 1) (fun e he => h e (List.mem_cons_of_mem _ he))

theorem keyT_int {t : TypeId} {ik : IntKind} (hu : P.underlying t = some (.int ik)) : KeyT P t (fun v => ∃ n : Int, v = .int ik n) where
  chk := fun b w v _ => by
    unfold Instr.checkKey
    simp only [Sem.run_bind, run_underlying' w hu, Result.andThen_ok, Sem.run_pure]
  find := fun w k es hk hes => by
    obtain ⟨n, rfl⟩ := hk
    unfold Instr.findKey
    simp only [Sem.run_bind, run_underlying' w hu, Result.andThen_ok, findNow_int n es 0 hes, Sem.run_pure]
  same := fun v hv => by obtain ⟨n, rfl⟩ := hv; simp [Instr.sameBits]

/-- int keys. -/
def MapK.int {t : TypeId} {ik : IntKind} (hu : P.underlying t = some (.int ik)) : MapK P t Int :=
  ⟨.int ik, .int ik, fun a => solid_int _ _, fun a b h => by simpa using h, keyT_int hu⟩

/-- Structs of scalars as keys. -/
def MapK.scs {t : TypeId} {ks : List SK} {fs : Array Field} {α : Type} (hu : P.underlying t = some (.struct fs)) (ht : scCells P 8 t = some ks) (hta : tinf P t = some (ks.length, true)) (cells : α → List Sc) (hc : ∀ a, (cells a).map Sc.kind = ks) (hinj : ∀ a b, cells a = cells b → a = b) : MapK P t α :=
  ⟨fun a => .agg ((cells a).map Sc.tr), fun a => packS true (cells a), fun a => solid_scs _, fun a b h => hinj a b (by
    have h2 : ((cells a).map Sc.v) = ((cells b).map Sc.v) := by
      have h3 : Value.agg ((cells a).map Sc.v).toArray = .agg ((cells b).map Sc.v).toArray := h
      simpa using h3
    exact List.map_inj_right (fun a b h => Sc.v_inj h) |>.1 h2), keyT_scs hu ht hta (fun v ⟨a, e⟩ => ⟨cells a, hc a, e⟩)⟩
end Go.Tv

end
section
namespace Go.Tv
open Go.ChangeShapes Go.WideShapes Go.ChangeAt Go.RowKit
variable {P : Program}

end Go.Tv

end
section
namespace Go.Tv
variable {P : Program} {o : Oper} {D : St}

end Go.Tv

end
section
namespace Go.Tv
variable {P : Program}

theorem okA_1 {σ : Sto} {x : AV} (h : okA1 σ x = true) : okA σ x = true := by
  cases x <;> first | exact h | (simp [okA1] at h)

theorem VA.sub1 {w : World} {H H' : Nat → Prop} {β : Nat → Option Nat} {st st1 : Sto} {x : AV} {v : Value} (hH : ∀ b, H' b → H b) (hs : ∀ id ob, sget st1 id = some ob → sget st id = some ob)
    (h1 : okA1 st1 x = true) (h : VA w H β st x v) : VA w H' β st1 x v := by
  have hsub : ∀ id ob, (sget st1 id).isSome = true → sget st id = some ob → sget st1 id = some ob := fun id ob h2 h3 => by
    obtain ⟨o, ho⟩ := Option.isSome_iff_exists.1 h2
    have := hs id o ho
    rw [h3] at this; cases this; exact ho
  cases h with
  | t h => exact .t (h.same hH)
  | own a b c d e f g => exact .own (hsub _ _ h1 a) b c d e f g
  | ownNil a b c d => exact .ownNil (hsub _ _ h1 a) b c d
  | ownZ a b c d e => exact .ownZ (hsub _ _ h1 a) b c d e
  | ownE a b c d => exact .ownE (hsub _ _ h1 a) b c d
  | stale a b c => exact .stale (hsub _ _ h1 a) b c
  | ptr a b c d e => exact .ptr (hsub _ _ h1 a) b c d e
  | stalep a b c => exact .stalep (hsub _ _ h1 a) b c
  | agg _ _ _ => simp [okA1] at h1
  | tup _ _ => simp [okA1] at h1
  | fn _ _ => simp [okA1] at h1
  | junk v => exact .junk _

theorem VA.sub {w : World} {H H' : Nat → Prop} {β : Nat → Option Nat} {st st1 : Sto} {x : AV} {v : Value} (hH : ∀ b, H' b → H b) (hs : ∀ id ob, sget st1 id = some ob → sget st id = some ob)
    (h1 : okA st1 x = true) (h : VA w H β st x v) : VA w H' β st1 x v := by
  cases x with
  | agg cs =>
    cases h with
    | agg hl h2 hv =>
      simp only [okA, Bool.and_eq_true] at h1
      exact .agg hl h2 (fun j c v hc hv' => VA.sub1 hH hs (List.all_eq_true.1 h1.1 c (List.mem_of_getElem? hc)) (hv j c v hc hv'))
  | fn f cs =>
    cases h with
    | fn hl hv => exact .fn hl (fun j c v hc hv' => VA.sub1 hH hs (List.all_eq_true.1 (show cs.all (okA1 st1) = true from h1) c (List.mem_of_getElem? hc)) (hv j c v hc hv'))
  | tup cs => simp [okA, okA1] at h1
  | t x => exact VA.sub1 hH hs h1 h
  | own id g off len => exact VA.sub1 hH hs h1 h
  | ptr id g i j => exact VA.sub1 hH hs h1 h
  | junk => exact .junk _

theorem okA_cell {σ : Sto} {x : AV} (h : okA σ x = true) {j : Nat} {y : AV} (hy : x.cells[j]? = some y) : okA σ y = true := by
  have one : ∀ (z : AV), z.cells = [z] → okA σ z = true → ∀ (j : Nat) (y : AV), z.cells[j]? = some y → okA σ y = true := by
    intro z hz hr j y hy
    rw [hz] at hy
    match j with
    | 0 => simp at hy; subst hy; exact hr
    | j + 1 => simp at hy
  cases x with
  | t x =>
    simp only [AV.cells, List.getElem?_map, Option.map_eq_some_iff] at hy
    obtain ⟨y', _, rfl⟩ := hy
    rfl
  | agg cs =>
    simp only [okA, Bool.and_eq_true] at h
    exact okA_1 (List.all_eq_true.1 h.1 y (List.mem_of_getElem? hy))
  | own id g off len => exact one _ rfl h j y hy
  | ptr id g i k => exact one _ rfl h j y hy
  | tup vs => exact one _ rfl h j y hy
  | fn f cs => exact one _ rfl h j y hy
  | junk => exact one _ rfl h j y hy

/-- A part of the objects is put aside: into the memory that is not touched. -/
theorem Rel.split {F : Nat → Prop} {β : Nat → Option Nat} {n : Nat} {fr fr1 : Fra} {st st1 : Sto} {a : Act} {w : World} (h : Rel F β ⟨n, fr, st⟩ a w) (hf : KeF st1 fr fr1) (hs : KeS st st1 st1) :
    Rel (fun b => F b ∨ (Owned β st b ∧ ¬ Owned β st1 b)) β ⟨n, fr1, st1⟩ a w := by
  have hsub : ∀ id ob, sget st1 id = some ob → sget st id = some ob := fun id ob ho => (hs.get _ id ob ho).1
  have hG : ∀ b, G (fun b => F b ∨ (Owned β st b ∧ ¬ Owned β st1 b)) β st1 b → G F β st b := by
    rintro b ((h | h) | ⟨id, ob, h1, h2⟩)
    · exact .inl h
    · exact .inr h.1
    · exact .inr ⟨id, ob, hsub id ob h1, h2⟩
  refine ⟨h.defers, h.size, fun i => ?_, fun id ob ho => ?_, fun i j oi oj b hi hj => h.inj i j oi oj b (hsub i oi hi) (hsub j oj hj), fun i oi b hi hb => ?_, fun b hb => ?_⟩
  · rcases hf.get _ i with h1 | ⟨h1, h2⟩
    · show VA w _ _ _ (fget fr1 i) _
      rw [h1]; exact .junk _
    · show VA w _ _ _ (fget fr1 i) _
      refine VA.sub hG hsub h2 ?_
      rw [← h1]; exact h.fr i
  · obtain ⟨h1, h2⟩ := hs.get _ id ob ho
    rcases h.ob id ob h1 with h0 | ⟨b, c, g1, g2, g3, g4, g5⟩
    · exact .inl h0
    · refine .inr ⟨b, c, g1, g2, g3, g4, fun i x j y hx hy => ?_⟩
      obtain ⟨q1, u, hu, hva⟩ := g5 i x j y hx hy
      exact ⟨q1, u, hu, VA.sub hG hsub (okA_cell (h2 x (List.mem_of_getElem? hx)) hy) hva⟩
  · rintro (h1 | ⟨_, h1⟩)
    · exact h.notF i oi b (hsub i oi hi) hb h1
    · exact h1 ⟨i, oi, hi, hb⟩
  · rcases hb with h1 | ⟨h1, _⟩
    · exact h.ltF b h1
    · exact (h.owned_cells h1).1

structure LoopO (F M0 : Nat → Prop) (s0 : St) (β0 : Nat → Option Nat) (w0 : World) (a : Act) (L D : Nat) (rec : LoopState → Option Code → Loop) (I : Nat → St → Prop) (Ix : Code → St → Prop)
    (g : Option Code × Nat × St) (M C : Nat → Prop) (W : World) (β : Nat → Option Nat) : Prop where
  rel : Rel (fun b => F b ∨ M b ∨ b = L ∨ b = D) β g.2.2 a W
  inv : match g.1 with | none => I g.2.1 g.2.2 | some c => Ix c g.2.2
  rc : W.heap[L]? = some (.loop (rec (if g.1.isNone then .ready else .done) g.1))
  df : W.heap[D]? = some (.deferred (some []))
  ciff : ∀ b, C b ↔ (F b ∨ Owned β g.2.2.st b ∨ b = L ∨ b = D)
  os : W.os = w0.os
  tape : TapeLe w0 W
  output : W.output = w0.output
  size : w0.heap.size ≤ W.heap.size
  keep : ∀ b, b < w0.heap.size → (F b ∨ ¬ Owned β0 s0.st b) → W.heap[b]? = w0.heap[b]?
  own : ∀ b, Owned β g.2.2.st b → w0.heap.size ≤ b ∨ Owned β0 s0.st b
  mnew : ∀ b, M b → (w0.heap.size ≤ b ∨ M0 b) ∧ b ≠ L ∧ b ≠ D

end Go.Tv

end
section
namespace Go.Tv
variable {P : Program} {o : Oper} {D : St}

/-- A slice literal as data: nothing lies behind its last element. -/
theorem eff_buildSliceT {t e : TypeId} {len : Nat} {ag : Bool} {parts : Array (Nat × Operand)} {z : Tr} {xs : List Tr} (hd : dstOK D.n o.dst = true) (ho : o.op = .buildSlice t len parts)
    (ht : elemOf P t = some (e, 1, ag)) (hz : zeroOf P e = some z) (hzk : z.cells.length = 1) (hlim : len * 1 ≤ 16777216)
    (hf : fillA (fun i => some (i * 1, 1)) (zeroCellsA z (len * 1)) (parts.toList.map fun p => (p.1, D.ev p.2)) = some (xs.map .t))
    (h1 : xs.all Tr.one = true) (hel : xs.length = len) (h0 : len * 1 ≠ 0) : Eff P o D ⟨.t (.sl xs true), []⟩ := by
  intro s hs hfresh F β a w hR next Q hnext
  obtain ⟨hu, hte⟩ := elemOf_spec ht
  obtain ⟨zv, hzr, hzV, hzn, hzs⟩ := zeroOf_run hz w (G F β s.st)
  have hcr := zero_cr (β := β) (σ := s.st) hzV hzn (by rw [hzk]; decide) (len * 1)
  obtain ⟨c', hc', hcr'⟩ := fill_run _ _ _ _ (xs.map .t) hcr (by simp) (map_parts hR hs parts) hf
  obtain ⟨W, hW⟩ : ∃ W, W = w.alloc (.cells c' e) := ⟨_, rfl⟩
  have hbel : BelowD w.heap.size w W := by
    rw [hW]
    exact ⟨⟨rfl, rfl, rfl, by simp, fun b hb => RowKit.Below.heap_alloc w _ b hb⟩, Nat.le_refl _⟩
  obtain ⟨hrel, hev, hmono⟩ := hR.below hbel
  have hrun : (execOp a.eval o).run P w = .ok (.value (.slice (some ⟨w.heap.size, 0, none⟩) len len)) W := by
    have hc'' : Instr.fill (fun i => some (i * 1, 1)) ((Array.range (len * 1)).map fun i => zv.cells[i % zv.cells.size]!) (Array.map (fun (x : Nat × Operand) => (x.1, a.eval x.2)) parts).toList = some c' := by
      rw [Array.toList_map]; exact hc'
    rw [hW]
    simp only [execOp, ho, Instr.buildSlice, Sem.run_bind, run_underlying' w hu, Result.andThen_ok, run_sizeOf' w hte, show ¬ (len * 1 > 2 ^ 24) from by omega, if_false, h0, hzr, Sem.run_pure, hc'',
      newRow, run_newObj, World.alloc_eq]
  have hheap : W.heap[w.heap.size]? = some (.cells c' e) := by rw [hW]; exact World.alloc_heap_new w _
  have one : ∀ (i : Nat) x, xs[i]? = some x → x.one = true := fun i x hx => List.all_eq_true.1 h1 x (List.mem_of_getElem? hx)
  have ocells : ∀ x : Tr, x.one = true → x.cells = [x] ∧ x.noTup = true := fun x hx => by cases x <;> first | exact ⟨rfl, rfl⟩ | (simp [Tr.one] at hx)
  have hG : ¬ G F β s.st w.heap.size := by
    rintro (h | h)
    · exact absurd (hR.ltF _ h) (Nat.lt_irrefl _)
    · exact absurd (hR.owned_cells h).1 (Nat.lt_irrefl _)
  have hcell : ∀ (i : Nat) x, xs[i]? = some x → ∃ v, c'[i]? = some v ∧ V w (G F β s.st) x v := fun i x hx => by
    obtain ⟨v, hv, hva⟩ := (hcr'.2 i (.t x) (by rw [List.getElem?_map, hx]; rfl)).2
    cases hva with
    | t h => exact ⟨v, hv, h⟩
  have hV : V W (G F β s.st) (.sl xs true) (.slice (some ⟨w.heap.size, 0, none⟩) len len) := by
    rw [← hel]
    refine V.sl xs true 1 w.heap.size 0 xs.length (fun i _ => c'.getD i undef) (lt_of_heap hheap) hG (fun _ => rfl) (Nat.le_refl _) ?_ ?_ ?_ ?_
    · intro i x hx
      have := ocells x (one i x hx)
      exact ⟨this.2, by rw [this.1]; rfl⟩
    · intro i x j c hx hc
      rw [(ocells x (one i x hx)).1] at hc
      match j with
      | 0 => simp at hc; subst hc; exact one i _ hx
      | j + 1 => simp at hc
    · intro i x j c hx hc
      rw [(ocells x (one i x hx)).1] at hc
      match j with
      | 0 =>
        obtain ⟨v, hv, _⟩ := hcell i x hx
        unfold World.cell?
        rw [hheap]
        simp only [Nat.zero_add, Nat.mul_one, Nat.add_zero]
        rw [show (c'.getD i undef) = v from by rw [Array.getD_eq_getD_getElem?, hv]; rfl]
        exact hv
      | j + 1 => simp at hc
    · intro i x j c hx hc
      rw [(ocells x (one i x hx)).1] at hc
      match j with
      | 0 =>
        simp at hc; subst hc
        obtain ⟨v, hv, hvv⟩ := hcell i _ hx
        rw [show (c'.getD i undef) = v from by rw [Array.getD_eq_getD_getElem?, hv]; rfl]
        exact V.mono hbel.size (fun b hb hn => ⟨hn, hbel.block b hb⟩) hvv
      | j + 1 => simp at hc
  unfold Oper.wp
  rw [hrun]
  exact hnext β _ _ (hrel.put (by rw [hs.n]; exact hd) (.t hV)) hev
end Go.Tv

end
section
namespace Go.Tv
variable {P : Program}
section
variable {γ : Type} {X : JP γ} {ro : Option Nat} {all l : List Oper} {o : Oper} {n : Nat} {fr : Fra} {st : Sto} {g : γ} {K : St → γ → Prop}
end
end Go.Tv

end
section
namespace Go.Tv
set_option linter.unusedVariables false
variable {P : Program} {o : Oper} {D : St}

end Go.Tv

end
section
namespace Go.Tv
set_option linter.unusedVariables false
variable {P : Program}
section
variable {γ : Type} {X : JP γ} {ro : Option Nat} {all l : List Oper} {o : Oper} {n : Nat} {fr : Fra} {st : Sto} {g : γ} {K : St → γ → Prop}
end
section
variable {all l : List Oper} {o : Oper} {n : Nat} {fr : Fra} {st : Sto} {K : St → Prop}
end
section
variable {D : St} {o : Oper}
end

/-- An empty slice in an object of one cell, as an owned object of its own. -/
theorem weak_adopt1 {n : Nat} {fr : Fra} {st : Sto} {id0 g0 : Nat} {ty0 : TypeId} (id k : Nat) (ty : TypeId) (h0 : sget st id0 = some ⟨1, ty0, g0, [.t (.sl [] true)]⟩)
    (hid : sget st id = none) : Weak ⟨n, fr, st⟩ ⟨n, fr, (id0, some ⟨1, ty0, g0, [.own id 0 0 0]⟩) :: (id, some ⟨k, ty, 0, []⟩) :: st⟩ := by
  intro F β a w hr
  obtain ⟨β', hr', hown, had⟩ := adopt_core hr id k ty hid
  have hne : id0 ≠ id := fun e => by subst e; rw [h0] at hid; cases hid
  have h0' : sget ((id, some (⟨k, ty, 0, []⟩ : Ob)) :: st) id0 = some ⟨1, ty0, g0, [.t (.sl [] true)]⟩ := by
    rw [show ((id, some (⟨k, ty, 0, []⟩ : Ob)) :: st) = sput st id (some ⟨k, ty, 0, []⟩) from rfl, sget_sput, if_neg hne]; exact h0
  rcases hr'.ob id0 _ h0' with ⟨_, he⟩ | ⟨b, c, q1, q2, q3, q4, q5⟩
  · simp at he
  · obtain ⟨hrel, hev, _⟩ := hr'.upd (g' := g0) (els' := [.own id 0 0 0]) (c' := c) h0' q1 q2 rfl (.inl ⟨rfl, rfl⟩) q3 (fun i x hx => by
        cases i with
        | zero => simp at hx; subst hx; exact ⟨rfl, rfl⟩
        | succ i => simp at hx) (fun i x m y hx hy => by
        cases i with
        | succ i => simp at hx
        | zero =>
          simp at hx; subst hx
          simp only [AV.cells] at hy
          cases m with
          | succ m => simp at hy
          | zero =>
            simp at hy; subst hy
            obtain ⟨_, u, hu, hva⟩ := q5 0 (.t (.sl [] true)) 0 (.t (.sl [] true)) rfl rfl
            exact ⟨rfl, u, hu, had u hva⟩)
    rw [setB_self q2] at hrel
    refine ⟨β', hrel, fun b hb => hown b ?_⟩
    obtain ⟨m, ob, hm, hb⟩ := hb
    by_cases e : m = id0
    · subst e; exact ⟨m, _, h0', hb⟩
    · change sget (sput ((id, some ⟨k, ty, 0, []⟩) :: st) id0 _) m = some ob at hm
      rw [sget_sput, if_neg e] at hm
      exact ⟨m, ob, hm, hb⟩

end Go.Tv

end
section
namespace Go.Tv
set_option linter.unusedVariables false
def GenCs (σ σ' : Sto) : List AV → Prop
  | [] => True
  | x :: l => GenA σ σ' x x ∧ GenCs σ σ' l
theorem GenCs.get {σ σ' : Sto} : ∀ {l : List AV}, GenCs σ σ' l → ∀ x, x ∈ l → GenA σ σ' x x
  | [], _, x, h => by cases h
  | y :: l, ⟨h1, h2⟩, x, h => by
    rcases List.mem_cons.1 h with rfl | h
    · exact h1
    · exact h2.get x h
inductive GenX (σ σ' : Sto) : AV → AV → Prop
  | a {x y : AV} (h : GenA σ σ' x y) : GenX σ σ' x y
  | fn (f : FuncId) (cs : List AV) (h : GenCs σ σ' cs) : GenX σ σ' (.fn f cs) (.fn f cs)
theorem GenX.v {σ σ' : Sto} {x y : AV} (h : GenX σ σ' x y) {w : World} {H H' : Nat → Prop} {β : Nat → Option Nat} (hH : ∀ b, H' b → H b) {v : Value} (hv : VA w H β σ x v) : VA w H' β σ' y v := by
  cases h with
  | a h => exact h.v hH hv
  | fn f cs h =>
    cases hv with
    | fn hl hc => exact .fn hl (fun j c u hj hu => (h.get c (List.mem_of_getElem? hj)).v hH (hc j c u hj hu))
def GenXF (σ σ' : Sto) (fr : Fra) : Fra → Prop
  | [] => True
  | x :: l => GenX σ σ' (fget fr x.1) x.2 ∧ GenXF σ σ' fr l
theorem GenXF.get {σ σ' : Sto} {fr : Fra} : ∀ (l : Fra), GenXF σ σ' fr l → ∀ i, GenX σ σ' (fget fr i) (fget l i)
  | [], _, i => .a (.junk _)
  | x :: l, ⟨h1, h2⟩, i => by
    show GenX σ σ' (fget fr i) (cond (Nat.beq x.1 i) x.2 (fget l i))
    cases h : Nat.beq x.1 i with
    | true => rw [← Nat.eq_of_beq_eq_true h]; exact h1
    | false => exact GenXF.get l h2 i

end Go.Tv

end
section
namespace Go.Tv
set_option linter.unusedVariables false
def WkC : List Tr → List Tr → Prop
  | [], [] => True
  | x :: l, y :: k => (y.one = true ∧ Wk x y) ∧ WkC l k
  | _, _ => False
theorem WkC.len : ∀ {l k : List Tr}, WkC l k → l.length = k.length
  | [], [], _ => rfl
  | _ :: _, _ :: _, ⟨_, h⟩ => by simp [h.len]
  | [], _ :: _, h => h.elim
  | _ :: _, [], h => h.elim
theorem WkC.get : ∀ {l k : List Tr}, WkC l k → ∀ (i : Nat) x y, l[i]? = some x → k[i]? = some y → y.one = true ∧ Wk x y
  | [], [], _, i, x, y, h, _ => by simp at h
  | a :: l, b :: k, ⟨h1, h2⟩, i, x, y, hx, hy => by
    cases i with
    | zero => simp at hx hy; subst hx hy; exact h1
    | succ i => exact h2.get i x y (by simpa using hx) (by simpa using hy)
  | [], _ :: _, h, _, _, _, _, _ => h.elim
  | _ :: _, [], h, _, _, _, _, _ => h.elim
end Go.Tv

end
section
namespace Go.Tv
set_option linter.unusedVariables false
variable {P : Program} {γ : Type} {X : JP γ} {g : γ}
def EffX (P : Program) (X : JP γ) (g : γ) (o : Oper) (D : St) (e : Ef) : Prop :=
  ∀ s, Le D s → (∀ id ob, (id, ob) ∈ e.ups → sget D.st id = none → sget s.st id = none) → ∀ F β a w, Rel F β s a w → X.J g (Owned β s.st) F w →
    ∀ (next : Act → World → Prop) (Q : Exit → Act → World → Prop),
      (∀ F' β' a' w', Rel F' β' (s.app o.dst e) a' w' → X.J g (Owned β' (s.app o.dst e).st) F' w' → EvoJ X.q F s.st β w F' (s.app o.dst e).st β' w' → next a' w') → o.wp P a w next Q
theorem EffX.of {o : Oper} {D : St} {e : Ef} (h : Eff P o D e) : EffX P X g o D e := fun s hl hf F β a w hr hJ next Q hn =>
  h s hl hf F β a w hr next Q (fun β' a' w' hr' hev => hn F β' a' w' hr' (JP.evo hJ hr' hev) (.of hev))
theorem owned_ext {β : Nat → Option Nat} {σ σ' : Sto} (hs : ∀ id, sget σ' id = sget σ id) : Owned β σ' = Owned β σ := by
  funext b
  exact propext ⟨fun ⟨i, o, h1, h2⟩ => ⟨i, o, by rw [← hs]; exact h1, h2⟩, fun ⟨i, o, h1, h2⟩ => ⟨i, o, by rw [hs]; exact h1, h2⟩⟩
theorem j_ext {β : Nat → Option Nat} {σ σ' : Sto} {F : Nat → Prop} {w : World} (h : X.J g (Owned β σ) F w) (hs : ∀ id, sget σ' id = sget σ id) : X.J g (Owned β σ') F w := by
  rw [owned_ext hs]; exact h
theorem evoJ_ext {q : Prop} {F F' : Nat → Prop} {σ₀ σ σ' : Sto} {β₀ β : Nat → Option Nat} {w₀ w : World} (h : EvoJ q F σ₀ β₀ w₀ F' σ β w) (hs : ∀ id, sget σ' id = sget σ id) : EvoJ q F σ₀ β₀ w₀ F' σ' β w :=
  { h with own := fun b hb => h.own b (by rw [← owned_ext hs]; exact hb) }
def OpAtX (P : Program) (X : JP γ) (g : γ) (ops : List Oper) (D : St) (o : Oper) (e : Ef) : Prop :=
  (o.guard = none ∧ EffX P X g o D e) ∨
  (∃ j want og d b, o.guard = some (j, want) ∧ ops[j]? = some og ∧ og.dst = some d ∧ fget D.fr d = .t (.bool b) ∧ ((b = want ∧ EffX P X g o D e) ∨ (b ≠ want ∧ e = ⟨.tup [], []⟩))) ∨
  ∃ j want og d, o.guard = some (j, want) ∧ ops[j]? = some og ∧ og.dst = some d ∧ fget D.fr d = .tup [] ∧ e = ⟨.tup [], []⟩
section
variable {ops : Array Oper} {es : List Ef} {cl : List (List Nat)} {s₀ : St} {QQ : Exit → Act → World → Prop} {F₀ : Nat → Prop} {β₀ : Nat → Option Nat} {w₀ : World}
theorem draw_mainX (hlen : ops.toList.length = es.length) (hcl : clOK 0 ops.toList cl = true)
    (hap : apartAll cl ((zipE 0 ops.toList es).map fun x => (x.1, x.2.1, idsOf x.2.2)) = true) (hd : ∀ (i : Nat) (o : Oper), ops[i]? = some o → dstOK s₀.n o.dst = true)
    (hop : ∀ (i : Nat) (o : Oper) (e : Ef), ops.toList[i]? = some o → es[i]? = some e → OpAtX P X g ops.toList (dep (zipE 0 ops.toList es) cl s₀ i) o e)
    (hQ : ∀ s F β a w, Rel F β s a w → X.J g (Owned β s.st) F w → EvoJ X.q F₀ s₀.st β₀ w₀ F s.st β w → s = foldP (fun _ => true) (zipE 0 ops.toList es) s₀ → QQ .normal a w) :
    ∀ (fuel : Nat) (listed : Array Bool) (s : St) (F : Nat → Prop) (β : Nat → Option Nat) (a : Act) (w : World), listed.size = ops.size →
      (∀ i o, ops.toList[i]? = some o → listed.getD i false = true → ∀ q, q ∈ predsOf o → listed.getD q false = true) → unrun ops.size listed ≤ fuel →
      Rel F β s a w → X.J g (Owned β s.st) F w → EvoJ X.q F₀ s₀.st β₀ w₀ F s.st β w → s.n = s₀.n → (∀ t, fget s.fr t = fget (foldP (fun n => listed.getD n false) (zipE 0 ops.toList es) s₀).fr t) →
      (∀ id, sget s.st id = sget (foldP (fun n => listed.getD n false) (zipE 0 ops.toList es) s₀).st id) → wpAny P .any ops QQ fuel listed a w := by
  have hsize : ops.toList.length = ops.size := by simp
  -- nothing may come up any more: all have run
  have done : ∀ (listed : Array Bool) (s : St) (F : Nat → Prop) (β : Nat → Option Nat) (a : Act) (w : World), listed.size = ops.size → Region.ready .any ops listed = [] →
      Rel F β s a w → X.J g (Owned β s.st) F w → EvoJ X.q F₀ s₀.st β₀ w₀ F s.st β w → s.n = s₀.n → (∀ t, fget s.fr t = fget (foldP (fun n => listed.getD n false) (zipE 0 ops.toList es) s₀).fr t) →
      (∀ id, sget s.st id = sget (foldP (fun n => listed.getD n false) (zipE 0 ops.toList es) s₀).st id) → QQ .normal a w := by
    intro listed s F β a w hls hready hr hJ hev hn hfr hst
    have hall : ∀ i, i < ops.size → listed.getD i false = true := by
      intro i
      induction i using Nat.strongRecOn with
      | _ i ih =>
        intro hi
        have hli : i < listed.size := by omega
        cases hc : listed[i] with
        | true => simp [hli, hc]
        | false =>
          have ho : ops[i]? = some ops[i] := Array.getElem?_eq_getElem hi
          have : i ∈ Region.ready .any ops listed := by
            rw [ready_mem]
            refine ⟨hi, by simp [hli, hc], _, ho, fun e he hb => ?_⟩
            have hp : e.on ∈ predsOf ops[i] := preds_mem.2 ⟨e, he, hb, rfl⟩
            have hlt := (clOK_get ops.toList 0 hcl i ops[i] (by rw [Array.getElem?_toList]; exact ho)).1 _ hp
            exact ih e.on (by omega) (by omega)
          rw [hready] at this
          simp at this
    have hmem : ∀ x, x ∈ zipE 0 ops.toList es → listed.getD x.1 false = true := by
      intro x hx
      obtain ⟨_, o, ho, _⟩ := zipE_get ops.toList es 0 hlen x hx
      exact hall _ (by have := lt_of_get ho; omega)
    have e1 : ∀ t, fget (foldP (fun n => listed.getD n false) (zipE 0 ops.toList es) s₀).fr t = fget (foldP (fun _ => true) (zipE 0 ops.toList es) s₀).fr t := fun t =>
      foldP_fr _ _ _ rfl (fun x hx hne => absurd (hmem x hx) hne)
    have e2 : ∀ id, sget (foldP (fun n => listed.getD n false) (zipE 0 ops.toList es) s₀).st id = sget (foldP (fun _ => true) (zipE 0 ops.toList es) s₀).st id := fun id =>
      foldP_st _ _ _ rfl (fun x hx hne => absurd (hmem x hx) hne)
    refine hQ (foldP (fun _ => true) (zipE 0 ops.toList es) s₀) F β a w (hr.ext ((foldP_n _ _ _).trans hn.symm) (fun t => ((hfr t).trans (e1 t)).symm) (fun id => ((hst id).trans (e2 id)).symm))
      (j_ext hJ (fun id => ((hst id).trans (e2 id)).symm)) (evoJ_ext hev (fun id => ((hst id).trans (e2 id)).symm)) rfl
  intro fuel
  induction fuel with
  | zero =>
    intro listed s F β a w hls hclosed hun hr hJ hev hn hfr hst
    have hready : Region.ready .any ops listed = [] := by
      refine List.eq_nil_iff_forall_not_mem.2 fun i hi => ?_
      obtain ⟨h1, h2, _⟩ := ready_mem.1 hi
      have : i ∈ (List.range ops.size).filter fun i => !listed.getD i true := List.mem_filter.2 ⟨List.mem_range.2 h1, by simp only [h2]; rfl⟩
      have hne := List.length_pos_of_mem this
      unfold unrun at hun
      omega
    exact ⟨hready, done listed s F β a w hls hready hr hJ hev hn hfr hst⟩
  | succ fuel ih =>
    intro listed s F β a w hls hclosed hun hr hJ hev hn hfr hst
    refine ⟨fun hready => done listed s F β a w hls hready hr hJ hev hn hfr hst, fun i hi => ?_⟩
    obtain ⟨hi1, hi2, o, ho, hpre⟩ := ready_mem.1 hi
    have hoL : ops.toList[i]? = some o := by rw [Array.getElem?_toList]; exact ho
    have hil : i < listed.size := by omega
    have hi3 : listed.getD i false = false := by simpa [hil] using hi2
    have hie : es[i]? = some (es[i]'(by omega)) := List.getElem?_eq_getElem (by omega)
    generalize he : (es[i]'(by omega)) = e at hie
    have hprel : ∀ q, q ∈ predsOf o → listed.getD q false = true := fun q hq => by
      obtain ⟨ed, h1, h2, rfl⟩ := preds_mem.1 hq
      exact hpre ed h1 h2
    have hcls := cl_listed hcl (p := fun n => listed.getD n false) hclosed
    have hcli : ∀ x, x ∈ cl.getD i [] → listed.getD x false = true := hcls i o hoL hprel
    have hmemi : (i, o.dst, e) ∈ zipE 0 ops.toList es := by have := zipE_mem ops.toList es 0 i o e hoL hie; rwa [Nat.zero_add] at this
    have huniq : ∀ x, x ∈ zipE 0 ops.toList es → x.1 = i → x = (i, o.dst, e) := by
      intro x hx hxi
      obtain ⟨_, o', h1, h2, h3⟩ := zipE_get ops.toList es 0 hlen x hx
      rw [hxi] at h1 h2
      simp only [Nat.sub_zero] at h1 h2
      rw [hoL] at h1; cases h1
      rw [hie] at h2; cases h2
      obtain ⟨x1, x2, x3⟩ := x
      simp only at hxi h3
      rw [hxi, h3]
    have hsorted := zipE_sorted ops.toList es 0
    have hpair := apartAll_get _ hap
    have hord : ((zipE 0 ops.toList es).map fun x => (x.1, x.2.1, idsOf x.2.2)).Pairwise (fun x y => x.1 < y.1) := by
      rw [List.pairwise_map]; exact hsorted
    have hapart : ∀ x y, x ∈ zipE 0 ops.toList es → y ∈ zipE 0 ops.toList es → x.1 < y.1 → (cl.getD y.1 []).contains x.1 = true ∨ apartE (x.2.1, idsOf x.2.2) (y.2.1, idsOf y.2.2) = true := by
      intro x y hx hy hlt
      exact pairwise_get (key := fun z => z.1) hpair hord (List.mem_map.2 ⟨x, hx, rfl⟩) (List.mem_map.2 ⟨y, hy, rfl⟩) hlt
    -- what has run and differs from what surely has run touches nothing that is known
    have hdiff : ∀ x, x ∈ zipE 0 ops.toList es → (cl.getD i []).contains x.1 ≠ listed.getD x.1 false →
        (x.1 != i && !(cl.getD i []).contains x.1 && !(cl.getD x.1 []).contains i) = true := by
      intro x hx hne
      have hnc : (cl.getD i []).contains x.1 = false := by
        cases hcc : (cl.getD i []).contains x.1 with
        | false => rfl
        | true => rw [hcc, hcli x.1 (by simpa using hcc)] at hne; exact absurd rfl hne
      have hlx : listed.getD x.1 false = true := by
        cases hl : listed.getD x.1 false with
        | true => rfl
        | false => rw [hnc, hl] at hne; exact absurd rfl hne
      have hxi : x.1 ≠ i := fun e => by rw [e, hi3] at hlx; cases hlx
      have hni : (cl.getD x.1 []).contains i = false := by
        cases hcc : (cl.getD x.1 []).contains i with
        | false => rfl
        | true =>
          obtain ⟨_, o', h1, h2, h3⟩ := zipE_get ops.toList es 0 hlen x hx
          simp only [Nat.sub_zero] at h1
          have := hcls x.1 o' h1 (hclosed x.1 o' h1 hlx) i (by simpa using hcc)
          rw [this] at hi3; cases hi3
      rw [hnc, hni]; simp [hxi]
    have hle : Le (dep (zipE 0 ops.toList es) cl s₀ i) s := by
      refine ⟨by rw [dep, forget_n, foldP_n]; exact hn, fun t => ?_, fun id ob hid => ?_⟩
      · by_cases hj : fget (dep (zipE 0 ops.toList es) cl s₀ i).fr t = .junk
        · exact .inl hj
        · right
          obtain ⟨h1, h2⟩ := forget_fr _ _ hj
          rw [dep, h1, hfr]
          exact (foldP_fr _ _ _ rfl (fun x hx hne => h2 _ (List.mem_map.2 ⟨x, List.mem_filter.2 ⟨hx, hdiff x hx hne⟩, rfl⟩))).symm
      · obtain ⟨h1, h2⟩ := forget_st _ _ hid
        rw [hst, ← h1]
        refine (foldP_st _ _ _ rfl (fun x hx hne => ?_)).symm
        have := h2 _ (List.mem_map.2 ⟨x, List.mem_filter.2 ⟨hx, hdiff x hx hne⟩, rfl⟩)
        cases htt : touchesId x.2 id with
        | false => rfl
        | true => exact absurd (touchesId_ids.1 htt) this
    have hfresh : ∀ id ob, (id, ob) ∈ e.ups → sget (dep (zipE 0 ops.toList es) cl s₀ i).st id = none → sget s.st id = none := by
      intro id ob hm hnone
      have hide : id ∈ idsOf e := List.mem_map.2 ⟨_, hm, rfl⟩
      have hnot : ∀ x, x ∈ zipE 0 ops.toList es → (x.1 != i && !(cl.getD i []).contains x.1 && !(cl.getD x.1 []).contains i) = true → id ∉ idsOf x.2.2 := by
        intro x hx hb hidx
        simp only [Bool.and_eq_true, bne_iff_ne, ne_eq, Bool.not_eq_true'] at hb
        obtain ⟨⟨hxi, hb1⟩, hb2⟩ := hb
        rcases Nat.lt_or_gt_of_ne hxi with hlt | hlt
        · rcases hapart x _ hx hmemi hlt with h | h
          · rw [hb1] at h; cases h
          · simp only [apartE, Bool.and_eq_true] at h
            have := List.all_eq_true.1 h.2 id hidx
            simp only [Bool.not_eq_true', ← Bool.not_eq_true] at this
            exact this (by simpa using hide)
        · rcases hapart _ x hmemi hx hlt with h | h
          · rw [hb2] at h; cases h
          · simp only [apartE, Bool.and_eq_true] at h
            have := List.all_eq_true.1 h.2 id hide
            simp only [Bool.not_eq_true', ← Bool.not_eq_true] at this
            exact this (by simpa using hidx)
      have h1 : sget s.st id = sget (foldP (fun j => (cl.getD i []).contains j) (zipE 0 ops.toList es) s₀).st id := by
        rw [hst]
        refine (foldP_st _ _ _ rfl (fun x hx hne => ?_)).symm
        cases htt : touchesId x.2 id with
        | false => rfl
        | true => exact absurd (touchesId_ids.1 htt) (hnot x hx (hdiff x hx hne))
      have h2 : sget (dep (zipE 0 ops.toList es) cl s₀ i).st id = sget (foldP (fun j => (cl.getD i []).contains j) (zipE 0 ops.toList es) s₀).st id := by
        unfold dep
        generalize foldP (fun j => (cl.getD i []).contains j) (zipE 0 ops.toList es) s₀ = σ
        have hall : ∀ y, y ∈ ((zipE 0 ops.toList es).filter fun x => x.1 != i && !(cl.getD i []).contains x.1 && !(cl.getD x.1 []).contains i).map (fun x => (x.2.1, idsOf x.2.2)) → id ∉ y.2 := by
          intro y hy
          obtain ⟨x, hx, rfl⟩ := List.mem_map.1 hy
          obtain ⟨hx1, hx2⟩ := List.mem_filter.1 hx
          exact hnot x hx1 hx2
        revert hall
        generalize ((zipE 0 ops.toList es).filter fun x => x.1 != i && !(cl.getD i []).contains x.1 && !(cl.getD x.1 []).contains i).map (fun x => (x.2.1, idsOf x.2.2)) = l
        intro hall
        induction l generalizing σ with
        | nil => rfl
        | cons y l ihl =>
          rw [forget, ihl _ (fun z hz => hall z (List.mem_cons_of_mem _ hz))]
          simp only [foldl_none, if_neg (hall y (List.mem_cons_self ..))]
      rw [h1, ← h2]; exact hnone
    -- the state behind it
    have hlt2 : ∀ n, (listed.setIfInBounds i true).getD n false = (listed.getD n false || n == i) := by
      intro n
      by_cases e : n = i
      · subst e; simp [hil]
      · have : (n == i) = false := by simpa using e
        simp [this, Array.getElem?_setIfInBounds_ne (Ne.symm e)]
    have hunrun : unrun ops.size (listed.setIfInBounds i true) ≤ fuel := by
      have : unrun ops.size (listed.setIfInBounds i true) < unrun ops.size listed := by
        unfold unrun
        refine filter_lt (List.range ops.size) i (List.mem_range.2 hi1) (by rw [hi2]; rfl) (by simp [hil]) (fun y hy => ?_)
        by_cases e : y = i
        · subst e; simp [hil] at hy
        · have : (listed.setIfInBounds i true).getD y true = listed.getD y true := by simp [Array.getElem?_setIfInBounds_ne (Ne.symm e)]
          rw [this] at hy; exact hy
      omega
    have hclosed' : ∀ j o', ops.toList[j]? = some o' → (listed.setIfInBounds i true).getD j false = true → ∀ q, q ∈ predsOf o' → (listed.setIfInBounds i true).getD q false = true := by
      intro j o' hj hlj q hq
      rw [hlt2] at hlj ⊢
      by_cases e : j = i
      · subst e
        rw [hoL] at hj; cases hj
        rw [hprel q hq]; rfl
      · have : (j == i) = false := by simpa using e
        rw [this, Bool.or_false] at hlj
        rw [hclosed j o' hj hlj q hq]; rfl
    have hp_i : (fun n => listed.getD n false) i = false := hi3
    have hgt : ∀ x, x ∈ zipE 0 ops.toList es → i < x.1 → listed.getD x.1 false = true → apartE (o.dst, idsOf e) (x.2.1, idsOf x.2.2) = true := by
      intro x hx hlt hlx
      rcases hapart _ x hmemi hx hlt with h | h
      · exfalso
        obtain ⟨_, o', h1, h2, h3⟩ := zipE_get ops.toList es 0 hlen x hx
        simp only [Nat.sub_zero] at h1
        have := hcls x.1 o' h1 (hclosed x.1 o' h1 hlx) i (by simpa using h)
        rw [this] at hi3; cases hi3
      · exact h
    have hnextS : ∀ F' β' a' w', Rel F' β' (s.app o.dst e) a' w' → X.J g (Owned β' (s.app o.dst e).st) F' w' → EvoJ X.q F s.st β w F' (s.app o.dst e).st β' w' → wpAny P .any ops QQ fuel (listed.setIfInBounds i true) a' w' := by
      intro F' β' a' w' hr' hJ' hev'
      refine ih (listed.setIfInBounds i true) (s.app o.dst e) F' β' a' w' (by simp [hls]) hclosed' hunrun hr' hJ' (hev.trans hev') hn (fun t => ?_) (fun id => ?_)
      · have h1 := foldP_put_fr (p := fun n => listed.getD n false) (t := t) (zipE 0 ops.toList es) s₀ hmemi hp_i huniq hsorted (fun x hx hlt hlx => by
          have := hgt x hx hlt hlx
          simp only [apartE, Bool.and_eq_true] at this
          cases hx2 : x.2.1 with
          | none => exact .inl rfl
          | some b =>
            right
            intro hb
            rw [hx2, ← hb] at this
            simp at this)
        have h2 : (fun n => (listed.setIfInBounds i true).getD n false) = (fun n => listed.getD n false || n == i) := funext hlt2
        rw [h2, h1]
        exact app_fr_congr (hfr t)
      · have h1 := foldP_put_st (p := fun n => listed.getD n false) (id := id) (zipE 0 ops.toList es) s₀ hmemi hp_i huniq hsorted (fun x hx hlt hlx => by
          have := hgt x hx hlt hlx
          simp only [apartE, Bool.and_eq_true] at this
          cases ht1 : touchesId x.2 id with
          | false => exact .inl rfl
          | true =>
            right
            cases ht2 : touchesId (o.dst, e) id with
            | false => rfl
            | true =>
              have h3 := List.all_eq_true.1 this.2 id (touchesId_ids.1 ht2)
              simp only [Bool.not_eq_true', ← Bool.not_eq_true] at h3
              exact absurd (by simpa using touchesId_ids.1 ht1) h3)
        have h2 : (fun n => (listed.setIfInBounds i true).getD n false) = (fun n => listed.getD n false || n == i) := funext hlt2
        rw [h2, h1]
        exact upAll_congr _ _ _ (hst id)
    have hdn : dstOK s.n o.dst = true := by rw [hn]; exact hd i o ho
    have skip : e = ⟨.tup [], []⟩ → wpAny P .any ops QQ fuel (listed.setIfInBounds i true) (a.put o.dst undef) w := fun hj => by
      subst hj
      exact hnextS F β _ w (hr.put (d := o.dst) (x := .tup []) hdn (.tup (vs := []) rfl (fun j c v h => by simp at h))) hJ (EvoJ.refl _ _ _ _)
    unfold wpOp
    simp only [ho]
    rcases hop i o e hoL hie with ⟨hg, heff⟩ | ⟨j, want, og, d, b, hg, hj, hdj, hb, hcase⟩ | ⟨j, want, og, d, hg, hj, hdj, hb, hcase⟩
    · rw [if_pos (wanted_none _ hg)]
      exact .inl (heff s hle hfresh F β a w hr hJ _ _ hnextS)
    · have hbs : fget s.fr d = .t (.bool b) := by
        rcases hle.fr d with h | h
        · rw [hb] at h; cases h
        · exact h.trans hb
      have hjA : ops[j]? = some og := by rw [← Array.getElem?_toList]; exact hj
      have hval : a.tmps[d]? = some (.bool b) := by
        have hv := hr.fr d
        rw [hbs] at hv
        have hdn' : d < a.tmps.size := by have := hd j og hjA; rw [hdj] at this; rw [hr.size, hn]; simpa [dstOK] using this
        rw [vAt_lt hdn'] at hv
        cases hv with
        | t hv =>
          generalize hx : a.tmps.getD d undef = x at hv
          cases hv
          simpa [Array.getElem?_eq_getElem hdn', hdn'] using hx
      have hyd : yielded ops a.tmps j = some b := by
        unfold yielded
        simp only [hjA, Option.bind_some, hdj, hval]
      have hw : Region.wanted o (yielded ops a.tmps) = (b == want) := by
        unfold Region.wanted
        rw [hg]
        simp only [hyd]
        cases b <;> cases want <;> rfl
      rw [hw]
      rcases hcase with ⟨hbw, heff⟩ | ⟨hbw, hj⟩
      · rw [if_pos (by simpa using hbw)]
        exact .inl (heff s hle hfresh F β a w hr hJ _ _ hnextS)
      · rw [if_neg (by simpa using hbw)]
        exact skip hj
    · have hbs : fget s.fr d = .tup [] := by
        rcases hle.fr d with h | h
        · rw [hb] at h; cases h
        · exact h.trans hb
      have hjA : ops[j]? = some og := by rw [← Array.getElem?_toList]; exact hj
      have hval : a.tmps.getD d undef = undef := by
        have hv := hr.fr d
        rw [hbs] at hv
        rcases Nat.lt_or_ge d a.tmps.size with hlt | hge
        · rw [vAt_lt hlt] at hv
          generalize a.tmps.getD d undef = x at hv
          cases hv with
          | @tup _ vs hl' hva =>
            have : vs = [] := List.length_eq_zero_iff.1 hl'
            subst this; rfl
        · rw [Array.getD_eq_getD_getElem?, Array.getElem?_eq_none hge]; rfl
      have hyd : yielded ops a.tmps j = none := by
        unfold yielded
        simp only [hjA, Option.bind_some, hdj]
        cases hx : a.tmps[d]? with
        | none => rfl
        | some x =>
          have : x = undef := by
            have hlt : d < a.tmps.size := by
              rcases Nat.lt_or_ge d a.tmps.size with h' | h'
              · exact h'
              · rw [Array.getElem?_eq_none h'] at hx; cases hx
            rw [Array.getElem?_eq_getElem hlt] at hx
            cases hx
            simpa [hlt] using hval
          rw [this]; rfl
      have hw : Region.wanted o (yielded ops a.tmps) = false := by
        unfold Region.wanted
        rw [hg]
        simp only [hyd]
        rfl
      rw [hw, if_neg (by decide)]
      exact skip hcase

end
theorem draw_anyX {s : St} {ops : Array Oper} (es : List Ef) (cl : List (List Nat)) (hm : P.follows .mixedOrders = true) (hlen : ops.toList.length = es.length)
    (hcl : clOK 0 ops.toList cl = true) (hap : apartAll cl ((zipE 0 ops.toList es).map fun x => (x.1, x.2.1, idsOf x.2.2)) = true)
    (hd : ∀ (i : Nat) (o : Oper), ops[i]? = some o → dstOK s.n o.dst = true)
    (hop : ∀ (i : Nat) (o : Oper) (e : Ef), ops.toList[i]? = some o → es[i]? = some e → OpAtX P X g ops.toList (dep (zipE 0 ops.toList es) cl s i) o e)
    {F : Nat → Prop} {β : Nat → Option Nat} {a : Act} {w : World} (hr : Rel F β s a w) (hJ : X.J g (Owned β s.st) F w.drew) {QQ : Exit → Act → World → Prop}
    (hQ : ∀ F' β' a' w', Rel F' β' (foldP (fun _ => true) (zipE 0 ops.toList es) s) a' w' → X.J g (Owned β' (foldP (fun _ => true) (zipE 0 ops.toList es) s).st) F' w' → EvoJ X.q F s.st β w.drew F' (foldP (fun _ => true) (zipE 0 ops.toList es) s).st β' w' → QQ .normal a' w') :
    wpAny P .any ops QQ ops.size (Array.replicate ops.size false) a w.drew := by
  have hr' : Rel F β s a w.drew := hr.drew
  refine draw_mainX (s₀ := s) (F₀ := F) (β₀ := β) (w₀ := w.drew) hlen hcl hap hd hop (fun s' F' β' a' w' hr'' hJ'' hev hs => ?_) ops.size (Array.replicate ops.size false) s F β a w.drew (by simp) (fun i o _ h => by rw [rep_false] at h; cases h) ?_ hr' hJ (EvoJ.refl _ _ _ _) rfl ?_ ?_
  · subst hs
    exact hQ F' β' a' w' hr'' hJ'' hev
  · unfold unrun
    exact Nat.le_trans (List.length_filter_le _ _) (by simp)
  · have hfold : ∀ (l : List (Nat × Option Tmp × Ef)) (s : St), foldP (fun n => (Array.replicate ops.size false).getD n false) l s = s := by
      intro l
      induction l with
      | nil => intro s; rfl
      | cons x l ih => intro s; rw [foldP, rep_false, if_neg (by simp)]; exact ih s
    intro t; rw [hfold]
  · have hfold : ∀ (l : List (Nat × Option Tmp × Ef)) (s : St), foldP (fun n => (Array.replicate ops.size false).getD n false) l s = s := by
      intro l
      induction l with
      | nil => intro s; rfl
      | cons x l ih => intro s; rw [foldP, rep_false, if_neg (by simp)]; exact ih s
    intro id; rw [hfold]


def RDX (P : Program) (X : JP γ) (g : γ) (all : List Oper) (tch : Tch) (cl : List (List Nat)) : Nat → List Oper → St → (St → Prop) → Prop
  | _, [], s, K => K s
  | i, o :: l, s, K => ∃ e, (o.dst, idsOf e) = tch.getD i (none, []) ∧ OpAtX P X g all (forget (hid tch cl i) s) o e ∧ RDX P X g all tch cl (i + 1) l (s.app o.dst e) K

theorem RDX.es {all : List Oper} {tch : Tch} {cl : List (List Nat)} {K : St → Prop} : ∀ (l : List Oper) (i : Nat) (s : St), RDX P X g all tch cl i l s K →
    ∃ es : List Ef, l.length = es.length ∧ K (appL s l es) ∧ ∀ (j : Nat) o e, l[j]? = some o → es[j]? = some e → (o.dst, idsOf e) = tch.getD (i + j) (none, []) ∧
      OpAtX P X g all (forget (hid tch cl (i + j)) (appL s (l.take j) (es.take j))) o e
  | [], i, s, h => ⟨[], rfl, h, fun j o e ho => by simp at ho⟩
  | o :: l, i, s, ⟨e, he, hop, h⟩ => by
    obtain ⟨es, hl, hK, hall⟩ := RDX.es l (i + 1) _ h
    refine ⟨e :: es, by simp [hl], hK, fun j o' e' ho' he' => ?_⟩
    cases j with
    | zero =>
      simp at ho' he'; subst ho'; subst he'
      exact ⟨he, hop⟩
    | succ j =>
      obtain ⟨h1, h2⟩ := hall j o' e' (by simpa using ho') (by simpa using he')
      rw [show i + 1 + j = i + (j + 1) from by omega] at h1 h2
      refine ⟨h1, ?_⟩
      rw [List.take_succ_cons, List.take_succ_cons]
      exact h2


theorem EffX.ext {o : Oper} {D D' : St} {e : Ef} (h : EffX P X g o D e) (hn : D'.n = D.n) (hf : ∀ t, fget D'.fr t = fget D.fr t) (hs : ∀ id, sget D'.st id = sget D.st id) : EffX P X g o D' e := by
  intro s hle hfresh F β a w hr hJ next Q hnext
  refine h s ⟨hle.n.trans hn, fun t => ?_, fun id ob hob => hle.st id ob (by rw [hs]; exact hob)⟩ (fun id ob hm hnone => hfresh id ob hm (by rw [hs]; exact hnone)) F β a w hr hJ next Q hnext
  have := hle.fr t
  rwa [hf] at this

theorem OpAtX.ext {all : List Oper} {o : Oper} {D D' : St} {e : Ef} (h : OpAtX P X g all D o e) (hn : D'.n = D.n) (hf : ∀ t, fget D'.fr t = fget D.fr t) (hs : ∀ id, sget D'.st id = sget D.st id) : OpAtX P X g all D' o e := by
  rcases h with ⟨hg, he⟩ | ⟨j, want, og, d, b, hg, hj, hd, hb, hh⟩ | ⟨j, want, og, d, hg, hj, hd, hb, hh⟩
  · exact .inl ⟨hg, he.ext hn hf hs⟩
  · exact .inr (.inl ⟨j, want, og, d, b, hg, hj, hd, by rw [hf]; exact hb, hh.imp (fun h => ⟨h.1, h.2.ext hn hf hs⟩) (fun h => h)⟩)
  · exact .inr (.inr ⟨j, want, og, d, hg, hj, hd, by rw [hf]; exact hb, hh⟩)


theorem rd_anyX {s : St} {K : St → Prop} {ops : Array Oper} (tch : Tch) (cl : List (List Nat)) (hm : P.follows .mixedOrders = true) (hlen : tch.length = ops.toList.length)
    (hcl : clOK 0 ops.toList cl = true) (hap : apartAll cl ((List.range tch.length).map fun j => (j, tch.getD j (none, []))) = true)
    (hd : (ops.toList.all fun o => dstOK s.n o.dst) = true) (h : RDX P X g ops.toList tch cl 0 ops.toList s K) {F : Nat → Prop} {β : Nat → Option Nat} {a : Act} {w : World} (hr : Rel F β s a w) (hJ : X.J g (Owned β s.st) F w.drew) {QQ : Exit → Act → World → Prop}
    (hQ : ∀ s' F' β' a' w', K s' → Rel F' β' s' a' w' → X.J g (Owned β' s'.st) F' w' → EvoJ X.q F s.st β w.drew F' s'.st β' w' → QQ .normal a' w') : wpAny P .any ops QQ ops.size (Array.replicate ops.size false) a w.drew := by
  obtain ⟨es, hl, hK, hall⟩ := h.es
  have hdd : ∀ (i : Nat) (o : Oper), ops[i]? = some o → dstOK s.n o.dst = true := fun i o ho => List.all_eq_true.1 hd o (List.mem_of_getElem? (by rw [Array.getElem?_toList]; exact ho))
  have hL : ∀ x, x ∈ zipE 0 ops.toList es → (x.2.1, idsOf x.2.2) = tch.getD x.1 (none, []) := by
    intro x hx
    obtain ⟨_, o, h1, h2, h3⟩ := zipE_get _ _ _ hl x hx
    rw [Nat.sub_zero] at h1 h2
    have := (hall x.1 o x.2.2 h1 h2).1
    rw [Nat.zero_add] at this
    rw [h3]; exact this
  have hfst : (zipE 0 ops.toList es).map (·.1) = List.range tch.length := by rw [zipE_fst _ _ _ hl, hlen, List.range_eq_range']
  refine draw_anyX es cl hm hl hcl ?_ hdd (fun i o e ho he => ?_) hr hJ (fun F' β' a' w' hr' hJ' hev => hQ _ F' β' a' w' (by rw [foldP_appL]; exact hK) hr' hJ' hev)
  · rw [← hfst] at hap
    rw [List.map_map] at hap
    have : (zipE 0 ops.toList es).map (fun x => (x.1, x.2.1, idsOf x.2.2)) = (zipE 0 ops.toList es).map ((fun j => (j, tch.getD j (none, []))) ∘ fun x => x.1) := by
      apply List.map_congr_left
      intro x hx
      show (x.1, x.2.1, idsOf x.2.2) = (x.1, tch.getD x.1 (none, []))
      rw [← hL x hx]
    rw [this]; exact hap
  · obtain ⟨_, hop⟩ := hall i o e ho he
    rw [Nat.zero_add] at hop
    have hhid : hid tch cl i = ((zipE 0 ops.toList es).filter fun x => x.1 != i && !(cl.getD i []).contains x.1 && !(cl.getD x.1 []).contains i).map fun x => (x.2.1, idsOf x.2.2) := by
      unfold hid
      rw [← hfst, List.filter_map, List.map_map]
      symm
      apply List.map_congr_left
      intro x hx
      exact hL x (List.mem_filter.1 hx).1
    have happ : appL s (ops.toList.take i) (es.take i) = foldP (fun j => decide (j < i)) (zipE 0 ops.toList es) s := by
      have := foldP_take ops.toList es 0 i s hl
      rw [Nat.zero_add] at this
      exact this.symm
    have hclo := clOK_get _ _ hcl
    -- all that is ahead of i and not hidden is among those that surely have run
    have hnot : ∀ x, x ∈ zipE 0 ops.toList es → (cl.getD i []).contains x.1 ≠ decide (x.1 < i) → (x.2.1, idsOf x.2.2) ∈ hid tch cl i := by
      intro x hx hne
      rw [hhid]
      refine List.mem_map.2 ⟨x, List.mem_filter.2 ⟨hx, ?_⟩, rfl⟩
      obtain ⟨_, ox, h1, h2, _⟩ := zipE_get _ _ _ hl x hx
      rw [Nat.sub_zero] at h1
      have hlt : ∀ (j : Nat) oj, ops.toList[j]? = some oj → ∀ q, q ∈ cl.getD j [] → q < j := by
        intro j
        induction j using Nat.strongRecOn with
        | _ j ih =>
          intro oj hoj q hq
          have hj := hclo j oj hoj
          rw [Nat.zero_add] at hj
          obtain ⟨p, hp, hqp⟩ := hj.2 q hq
          have hpj := hj.1 p hp
          rcases hqp with rfl | hqp
          · exact hpj
          · have hpl : p < ops.toList.length := by have := lt_get hoj; omega
            have := ih p hpj _ (List.getElem?_eq_getElem hpl) q hqp
            omega
      by_cases hc : (cl.getD i []).contains x.1 = true
      · have hm : x.1 ∈ cl.getD i [] := by simpa using hc
        have := hlt i o ho _ hm
        rw [hc] at hne
        exact absurd (decide_eq_true this).symm hne
      · have hcf : (cl.getD i []).contains x.1 = false := by simpa using hc
        rw [hcf] at hne
        have hxi : x.1 < i := by
          by_cases h : x.1 < i
          · exact h
          · exact absurd (decide_eq_false h).symm hne
        have hci : (cl.getD x.1 []).contains i = false := by
          cases hcc : (cl.getD x.1 []).contains i with
          | false => rfl
          | true =>
            have hm : i ∈ cl.getD x.1 [] := by simpa using hcc
            have := hlt x.1 ox h1 _ hm
            omega
        simp only [hcf, hci, Bool.not_false, Bool.and_true, bne_iff_ne, ne_eq]
        omega
    refine hop.ext ?_ (fun t => ?_) (fun idd => ?_)
    · rw [dep, forget_n, forget_n, foldP_n, happ, foldP_n]
    · rw [dep, ← hhid, forget_fget, forget_fget, happ]
      by_cases h : ((hid tch cl i).any fun x => x.1 == some t) = true
      · rw [if_pos h, if_pos h]
      · rw [if_neg h, if_neg h]
        refine foldP_fr _ _ _ rfl (fun x hx hne ht => h ?_)
        exact List.any_eq_true.2 ⟨_, hnot x hx hne, by rw [ht]; simp⟩
    · rw [dep, ← hhid, forget_sget, forget_sget, happ]
      by_cases h : ((hid tch cl i).any fun x => x.2.contains idd) = true
      · rw [if_pos h, if_pos h]
      · rw [if_neg h, if_neg h]
        refine foldP_st _ _ _ rfl (fun x hx hne => ?_)
        cases hti : touchesId x.2 idd with
        | false => rfl
        | true =>
          refine absurd (List.any_eq_true.2 ⟨_, hnot x hx hne, ?_⟩) h
          have := touchesId_ids.1 hti
          simpa using this


theorem awj_rdX {ro : Option Nat} {kp : Nat → Bool} {s : St} {Q : Exit → St → γ → Prop} {id : Nat} {ops : Array Oper} (tch : Tch) (cl : List (List Nat)) (hm : P.follows .mixedOrders = true) (hlen : tch.length = ops.toList.length)
    (hcl : clOK 0 ops.toList cl = true) (hap : apartAll cl ((List.range tch.length).map fun j => (j, tch.getD j (none, []))) = true)
    (hd : (ops.toList.all fun o => dstOK s.n o.dst) = true) (h : RDX P X g ops.toList tch cl 0 ops.toList s (fun s' => Q .normal s' g)) (hnd : (ops.toList.all noDefer) = true := by rfl) (hkp : (ops.toList.all (kpOK kp)) = true := by rfl) : AWJ P ro kp X (.region id ops true) s g Q := by
  intro n F β a w hr hJ
  refine wpIn_region_any hm ?_
  refine wpAny_in (Q' := fun e a' w' => e = .normal ∧ ∃ s' F' β', Q .normal s' g ∧ Rel F' β' s' a' w' ∧ X.J g (Owned β' s'.st) F' w' ∧ EvoJ X.q F s.st β w F' s'.st β' w') a hkp hnd (fun _ _ _ h => h.1) ?_ _ _ a w.drew (Keeps.refl _ _)
    (rd_anyX tch cl hm hlen hcl hap hd h hr (JP.evo hJ hr.drew (Evo.refl s.st β w.drew).of_drew) (fun s' F' β' a' w' hk hr' hJ' hev => ⟨rfl, s', F', β', hk, hr', hJ', (EvoJ.of (Evo.refl s.st β w.drew).of_drew).trans hev⟩))
  rintro a' w' ⟨_, s', F', β', hq, hr', hJ', hev⟩ hke
  exact ⟨s', β', g, F', a', hq, hr', rfl, hJ', hev, hke⟩
section
variable {all l : List Oper} {o : Oper} {n i : Nat} {fr : Fra} {st : Sto} {K : St → Prop} {tch : Tch} {cl : List (List Nat)}

theorem RX.nil {s : St} (h : K s) : RDX P X g all tch cl i [] s K := h

theorem RX.op {v : AV} {d : Tmp} (hg : o.guard = none) (hd : o.dst = some d) (ht : tch.getD i (none, []) = (some d, [])) (he : Eff P o (forget (hid tch cl i) ⟨n, fr, st⟩) ⟨v, []⟩)
    (h : RDX P X g all tch cl (i + 1) l ⟨n, (d, v) :: fr, st⟩ K) : RDX P X g all tch cl i (o :: l) ⟨n, fr, st⟩ K :=
  ⟨_, by rw [ht, hd]; rfl, .inl ⟨hg, .of he⟩, by rw [hd]; exact h⟩

theorem RX.new {v : AV} {d : Tmp} {id : Nat} {ob : Ob} (hg : o.guard = none) (hd : o.dst = some d) (ht : tch.getD i (none, []) = (some d, [id])) (he : Eff P o (forget (hid tch cl i) ⟨n, fr, st⟩) ⟨v, [(id, ob)]⟩)
    (h : RDX P X g all tch cl (i + 1) l ⟨n, (d, v) :: fr, (id, some ob) :: st⟩ K) : RDX P X g all tch cl i (o :: l) ⟨n, fr, st⟩ K :=
  ⟨_, by rw [ht, hd]; rfl, .inl ⟨hg, .of he⟩, by rw [hd]; exact h⟩

theorem RX.store {v : AV} {id : Nat} {ob : Ob} (hg : o.guard = none) (hd : o.dst = none) (ht : tch.getD i (none, []) = (none, [id])) (he : Eff P o (forget (hid tch cl i) ⟨n, fr, st⟩) ⟨v, [(id, ob)]⟩)
    (h : RDX P X g all tch cl (i + 1) l ⟨n, fr, (id, some ob) :: st⟩ K) : RDX P X g all tch cl i (o :: l) ⟨n, fr, st⟩ K :=
  ⟨_, by rw [ht, hd]; rfl, .inl ⟨hg, .of he⟩, by rw [hd]; exact h⟩

theorem RX.gop {v : AV} {d gd : Tmp} {j : Nat} {want b : Bool} {og : Oper} (hg : o.guard = some (j, want)) (hd : o.dst = some d) (ht : tch.getD i (none, []) = (some d, [])) (hj : all[j]? = some og) (hgd : og.dst = some gd)
    (hb : fget (forget (hid tch cl i) ⟨n, fr, st⟩).fr gd = .t (.bool b)) (hbw : b = want)
    (he : Eff P o (forget (hid tch cl i) ⟨n, fr, st⟩) ⟨v, []⟩) (h : RDX P X g all tch cl (i + 1) l ⟨n, (d, v) :: fr, st⟩ K) : RDX P X g all tch cl i (o :: l) ⟨n, fr, st⟩ K :=
  ⟨_, by rw [ht, hd]; rfl, .inr (.inl ⟨j, want, og, gd, b, hg, hj, hgd, hb, .inl ⟨hbw, .of he⟩⟩), by rw [hd]; exact h⟩

theorem RX.gskip {d gd : Tmp} {j : Nat} {want b : Bool} {og : Oper} (hg : o.guard = some (j, want)) (hd : o.dst = some d) (ht : tch.getD i (none, []) = (some d, [])) (hj : all[j]? = some og) (hgd : og.dst = some gd)
    (hb : fget (forget (hid tch cl i) ⟨n, fr, st⟩).fr gd = .t (.bool b)) (hbw : b ≠ want)
    (h : RDX P X g all tch cl (i + 1) l ⟨n, (d, .tup []) :: fr, st⟩ K) : RDX P X g all tch cl i (o :: l) ⟨n, fr, st⟩ K :=
  ⟨_, by rw [ht, hd]; rfl, .inr (.inl ⟨j, want, og, gd, b, hg, hj, hgd, hb, .inr ⟨hbw, rfl⟩⟩), by rw [hd]; exact h⟩

theorem RX.x {v : AV} {d : Tmp} (hg : o.guard = none) (hd : o.dst = some d) (ht : tch.getD i (none, []) = (some d, [])) (he : EffX P X g o (forget (hid tch cl i) ⟨n, fr, st⟩) ⟨v, []⟩)
    (h : RDX P X g all tch cl (i + 1) l ⟨n, (d, v) :: fr, st⟩ K) : RDX P X g all tch cl i (o :: l) ⟨n, fr, st⟩ K :=
  ⟨_, by rw [ht, hd]; rfl, .inl ⟨hg, he⟩, by rw [hd]; exact h⟩
end

end Go.Tv

end
section
namespace Go.Tv
set_option linter.unusedVariables false
variable {P : Program}
def JI (F0 : Nat → Prop) (w0 : World) (r : Nat) (Good : Obj → Prop) : JP Unit where
  J := fun _ M C w => ∃ o, Good o ∧ (JR F0 w0).J [(r, o)] M C w
  ds := fun _ => []
  stable := by
    rintro g M C w M' w' ⟨o, ho, h⟩ h1 h2 h3 h4 h5 h6
    exact ⟨o, ho, (JR F0 w0).stable [(r, o)] M C w M' w' h h1 h2 h3 h4 h5 h6⟩
theorem awj_I {F0 : Nat → Prop} {w0 : World} {r : Nat} {Good : Obj → Prop} {o : Obj} {ro : Option Nat} {kp : Nat → Bool} {c : Code} {s : St} {Q : Exit → St → Gh → Prop} (ho : Good o)
    (h : AWJ P ro kp (JI F0 w0 r Good) c s () (fun e s' _ => ∀ o', Good o' → Q e s' [(r, o')])) : AWJ P ro kp (JR F0 w0) c s [(r, o)] Q := by
  intro n F β a w hr hJ
  refine wpIn_mono (h n F β a w hr ⟨o, ho, hJ⟩) ?_
  rintro e a' w' ⟨s', β', g', F', a'', hq, hr', rfl, ⟨o', ho', hj⟩, hev, hke⟩
  exact ⟨s', β', [(r, o')], F', a'', hq o' ho', hr', rfl, hj, hev, hke⟩
theorem shift_nil (a : Act) : shift [] a = a := by cases a; simp [shift]
theorem EffX_callI {F0 : Nat → Prop} {w0 : World} {rb : Nat} {Good : Obj → Prop} {o : Oper} {D : St} {f : FuncId} {x : Operand} {args : Array Operand} {ats : Array TypeId} {xs caps : List Tr} {res : Tr}
    (hret : ∀ ob, Good ob → RetR P f (xs ++ caps) [(rb, ob)] (fun r' g' => r' = res ∧ ∃ o', Good o' ∧ g' = [(rb, o')])) (hf : callOK P f = true) (hd : dstOK D.n o.dst = true)
    (ho : o.op = .call { callee := .value x, args := args, argTypes := ats }) (hx : D.ev x = .t (.fn f caps)) (hargs : args.toList.map D.ev = xs.map .t) :
    EffX P (JI F0 w0 rb Good) () o D ⟨.t res, []⟩ := by
  intro s hs hfresh F β a w hr hJ0 next Q hnext
  obtain ⟨ob, hob, hJ⟩ := hJ0
  have hJ' := hJ
  obtain ⟨j1, j2, j3, j4⟩ := hJ'
  have hxv := hr.evA hs hx
  generalize hxe : a.eval x = xv at hxv
  have hless : ∀ b, ((F0 b ∨ Owned β s.st b) ∨ (gget [(rb, ob)] b).isSome = true) → G F β s.st b := fun b hb => by
    rcases hb with (hb | hb) | hb
    · exact .inl ((j1 b).2 (.inl hb))
    · exact .inr hb
    · exact .inl ((j1 b).2 (.inr hb))
  cases hxv with
  | t hxv =>
    cases hxv with
    | fn f cs vs hl' hcv =>
      have hl : args.size = xs.length := by have := congrArg List.length hargs; simpa using this
      have hva : ∀ (i : Nat) (y : Operand) (t : Tr), args.toList[i]? = some y → xs[i]? = some t → V w (fun b => (F0 b ∨ Owned β s.st b) ∨ (gget [(rb, ob)] b).isSome = true) t (a.eval y) := by
        intro i y t hy ht
        have hz : (args.toList.map D.ev)[i]? = some (D.ev y) := by rw [List.getElem?_map, hy]; rfl
        rw [hargs, List.getElem?_map, ht] at hz
        have h := hr.evA hs (x := y) rfl
        rw [← Option.some.inj hz] at h
        cases h with
        | t h => exact h.less hless
      have hvl : VL w (fun b => (F0 b ∨ Owned β s.st b) ∨ (gget [(rb, ob)] b).isSome = true) (xs ++ caps) (args.toList.map a.eval ++ vs) :=
        args_vl hva hl ⟨hl', fun i y v hy hv => (hcv i y v hy hv).less hless⟩
      have hown : ∀ b, Owned β s.st b → b < w.heap.size ∧ gget [(rb, ob)] b = none := fun b hb => ⟨(hr.owned_cells hb).1, by
        cases hq : gget [(rb, ob)] b with
        | none => rfl
        | some q => exact absurd hb (j3 b q hq).2⟩
      have hcall := hret ob hob (fun b => F0 b ∨ Owned β s.st b) w _ (fun b hb => hb.elim (fun h => ⟨(j2 b h).1, (j2 b h).2.2.2⟩) (hown b)) (fun b q hq => (j3 b q hq).1) hvl
      rw [show (args.toList.map a.eval ++ vs).toArray = args.map a.eval ++ vs.toArray from by apply Array.ext'; simp] at hcall
      unfold Oper.wp
      rw [execCall ho hxe hf w, Oper.upon_enter]
      refine Calls.mono hcall ?_
      rintro e w' ⟨v, r', g1, rfl, ⟨rfl, o', ho', rfl⟩, hv, hholds, hdom, hos, htape, hout, hsz, hkeep⟩
      have hv' : VA w' (G (fun b => F0 b ∨ (gget [(rb, o')] b).isSome = true) β s.st) β s.st (.t r') v := .t (hv.less (fun b hb => by
        rcases hb with (hb | hb) | hb
        · exact .inl (.inl hb)
        · exact .inr hb
        · exact .inl (.inr hb)))
      have key := raw_after (o := o) (K := fun a' w' => next a' w') (by rw [hs.n]; exact hd) hr hJ hv' hos htape hout hsz hkeep hholds hdom
        (fun F' β' a' w' q1 q2 q3 _ => by
          show next (shift [] a') w'
          rw [shift_nil]; exact hnext F' β' a' w' q1 ⟨o', ho', q2⟩ q3)
      have key2 : next (shift [] (a.put o.dst v)) w' := key
      rw [shift_nil] at key2
      exact key2
end Go.Tv

end
section
namespace Go.Tv
open Go.Shelf Go.Proofs
variable {P : Program} {ρ : Ren} {α : Type} [Inhabited α]

/-- What slices.SortFunc makes of a list. -/
def sortA (cf : α → α → Int) (l : List α) : List α := (Sort.pdq (ltOf cf) l.toArray 0 l.length (Lib.bitLen l.length) true true).toList

theorem sortA_perm {cf : α → α → Int} (hO : Sort.SWO (ltOf cf)) (l : List α) : (sortA cf l).Perm l := by
  have h := (Sort.pdq_sorts (ltOf cf) hO l.toArray 0 l.length (Lib.bitLen l.length) true true (Nat.zero_le _) (by simp) (Or.inl rfl)).1
  obtain ⟨hs, _, hp⟩ := h
  have h1 : (Sort.pdq (ltOf cf) l.toArray 0 l.length (Lib.bitLen l.length) true true).size = l.length := by simpa using hs
  unfold sortA
  have e1 : ∀ (a : Array α), a.size = l.length → (a.extract 0 l.length) = a := by
    intro a ha; rw [← ha]; simp
  rw [e1 _ h1, e1 l.toArray (by simp)] at hp
  simpa using hp

theorem sortA_length {cf : α → α → Int} (hO : Sort.SWO (ltOf cf)) (l : List α) : (sortA cf l).length = l.length := (sortA_perm hO l).length_eq

theorem sortA_sorted {cf : α → α → Int} (hO : Sort.SWO (ltOf cf)) (l : List α) : (sortA cf l).Pairwise (fun a b => ¬ cf b a < 0) := by
  have h := (Sort.pdq_sorts (ltOf cf) hO l.toArray 0 l.length (Lib.bitLen l.length) true true (Nat.zero_le _) (by simp) (Or.inl rfl))
  obtain ⟨⟨hs, _, _⟩, hsort⟩ := h
  have h1 : (Sort.pdq (ltOf cf) l.toArray 0 l.length (Lib.bitLen l.length) true true).size = l.length := by simpa using hs
  unfold sortA
  rw [List.pairwise_iff_getElem]
  intro i j hi hj hij
  have hi' : i < l.length := by simpa [h1] using hi
  have hj' : j < l.length := by simpa [h1] using hj
  have := hsort i j (Nat.zero_le _) hij hj'
  have hlt : ∀ x y, ltOf cf x y = false → ¬ cf x y < 0 := fun x y h => by unfold ltOf at h; simpa using h
  rw [getElem!_pos _ i (by omega), getElem!_pos _ j (by omega)] at this
  exact hlt _ _ (by simpa using this)

/-- What the row's cells are. -/
def scs (cells : α → List Sc) (x : α) : List Value := (cells x).map Sc.v

theorem cmpLays_of_ret {cells : α → List Sc} {k : Nat} {cf : α → α → Int} {g : FuncId} (hret : ∀ a b, Ret P g [.agg ((cells a).map Sc.tr), .agg ((cells b).map Sc.tr)] (.int .i64 (cf a b))) (blk off size : Nat) (w : World) :
    CmpLays P g #[] (scs cells) k cf blk off size w := by
  intro m os dk _ x y
  generalize sortWorldK (scs cells) k w blk off m dk os = W
  have hV : VL W (fun _ => False) [.agg ((cells x).map Sc.tr), .agg ((cells y).map Sc.tr)] [packS true (cells x), packS true (cells y)] :=
    vl_cons ((solid_scs _).is _ _) (vl_cons ((solid_scs _).is _ _) vl_nil)
  have h := hret x y (fun _ => False) W _ (fun _ h => h.elim) hV
  refine Calls.mono h ?_
  rintro e w' ⟨v, rfl, hv, hb⟩
  cases hv
  refine ⟨rfl, ?_⟩
  obtain ⟨p, hp⟩ := regrown_of_below hb.toBelow
  refine ⟨w'.drawn - W.drawn, w'.heap.extract W.heap.size w'.heap.size, ?_⟩
  have hd := hb.drawn
  obtain ⟨heap', tape', drawn', os', output'⟩ := w'
  have hdr : drawn' = p.d := congrArg World.drawn hp
  have hbel := hb.toBelow
  have e1 : os' = W.os := hbel.os
  have e2 : tape' = W.tape := hbel.tape
  have e3 : output' = W.output := hbel.output
  have hs : W.heap.size ≤ heap'.size := hbel.size
  have hbk : ∀ k, k < W.heap.size → heap'[k]? = W.heap[k]? := hbel.block
  have hd' : W.drawn ≤ drawn' := hd
  have eh : heap' = W.heap ++ heap'.extract W.heap.size heap'.size := by
    apply Array.ext_getElem?
    intro k
    by_cases hk : k < W.heap.size
    · rw [Array.getElem?_append_left hk]; exact hbk k hk
    · rw [Array.getElem?_append_right (by omega), Array.getElem?_extract]
      by_cases hk2 : k < heap'.size
      · rw [if_pos (by omega)]; congr 1; omega
      · rw [if_neg (by omega), Array.getElem?_eq_none (by omega)]
  subst e1 e2 e3
  have e4 : drawn' = W.drawn + (drawn' - W.drawn) := by omega
  show World.mk heap' W.tape drawn' W.os W.output = World.mk (W.heap ++ heap'.extract W.heap.size heap'.size) W.tape (W.drawn + (drawn' - W.drawn)) W.os W.output
  rw [← eh]
  congr 1

def sortEls (cells : α → List Sc) (l : List α) : List AV := l.map fun x => .t (.agg ((cells x).map Sc.tr))

theorem flatK_get {cells : α → List Sc} {k : Nat} (hk : ∀ x, (cells x).length = k) (d : Array α) {i j : Nat} (hi : i < d.size) (hj : j < k) {x : α} {y : Sc} (hx : d[i]? = some x) (hy : (cells x)[j]? = some y) :
    (Sort.flatK (scs cells) k d)[i * k + j]! = y.v := by
  have hk0 : 0 < k := by omega
  have h1 : i * k + j < d.size * k := by
    have : (i + 1) * k ≤ d.size * k := Nat.mul_le_mul_right k hi
    rw [Nat.add_mul] at this; omega
  rw [Sort.get_flatK _ _ _ _ h1]
  have e1 : (i * k + j) / k = i := by
    rw [Nat.mul_comm, Nat.mul_add_div hk0, Nat.div_eq_of_lt hj]; omega
  have e2 : (i * k + j) % k = j := by
    rw [Nat.mul_comm, Nat.mul_add_mod, Nat.mod_eq_of_lt hj]
  rw [e1, e2, getElem!_pos _ i hi]
  have : d[i] = x := by rw [Array.getElem?_eq_getElem hi] at hx; exact Option.some.inj hx
  rw [this]
  unfold scs
  have h2 : ((cells x).map Sc.v)[j]? = some y.v := by rw [List.getElem?_map, hy]; rfl
  rw [getElem!_def, h2]

/-- A call of slices.SortFunc: the object's elements are sorted in place; what points to it stays good. -/
theorem eff_sortFunc {o : Oper} {D : St} (L : SlLaysF0.n6 P ρ) {cells : α → List Sc} {k : Nat} (hk : ∀ x, (cells x).length = k) (hk0 : 0 < k) {cf : α → α → Int} (hO : Sort.SWO (ltOf cf)) {g : FuncId}
    (hret : ∀ a b, Ret P g [.agg ((cells a).map Sc.tr), .agg ((cells b).map Sc.tr)] (.int .i64 (cf a b))) (hg : callOK P g = true) (hti : tinf P (ρ.t 24) = some (k, true)) {id gen : Nat} {ty : TypeId} (l : List α) (hl : l.length < 4611686018427387904)
    {f : FuncId} {x y z : Operand} {ats : Array TypeId} {n0 : Nat} {els els' : List AV} (hfe : ρ.f 6 = f) (hf : callOK P f = true) (hd : dstOK D.n o.dst = true) (ho : o.op = .call { callee := .value x, args := #[y, z], argTypes := ats })
    (hx : D.ev x = .t (.fn f [])) (hy : D.ev y = .own id gen 0 n0) (hz : D.ev z = .t (.fn g [])) (hs : sget D.st id = some ⟨k, ty, gen, els⟩) (he : els = sortEls cells l) (hn0 : n0 = l.length) (he' : sortEls cells (sortA cf l) = els') :
    Eff P o D ⟨.t (.tup []), [(id, ⟨k, ty, gen, els'⟩)]⟩ := by
  subst hfe he hn0 he'
  intro s hs' _ F β a w hr next Q hnext
  have hst := hs'.st _ _ hs
  have hyv := hr.evA hs' hy
  have hzv : a.eval z = .func (.func g) #[] #[] := (solid_fn g).eq _ _ _ (hr.evT hs' hz)
  have hxv : a.eval x = .func (.func (ρ.f 6)) #[] #[] := (solid_fn _).eq _ _ _ (hr.evT hs' hx)
  have elen : (sortEls cells l).length = l.length := by simp [sortEls]
  have hsl : (sortA cf l).length = l.length := sortA_length hO l
  unfold Oper.wp
  rw [execCall (vs := []) ho (by simpa using hxv) hf w, Oper.upon_enter]
  rw [show (#[y, z].map a.eval ++ ([] : List Value).toArray) = #[a.eval y, a.eval z] from by simp, hzv]
  have hempty : l = [] → ∀ p cap, a.eval y = .slice p 0 cap → Calls P (ρ.f 6) #[a.eval y, .func (.func g) #[] #[]] w (fun e w' => ∃ v, e = .returned v ∧ next (a.put o.dst v) w') := by
    intro hnil p cap hv
    rw [hv]
    refine Calls.mono (AnyF.slices_SortFunc_none L p cap (.func (.func g) #[] #[]) w) ?_
    rintro e w' ⟨rfl, rfl⟩
    refine ⟨_, rfl, ?_⟩
    subst hnil
    have hs0 : sortA cf ([] : List α) = [] := List.length_eq_zero_iff.1 hsl
    rw [hs0] at hnext
    have hid : ∀ m, sget (sput s.st id (some ⟨k, ty, gen, sortEls cells ([] : List α)⟩)) m = sget s.st m := fun m => by
      rw [sget_sput]; split
      · rename_i e; rw [e, hst]
      · rfl
    have hrel : Rel F β { n := s.n, fr := s.fr, st := sput s.st id (some ⟨k, ty, gen, sortEls cells ([] : List α)⟩) } a w' := hr.ext rfl (fun _ => rfl) hid
    exact hnext β _ _ (hrel.put (by show dstOK s.n o.dst = true; rw [hs'.n]; exact hd) (.t (.tup [] [] rfl (fun j c v h => by simp at h)))) ((Evo.refl _ _ _).ext hid)
  have hfin : Calls P (ρ.f 6) #[a.eval y, .func (.func g) #[] #[]] w (fun e w' => ∃ v, e = .returned v ∧ next (a.put o.dst v) w') := by
    generalize hv0 : a.eval y = v0 at hyv
    generalize hn : l.length = n0 at hyv
    rw [hv0] at hempty
    cases hyv with
    | ownNil hs2 hg' hb he2 =>
      exact hempty (List.length_eq_zero_iff.1 hn) _ _ rfl
    | ownZ hs2 hg' hb hl' hlt =>
      exact hempty (List.length_eq_zero_iff.1 hn) _ _ rfl
    | ownE hs2 hg' hb he2 =>
      exact hempty (List.length_eq_zero_iff.1 hn) _ _ rfl
    | stale hs2 hg' h1 => rw [hst] at hs2; cases hs2; exact absurd hg' (Nat.lt_irrefl _)
    | @own _ _ _ _ b cap ob c hs2 hg' hb hl' hcap hh hc =>
      rw [hst] at hs2; cases hs2
      subst hn
      rcases hr.ob id _ hst with ⟨h1, _⟩ | ⟨b2, c2, h1, h2, h3, h4, h5⟩
      · rw [hb] at h1; cases h1
      rw [hb] at h1; cases h1
      rw [hh] at h2; cases h2
      have hbs : b < w.heap.size := lt_of_heap hh
      have hsz : (Sort.flatK (scs cells) k l.toArray).size = l.length * k := by simp
      have hc2 : l.length * k ≤ c.size := by rw [← elen]; exact h3
      have hcell : ∀ j, j < l.length * k → c[j]? = some ((Sort.flatK (scs cells) k l.toArray)[j]!) := by
        intro j hj
        have hk' : j / k < l.length := (Nat.div_lt_iff_lt_mul hk0).2 hj
        have hmod : j % k < k := Nat.mod_lt _ hk0
        have hx : l[j / k]? = some l[j / k] := List.getElem?_eq_getElem hk'
        have hyl : j % k < (cells l[j / k]).length := by rw [hk]; exact hmod
        have hy : (cells l[j / k])[j % k]? = some (cells l[j / k])[j % k] := List.getElem?_eq_getElem hyl
        obtain ⟨_, v, hv, hvv⟩ := h5 (j / k) (.t (.agg ((cells l[j / k]).map Sc.tr))) (j % k) (.t ((cells l[j / k])[j % k]).tr) (by show (sortEls cells l)[j / k]? = _; unfold sortEls; rw [List.getElem?_map, hx]; rfl) (by
          show (((cells l[j / k]).map Sc.tr).map AV.t)[j % k]? = _
          rw [List.getElem?_map, List.getElem?_map, hy]; rfl)
        have hjk : j / k * k + j % k = j := by rw [Nat.mul_comm]; exact Nat.div_add_mod j k
        have hv' : c[j]? = some v := by
          have : (Ob.mk k ty gen (sortEls cells l)).k = k := rfl
          rw [this] at hv; rw [← hjk]; exact hv
        rw [hv']
        have hvs : v = ((cells l[j / k])[j % k]).v := by
          cases hvv with
          | t h => exact (Sc.solid _).eq _ _ _ h
        have := flatK_get hk l.toArray (i := j / k) (j := j % k) (by simpa using hk') hmod (x := l[j / k]) (by simpa using hx) hy
        rw [hjk] at this
        rw [hvs, this]
      have hH : Sort.HoldsK (scs cells) k w b 0 l.toArray := by
        intro j hj
        rw [hsz] at hj
        refine ⟨?_, ?_⟩
        · unfold World.cell?
          simp only [hh, Nat.zero_add]
          have := hcell j hj
          simpa using this
        · unfold World.frozen?
          simp [hh]
      have hrun := AnyQ.slices_SortFunc_eq L k (fun w => run_isAgg' w hti) (fun w => run_sizeOf' w hti) (scs cells) (fun x => by simp [scs, hk]) (fun x v hv => by
          obtain ⟨s, _, rfl⟩ := List.mem_map.1 hv
          cases s <;> rfl) cf hO g #[] b 0 cap l.toArray w (fun args w => run_callFunc hg w args) (cmpLays_of_ret hret b 0 _ w) hH hbs (by simpa using hl)
      have hvals : (#[.slice (some ⟨b, 0 * (Ob.mk k ty gen (sortEls cells l)).k, none⟩) l.length cap, .func (.func g) #[] #[]] : Array Value) = #[.slice (some ⟨b, 0, none⟩) l.toArray.size cap, .func (.func g) #[] #[]] := by simp
      rw [hvals]
      refine Calls.mono hrun ?_
      rintro e w' ⟨rfl, n, os, rfl⟩
      refine ⟨_, rfl, ?_⟩
      have hpdq : Sort.pdq (ltOf cf) l.toArray 0 l.toArray.size (Lib.bitLen l.toArray.size) true true = (sortA cf l).toArray := by
        unfold sortA; simp
      rw [hpdq]
      -- the cells behind
      have hpsz : (Sort.putCells _root_.id 0 (Sort.flatK (scs cells) k (sortA cf l).toArray) c).size = c.size := by simp [Sort.putCells]
      have hpc : ∀ (i j : Nat) (x : α) (y : Sc), (sortA cf l)[i]? = some x → (cells x)[j]? = some y → (Sort.putCells _root_.id 0 (Sort.flatK (scs cells) k (sortA cf l).toArray) c)[i * k + j]? = some y.v := by
        intro i j x y hx hy
        have hi : i < (sortA cf l).length := (List.getElem?_eq_some_iff.1 hx).1
        have hj : j < k := by have := (List.getElem?_eq_some_iff.1 hy).1; rw [hk] at this; exact this
        have h6 : i * k + j < l.length * k := by
          have : (i + 1) * k ≤ l.length * k := Nat.mul_le_mul_right k (by omega)
          rw [Nat.add_mul] at this; omega
        have h7 : i * k + j < c.size := by omega
        unfold Sort.putCells
        rw [Array.getElem?_mapIdx, Array.getElem?_eq_getElem h7]
        simp only [Option.map_some, Nat.zero_le, true_and, Nat.zero_add, Nat.sub_zero, Sort.size_flatK, List.size_toArray, _root_.id]
        rw [if_pos (by rw [hsl]; exact h6)]
        have := flatK_get hk (sortA cf l).toArray (i := i) (j := j) (by simpa using hi) hj (x := x) (by simpa using hx) hy
        rw [this]
      obtain ⟨hrel, hev, _⟩ := hr.upd (g' := gen) (els' := sortEls cells (sortA cf l)) (c' := Sort.putCells _root_.id 0 (Sort.flatK (scs cells) k (sortA cf l).toArray) c) hst hb hh hpsz (.inl ⟨rfl, by simp [sortEls, hsl]⟩) (by show (sortEls cells (sortA cf l)).length * k ≤ _; unfold sortEls; rw [List.length_map, hsl]; exact hc2)
        (fun i x hx => by
          unfold sortEls at hx
          rw [List.getElem?_map] at hx
          obtain ⟨z, _, rfl⟩ := Option.map_eq_some_iff.1 hx
          exact ⟨rfl, by show (((cells z).map Sc.tr).map AV.t).length = k; simp [hk]⟩)
        (fun i x j y hx hy => by
          unfold sortEls at hx
          rw [List.getElem?_map] at hx
          obtain ⟨z, hz, rfl⟩ := Option.map_eq_some_iff.1 hx
          change (((cells z).map Sc.tr).map AV.t)[j]? = some y at hy
          rw [List.getElem?_map, List.getElem?_map] at hy
          obtain ⟨u, hu, rfl⟩ := Option.map_eq_some_iff.1 hy
          obtain ⟨s, hs, rfl⟩ := Option.map_eq_some_iff.1 hu
          exact ⟨by cases s <;> rfl, s.v, hpc i j z s hz hs, .t (s.solid.is _ _)⟩)
      have hbel : BelowD (setB w b (.cells (Sort.putCells _root_.id 0 (Sort.flatK (scs cells) k (sortA cf l).toArray) c) ty (0, 0))).heap.size (setB w b (.cells (Sort.putCells _root_.id 0 (Sort.flatK (scs cells) k (sortA cf l).toArray) c) ty (0, 0))) (sortWorldK (scs cells) k w b 0 n (sortA cf l).toArray os) := by
        refine ⟨⟨rfl, rfl, rfl, ?_, fun i hi => ?_⟩, Nat.le_add_right _ _⟩
        · rw [setB_size]
          show _ ≤ ((w.heap.modify b _) ++ os).size
          simp
        · rw [setB_size] at hi
          show ((w.heap.modify b _) ++ os)[i]? = (w.heap.setIfInBounds b _)[i]?
          rw [Array.getElem?_append_left (by simpa using hi), Array.getElem?_modify]
          by_cases e : b = i
          · subst e
            rw [if_pos rfl, hh, Array.getElem?_setIfInBounds_self_of_lt hbs]
            rfl
          · rw [if_neg e, Array.getElem?_setIfInBounds_ne e]
      obtain ⟨hrel2, hev2, _⟩ := hrel.below hbel
      exact hnext β _ _ (hrel2.put (by show dstOK s.n o.dst = true; rw [hs'.n]; exact hd) (.t (.tup [] [] rfl (fun j c v h => by simp at h)))) (hev.trans hev2)
  exact Calls.mono hfin (fun e w' ⟨v, h1, h2⟩ => by subst h1; exact h2)
end Go.Tv

end
section
namespace Go.Tv
set_option linter.unusedVariables false
variable {P : Program} {o : Oper} {D : St} {F0 : Nat → Prop} {w0 : World}

theorem effJ_callRC {f : FuncId} {x : Operand} {args : Array Operand} {ats : Array TypeId} {xs caps : List Tr} {g : Gh} {S : Tr → Gh → Prop} (hret : RetR P f (xs ++ caps) g S) (hf : callOK P f = true)
    (hd : dstOK D.n o.dst = true) (ho : o.op = .call { callee := .value x, args := args, argTypes := ats }) (hx : D.ev x = .t (.fn f caps)) (hargs : args.toList.map D.ev = xs.map .t) :
    EffJ P none (JR F0 w0) o D g (fun e g' => ∃ r, e = ⟨.t r, []⟩ ∧ S r g') := by
  intro n F β a w hr hJ K Q hK
  have hJ' := hJ
  obtain ⟨j1, j2, j3, j4⟩ := hJ'
  have hnd : ∀ c, o.op ≠ .defer c := fun c h => by rw [ho] at h; cases h
  have hless : ∀ b, ((F0 b ∨ Owned β D.st b) ∨ (gget g b).isSome = true) → G F β D.st b := fun b hb => by
    rcases hb with (hb | hb) | hb
    · exact .inl ((j1 b).2 (.inl hb))
    · exact .inr hb
    · exact .inl ((j1 b).2 (.inr hb))
  have hxv := hr.ev x
  rw [hx] at hxv
  generalize hxe : a.eval x = xv at hxv
  cases hxv with
  | t hxv =>
    cases hxv with
    | fn f cs vs hl' hcv =>
      have hl : args.size = xs.length := by have := congrArg List.length hargs; simpa using this
      have hva : ∀ (i : Nat) (y : Operand) (t : Tr), args.toList[i]? = some y → xs[i]? = some t → V w (fun b => (F0 b ∨ Owned β D.st b) ∨ (gget g b).isSome = true) t (a.eval y) := by
        intro i y t hy ht
        have hz : (args.toList.map D.ev)[i]? = some (D.ev y) := by rw [List.getElem?_map, hy]; rfl
        rw [hargs, List.getElem?_map, ht] at hz
        have h := hr.ev y
        rw [← Option.some.inj hz] at h
        cases h with
        | t h => exact h.less hless
      have hvl : VL w (fun b => (F0 b ∨ Owned β D.st b) ∨ (gget g b).isSome = true) (xs ++ caps) (args.toList.map a.eval ++ vs) :=
        args_vl hva hl ⟨hl', fun i y v hy hv => (hcv i y v hy hv).less hless⟩
      have hown : ∀ b, Owned β D.st b → b < w.heap.size ∧ gget g b = none := fun b hb => ⟨(hr.owned_cells hb).1, by
        cases hq : gget g b with
        | none => rfl
        | some q => exact absurd hb (j3 b q hq).2⟩
      have hcall := hret (fun b => F0 b ∨ Owned β D.st b) w _ (fun b hb => hb.elim (fun h => ⟨(j2 b h).1, (j2 b h).2.2.2⟩) (hown b)) (fun b q hq => (j3 b q hq).1) hvl
      rw [show (args.toList.map a.eval ++ vs).toArray = args.map a.eval ++ vs.toArray from by apply Array.ext'; simp] at hcall
      refine ⟨fun f _ => trivial, ?_⟩
      have hround0 : (FW none).round = none := rfl
      rw [hround0, Oper.semAt_eq _ _ _ hnd]
      have he : (shift ((JR F0 w0).ds g) a).eval = a.eval := rfl
      rw [he, execCall ho hxe hf w]
      refine ⟨fun h => (by rw [FW.nodepth] at h; cases h), callsFW (Calls.mono hcall ?_)⟩
      rintro e w' ⟨v, r, g1, rfl, hS, hv, hholds, hdom, hos, htape, hout, hsz, hkeep⟩
      show K _ _
      rw [shift_put]
      refine raw_after hd hr hJ (.t ?_) hos htape hout hsz hkeep hholds hdom (hK _ _ ⟨r, rfl, hS⟩)
      refine hv.less (fun b hb => ?_)
      rcases hb with (hb | hb) | hb
      · exact .inl (.inl hb)
      · exact .inr hb
      · exact .inl (.inr hb)

theorem ObOK.less {w : World} {H H' : Nat → Prop} {β : Nat → Option Nat} {σ : Sto} {id : Nat} {ob : Ob} (hH : ∀ b, H' b → H b) (h : ObOK w H β σ id ob) : ObOK w H' β σ id ob := by
  rcases h with h | ⟨b, c, h1, h2, h3, h4, h5⟩
  · exact .inl h
  · exact .inr ⟨b, c, h1, h2, h3, h4, fun i x j y hx hy => by
      obtain ⟨q1, v, q2, q3⟩ := h5 i x j y hx hy
      exact ⟨q1, v, q2, q3.same hH (fun _ => rfl)⟩⟩

/-- A contract that yields new objects, out of a body that ranges over functions. -/
theorem retG_of_awjC {f : FuncId} {fn : Func} {c : Code} {σ1 : Sto} {xs : List Tr} {r : AV} (hf : P.funcs[f]? = some fn) (hb : fn.body = some c) (hn : xs.length ≤ fn.ntmps)
    (h : ∀ F0 w0, AWJ P none (fun _ => false) (JC F0 w0) c ⟨fn.ntmps, initFr 0 xs, []⟩ [] (fun e s _ => (e = .normal ∨ e = .ret) ∧ ∃ rs rs', RVarsA P s fn.results.toList rs ∧ rs'.length = rs.length ∧
      Weak ⟨rs.length, initFrA 0 rs, s.st⟩ ⟨rs.length, initFrA 0 rs', σ1⟩ ∧ packA rs' = r)) : RetG P f [] (xs.map .t) σ1 r := by
  intro F β w vals hm hl hV
  refine (callsIn_wide (n := 0)).1 (callsIn_of_wp_marks (F := Fence.wide) hf hb trivial ?_)
  have hlt : ∀ b, F b → b < w.heap.size := hm.ltF
  have hVL : VL w F xs vals := ⟨by simpa using hl, fun i x v hx hv => by
    have h := hV i (.t x) v (by rw [List.getElem?_map, hx]; rfl) hv
    cases h with
    | t h => exact h.less (fun b hb => .inl hb)⟩
  have h0 := ofVL (n := fn.ntmps) hlt hVL hn
  have hJ0 : (JC F w).J [] (Owned (fun _ => none) ([] : Sto)) F w := jc_start (fun b hb => ⟨hlt b hb, not_owned_nil⟩)
  refine wpIn_mono (h F w 0 F _ _ w h0 hJ0) ?_
  rintro e a' w' ⟨s', β', Ds, F', a'', ⟨he, rs, rs', hrs, hlen, hweak, hpk⟩, hr', rfl, ⟨j1, j2, j3, j4, j5⟩, hev, _⟩
  have hds : (shift ((JC F w).ds Ds) a'').defers = Ds.map mark := by simp [shift, hr'.defers, JC]
  have main : LeavesInM Fence.wide 0 P fn (shift ((JC F w).ds Ds) a'').tmps (fun e w'' => ∃ v β', e = .returned v ∧ VA w'' (G F β' σ1) β' σ1 r v ∧ Mem F β' σ1 w'' ∧ Evo [] β w σ1 β' w'') (shift ((JC F w).ds Ds) a'').defers .returning w' := by
    rw [hds]
    refine leaves_marks Ds w' j4 (fun D hD => (j3 D hD).2.2.2) (fun w'' h1 h2 h3 h4 h5 => ?_)
    have hk : ∀ (b : Nat) q, dataObj q = true → w'.heap[b]? = some q → w''.heap[b]? = w'.heap[b]? := fun b q hq hb => h5 b (fun hD => by have := (j3 b hD).2.2.2; rw [hb] at this; cases this; cases hq)
    have hr2 := hr'.others (w' := w'') (by rw [h1]; exact Nat.le_refl _) hk
    obtain ⟨vs, hvs, hvl, hvV⟩ := RVarsA.run hr2 _ _ hrs
    have hrel1 : Rel F' β' ⟨rs.length, initFrA 0 rs, s'.st⟩ { tmps := vs.toArray, defers := [] } w'' := by
      refine ⟨rfl, by simp [hvl], fun i => ?_, hr2.ob, hr2.inj, hr2.notF, hr2.ltF⟩
      show VA w'' _ _ _ (fget (initFrA 0 rs) i) _
      rw [initFrA_get, if_pos (Nat.zero_le _), Nat.sub_zero]
      cases hx : rs[i]? with
      | none => exact .junk _
      | some x =>
        have hi : i < vs.length := by rw [hvl]; exact lt_get hx
        rw [vAt_lt (by simpa using hi), show (vs.toArray).getD i undef = vs[i] from by simp [hi]]
        exact hvV i x vs[i] hx (List.getElem?_eq_getElem hi)
    obtain ⟨β2, hrel2, hown⟩ := hweak F' β' _ w'' hrel1
    have hFF : ∀ b, F b → F' b := fun b hb => (j1 b).2 (.inl hb)
    have hGG : ∀ b, G F β2 σ1 b → G F' β2 σ1 b := fun b hb => hb.imp (hFF b) id
    have hget : ∀ (i : Nat) (x : AV) (v : Value), rs'[i]? = some x → vs[i]? = some v → VA w'' (G F β2 σ1) β2 σ1 x v := by
      intro i x v hx hv
      have := hrel2.fr i
      rw [show fget (St.mk rs.length (initFrA 0 rs') σ1).fr i = fget (initFrA 0 rs') i from rfl, initFrA_get, if_pos (Nat.zero_le _), Nat.sub_zero, hx] at this
      rw [vAt_lt (by simpa using lt_get hv), show (vs.toArray).getD i undef = v from by
        have hi := lt_get hv
        rw [List.getElem?_eq_getElem hi] at hv
        cases hv
        simp [hi]] at this
      exact this.same hGG (fun _ => rfl)
    have hres : ∃ v, (results fn a''.tmps).run P w'' = .ok v w'' ∧ VA w'' (G F β2 σ1) β2 σ1 r v := by
      have hmm : (fn.results.mapM (resOf a''.tmps)).run P w'' = .ok vs.toArray w'' := by
        rw [Array.mapM_eq_mapM_toList, Sem.run_map, hvs]; rfl
      refine ⟨if h : vs.toArray.size = 1 then vs.toArray[0] else .tuple vs.toArray, ?_, ?_⟩
      · rw [results_eq, Sem.run_bind, hmm]; rfl
      · rw [← hpk]
        have hl2 : vs.length = rs'.length := by omega
        match rs', vs, hl2, hget with
        | [x], [v], _, hget => exact hget 0 x v rfl rfl
        | [], [], _, hget => exact .tup rfl hget
        | x :: y :: l, u :: v :: m, hl2, hget => exact .tup hl2 hget
    obtain ⟨v, hv, hVv⟩ := hres
    have hold : ∀ b, b < w.heap.size → w''.heap[b]? = w.heap[b]? := fun b hb => by
      have hbD : b ∉ Ds := fun hD => by have := (j3 b hD).2.2.1; omega
      rw [h5 b hbD]
      by_cases hF : F b
      · exact (j2 b hF).2.1
      · exact hev.keep b hb hF not_owned_nil
    refine ⟨v, hv, v, β2, rfl, hVv, ⟨fun id ob hs => (hrel2.ob id ob hs).less hGG, hrel2.inj, fun i oi b hi hb hF => hrel2.notF i oi b hi hb (hFF b hF), fun b hb => by rw [h1]; exact Nat.lt_of_lt_of_le (hlt b hb) hev.size⟩, ?_⟩
    exact ⟨h2.trans hev.os, h3.trans hev.tape, h4.trans hev.output, by rw [h1]; exact hev.size, fun b hb _ => hold b hb, fun b hb => .inl ((hev.own b (hown b hb)).elim id (fun h => absurd h not_owned_nil)), fun b c ty hc => ⟨c, (hold b (lt_of_heap hc)).trans hc, rfl⟩⟩
  rcases he with rfl | rfl <;> exact main

theorem RetR.ext {f : FuncId} {xs : List Tr} {g0 g0' : Gh} {S : Tr → Gh → Prop} (h : RetR P f xs g0 S) (e : ∀ b, gget g0' b = gget g0 b) : RetR P f xs g0' S := by
  unfold RetR
  simp only [e]
  exact h

section
variable {all l : List Oper} {n : Nat} {fr : Fra} {st : Sto} {g : Gh} {K' : St → Gh → Prop}
theorem RJ.rCall {f : FuncId} {x : Operand} {args : Array Operand} {ats : Array TypeId} {xs caps : List Tr} {S : Tr → Gh → Prop} {d : Tmp} (hret : RetR P f (xs ++ caps) g S) (hf : callOK P f = true)
    (hg : o.guard = none) (hd : o.dst = some d) (hdn : dstOK n (some d) = true) (ho : o.op = .call { callee := .value x, args := args, argTypes := ats }) (hx : (St.mk n fr st).ev x = .t (.fn f caps)) (hargs : args.toList.map (St.mk n fr st).ev = xs.map .t)
    (h : ∀ r g', S r g' → RJ P none (JR F0 w0) all l ⟨n, (d, .t r) :: fr, st⟩ g' K') : RJ P none (JR F0 w0) all (o :: l) ⟨n, fr, st⟩ g K' :=
  RJ.many (.inl hg) (effJ_callRC hret hf (by rw [hd]; exact hdn) ho hx hargs) (by
    rintro e g' ⟨r, rfl, hS⟩
    rw [hd]
    exact h r g' hS)
end
end Go.Tv

end
section
namespace Go.Tv
variable {P : Program} {o : Oper} {D : St}
theorem FlatA.toE {σ : Sto} {ren : Nat → Nat} {x y : AV} (hf : FlatA x) (hr : RenA σ ren x y) {w : World} {H H' : Nat → Prop} {β β' : Nat → Option Nat} {σ' : Sto}
    (hs : ∀ id ob, sget σ id = some ob → sget σ' (ren id) = some ob ∧ β' (ren id) = β id) :
    ∀ {v : Value}, VA w H β σ x v → VA w H' β' σ' y v := by
  induction hf generalizing y with
  | t x h =>
    cases hr with
    | t => intro v hv; cases hv with | t hv => exact .t (flat_v h hv)
  | own id g off len =>
    cases hr with
    | own _ _ _ _ h hn =>
      subst hn
      intro v hv
      cases hv with
      | own g1 g2 g3 g4 g5 g6 g7 => exact .own (hs _ _ g1).1 g2 ((hs _ _ g1).2.trans g3) g4 g5 g6 g7
      | ownNil g1 g2 g3 g4 => exact .ownNil (hs _ _ g1).1 g2 ((hs _ _ g1).2.trans g3) g4
      | ownZ g1 g2 g3 g4 g5 => exact .ownZ (hs _ _ g1).1 g2 ((hs _ _ g1).2.trans g3) g4 g5
      | ownE g1 g2 g3 g4 => exact .ownE (hs _ _ g1).1 g2 ((hs _ _ g1).2.trans g3) g4
      | stale g1 g2 g3 => exact .stale (hs _ _ g1).1 g2 g3
  | tup cs h ih =>
    cases hr with
    | tup _ ds hl hcd =>
      intro v hv
      cases hv with
      | @tup _ vs hl' hva =>
        refine .tup (by omega) (fun j d u hd hu => ?_)
        have hc : cs[j]? = some (cs[j]'(by rw [hl]; exact lt_get hd)) := List.getElem?_eq_getElem _
        exact ih _ (List.mem_of_getElem? hc) (hcd j _ d hc hd) (hva j _ u hc hu)

/-- A call that is lent owned objects to read, and yields new ones of flat elements. -/
theorem eff_callGBE {f : FuncId} {x : Operand} {args : Array Operand} {ats : Array TypeId} {σ1 : Sto} {ys : List Tr} {r r' : AV} (hret : RetG P f [] (ys.map .t) σ1 r) (hf : callOK P f = true) (ren : Nat → Nat)
    (hd : dstOK D.n o.dst = true) (ho : o.op = .call { callee := .value x, args := args, argTypes := ats }) (hx : D.ev x = .t (.fn f []))
    (hargs : ResP D.st (args.toList.map D.ev) ys) (hfl : FlatA r) (hr' : RenA σ1 ren r r') (hkeys : keysOK ren σ1 = true)
    (h1 : AllS (fun id ob => flatEls ob ∧ (sget D.st (ren id)).isNone = true) σ1) :
    Eff P o D ⟨r', upsOf ren σ1⟩ := by
  intro s hs hfresh F β a w hrel next Q hnext
  have memUps : ∀ (σ : Sto) id ob, (id, some ob) ∈ σ → (ren id, ob) ∈ upsOf ren σ := by
    intro σ
    induction σ with
    | nil => intro id ob h; simp at h
    | cons y l ih =>
      intro id ob h
      obtain ⟨i, q⟩ := y
      simp only [List.mem_cons] at h
      rcases h with h | h
      · cases h; exact List.mem_cons_self
      · cases q with
        | none => exact ih id ob h
        | some q => exact List.mem_cons_of_mem _ (ih id ob h)
  have k1 : ∀ id ob, sget σ1 id = some ob → flatEls ob ∧ sget s.st (ren id) = none := fun id ob h => by
    obtain ⟨q1, q3⟩ := h1.get id ob h
    exact ⟨q1, hfresh (ren id) ob (memUps _ _ _ (sget_mem h)) (Option.isNone_iff_eq_none.1 q3)⟩
  have hno : ∀ (β : Nat → Option Nat) b, ¬ Owned β [] b := fun β b ⟨id, ob, ho, _⟩ => by simp [sget] at ho
  let β0 : Nat → Option Nat := fun _ => none
  have hmem0 : Mem F β0 [] w := ⟨fun id ob h => by simp [sget] at h, fun i j oi oj b h => by simp [sget] at h, fun i oi b h => by simp [sget] at h, hrel.ltF⟩
  have hlen : args.toList.length = ys.length := by rw [hargs.len]; simp
  have hxv := hrel.evT hs hx
  generalize hxe : a.eval x = xv at hxv
  cases hxv with
  | fn f cs vs hl' hcv =>
    have hvs : vs = [] := List.length_eq_zero_iff.1 hl'
    subst hvs
    have hvals : ∀ (i : Nat) (y : AV) (v : Value), (ys.map AV.t)[i]? = some y → (args.toList.map a.eval)[i]? = some v → VA w (G F β0 []) β0 [] y v := by
      intro i y v hy hv
      rw [List.getElem?_map, Option.map_eq_some_iff] at hv hy
      obtain ⟨op, hop, rfl⟩ := hv
      obtain ⟨t, ht, rfl⟩ := hy
      have hz : (args.toList.map D.ev)[i]? = some (D.ev op) := by rw [List.getElem?_map, hop]; rfl
      have hres := hargs.get _ _ i _ t hz ht
      have := hrel.res (hres.mono hs.st) (hrel.evA hs rfl)
      exact .t (this.same (fun b hb => hb.elim (fun h => h) (fun h => absurd h (hno _ b))))
    have := hret F β0 w (args.toList.map a.eval) hmem0 (by simpa using hlen) hvals
    unfold Oper.wp
    rw [execCall ho hxe hf w, Oper.upon_enter]
    rw [show (args.toList.map a.eval).toArray = args.map a.eval ++ ([] : List Value).toArray from by apply Array.ext'; simp] at this
    refine Calls.mono this ?_
    rintro e w' ⟨v, β1, rfl, hva, hm1, hev⟩
    have hbel : BelowD w.heap.size w w' := ⟨⟨hev.os, hev.tape.1, hev.output, hev.size, fun b hb => hev.keep b hb (hno _ b)⟩, hev.tape.2⟩
    obtain ⟨hrelw, hevw, _⟩ := hrel.below hbel
    have hnew : ∀ b, Owned β1 σ1 b → w.heap.size ≤ b := fun b hb => (hev.own b hb).resolve_right (hno _ b)
    let β2 : Nat → Option Nat := fun n => match σ1.find? (fun y => Nat.beq (ren y.1) n) with
      | some y => β1 y.1
      | none => β n
    have hβhit : ∀ id ob, sget σ1 id = some ob → β2 (ren id) = β1 id := by
      intro id ob h
      show (match σ1.find? (fun y => Nat.beq (ren y.1) (ren id)) with | some y => β1 y.1 | none => β (ren id)) = β1 id
      cases hfd : σ1.find? (fun y => Nat.beq (ren y.1) (ren id)) with
      | none =>
        have := List.find?_eq_none.1 hfd _ (sget_mem h)
        simp at this
      | some y =>
        have hy := List.find?_some hfd
        have hm := List.mem_of_find?_eq_some hfd
        have := keys_inj hkeys _ _ hm (sget_mem h) (Nat.eq_of_beq_eq_true hy)
        rw [this]
    have memSome : ∀ (σ : Sto), keysOK ren σ = true → ∀ y, y ∈ σ → ∃ ob, sget σ y.1 = some ob := by
      intro σ
      induction σ with
      | nil => intro _ y h; simp at h
      | cons z l ih =>
        intro hk y h
        obtain ⟨q1, q2, q3⟩ := keys_head hk
        rw [show z :: l = sput l z.1 z.2 from rfl, sget_sput]
        by_cases e : y.1 = z.1
        · rw [if_pos e]; exact Option.isSome_iff_exists.1 q1
        · rw [if_neg e]
          simp only [List.mem_cons] at h
          rcases h with rfl | h
          · exact absurd rfl e
          · exact ih q3 y h
    have missOf : ∀ n, (∀ id ob, sget σ1 id = some ob → ren id ≠ n) → ∀ y, y ∈ σ1 → ren y.1 ≠ n := fun n h y hy => by
      obtain ⟨ob, hob⟩ := memSome σ1 hkeys y hy
      exact h _ _ hob
    have hβmiss : ∀ n, (∀ id ob, sget σ1 id = some ob → ren id ≠ n) → β2 n = β n := by
      intro n h
      show (match σ1.find? (fun y => Nat.beq (ren y.1) n) with | some y => β1 y.1 | none => β n) = β n
      rw [List.find?_eq_none.2 (fun y hy he => missOf n h y hy (Nat.eq_of_beq_eq_true he))]
    let σ2 : Sto := upAll s.st (upsOf ren σ1)
    have hσhit : ∀ id ob, sget σ1 id = some ob → sget σ2 (ren id) = some ob := fun id ob h => (upAll_ups hkeys s.st (ren id)).1 id ob (sget_mem h) rfl
    have hσmiss : ∀ n, (∀ id ob, sget σ1 id = some ob → ren id ≠ n) → sget σ2 n = sget s.st n := fun n h => (upAll_ups hkeys s.st n).2 (missOf n h)
    have hcase : ∀ n, (∃ id ob, sget σ1 id = some ob ∧ ren id = n) ∨ (∀ id ob, sget σ1 id = some ob → ren id ≠ n) := fun n => by
      by_cases h : ∃ id ob, sget σ1 id = some ob ∧ ren id = n
      · exact .inl h
      · exact .inr fun id ob h1 h2 => h ⟨id, ob, h1, h2⟩
    have hmissOf : ∀ n ob, sget s.st n = some ob → ∀ id ob1, sget σ1 id = some ob1 → ren id ≠ n := by
      rintro n ob hn id ob1 hid rfl
      rw [(k1 id ob1 hid).2] at hn; cases hn
    have hG2 : ∀ b, G F β2 σ2 b → G F β s.st b ∨ Owned β1 σ1 b := by
      rintro b (h | ⟨n, ob, hn, hb⟩)
      · exact .inl (.inl h)
      · rcases hcase n with ⟨id, ob1, hid, rfl⟩ | hmiss
        · exact .inr ⟨id, ob1, hid, by rw [← hβhit id ob1 hid]; exact hb⟩
        · rw [hσmiss n hmiss] at hn
          rw [hβmiss n hmiss] at hb
          exact .inl (.inr ⟨n, ob, hn, hb⟩)
    have hturn : Turns w w' β β2 s.st σ2 := fun n ob hn => by
      have hmiss := hmissOf n ob hn
      refine ⟨ob, by rw [hσmiss n hmiss]; exact hn, .inr ⟨rfl, rfl, rfl, rfl, hβmiss n hmiss, fun b c hb hc => ⟨c, ?_, rfl⟩⟩⟩
      rw [hbel.block b (lt_of_heap hc)]; exact hc
    have hmono : ∀ {y : AV} {v : Value}, VA w (G F β s.st) β s.st y v → VA w' (G F β2 σ2) β2 σ2 y v := fun hv =>
      VA.mono hev.size (fun b hb hn => ⟨fun h => (hG2 b h).elim hn (fun h => by have := hnew b h; omega), hbel.block b hb⟩) hturn hv
    have hrel2 : Rel F β2 ⟨s.n, s.fr, σ2⟩ a w' := by
      refine ⟨hrel.defers, hrel.size, fun i => hmono (hrel.fr i), fun n ob hn => ?_, fun i j oi oj b hi hj hbi hbj => ?_, fun i oi b hi hb => ?_, fun b hb => Nat.lt_of_lt_of_le (hrel.ltF b hb) hev.size⟩
      · change sget σ2 n = some ob at hn
        rcases hcase n with ⟨id, ob1, hid, rfl⟩ | hmiss
        · rw [hσhit id ob1 hid] at hn; cases hn
          exact flat_ob (k1 id _ hid).1 (hβhit id _ hid) (hm1.ob id _ hid)
        · rw [hσmiss n hmiss] at hn
          rcases hrel.ob n ob hn with ⟨q1, q2⟩ | ⟨b, c, q1, q2, q3, q4, q5⟩
          · exact .inl ⟨(hβmiss n hmiss).trans q1, q2⟩
          · refine .inr ⟨b, c, (hβmiss n hmiss).trans q1, by rw [hbel.block b (lt_of_heap q2)]; exact q2, q3, q4, fun i x j y hx hy => ?_⟩
            obtain ⟨g1, u, hu, hva⟩ := q5 i x j y hx hy
            exact ⟨g1, u, hu, hmono hva⟩
      · change sget σ2 i = some oi at hi
        change sget σ2 j = some oj at hj
        have old : ∀ n q, sget s.st n = some q → β n = some b → b < w.heap.size := fun n q h1 h2 => hrel.ltG b (.inr ⟨n, q, h1, h2⟩)
        rcases hcase i with ⟨id, ob1, hid, rfl⟩ | hmi <;> rcases hcase j with ⟨jd, ob2, hjd, rfl⟩ | hmj
        · rw [hβhit id ob1 hid] at hbi
          rw [hβhit jd ob2 hjd] at hbj
          rw [hm1.inj id jd ob1 ob2 b hid hjd hbi hbj]
        · rw [hβhit id ob1 hid] at hbi
          rw [hσmiss j hmj] at hj
          rw [hβmiss j hmj] at hbj
          have h1 := old j oj hj hbj
          have h2 := hnew b ⟨id, ob1, hid, hbi⟩
          omega
        · rw [hβhit jd ob2 hjd] at hbj
          rw [hσmiss i hmi] at hi
          rw [hβmiss i hmi] at hbi
          have h1 := old i oi hi hbi
          have h2 := hnew b ⟨jd, ob2, hjd, hbj⟩
          omega
        · rw [hσmiss i hmi] at hi
          rw [hσmiss j hmj] at hj
          rw [hβmiss i hmi] at hbi
          rw [hβmiss j hmj] at hbj
          exact hrel.inj i j oi oj b hi hj hbi hbj
      · change sget σ2 i = some oi at hi
        rcases hcase i with ⟨id, ob1, hid, rfl⟩ | hmi
        · rw [hβhit id ob1 hid] at hb
          exact hm1.notF id ob1 b hid hb
        · rw [hσmiss i hmi] at hi
          rw [hβmiss i hmi] at hb
          exact hrel.notF i oi b hi hb
    have hva2 : VA w' (G F β2 σ2) β2 σ2 r' v := hfl.toE hr' (fun id ob h => ⟨hσhit id ob h, hβhit id ob h⟩) hva
    refine hnext β2 _ _ (hrel2.put (by rw [show (St.mk s.n s.fr σ2).n = s.n from rfl, hs.n]; exact hd) hva2) ⟨hev.os, hev.tape, hev.output, hev.size, fun b hb _ => hbel.block b hb, fun b hb => ?_, hev.shp⟩
    obtain ⟨n, ob, hn, hbn⟩ := hb
    change sget σ2 n = some ob at hn
    rcases hcase n with ⟨id, ob1, hid, rfl⟩ | hmiss
    · rw [hβhit id ob1 hid] at hbn
      exact .inl (hnew b ⟨id, ob1, hid, hbn⟩)
    · rw [hσmiss n hmiss] at hn
      rw [hβmiss n hmiss] at hbn
      exact .inr ⟨n, ob, hn, hbn⟩

end Go.Tv

end
section
namespace Go.Tv
open Go.Shelf Go.Proofs
set_option linter.unusedVariables false
variable {P : Program} {ρ : Ren}
def sortI (l : List Int) : List Int := l.mergeSort fun x y => decide (x ≤ y)
theorem sortI_perm (l : List Int) : (sortI l).Perm l := List.mergeSort_perm _ _
theorem sortI_length (l : List Int) : (sortI l).length = l.length := (sortI_perm l).length_eq
theorem sortI_sorted (l : List Int) : (sortI l).Pairwise (· ≤ ·) := by
  have h := List.pairwise_mergeSort (le := fun x y : Int => decide (x ≤ y)) (fun a b c h1 h2 => by simp at *; omega) (fun a b => by simp; omega) l
  exact h.imp (fun h => by simpa using h)
def intT (n : Int) : Tr := .int .i64 n

/-- A call of slices.Sort: the object's elements are sorted in place; what points to it stays good. -/
theorem eff_sortInts {o : Oper} {D : St} (L : SlLaysM.n5 P ρ) {id gen : Nat} {ty : TypeId} (l : List Int) (hl : l.length < 4611686018427387904)
    {f : FuncId} {x y : Operand} {ats : Array TypeId} {n0 : Nat} {els els' : List AV} (hfe : ρ.f 5 = f) (hf : callOK P f = true) (hd : dstOK D.n o.dst = true) (ho : o.op = .call { callee := .value x, args := #[y], argTypes := ats })
    (hx : D.ev x = .t (.fn f [])) (hy : D.ev y = .own id gen 0 n0) (hs : sget D.st id = some ⟨1, ty, gen, els⟩) (he : els = (l.map intT).map .t) (hn0 : n0 = l.length) (he' : ((sortI l).map intT).map AV.t = els') :
    Eff P o D ⟨.t (.tup []), [(id, ⟨1, ty, gen, els'⟩)]⟩ := by
  subst hfe he hn0 he'
  intro s hs' _ F β a w hr next Q hnext
  have hst := hs'.st _ _ hs
  have hyv := hr.evA hs' hy
  have hxv : a.eval x = .func (.func (ρ.f 5)) #[] #[] := (solid_fn _).eq _ _ _ (hr.evT hs' hx)
  have elen : ((l.map intT).map AV.t).length = l.length := by simp
  have hsl : (sortI l).length = l.length := sortI_length l
  unfold Oper.wp
  rw [execCall (vs := []) ho (by simpa using hxv) hf w, Oper.upon_enter]
  rw [show (#[y].map a.eval ++ ([] : List Value).toArray) = #[a.eval y] from by simp]
  have hempty : l = [] → ∀ p cap, a.eval y = .slice p 0 cap → Calls P (ρ.f 5) #[a.eval y] w (fun e w' => ∃ v, e = .returned v ∧ next (a.put o.dst v) w') := by
    intro hnil p cap hv
    rw [hv]
    refine Calls.mono (AnyM.slices_Sort_int_none L p cap w) ?_
    rintro e w' ⟨rfl, rfl⟩
    refine ⟨_, rfl, ?_⟩
    subst hnil
    have hs0 : sortI ([] : List Int) = [] := List.length_eq_zero_iff.1 hsl
    rw [hs0] at hnext
    have hid : ∀ m, sget (sput s.st id (some ⟨1, ty, gen, (([] : List Int).map intT).map AV.t⟩)) m = sget s.st m := fun m => by
      rw [sget_sput]; split
      · rename_i e; rw [e, hst]
      · rfl
    have hrel : Rel F β { n := s.n, fr := s.fr, st := sput s.st id (some ⟨1, ty, gen, (([] : List Int).map intT).map AV.t⟩) } a w' := hr.ext rfl (fun _ => rfl) hid
    exact hnext β _ _ (hrel.put (by show dstOK s.n o.dst = true; rw [hs'.n]; exact hd) (.t (.tup [] [] rfl (fun j c v h => by simp at h)))) ((Evo.refl _ _ _).ext hid)
  have hfin : Calls P (ρ.f 5) #[a.eval y] w (fun e w' => ∃ v, e = .returned v ∧ next (a.put o.dst v) w') := by
    generalize hv0 : a.eval y = v0 at hyv
    generalize hn : l.length = n0 at hyv
    rw [hv0] at hempty
    cases hyv with
    | ownNil hs2 hg' hb he2 =>
      exact hempty (List.length_eq_zero_iff.1 hn) _ _ rfl
    | ownZ hs2 hg' hb hl' hlt =>
      exact hempty (List.length_eq_zero_iff.1 hn) _ _ rfl
    | ownE hs2 hg' hb he2 =>
      exact hempty (List.length_eq_zero_iff.1 hn) _ _ rfl
    | stale hs2 hg' h1 => rw [hst] at hs2; cases hs2; exact absurd hg' (Nat.lt_irrefl _)
    | @own _ _ _ _ b cap ob c hs2 hg' hb hl' hcap hh hc =>
      rw [hst] at hs2; cases hs2
      subst hn
      rcases hr.ob id _ hst with ⟨h1, _⟩ | ⟨b2, c2, h1, h2, h3, h4, h5⟩
      · rw [hb] at h1; cases h1
      rw [hb] at h1; cases h1
      rw [hh] at h2; cases h2
      have hbs : b < w.heap.size := lt_of_heap hh
      have hc2 : l.length ≤ c.size := by
        have : ((l.map intT).map AV.t).length * 1 ≤ c.size := h3
        rw [elen] at this; omega
      have hcell : ∀ (j : Nat) (n : Int), l[j]? = some n → c[j]? = some (.int .i64 n) := by
        intro j n hj
        obtain ⟨_, v, hv, hvv⟩ := h5 j (.t (intT n)) 0 (.t (intT n)) (by show ((l.map intT).map AV.t)[j]? = _; rw [List.getElem?_map, List.getElem?_map, hj]; rfl) rfl
        cases hvv with
        | t h =>
          cases h
          have : (Ob.mk 1 ty gen ((l.map intT).map AV.t)).k = 1 := rfl
          rw [this, Nat.mul_one, Nat.add_zero] at hv
          exact hv
      have hH : Sort.Holds (Value.int .i64) w b 0 l.toArray := by
        intro j hj
        have hj' : j < l.length := by simpa using hj
        refine ⟨?_, ?_⟩
        · unfold World.cell?
          simp only [hh, Nat.zero_add]
          have := hcell j l[j] (List.getElem?_eq_getElem hj')
          rw [getElem!_pos _ j (by simpa using hj')]
          simpa using this
        · unfold World.frozen?
          simp [hh]
      have hrun := AnyM.slices_Sort_int L b 0 cap l w hH hbs hl
      have hvals : (#[.slice (some ⟨b, 0 * (Ob.mk 1 ty gen ((l.map intT).map AV.t)).k, none⟩) l.length cap] : Array Value) = #[.slice (some ⟨b, 0, none⟩) l.length cap] := by simp
      rw [hvals]
      refine Calls.mono hrun ?_
      rintro e w' ⟨rfl, n, os, rfl⟩
      refine ⟨_, rfl, ?_⟩
      show next _ (Sort.grow (Sort.putRow (Value.int .i64) (Sort.ahead w n) b 0 (sortI l).toArray) os)
      have hpsz : (Sort.putCells (Value.int .i64) 0 (sortI l).toArray c).size = c.size := by simp [Sort.putCells]
      have hpc : ∀ (i : Nat) (x : Int), (sortI l)[i]? = some x → (Sort.putCells (Value.int .i64) 0 (sortI l).toArray c)[i]? = some (.int .i64 x) := by
        intro i x hx
        have hi : i < (sortI l).length := (List.getElem?_eq_some_iff.1 hx).1
        have h7 : i < c.size := by omega
        unfold Sort.putCells
        rw [Array.getElem?_mapIdx, Array.getElem?_eq_getElem h7]
        simp only [Option.map_some, Nat.zero_le, true_and, Nat.zero_add, Nat.sub_zero, List.size_toArray]
        rw [if_pos hi, getElem!_pos _ i (by simpa using hi)]
        obtain ⟨_, e⟩ := List.getElem?_eq_some_iff.1 hx
        simp [e]
      obtain ⟨hrel, hev, _⟩ := hr.upd (g' := gen) (els' := ((sortI l).map intT).map AV.t) (c' := Sort.putCells (Value.int .i64) 0 (sortI l).toArray c) hst hb hh hpsz (.inl ⟨rfl, by simp [hsl]⟩) (by show (((sortI l).map intT).map AV.t).length * 1 ≤ _; simp [hsl]; exact hc2)
        (fun i x hx => by
          rw [List.getElem?_map, List.getElem?_map] at hx
          obtain ⟨z, hz, rfl⟩ := Option.map_eq_some_iff.1 hx
          obtain ⟨q, _, rfl⟩ := Option.map_eq_some_iff.1 hz
          exact ⟨rfl, rfl⟩)
        (fun i x j y hx hy => by
          rw [List.getElem?_map, List.getElem?_map] at hx
          obtain ⟨z, hz, rfl⟩ := Option.map_eq_some_iff.1 hx
          obtain ⟨q, hq, rfl⟩ := Option.map_eq_some_iff.1 hz
          change ([AV.t (intT q)])[j]? = some y at hy
          cases j with
          | zero =>
            cases hy
            exact ⟨rfl, .int .i64 q, by show (Sort.putCells _ _ _ _)[i * 1 + 0]? = _; rw [Nat.mul_one, Nat.add_zero]; exact hpc i q hq, .t (.int _ _)⟩
          | succ j => simp at hy)
      have hbel : BelowD (setB w b (.cells (Sort.putCells (Value.int .i64) 0 (sortI l).toArray c) ty (0, 0))).heap.size (setB w b (.cells (Sort.putCells (Value.int .i64) 0 (sortI l).toArray c) ty (0, 0))) (Sort.grow (Sort.putRow (Value.int .i64) (Sort.ahead w n) b 0 (sortI l).toArray) os) := by
        refine ⟨⟨rfl, rfl, rfl, ?_, fun i hi => ?_⟩, Nat.le_add_right _ _⟩
        · rw [setB_size]
          show _ ≤ ((w.heap.modify b _) ++ os).size
          simp
        · rw [setB_size] at hi
          show ((w.heap.modify b _) ++ os)[i]? = (w.heap.setIfInBounds b _)[i]?
          rw [Array.getElem?_append_left (by simpa using hi), Array.getElem?_modify]
          by_cases e : b = i
          · subst e
            rw [if_pos rfl, hh, Array.getElem?_setIfInBounds_self_of_lt hbs]
            rfl
          · rw [if_neg e, Array.getElem?_setIfInBounds_ne e]
      obtain ⟨hrel2, hev2, _⟩ := hrel.below hbel
      exact hnext β _ _ (hrel2.put (by show dstOK s.n o.dst = true; rw [hs'.n]; exact hd) (.t (.tup [] [] rfl (fun j c v h => by simp at h)))) (hev.trans hev2)
  exact Calls.mono hfin (fun e w' ⟨v, h1, h2⟩ => by subst h1; exact h2)
end Go.Tv

end
section
namespace Go.Tv

theorem map_of {α : Type} {f : α → Tr} {p : α → Prop} : ∀ {els : List Tr}, (∀ x, x ∈ els → ∃ n, p n ∧ x = f n) → ∃ l : List α, els = l.map f ∧ ∀ n, n ∈ l → p n
  | [], _ => ⟨[], rfl, fun n h => by simp at h⟩
  | x :: els, h => by
    obtain ⟨n, hp, rfl⟩ := h x List.mem_cons_self
    obtain ⟨l, rfl, hl⟩ := map_of (els := els) (fun y hy => h y (List.mem_cons_of_mem _ hy))
    exact ⟨n :: l, rfl, fun m hm => (List.mem_cons.1 hm).elim (fun e => e ▸ hp) (hl m)⟩

theorem wf_u8 {n : Int} (h : (Lit.int .u8 n).wf = true) : 0 ≤ n ∧ n < 256 := by
  simp [Lit.wf, IntKind.min, IntKind.max, IntKind.signed, IntKind.bits] at h; omega
theorem wf_u16 {n : Int} (h : (Lit.int .u16 n).wf = true) : 0 ≤ n ∧ n < 65536 := by
  simp [Lit.wf, IntKind.min, IntKind.max, IntKind.signed, IntKind.bits] at h; omega
theorem wf_i64 {n : Int} (h : (Lit.int .i64 n).wf = true) : -9223372036854775808 ≤ n ∧ n ≤ 9223372036854775807 := by
  simp [Lit.wf, IntKind.min, IntKind.max, IntKind.signed, IntKind.bits] at h; omega

end Go.Tv

end
section
namespace Go.Tv.C35
set_option linter.unusedVariables false

structure Bid where
  craft : Int
  station : Int
  frm : Int
  til : Int
  val : Int
  deriving DecidableEq, Inhabited

def confl (a b : Bid) : Bool := decide (a.frm < b.til) && decide (b.frm < a.til)
theorem confl_comm (a b : Bid) : confl a b = confl b a := Bool.and_comm _ _
def Ok (b : Bid) : Prop := b.frm < b.til ∧ 1 ≤ b.val
theorem confl_self {b : Bid} (h : Ok b) : confl b b = true := by
  have := h.1
  unfold confl
  rw [decide_eq_true this]; rfl
def Comp (l : List Bid) : Prop := l.Pairwise fun a b => confl a b = false
def sumV : List Bid → Int
  | [] => 0
  | b :: l => b.val + sumV l
theorem sumV_append : ∀ (l m : List Bid), sumV (l ++ m) = sumV l + sumV m
  | [], m => by simp [sumV]
  | b :: l, m => by simp only [List.cons_append, sumV, sumV_append l m]; omega
theorem sumV_perm {l m : List Bid} (h : l.Perm m) : sumV l = sumV m := by
  induction h with
  | nil => rfl
  | cons x _ ih => simp only [sumV, ih]
  | swap x y l => simp only [sumV]; omega
  | trans _ _ h1 h2 => exact h1.trans h2
theorem comp_perm {l m : List Bid} (h : l.Perm m) (hc : Comp l) : Comp m :=
  (h.pairwise_iff (R := fun a b => confl a b = false) (fun {a b} hab => by rw [confl_comm]; exact hab)).1 hc
theorem sub_perm {l m s : List Bid} (h : l.Perm m) (hs : s.Sublist l) : ∃ t : List Bid, t.Perm s ∧ t.Sublist m := by
  induction h generalizing s with
  | nil => exact ⟨s, .refl _, hs⟩
  | cons x _ ih =>
    cases hs with
    | cons _ h1 =>
      obtain ⟨t, h2, h3⟩ := ih h1
      exact ⟨t, h2, .cons _ h3⟩
    | cons_cons _ h1 =>
      obtain ⟨t, h2, h3⟩ := ih h1
      exact ⟨x :: t, h2.cons x, .cons_cons _ h3⟩
  | swap x y l =>
    cases hs with
    | cons _ h1 =>
      cases h1 with
      | cons _ h2 => exact ⟨s, .refl _, .cons _ (.cons _ h2)⟩
      | cons_cons _ h2 => exact ⟨_, .refl _, .cons_cons _ (.cons _ h2)⟩
    | cons_cons _ h1 =>
      cases h1 with
      | cons _ h2 => exact ⟨_, .refl _, .cons _ (.cons_cons _ h2)⟩
      | @cons_cons s' _ _ h2 => exact ⟨x :: y :: s', .swap _ _ _, .cons_cons _ (.cons_cons _ h2)⟩
  | trans _ _ h1 h2 =>
    obtain ⟨t, a, b⟩ := h1 hs
    obtain ⟨u, c, d⟩ := h2 b
    exact ⟨u, c.trans a, d⟩

/-- n is the greatest value of some bids of l that do not conflict. -/
def IsOpt (l : List Bid) (n : Int) : Prop := (∃ s, s.Sublist l ∧ Comp s ∧ sumV s = n) ∧ ∀ s, s.Sublist l → Comp s → sumV s ≤ n
theorem IsOpt.uniq {l : List Bid} {n m : Int} (h : IsOpt l n) (h' : IsOpt l m) : n = m := by
  obtain ⟨⟨s, a, b, c⟩, h1⟩ := h
  obtain ⟨⟨t, d, e, f⟩, h2⟩ := h'
  have := h2 s a b
  have := h1 t d e
  omega
theorem IsOpt.perm {l m : List Bid} {n : Int} (h : IsOpt l n) (hp : l.Perm m) : IsOpt m n := by
  obtain ⟨⟨s, a, b, c⟩, h1⟩ := h
  constructor
  · obtain ⟨t, h2, h3⟩ := sub_perm hp a
    exact ⟨t, h3, comp_perm h2.symm b, by rw [sumV_perm h2]; exact c⟩
  · intro s hs hc
    obtain ⟨t, h2, h3⟩ := sub_perm hp.symm hs
    rw [← sumV_perm h2]
    exact h1 t h3 (comp_perm h2.symm hc)
theorem isOpt_nil : IsOpt [] 0 := ⟨⟨[], .slnil, List.Pairwise.nil, rfl⟩, fun s hs _ => by
  cases hs; exact Int.le_refl _⟩

/-! ### The table -/
/-- How many bids of a list sorted by their ends end by t. -/
def endBy (l : List Bid) (t : Int) : Nat := (l.takeWhile fun x => decide (x.til ≤ t)).length
theorem endBy_le (l : List Bid) (t : Int) : endBy l t ≤ l.length := (List.takeWhile_prefix _).length_le
theorem endBy_take : ∀ (l : List Bid) (t : Int), ∀ x, x ∈ l.take (endBy l t) → x.til ≤ t
  | [], t, x, h => by simp at h
  | y :: l, t, x, h => by
    unfold endBy at h
    by_cases hy : y.til ≤ t
    · rw [List.takeWhile_cons_of_pos (by simpa using hy)] at h
      simp only [List.length_cons, List.take_succ_cons, List.mem_cons] at h
      rcases h with rfl | h
      · exact hy
      · exact endBy_take l t x h
    · rw [List.takeWhile_cons_of_neg (by simpa using hy)] at h
      simp at h
def SortedT (l : List Bid) : Prop := l.Pairwise fun a b => a.til ≤ b.til
theorem endBy_drop : ∀ (l : List Bid) (t : Int), SortedT l → ∀ x, x ∈ l.drop (endBy l t) → t < x.til
  | [], t, _, x, h => by simp at h
  | y :: l, t, hs, x, h => by
    obtain ⟨h1, h2⟩ := List.pairwise_cons.1 hs
    unfold endBy at h
    by_cases hy : y.til ≤ t
    · rw [List.takeWhile_cons_of_pos (by simpa using hy)] at h
      simp only [List.length_cons, List.drop_succ_cons] at h
      exact endBy_drop l t h2 x h
    · rw [List.takeWhile_cons_of_neg (by simpa using hy)] at h
      simp only [List.length_nil, List.drop_zero, List.mem_cons] at h
      rcases h with rfl | h
      · omega
      · have := h1 x h; omega

/-- The table: the optimum of the first k bids of a list sorted by their ends. -/
def dp (l : List Bid) : Nat → Int
  | 0 => 0
  | k + 1 => if h : k < l.length then max (dp l k) (l[k].val + dp l (min k (endBy l l[k].frm))) else dp l k
termination_by k => k
decreasing_by all_goals omega

theorem endBy_lt {l : List Bid} {k : Nat} (hs : SortedT l) (h : k < l.length) (ho : Ok l[k]) : endBy l l[k].frm ≤ k := by
  refine Nat.le_of_not_lt fun hlt => ?_
  have := endBy_take l l[k].frm l[k] (List.mem_take_iff_getElem.2 ⟨k, by omega, rfl⟩)
  have := ho.1
  omega
theorem sublist_snoc {s l : List Bid} {b : Bid} (h : s.Sublist (l ++ [b])) : s.Sublist l ∨ ∃ t, s = t ++ [b] ∧ t.Sublist l := by
  obtain ⟨s1, s2, rfl, h1, h2⟩ := List.sublist_append_iff.1 h
  cases h2 with
  | cons _ h3 => cases h3; rw [List.append_nil]; exact .inl h1
  | cons_cons _ h3 => cases h3; exact .inr ⟨s1, rfl, h1⟩
/-- What may stand beside the last bid is what ends by its start. -/
theorem sub_before {l t : List Bid} {k : Nat} (hs : SortedT l) (ho : ∀ b, b ∈ l → Ok b) (h : k < l.length) (ht : t.Sublist (l.take k)) (hc : ∀ x, x ∈ t → confl x l[k] = false) : t.Sublist (l.take (endBy l l[k].frm)) := by
  have hle := endBy_lt hs h (ho _ (List.getElem_mem h))
  have e : l.take k = l.take (endBy l l[k].frm) ++ (l.take k).drop (endBy l l[k].frm) := by
    conv => lhs; rw [← List.take_append_drop (endBy l l[k].frm) (l.take k)]
    rw [List.take_take, Nat.min_eq_left hle]
  rw [e] at ht
  obtain ⟨s1, s2, rfl, h1, h2⟩ := List.sublist_append_iff.1 ht
  have : s2 = [] := by
    rcases s2 with _ | ⟨x, s2⟩
    · rfl
    · exfalso
      have hx := h2.subset (List.mem_cons_self (a := x) (l := s2))
      have hx2 := hc x (List.mem_append_right _ List.mem_cons_self)
      have hxl : x ∈ l := List.mem_of_mem_take (List.mem_of_mem_drop hx)
      rw [List.drop_take] at hx
      have hlt := endBy_drop l l[k].frm hs x (List.mem_of_mem_take hx)
      obtain ⟨j, hj, rfl⟩ := List.mem_iff_getElem.1 (List.mem_of_mem_drop (List.mem_of_mem_take hx))
      have hok := (ho _ hxl).1
      have htk : ∃ i, ∃ hi : i < l.length, i < k ∧ l[i] = l[j] := by
        have hm : l[j] ∈ l.take k := by
          rw [e]; refine List.mem_append_right _ ?_
          rw [List.drop_take]; exact hx
        obtain ⟨i, hi, e2⟩ := List.mem_iff_getElem.1 hm
        rw [List.length_take] at hi
        exact ⟨i, by omega, by omega, by rw [← e2, List.getElem_take]⟩
      obtain ⟨i, hi, hik, e2⟩ := htk
      have hord : l[i].til ≤ l[k].til := List.pairwise_iff_getElem.1 hs i k hi h hik
      rw [e2] at hord
      unfold confl at hx2
      rw [decide_eq_true (show l[j].frm < l[k].til by omega), decide_eq_true (show l[k].frm < l[j].til by omega)] at hx2
      cases hx2
  subst this
  rw [List.append_nil]; exact h1
theorem dp_opt {l : List Bid} (hs : SortedT l) (ho : ∀ b, b ∈ l → Ok b) : ∀ k, k ≤ l.length → IsOpt (l.take k) (dp l k) := by
  intro k
  induction k using Nat.strongRecOn with
  | _ k ih =>
    intro hk
    match k, ih, hk with
    | 0, _, _ => rw [List.take_zero, dp]; exact isOpt_nil
    | k + 1, ih, hk =>
      have hkl : k < l.length := by omega
      have hle := endBy_lt hs hkl (ho _ (List.getElem_mem hkl))
      rw [dp, dif_pos hkl, Nat.min_eq_right hle]
      obtain ⟨⟨s, a1, a2, a3⟩, a4⟩ := ih k (by omega) (by omega)
      obtain ⟨⟨t, b1, b2, b3⟩, b4⟩ := ih (endBy l l[k].frm) (by omega) (by omega)
      have et : l.take (k + 1) = l.take k ++ [l[k]] := by rw [List.take_add_one, List.getElem?_eq_getElem hkl]; rfl
      rw [et]
      constructor
      · rcases Int.le_total (dp l k) (l[k].val + dp l (endBy l l[k].frm)) with h | h
        · refine ⟨t ++ [l[k]], ?_, ?_, ?_⟩
          · refine List.Sublist.append (b1.trans ?_) (List.Sublist.refl _)
            have := (List.take_prefix (endBy l l[k].frm) (l.take k)).sublist
            rwa [List.take_take, Nat.min_eq_left hle] at this
          · refine List.pairwise_append.2 ⟨b2, List.pairwise_singleton _ _, fun x hx y hy => ?_⟩
            rw [List.mem_singleton.1 hy]
            have := endBy_take l l[k].frm x (b1.subset hx)
            unfold confl
            rw [decide_eq_false (show ¬ l[k].frm < x.til by omega), Bool.and_false]
          · rw [sumV_append, b3, Int.max_eq_right h]; simp only [sumV]; omega
        · exact ⟨s, a1.trans (List.sublist_append_left _ _), a2, by rw [Int.max_eq_left h]; exact a3⟩
      · intro u hu hc
        rcases sublist_snoc hu with h | ⟨v, rfl, hv⟩
        · exact Int.le_trans (a4 u h hc) (Int.le_max_left _ _)
        · obtain ⟨c1, _, c3⟩ := List.pairwise_append.1 hc
          have := b4 v (sub_before hs ho hkl hv (fun x hx => c3 x hx _ (List.mem_singleton.2 rfl))) c1
          rw [sumV_append]
          simp only [sumV]
          have := Int.le_max_right (dp l k) (l[k].val + dp l (endBy l l[k].frm))
          omega
end Go.Tv.C35

end
section
namespace Go.Tv.C35
set_option linter.unusedVariables false

noncomputable def optOf (l : List Bid) : Int := open Classical in if h : ∃ n, IsOpt l n then h.choose else 0
theorem opt_ex : ∀ (l : List Bid), ∃ n, IsOpt l n := by
  intro l
  have key : ∀ (c : List (List Bid)), c ≠ [] → ∃ s, s ∈ c ∧ ∀ t, t ∈ c → sumV t ≤ sumV s := by
    intro c
    induction c with
    | nil => intro h; exact absurd rfl h
    | cons a c ih =>
      intro _
      rcases c with _ | ⟨b, c⟩
      · exact ⟨a, List.mem_cons_self, fun t ht => by rw [List.mem_singleton.1 ht]; exact Int.le_refl _⟩
      · obtain ⟨s, h1, h2⟩ := ih (List.cons_ne_nil _ _)
        rcases Int.le_total (sumV s) (sumV a) with h | h
        · exact ⟨a, List.mem_cons_self, fun t ht => by
            rcases List.mem_cons.1 ht with rfl | ht
            · exact Int.le_refl _
            · exact Int.le_trans (h2 t ht) h⟩
        · exact ⟨s, List.mem_cons_of_mem _ h1, fun t ht => by
            rcases List.mem_cons.1 ht with rfl | ht
            · exact h
            · exact h2 t ht⟩
  have subs : ∀ l : List Bid, ∃ c : List (List Bid), ∀ s, s ∈ c ↔ s.Sublist l := by
    intro l
    induction l with
    | nil => exact ⟨[[]], fun s => by simp⟩
    | cons a l ih =>
      obtain ⟨c, hc⟩ := ih
      refine ⟨c ++ c.map (a :: ·), fun s => ?_⟩
      rw [List.mem_append, List.mem_map]
      constructor
      · rintro (h | ⟨t, h, rfl⟩)
        · exact .cons _ ((hc s).1 h)
        · exact .cons_cons _ ((hc t).1 h)
      · intro h
        cases h with
        | cons _ h => exact .inl ((hc s).2 h)
        | cons_cons _ h => exact .inr ⟨_, (hc _).2 h, rfl⟩
  obtain ⟨c, hc⟩ := subs l
  classical
  have hcd : ∀ s, s ∈ c.filter (fun s => decide (Comp s)) ↔ s.Sublist l ∧ Comp s := fun s => by
    rw [List.mem_filter, hc, decide_eq_true_eq]
  obtain ⟨s, h1, h2⟩ := key (c.filter fun s => decide (Comp s)) (fun e => by
    have := (hcd []).2 ⟨List.nil_sublist _, List.Pairwise.nil⟩
    rw [e] at this; cases this)
  exact ⟨sumV s, ⟨s, ((hcd s).1 h1).1, ((hcd s).1 h1).2, rfl⟩, fun t ht hc => h2 t ((hcd t).2 ⟨ht, hc⟩)⟩
theorem opt_is (l : List Bid) : IsOpt l (optOf l) := by
  unfold optOf
  rw [dif_pos (opt_ex l)]
  exact (opt_ex l).choose_spec
theorem opt_eq {l : List Bid} {n : Int} (h : IsOpt l n) : optOf l = n := (opt_is l).uniq h
theorem opt_nonneg (l : List Bid) : 0 ≤ optOf l := (opt_is l).2 [] (List.nil_sublist _) List.Pairwise.nil
end Go.Tv.C35

end
section
namespace Go.Tv.C35
set_option linter.unusedVariables false

abbrev zb : Bid := ⟨0, 0, 0, 0, 0⟩
theorem comp_nodup {t : List Bid} (ho : ∀ x, x ∈ t → Ok x) (h : Comp t) : t.Nodup := by
  induction t with
  | nil => exact List.nodup_nil
  | cons a t ih =>
    obtain ⟨h1, h2⟩ := List.pairwise_cons.1 h
    refine List.nodup_cons.2 ⟨fun hm => ?_, ih (fun x hx => ho x (List.mem_cons_of_mem _ hx)) h2⟩
    have := h1 a hm
    rw [confl_self (ho a List.mem_cons_self)] at this; cases this
theorem sub_of_mem : ∀ (op t : List Bid), t.Nodup → (∀ x, x ∈ t → x ∈ op) → ∃ t' : List Bid, t'.Perm t ∧ t'.Sublist op
  | [], t, _, h => by
    rcases t with _ | ⟨x, t⟩
    · exact ⟨[], .refl _, .slnil⟩
    · have := h x List.mem_cons_self; cases this
  | a :: op, t, hn, h => by
    by_cases ha : a ∈ t
    · have hp := List.perm_cons_erase ha
      obtain ⟨t', h1, h2⟩ := sub_of_mem op (t.erase a) (hn.erase a) (fun x hx => by
        have hx2 : x ≠ a ∧ x ∈ t := (List.Nodup.mem_erase_iff hn).1 hx
        rcases List.mem_cons.1 (h x hx2.2) with e | hm
        · exact absurd e hx2.1
        · exact hm)
      exact ⟨a :: t', (h1.cons a).trans hp.symm, .cons_cons _ h2⟩
    · obtain ⟨t', h1, h2⟩ := sub_of_mem op t hn (fun x hx => by
        rcases List.mem_cons.1 (h x hx) with e | hm
        · rw [e] at hx; exact absurd hx ha
        · exact hm)
      exact ⟨t', h1, .cons _ h2⟩
theorem opt_mem {op t : List Bid} (ho : ∀ x, x ∈ op → Ok x) (hc : Comp t) (hm : ∀ x, x ∈ t → x ∈ op) : sumV t ≤ optOf op := by
  obtain ⟨t', h1, h2⟩ := sub_of_mem op t (comp_nodup (fun x hx => ho x (hm x hx)) hc) hm
  rw [← sumV_perm h1]
  exact (opt_is op).2 t' h2 (comp_perm h1.symm hc)
def leftOf (op : List Bid) (b : Bid) : List Bid := op.filter fun x => !confl x b
theorem left_mem {op : List Bid} {b x : Bid} : x ∈ leftOf op b ↔ x ∈ op ∧ confl x b = false := by
  unfold leftOf; rw [List.mem_filter]; simp
theorem left_le {op : List Bid} {b : Bid} (ho : ∀ x, x ∈ op → Ok x) (hb : b ∈ op) : b.val + optOf (leftOf op b) ≤ optOf op := by
  obtain ⟨⟨s, a1, a2, a3⟩, _⟩ := opt_is (leftOf op b)
  have := opt_mem (t := b :: s) ho (List.pairwise_cons.2 ⟨fun x hx => by rw [confl_comm]; exact (left_mem.1 (a1.subset hx)).2, a2⟩) (fun x hx => by
    rcases List.mem_cons.1 hx with rfl | hx
    · exact hb
    · exact (left_mem.1 (a1.subset hx)).1)
  simp only [sumV] at this
  omega

def bidsOf (B : List Bid) (d : List Nat) : List Bid := d.map fun i => B.getD i zb
/-- Bids of op, by their numbers, that do not conflict. -/
structure IC (B op : List Bid) (d : List Nat) : Prop where
  lt : ∀ i, i ∈ d → i < B.length
  mem : ∀ i, i ∈ d → B.getD i zb ∈ op
  comp : Comp (bidsOf B d)
inductive LexLE : List Nat → List Nat → Prop
  | nil : LexLE [] []
  | lt {a b : Nat} {l m : List Nat} (h : a < b) : LexLE (a :: l) (b :: m)
  | cons {a : Nat} {l m : List Nat} (h : LexLE l m) : LexLE (a :: l) (a :: m)
theorem IC.le {B op : List Bid} {d : List Nat} (ho : ∀ x, x ∈ op → Ok x) (h : IC B op d) : sumV (bidsOf B d) ≤ optOf op :=
  opt_mem ho h.comp (fun x hx => by obtain ⟨i, hi, rfl⟩ := List.mem_map.1 hx; exact h.mem i hi)
theorem IC.tail {B op : List Bid} {i : Nat} {d : List Nat} (h : IC B op (i :: d)) : IC B (leftOf op (B.getD i zb)) d := by
  obtain ⟨h1, h2⟩ := List.pairwise_cons.1 h.comp
  exact ⟨fun j hj => h.lt j (List.mem_cons_of_mem _ hj), fun j hj => left_mem.2 ⟨h.mem j (List.mem_cons_of_mem _ hj), by
    rw [confl_comm]; exact h1 _ (List.mem_map.2 ⟨j, hj, rfl⟩)⟩, h2⟩
theorem IC.perm {B op : List Bid} {d e : List Nat} (h : IC B op d) (hp : d.Perm e) : IC B op e :=
  ⟨fun i hi => h.lt i (hp.mem_iff.2 hi), fun i hi => h.mem i (hp.mem_iff.2 hi), comp_perm (hp.map _) h.comp⟩
theorem IC.add {B op : List Bid} {i : Nat} {d : List Nat} (hi : i < B.length) (hb : B.getD i zb ∈ op) (h : IC B (leftOf op (B.getD i zb)) d) : IC B op (i :: d) :=
  ⟨fun j hj => by rcases List.mem_cons.1 hj with rfl | hj; exact hi; exact h.lt j hj, fun j hj => by
    rcases List.mem_cons.1 hj with rfl | hj
    · exact hb
    · exact (left_mem.1 (h.mem j hj)).1, List.pairwise_cons.2 ⟨fun x hx => by
      obtain ⟨j, hj, rfl⟩ := List.mem_map.1 hx
      rw [confl_comm]; exact (left_mem.1 (h.mem j hj)).2, h.comp⟩⟩

noncomputable def bestGo (B : List Bid) (s : Int) (i : Nat) (op : List Bid) (rest : Int) : List Nat :=
  if h : i < B.length then
    if (B.getD i zb).station ≠ s ∨ B.getD i zb ∉ op then bestGo B s (i + 1) op rest
    else if (B.getD i zb).val + optOf (leftOf op (B.getD i zb)) = rest then i :: bestGo B s (i + 1) (leftOf op (B.getD i zb)) (rest - (B.getD i zb).val)
    else bestGo B s (i + 1) op rest
  else []
termination_by B.length - i
def atS (B : List Bid) (s : Int) : List Bid := B.filter fun b => decide (b.station = s)
noncomputable def bestF (B : List Bid) (s : Int) : List Nat := bestGo B s 0 (atS B s) (optOf (atS B s))

/-- What is right of a list of numbers from i on. -/
structure Lead (B op : List Bid) (i : Nat) (r : List Nat) : Prop where
  ic : IC B op r
  inc : r.Pairwise (· < ·)
  low : ∀ j, j ∈ r → i ≤ j
  val : sumV (bidsOf B r) = optOf op
  lex : ∀ d, IC B op d → d.Pairwise (· < ·) → sumV (bidsOf B d) = optOf op → LexLE r d

theorem sub_idx : ∀ (B t : List Bid) (k : Nat) (C : List Bid), (∀ j, j < B.length → C.getD (k + j) zb = B.getD j zb) → t.Sublist B → ∃ d : List Nat, (∀ i, i ∈ d → k ≤ i ∧ i < k + B.length) ∧ bidsOf C d = t
  | [], t, k, C, _, h => by
    cases h; exact ⟨[], fun i hi => by simp at hi, rfl⟩
  | b :: B, t, k, C, hC, h => by
    have hC' : ∀ j, j < B.length → C.getD (k + 1 + j) zb = B.getD j zb := fun j hj => by
      have := hC (j + 1) (by simp; omega)
      rw [show k + 1 + j = k + (j + 1) by omega, this]; simp
    cases h with
    | cons _ h1 =>
      obtain ⟨d, h2, h3⟩ := sub_idx B t (k + 1) C hC' h1
      exact ⟨d, fun i hi => by have := h2 i hi; simp; omega, h3⟩
    | @cons_cons t' _ _ h1 =>
      obtain ⟨d, h2, h3⟩ := sub_idx B t' (k + 1) C hC' h1
      refine ⟨k :: d, fun i hi => ?_, ?_⟩
      · rcases List.mem_cons.1 hi with rfl | hi
        · simp
        · have := h2 i hi; simp; omega
      · show C.getD k zb :: bidsOf C d = _
        have := hC 0 (by simp)
        rw [h3, Nat.add_zero] at *
        rw [this]; simp

theorem bestGo_lead {B : List Bid} {s : Int} (hst : ∀ (op : List Bid), op.Sublist (atS B s) → ∀ x, x ∈ op → x.station = s ∧ Ok x) :
    ∀ (n i : Nat) (op : List Bid), B.length - i = n → op.Sublist (atS B s) → (∀ d, IC B op d → sumV (bidsOf B d) = optOf op → ∀ j, j ∈ d → i ≤ j) → Lead B op i (bestGo B s i op (optOf op)) := by
  intro n
  induction n with
  | zero =>
    intro i op hn hsub hG
    rw [bestGo, dif_neg (by omega)]
    have hB : (atS B s).Sublist B := List.filter_sublist
    have none : ∀ d, IC B op d → sumV (bidsOf B d) = optOf op → d = [] := fun d hd hv => by
      rcases d with _ | ⟨j, d⟩
      · rfl
      · have h1 := hG _ hd hv j List.mem_cons_self
        have h2 := hd.lt j List.mem_cons_self
        omega
    obtain ⟨⟨t, a1, a2, a3⟩, _⟩ := opt_is op
    obtain ⟨d, h2, h3⟩ := sub_idx B t 0 B (fun j hj => by rw [Nat.zero_add]) ((a1.trans hsub).trans hB)
    have hd : IC B op d := ⟨fun j hj => by have := h2 j hj; omega, fun j hj => a1.subset (by rw [← h3]; exact List.mem_map.2 ⟨j, hj, rfl⟩), by rw [h3]; exact a2⟩
    have e := none d hd (by rw [h3]; exact a3)
    subst e
    have e0 : optOf op = 0 := by rw [← a3, ← h3]; rfl
    exact ⟨⟨fun j hj => by simp at hj, fun j hj => by simp at hj, List.Pairwise.nil⟩, List.Pairwise.nil, fun j hj => by simp at hj, e0.symm, fun d hd _ hv => by rw [none d hd hv]; exact .nil⟩
  | succ n ih =>
    intro i op hn hsub hG
    have hi : i < B.length := by omega
    have hok : ∀ x, x ∈ op → Ok x := fun x hx => (hst op hsub x hx).2
    rw [bestGo, dif_pos hi]
    -- where i takes part in no best list
    have skip : (∀ d, IC B op d → sumV (bidsOf B d) = optOf op → i ∉ d) → Lead B op i (bestGo B s (i + 1) op (optOf op)) := fun hno => by
      have h := ih (i + 1) op (by omega) hsub (fun d hd hv j hj => by
        have h1 := hG d hd hv j hj
        rcases Nat.lt_or_ge i j with h2 | h2
        · exact h2
        · have e : j = i := by omega
          rw [e] at hj; exact absurd hj (hno d hd hv))
      exact ⟨h.ic, h.inc, fun j hj => by have := h.low j hj; omega, h.val, h.lex⟩
    split
    · rename_i h
      refine skip (fun d hd hv hid => ?_)
      have hm := hd.mem i hid
      rcases h with h | h
      · exact h (hst op hsub _ hm).1
      · exact h hm
    · rename_i h
      have hb : B.getD i zb ∈ op := Classical.byContradiction fun hn => h (.inr hn)
      have hle := left_le hok hb
      split
      · rename_i he
        have hsub' : (leftOf op (B.getD i zb)).Sublist (atS B s) := List.filter_sublist.trans hsub
        have hrest : optOf op - (B.getD i zb).val = optOf (leftOf op (B.getD i zb)) := by omega
        rw [hrest]
        have hr := ih (i + 1) (leftOf op (B.getD i zb)) (by omega) hsub' (fun d hd hv j hj => by
          have had := hd.add hi hb
          have h1 := hG _ had (by show (B.getD i zb).val + sumV (bidsOf B d) = _; rw [hv]; exact he) j (List.mem_cons_of_mem _ hj)
          rcases Nat.lt_or_ge i j with h2 | h2
          · exact h2
          · have e : j = i := by omega
            subst e
            have := (left_mem.1 (hd.mem j hj)).2
            rw [confl_self (hok _ hb)] at this; cases this)
        refine ⟨hr.ic.add hi hb, List.pairwise_cons.2 ⟨fun j hj => by have := hr.low j hj; omega, hr.inc⟩, fun j hj => ?_, ?_, fun d hd hinc hv => ?_⟩
        · rcases List.mem_cons.1 hj with rfl | hj
          · exact Nat.le_refl _
          · have := hr.low j hj; omega
        · show (B.getD i zb).val + sumV (bidsOf B _) = _
          rw [hr.val]; exact he
        · rcases d with _ | ⟨j, d⟩
          · exfalso
            have h1 := opt_nonneg (leftOf op (B.getD i zb))
            have h2 := (hok _ hb).2
            have h3 : (0 : Int) = optOf op := hv
            omega
          · have hij := hG _ hd hv j List.mem_cons_self
            rcases Nat.lt_or_ge i j with h2 | h2
            · exact .lt h2
            · have e : j = i := by omega
              subst e
              refine .cons (hr.lex d hd.tail (List.pairwise_cons.1 hinc).2 ?_)
              have hv2 : (B.getD j zb).val + sumV (bidsOf B d) = optOf op := hv
              omega
      · rename_i he
        refine skip (fun d hd hv hid => he ?_)
        have hp := List.perm_cons_erase hid
        have hd2 := (hd.perm hp).tail
        have hle2 := hd2.le (fun x hx => hok x (left_mem.1 hx).1)
        have hv2 : sumV (bidsOf B d) = (B.getD i zb).val + sumV (bidsOf B (d.erase i)) := by
          have := sumV_perm (hp.map fun i => B.getD i zb)
          exact this
        omega
theorem at_mem {B : List Bid} {s : Int} {x : Bid} : x ∈ atS B s ↔ x ∈ B ∧ x.station = s := by unfold atS; rw [List.mem_filter, decide_eq_true_eq]
theorem best_lead {B : List Bid} {s : Int} (ho : ∀ b, b ∈ B → Ok b) : Lead B (atS B s) 0 (bestF B s) :=
  bestGo_lead (fun op hs x hx => ⟨(at_mem.1 (hs.subset hx)).2, ho x (at_mem.1 (hs.subset hx)).1⟩) _ 0 _ rfl (List.Sublist.refl _) (fun _ _ _ _ _ => Nat.zero_le _)
theorem lex_anti : ∀ {l m : List Nat}, LexLE l m → LexLE m l → l = m
  | _, _, .nil, _ => rfl
  | _, _, .lt h, h2 => by
    cases h2 with
    | lt h3 => omega
    | cons _ => omega
  | _, _, .cons h, h2 => by
    cases h2 with
    | lt h3 => omega
    | cons h3 => rw [lex_anti h h3]
end Go.Tv.C35

end
section
namespace Go.Tv.C35
set_option linter.unusedVariables false

theorem dp_optOf {B l : List Bid} (hp : l.Perm B) (hs : SortedT l) (ho : ∀ b, b ∈ B → Ok b) : dp l l.length = optOf B := by
  have h := dp_opt hs (fun b hb => ho b (hp.mem_iff.1 hb)) l.length (Nat.le_refl _)
  rw [List.take_length] at h
  exact (opt_eq (h.perm hp)).symm

/-- Numbers that are compatible at a station, as the specification has it. -/
def compI (B : List Bid) (s : Int) (l : List Nat) : Prop := (∀ i, i ∈ l → i < B.length ∧ (B.getD i zb).station = s) ∧ l.Nodup ∧ Comp (bidsOf B l)
instance (B : List Bid) (s : Int) (l : List Nat) : Decidable (compI B s l) := by unfold compI Comp; exact inferInstance
theorem compI_ic {B : List Bid} {s : Int} {l : List Nat} (h : compI B s l) : IC B (atS B s) l :=
  ⟨fun i hi => (h.1 i hi).1, fun i hi => at_mem.2 ⟨by rw [List.getD_eq_getElem?_getD, List.getElem?_eq_getElem (h.1 i hi).1]; exact List.getElem_mem _, (h.1 i hi).2⟩, h.2.2⟩
theorem ic_compI {B : List Bid} {s : Int} {l : List Nat} (ho : ∀ b, b ∈ B → Ok b) (h : IC B (atS B s) l) : compI B s l :=
  ⟨fun i hi => ⟨h.lt i hi, (at_mem.1 (h.mem i hi)).2⟩, by
    have hn := comp_nodup (fun x hx => by obtain ⟨i, hi, rfl⟩ := List.mem_map.1 hx; exact ho _ (at_mem.1 (h.mem i hi)).1) h.comp
    unfold bidsOf at hn
    exact List.Pairwise.of_map _ (fun a b hab e => hab (by rw [e])) hn, h.comp⟩
theorem compI_head {B : List Bid} {s : Int} {l m : List Nat} (h : compI B s (l ++ m)) : compI B s l := by
  obtain ⟨h1, h2, h3⟩ := h
  refine ⟨fun i hi => h1 i (List.mem_append_left _ hi), (List.nodup_append.1 h2).1, ?_⟩
  unfold bidsOf at h3 ⊢
  rw [List.map_append] at h3
  exact (List.pairwise_append.1 h3).1

/-- The lists that begin with head and go on with at least one number from i on. -/
def tailsF (B : List Bid) (s : Int) (head : List Nat) (i : Nat) : List (List Nat) :=
  if h : i < B.length then (if compI B s (head ++ [i]) then (head ++ [i]) :: tailsF B s (head ++ [i]) (i + 1) else []) ++ tailsF B s head (i + 1) else []
termination_by B.length - i
def listsF (B : List Bid) (s : Int) (head : List Nat) (i : Nat) : List (List Nat) := head :: tailsF B s head i

/-- Before, in the order in which a list stands before what goes on from it. -/
inductive PLex : List Nat → List Nat → Prop
  | nil {b : Nat} {m : List Nat} : PLex [] (b :: m)
  | lt {a b : Nat} {l m : List Nat} (h : a < b) : PLex (a :: l) (b :: m)
  | cons {a : Nat} {l m : List Nat} (h : PLex l m) : PLex (a :: l) (a :: m)
theorem plex_pre : ∀ {c : List Nat} {l m : List Nat}, PLex l m → PLex (c ++ l) (c ++ m)
  | [], _, _, h => h
  | _ :: c, _, _, h => .cons (plex_pre (c := c) h)
theorem tails_mem {B : List Bid} {s : Int} : ∀ (n i : Nat) (head x : List Nat), B.length - i = n → x ∈ tailsF B s head i →
    ∃ j t, i ≤ j ∧ x = head ++ j :: t ∧ (j :: t).Pairwise (· < ·) ∧ compI B s x := by
  intro n
  induction n with
  | zero => intro i head x hn hx; rw [tailsF, dif_neg (by omega)] at hx; cases hx
  | succ n ih =>
    intro i head x hn hx
    have hi : i < B.length := by omega
    rw [tailsF, dif_pos hi] at hx
    rcases List.mem_append.1 hx with hx | hx
    · split at hx
      · rename_i hc
        rcases List.mem_cons.1 hx with rfl | hx
        · exact ⟨i, [], Nat.le_refl _, rfl, List.pairwise_singleton _ _, hc⟩
        · obtain ⟨j, t, h1, rfl, h3, h4⟩ := ih (i + 1) (head ++ [i]) x (by omega) hx
          refine ⟨i, j :: t, Nat.le_refl _, by simp, List.pairwise_cons.2 ⟨fun y hy => ?_, h3⟩, h4⟩
          rcases List.mem_cons.1 hy with rfl | hy
          · omega
          · have := (List.pairwise_cons.1 h3).1 y hy; omega
      · cases hx
    · obtain ⟨j, t, h1, h2, h3, h4⟩ := ih (i + 1) head x (by omega) hx
      exact ⟨j, t, by omega, h2, h3, h4⟩
theorem tails_all {B : List Bid} {s : Int} : ∀ (n i : Nat) (head t : List Nat) (j : Nat), B.length - i = n → i ≤ j → (j :: t).Pairwise (· < ·) → compI B s (head ++ j :: t) → head ++ j :: t ∈ tailsF B s head i := by
  intro n
  induction n with
  | zero =>
    intro i head t j hn hij _ hc
    have := (hc.1 j (List.mem_append_right _ List.mem_cons_self)).1
    omega
  | succ n ih =>
    intro i head t j hn hij hp hc
    rw [tailsF, dif_pos (by omega)]
    rcases Nat.lt_or_ge i j with h | h
    · exact List.mem_append_right _ (ih (i + 1) head t j (by omega) (by omega) hp hc)
    · obtain rfl : i = j := by omega
      have e : head ++ i :: t = (head ++ [i]) ++ t := by simp
      rw [if_pos (compI_head (m := t) (by rw [← e]; exact hc))]
      refine List.mem_append_left _ ?_
      rcases t with _ | ⟨k, t⟩
      · exact List.mem_cons_self
      · obtain ⟨h1, h2⟩ := List.pairwise_cons.1 hp
        rw [e]
        exact List.mem_cons_of_mem _ (ih (i + 1) (head ++ [i]) t k (by omega) (by have := h1 k List.mem_cons_self; omega) h2 (by rw [← e]; exact hc))
theorem tails_plex {B : List Bid} {s : Int} : ∀ (n i : Nat) (head : List Nat), B.length - i = n → (tailsF B s head i).Pairwise PLex := by
  intro n
  induction n with
  | zero => intro i head hn; rw [tailsF, dif_neg (by omega)]; exact List.Pairwise.nil
  | succ n ih =>
    intro i head hn
    rw [tailsF, dif_pos (by omega)]
    refine List.pairwise_append.2 ⟨?_, ih _ _ (by omega), fun x hx y hy => ?_⟩
    · split
      · refine List.pairwise_cons.2 ⟨fun y hy => ?_, ih _ _ (by omega)⟩
        obtain ⟨j, t, _, rfl, _, _⟩ := tails_mem n (i + 1) _ y (by omega) hy
        have := plex_pre (c := head ++ [i]) (PLex.nil (b := j) (m := t))
        rwa [List.append_nil] at this
      · exact List.Pairwise.nil
    · obtain ⟨j, t, h1, rfl, _, _⟩ := tails_mem n (i + 1) head y (by omega) hy
      split at hx
      · rcases List.mem_cons.1 hx with rfl | hx
        · exact plex_pre (.lt (by omega))
        · obtain ⟨k, u, h2, rfl, _, _⟩ := tails_mem n (i + 1) _ x (by omega) hx
          rw [List.append_assoc]
          exact plex_pre (.lt (by omega))
      · cases hx
theorem lists_plex (B : List Bid) (s : Int) : (listsF B s [] 0).Pairwise PLex := by
  refine List.pairwise_cons.2 ⟨fun y hy => ?_, tails_plex _ _ _ rfl⟩
  obtain ⟨j, t, _, rfl, _, _⟩ := tails_mem _ _ _ y rfl hy
  exact .nil
theorem lists_mem {B : List Bid} {s : Int} {x : List Nat} : x ∈ listsF B s [] 0 ↔ compI B s x ∧ x.Pairwise (· < ·) := by
  constructor
  · intro h
    rcases List.mem_cons.1 h with rfl | h
    · exact ⟨⟨fun i hi => (by simp at hi), List.nodup_nil, List.Pairwise.nil⟩, List.Pairwise.nil⟩
    · obtain ⟨j, t, _, rfl, h1, h2⟩ := tails_mem _ _ _ x rfl h
      exact ⟨h2, h1⟩
  · rintro ⟨h1, h2⟩
    rcases x with _ | ⟨j, t⟩
    · exact List.mem_cons_self
    · exact List.mem_cons_of_mem _ (tails_all _ 0 [] t j rfl (Nat.zero_le _) h2 h1)

/-- The first of greatest value. -/
def pick (B : List Bid) (best : List Nat) : List (List Nat) → List Nat
  | [] => best
  | x :: l => pick B (if sumV (bidsOf B x) > sumV (bidsOf B best) then x else best) l
def vI (B : List Bid) (x : List Nat) : Int := sumV (bidsOf B x)
theorem pick_spec {B : List Bid} : ∀ (l : List (List Nat)) (best : List Nat), (pick B best l = best ∧ ∀ x, x ∈ l → vI B x ≤ vI B best) ∨
    (∃ a b, l = a ++ pick B best l :: b ∧ vI B best < vI B (pick B best l) ∧ (∀ x, x ∈ a → vI B x < vI B (pick B best l)) ∧ ∀ x, x ∈ b → vI B x ≤ vI B (pick B best l))
  | [], best => .inl ⟨rfl, fun x hx => (by cases hx)⟩
  | y :: l, best => by
    by_cases hgt : sumV (bidsOf B y) > sumV (bidsOf B best)
    · have e : pick B best (y :: l) = pick B y l := by
        show pick B (if _ then y else best) l = _
        rw [if_pos hgt]
      rw [e]
      rcases pick_spec (B := B) l y with ⟨h1, h2⟩ | ⟨a, b, h1, h2, h3, h4⟩
      · rw [h1]
        exact .inr ⟨[], l, rfl, hgt, fun x hx => (by cases hx), h2⟩
      · refine .inr ⟨y :: a, b, by rw [List.cons_append, ← h1], ?_, fun x hx => ?_, h4⟩
        · unfold vI at *; omega
        · rcases List.mem_cons.1 hx with rfl | hx
          · exact h2
          · exact h3 x hx
    · have e : pick B best (y :: l) = pick B best l := by
        show pick B (if _ then y else best) l = _
        rw [if_neg hgt]
      rw [e]
      rcases pick_spec (B := B) l best with ⟨h1, h2⟩ | ⟨a, b, h1, h2, h3, h4⟩
      · refine .inl ⟨h1, fun x hx => ?_⟩
        rcases List.mem_cons.1 hx with rfl | hx
        · unfold vI; omega
        · exact h2 x hx
      · refine .inr ⟨y :: a, b, by rw [List.cons_append, ← h1], h2, fun x hx => ?_, h4⟩
        rcases List.mem_cons.1 hx with rfl | hx
        · unfold vI at *; omega
        · exact h3 x hx
theorem plex_lex {B : List Bid} {s : Int} (ho : ∀ b, b ∈ B → Ok b) : ∀ {l m : List Nat}, PLex l m → (∀ i, i ∈ m → i < B.length) → vI B l = vI B m → LexLE l m
  | [], b :: m, .nil, hm, he => by
    exfalso
    have pos : ∀ m : List Nat, (∀ i, i ∈ m → i < B.length) → 0 ≤ vI B m := by
      intro m
      induction m with
      | nil => intro _; exact Int.le_refl _
      | cons c m ih =>
        intro hm
        have h1 := ih (fun i hi => hm i (List.mem_cons_of_mem _ hi))
        have hc := hm c List.mem_cons_self
        have h2 := (ho (B.getD c zb) (by rw [List.getD_eq_getElem?_getD, List.getElem?_eq_getElem hc]; exact List.getElem_mem _)).2
        show 0 ≤ (B.getD c zb).val + vI B m
        omega
    have hb := hm b List.mem_cons_self
    have h2 := (ho (B.getD b zb) (by rw [List.getD_eq_getElem?_getD, List.getElem?_eq_getElem hb]; exact List.getElem_mem _)).2
    have h1 := pos m (fun i hi => hm i (List.mem_cons_of_mem _ hi))
    have h3 : vI B (b :: m) = (B.getD b zb).val + vI B m := rfl
    have h4 : vI B [] = 0 := rfl
    omega
  | a :: l, b :: m, .lt h, _, _ => .lt h
  | a :: l, _ :: m, .cons h, hm, he => .cons (plex_lex (s := s) ho h (fun i hi => hm i (List.mem_cons_of_mem _ hi)) (by
    have h1 : vI B (a :: l) = (B.getD a zb).val + vI B l := rfl
    have h2 : vI B (a :: m) = (B.getD a zb).val + vI B m := rfl
    omega))
/-- What the specification picks is what Best accepts. -/
theorem pick_best {B : List Bid} {s : Int} (ho : ∀ b, b ∈ B → Ok b) : pick B [] (listsF B s [] 0) = bestF B s := by
  have hL := best_lead (s := s) ho
  have hbm : bestF B s ∈ listsF B s [] 0 := lists_mem.2 ⟨ic_compI ho hL.ic, hL.inc⟩
  have hop : ∀ x, x ∈ atS B s → Ok x := fun x hx => ho x (at_mem.1 hx).1
  have hmax : ∀ x, x ∈ listsF B s [] 0 → vI B x ≤ vI B (bestF B s) := fun x hx => by
    have := (compI_ic (lists_mem.1 hx).1).le hop
    have h2 := hL.val
    unfold vI; omega
  have fin : ∀ x, x ∈ listsF B s [] 0 → vI B x = vI B (bestF B s) → (x = bestF B s ∨ PLex x (bestF B s)) → x = bestF B s := fun x hx hv h => by
    rcases h with h | h
    · exact h
    · obtain ⟨h1, h2⟩ := lists_mem.1 hx
      have h3 := hL.lex x (compI_ic h1) h2 (by have := hL.val; unfold vI at hv; omega)
      exact lex_anti (plex_lex (s := s) ho h hL.ic.lt hv) h3
  rcases pick_spec (B := B) (listsF B s [] 0) [] with ⟨h1, h2⟩ | ⟨a, b, h1, h2, h3, h4⟩
  · rw [h1]
    have h5 := h2 _ hbm
    have hn : ([] : List Nat) ∈ listsF B s [] 0 := List.mem_cons_self
    have h6 := hmax _ hn
    refine fin [] hn (by omega) ?_
    rcases e : bestF B s with _ | ⟨c, m⟩
    · exact .inl rfl
    · exact .inr .nil
  · have hp : pick B [] (listsF B s [] 0) ∈ listsF B s [] 0 := by
      have h7 : pick B [] (listsF B s [] 0) ∈ a ++ pick B [] (listsF B s [] 0) :: b := List.mem_append_right _ List.mem_cons_self
      rwa [← h1] at h7
    have h5 := hmax _ hp
    have hpl := lists_plex B s
    generalize hq : pick B [] (listsF B s [] 0) = q at h1 h2 h3 h4 h5 hp ⊢
    have hfin := fin q
    rw [h1] at hbm hpl
    rcases List.mem_append.1 hbm with hm | hm
    · have := h3 _ hm; omega
    · rcases List.mem_cons.1 hm with e | hm
      · exact e.symm
      · have h6 := h4 _ hm
        exact hfin hp (by omega) (.inr ((List.pairwise_cons.1 (List.pairwise_append.1 hpl).2.1).1 _ hm))
end Go.Tv.C35

end
section
open Go Go.Tv Go.Proofs
namespace Go.Tv.C35
set_option maxRecDepth 20000
theorem ti3 : tinf Try.prog 3 = some (1, false) := by kernel_rfl
theorem tu3 : Try.prog.underlying 3 = some (.int .i64) := by kernel_rfl
abbrev z3 : Tr := .int .i64 0
theorem tz3 : zeroOf Try.prog 3 = some z3 := by kernel_rfl
theorem tb3 : (Try.prog.info? 3).map (·.bytes) = some 8 := by kernel_rfl
theorem ti4 : tinf Try.prog 4 = some (1, false) := by kernel_rfl
abbrev z4 : Tr := .bool false
theorem tz4 : zeroOf Try.prog 4 = some z4 := by kernel_rfl
theorem tu5 : Try.prog.underlying 5 = some (.int .u8) := by kernel_rfl
abbrev z5 : Tr := .int .u8 0
abbrev z9 : Tr := .str ⟨#[]⟩
theorem te22 : elemOf Try.prog 22 = some (3, 1, false) := by kernel_rfl
abbrev z22 : Tr := .sl [] true
theorem ti23 : tinf Try.prog 23 = some (1, false) := by kernel_rfl
theorem te23 : elemOf Try.prog 23 = some (42, 5, true) := by kernel_rfl
abbrev z23 : Tr := .sl [] true
theorem tz23 : zeroOf Try.prog 23 = some z23 := by kernel_rfl
theorem ti25 : tinf Try.prog 25 = some (1, false) := by kernel_rfl
theorem te25 : elemOf Try.prog 25 = some (29, 6, true) := by kernel_rfl
abbrev z25 : Tr := .sl [] true
theorem ti29 : tinf Try.prog 29 = some (6, true) := by kernel_rfl
theorem tf29_0 : fldOf Try.prog 29 0 = some (0, 1, false) := by kernel_rfl
theorem tf29_1 : fldOf Try.prog 29 1 = some (1, 1, false) := by kernel_rfl
theorem tf29_2 : fldOf Try.prog 29 2 = some (2, 1, false) := by kernel_rfl
theorem tf29_3 : fldOf Try.prog 29 3 = some (3, 1, false) := by kernel_rfl
theorem tf29_4 : fldOf Try.prog 29 4 = some (4, 1, false) := by kernel_rfl
theorem tf29_5 : fldOf Try.prog 29 5 = some (5, 1, false) := by kernel_rfl
theorem tg29 : fldsOf Try.prog 29 = some [(0, 1), (1, 1), (2, 1), (3, 1), (4, 1), (5, 1)] := by kernel_rfl
abbrev z29 : Tr := .agg [.int .i64 0, .int .i64 0, .int .i64 0, .int .i64 0, .int .i64 0, .int .i64 0]
theorem tz29 : zeroOf Try.prog 29 = some z29 := by kernel_rfl
theorem tb29 : (Try.prog.info? 29).map (·.bytes) = some 48 := by kernel_rfl
abbrev z41 : Tr := .agg [.int .i64 0, .int .i64 0, .int .i64 0, .int .i64 0, .int .i64 0]
theorem ti42 : tinf Try.prog 42 = some (5, true) := by kernel_rfl
theorem tf42_0 : fldOf Try.prog 42 0 = some (0, 1, false) := by kernel_rfl
theorem tf42_1 : fldOf Try.prog 42 1 = some (1, 1, false) := by kernel_rfl
theorem tf42_2 : fldOf Try.prog 42 2 = some (2, 1, false) := by kernel_rfl
theorem tf42_3 : fldOf Try.prog 42 3 = some (3, 1, false) := by kernel_rfl
theorem tf42_4 : fldOf Try.prog 42 4 = some (4, 1, false) := by kernel_rfl
theorem tg42 : fldsOf Try.prog 42 = some [(0, 1), (1, 1), (2, 1), (3, 1), (4, 1)] := by kernel_rfl
abbrev z42 : Tr := .agg [.int .i64 0, .int .i64 0, .int .i64 0, .int .i64 0, .int .i64 0]
theorem tz42 : zeroOf Try.prog 42 = some z42 := by kernel_rfl
theorem tb42 : (Try.prog.info? 42).map (·.bytes) = some 40 := by kernel_rfl
theorem ti49 : tinf Try.prog 49 = some (1, false) := by kernel_rfl
theorem te49 : elemOf Try.prog 49 = some (58, 4, true) := by kernel_rfl
theorem tu50 : Try.prog.underlying 50 = some (.int .u16) := by kernel_rfl
abbrev z50 : Tr := .int .u16 0
abbrev z53 : Tr := .agg [.sl [] true, .sl [] true]
theorem ti54 : tinf Try.prog 54 = some (2, true) := by kernel_rfl
theorem tf54_1 : fldOf Try.prog 54 1 = some (1, 1, false) := by kernel_rfl
theorem tg54 : fldsOf Try.prog 54 = some [(0, 1), (1, 1)] := by kernel_rfl
abbrev z54 : Tr := .agg [.sl [] true, .sl [] true]
theorem tz54 : zeroOf Try.prog 54 = some z54 := by kernel_rfl
abbrev z57 : Tr := .agg [.int .i64 0, .int .i64 0, .int .i64 0, .bool false]
theorem ti58 : tinf Try.prog 58 = some (4, true) := by kernel_rfl
theorem tf58_0 : fldOf Try.prog 58 0 = some (0, 1, false) := by kernel_rfl
theorem tf58_1 : fldOf Try.prog 58 1 = some (1, 1, false) := by kernel_rfl
theorem tg58 : fldsOf Try.prog 58 = some [(0, 1), (1, 1), (2, 1), (3, 1)] := by kernel_rfl
abbrev z58 : Tr := .agg [.int .i64 0, .int .i64 0, .int .i64 0, .bool false]
theorem tz58 : zeroOf Try.prog 58 = some z58 := by kernel_rfl
theorem tu86 : Try.prog.underlying 86 = some (.int .u64) := by kernel_rfl
theorem ti97 : tinf Try.prog 97 = some (1, false) := by kernel_rfl
theorem ti98 : tinf Try.prog 98 = some (1, false) := by kernel_rfl
theorem tz98 : zeroOf Try.prog 98 = some .nilf := by kernel_rfl
theorem te105 : elemOf Try.prog 105 = some (23, 1, false) := by kernel_rfl
theorem ta22 : AppT Try.prog 22 22 3 1 8 := ⟨⟨_, te22⟩, ⟨_, _, _, te22⟩, tb3, z3, tz3, by kernel_rfl⟩
theorem ta23 : AppT Try.prog 23 23 42 5 40 := ⟨⟨_, te23⟩, ⟨_, _, _, te23⟩, tb42, z42, tz42, by kernel_rfl⟩
theorem ta25 : AppT Try.prog 25 25 29 6 48 := ⟨⟨_, te25⟩, ⟨_, _, _, te25⟩, tb29, z29, tz29, by kernel_rfl⟩
theorem th29 : Program.eqGuardType Try.prog (Program.depth Try.prog) 29 = false := by kernel_rfl
theorem th42 : Program.eqGuardType Try.prog (Program.depth Try.prog) 42 = false := by kernel_rfl
theorem ts29s : scCells Try.prog 8 29 = some [.int .i64, .int .i64, .int .i64, .int .i64, .int .i64, .int .i64] := by kernel_rfl
theorem ts42s : scCells Try.prog 8 42 = some [.int .i64, .int .i64, .int .i64, .int .i64, .int .i64] := by kernel_rfl
theorem tm : Try.prog.follows .mixedOrders = true := by kernel_rfl
theorem co12 : callOK Try.prog 12 = true := by kernel_rfl
theorem co13 : callOK Try.prog 13 = true := by kernel_rfl
theorem co14 : callOK Try.prog 14 = true := by kernel_rfl
theorem co16 : callOK Try.prog 16 = true := by kernel_rfl
theorem co19 : callOK Try.prog 19 = true := by kernel_rfl
theorem co20 : callOK Try.prog 20 = true := by kernel_rfl
theorem co22 : callOK Try.prog 22 = true := by kernel_rfl
theorem co24 : callOK Try.prog 24 = true := by kernel_rfl
theorem co26 : callOK Try.prog 26 = true := by kernel_rfl
theorem co34 : callOK Try.prog 34 = true := by kernel_rfl
theorem co37 : callOK Try.prog 37 = true := by kernel_rfl
theorem co39 : callOK Try.prog 39 = true := by kernel_rfl
theorem co40 : callOK Try.prog 40 = true := by kernel_rfl
theorem co41 : callOK Try.prog 41 = true := by kernel_rfl
theorem co42 : callOK Try.prog 42 = true := by kernel_rfl
theorem co43 : callOK Try.prog 43 = true := by kernel_rfl
theorem co44 : callOK Try.prog 44 = true := by kernel_rfl
theorem co45 : callOK Try.prog 45 = true := by kernel_rfl
theorem co48 : callOK Try.prog 48 = true := by kernel_rfl
theorem co49 : callOK Try.prog 49 = true := by kernel_rfl
theorem co50 : callOK Try.prog 50 = true := by kernel_rfl
theorem co51 : callOK Try.prog 51 = true := by kernel_rfl
theorem co52 : callOK Try.prog 52 = true := by kernel_rfl
theorem co53 : callOK Try.prog 53 = true := by kernel_rfl
theorem co54 : callOK Try.prog 54 = true := by kernel_rfl
theorem co55 : callOK Try.prog 55 = true := by kernel_rfl
theorem co57 : callOK Try.prog 57 = true := by kernel_rfl
theorem co58 : callOK Try.prog 58 = true := by kernel_rfl
theorem co60 : callOK Try.prog 60 = true := by kernel_rfl
theorem co61 : callOK Try.prog 61 = true := by kernel_rfl
theorem co62 : callOK Try.prog 62 = true := by kernel_rfl
theorem co63 : callOK Try.prog 63 = true := by kernel_rfl
theorem co64 : callOK Try.prog 64 = true := by kernel_rfl
theorem co65 : callOK Try.prog 65 = true := by kernel_rfl
theorem co66 : callOK Try.prog 66 = true := by kernel_rfl
theorem co67 : callOK Try.prog 67 = true := by kernel_rfl
theorem co68 : callOK Try.prog 68 = true := by kernel_rfl
theorem co69 : callOK Try.prog 69 = true := by kernel_rfl
theorem co70 : callOK Try.prog 70 = true := by kernel_rfl
theorem co71 : callOK Try.prog 71 = true := by kernel_rfl
theorem co72 : callOK Try.prog 72 = true := by kernel_rfl
theorem co73 : callOK Try.prog 73 = true := by kernel_rfl
theorem co74 : callOK Try.prog 74 = true := by kernel_rfl
theorem co75 : callOK Try.prog 75 = true := by kernel_rfl
theorem co76 : callOK Try.prog 76 = true := by kernel_rfl
theorem co77 : callOK Try.prog 77 = true := by kernel_rfl
theorem co78 : callOK Try.prog 78 = true := by kernel_rfl
theorem co79 : callOK Try.prog 79 = true := by kernel_rfl
theorem co80 : callOK Try.prog 80 = true := by kernel_rfl
theorem co81 : callOK Try.prog 81 = true := by kernel_rfl
theorem co82 : callOK Try.prog 82 = true := by kernel_rfl
theorem co83 : callOK Try.prog 83 = true := by kernel_rfl
theorem co84 : callOK Try.prog 84 = true := by kernel_rfl
theorem co87 : callOK Try.prog 87 = true := by kernel_rfl
theorem co88 : callOK Try.prog 88 = true := by kernel_rfl
theorem co89 : callOK Try.prog 89 = true := by kernel_rfl
theorem co90 : callOK Try.prog 90 = true := by kernel_rfl
theorem co91 : callOK Try.prog 91 = true := by kernel_rfl
theorem co92 : callOK Try.prog 92 = true := by kernel_rfl
theorem co93 : callOK Try.prog 93 = true := by kernel_rfl
theorem co105 : callOK Try.prog 105 = true := by kernel_rfl
theorem co106 : callOK Try.prog 106 = true := by kernel_rfl
end Go.Tv.C35

end
section
open Go Go.Tv Go.Proofs
namespace Go.Tv.C35
set_option linter.unusedVariables false
def encI (n : Int) : Tr := .int .i64 n
def encB (b : Bid) : Tr := .agg [encI b.craft, encI b.station, encI b.frm, encI b.til, encI b.val]

def I64 (n : Int) : Prop := -9223372036854775808 ≤ n ∧ n ≤ 9223372036854775807
theorem take_succ_get {α : Type} {l : List α} {i : Nat} (h : i < l.length) : l.take (i + 1) = l.take i ++ [l[i]] := by
  rw [List.take_add_one, List.getElem?_eq_getElem h]; rfl
theorem mem_take_succ {α : Type} {l : List α} {i : Nat} (h : i < l.length) {x : α} : x ∈ l.take (i + 1) ↔ x ∈ l.take i ∨ x = l[i] := by
  rw [take_succ_get h, List.mem_append, List.mem_singleton]
def around (n m : Int) : Int := (if n < 0 then -(n + 1) else n) % m
theorem around_range {n m : Int} (hm : 0 < m) : 0 ≤ around n m ∧ around n m < m := by
  unfold around
  exact ⟨Int.emod_nonneg _ (by omega), Int.emod_lt_of_pos _ hm⟩
theorem tmod_pos {a m : Int} (h : 0 ≤ a) : a.tmod m = a % m := Int.tmod_eq_emod_of_nonneg h
def cmpI (a b : Int) : Int := if a < b then -1 else if b < a then 1 else 0
theorem wu64 (n : Int) : IntKind.u64.wrap n = n % 18446744073709551616 := by simp [IntKind.wrap, IntKind.bits, IntKind.signed]
theorem wi64 (n : Int) : IntKind.i64.wrap n = (n + 9223372036854775808) % 18446744073709551616 - 9223372036854775808 := by
  show (if (true && decide (n % 2 ^ 64 ≥ 2 ^ (64 - 1))) = true then n % 2 ^ 64 - 2 ^ 64 else n % 2 ^ 64) = _
  simp only [Bool.true_and, decide_eq_true_eq, ge_iff_le]
  split <;> omega
def fIx {α : Type} (p : α → Bool) (l : List α) : Int := match l.findIdx? p with
  | some i => (i : Int)
  | none => -1
theorem fIx_hit {α : Type} {p : α → Bool} {l : List α} {i : Nat} (hi : i < l.length) (h : ∀ b, b ∈ l.take i → p b = false) (he : p l[i] = true) : fIx p l = (i : Int) := by
  unfold fIx
  have : l.findIdx? p = some i := by
    rw [List.findIdx?_eq_some_iff_getElem]
    refine ⟨hi, he, fun j hj => ?_⟩
    have := h l[j] (by
      rw [List.mem_iff_getElem]
      exact ⟨j, by simp; omega, by simp⟩)
    simp [this]
  rw [this]
theorem fIx_none {α : Type} {p : α → Bool} {l : List α} (h : ∀ b, b ∈ l → p b = false) : fIx p l = -1 := by
  unfold fIx
  have : l.findIdx? p = none := by
    rw [List.findIdx?_eq_none_iff]
    intro b hb
    exact h b hb
  rw [this]
theorem fIx_neg {α : Type} {p : α → Bool} {l : List α} : fIx p l < 0 ↔ ∀ b, b ∈ l → p b = false := by
  constructor
  · intro h b hb
    cases hp : p b with
    | false => rfl
    | true =>
      exfalso
      unfold fIx at h
      cases hf : l.findIdx? p with
      | none => rw [List.findIdx?_eq_none_iff] at hf; rw [hf b hb] at hp; cases hp
      | some i => rw [hf] at h; simp only at h; omega
  · intro h
    rw [fIx_none h]; decide
theorem uneg {n : Int} (h : -9223372036854775807 ≤ n ∧ n ≤ 9223372036854775807) : uop .neg (.int .i64 n) = some (.int .i64 (-n)) := by
  show some (Tr.int .i64 (IntKind.i64.wrap (0 - n))) = _
  rw [wrap64 (by omega) (by omega), Int.zero_sub]
theorem fIx_nat {α : Type} {p : α → Bool} {l : List α} (h : ¬ fIx p l < 0) : ∃ i, ∃ hi : i < l.length, fIx p l = (i : Int) ∧ (∀ y, y ∈ l.take i → p y = false) ∧ p l[i] = true := by
  unfold fIx at *
  cases h2 : l.findIdx? p with
  | none => rw [h2] at h; simp at h
  | some i =>
    rw [List.findIdx?_eq_some_iff_getElem] at h2
    obtain ⟨hi, h1, h3⟩ := h2
    refine ⟨i, hi, rfl, fun y hy => ?_, h1⟩
    obtain ⟨j, hj, rfl⟩ := List.mem_iff_getElem.1 hy
    rw [List.length_take] at hj
    rw [List.getElem_take]
    simpa using h3 j (by omega)
def encN (n : Nat) : Tr := encI n
end Go.Tv.C35

end
section
open Go Go.Tv Go.Proofs
namespace Go.Tv.C35
set_option maxRecDepth 20000
set_option maxHeartbeats 2000000
set_option linter.unusedSimpArgs false
set_option linter.unusedVariables false
theorem nan_ret (n : Int) : Ret Try.prog 88 [encI n] (.bool false) := by
  refine ret_of_awp Try.func88 rfl (Nat.le_of_ble_eq_true rfl) ?_
  refine awp_seq ?_
  refine awp_rw rfl ?_
  refine RW.op rfl rfl (eff_assign (v := .t _) rfl rfl rfl) ?_
  refine RW.nil ?_
  refine awp_seq ?_
  refine awp_rw rfl ?_
  refine RW.op rfl rfl (eff_move (v := .t _) rfl rfl rfl) ?_
  refine RW.op rfl rfl (eff_move (v := .t _) rfl rfl rfl) ?_
  refine RW.op rfl rfl (eff_iop (r := .bool false) rfl rfl rfl rfl (by simp [iop])) ?_
  refine RW.op rfl rfl (eff_assign (v := .t _) rfl rfl rfl) ?_
  refine RW.nil ?_
  refine awp_ret ?_
  exact ⟨Or.inr rfl, [_], ⟨.tmp (.t _), trivial⟩, .refl _⟩

theorem cmp_ret (a b : Int) : Ret Try.prog 68 [encI a, encI b] (encI (cmpI a b)) := by
  refine ret_of_awp Try.func68 rfl (Nat.le_of_ble_eq_true rfl) ?_
  refine awp_seq ?_
  refine awp_rw rfl ?_
  refine RW.op rfl rfl (eff_assign (v := .t _) rfl rfl rfl) ?_
  refine RW.nil ?_
  refine awp_seq ?_
  refine awp_rw rfl ?_
  refine RW.op rfl rfl (eff_move (v := .t _) rfl rfl rfl) ?_
  refine RW.op rfl rfl (eff_callT (nan_ret _) co88 rfl rfl rfl rfl) ?_
  refine RW.op rfl rfl (eff_assign (v := .t _) rfl rfl rfl) ?_
  refine RW.nil ?_
  refine awp_seq ?_
  refine awp_rw rfl ?_
  refine RW.op rfl rfl (eff_move (v := .t _) rfl rfl rfl) ?_
  refine RW.op rfl rfl (eff_callT (nan_ret _) co88 rfl rfl rfl rfl) ?_
  refine RW.op rfl rfl (eff_assign (v := .t _) rfl rfl rfl) ?_
  refine RW.nil ?_
  refine awp_seq ?_
  refine awp_seq ?_
  refine awp_rw rfl ?_
  refine RW.op rfl rfl (eff_move (v := .t _) rfl rfl rfl) ?_
  refine RW.nil ?_
  refine awp_cond rfl (fun h => nomatch h) (fun _ => ?_)
  refine awp_skip ?_
  refine awp_seq ?_
  refine awp_seq ?_
  refine awp_rw rfl ?_
  refine RW.op rfl rfl (eff_move (v := .t _) rfl rfl rfl) ?_
  refine RW.nil ?_
  refine awp_cond rfl (fun h => nomatch h) (fun _ => ?_)
  refine awp_skip ?_
  refine awp_seq ?_
  refine awp_seq ?_
  refine awp_rw rfl ?_
  refine RW.op rfl rfl (eff_move (v := .t _) rfl rfl rfl) ?_
  refine RW.op rfl rfl (eff_move (v := .t _) rfl rfl rfl) ?_
  refine RW.op rfl rfl (eff_iop rfl rfl rfl rfl rfl) ?_
  refine RW.nil ?_
  refine awp_cond rfl (fun h1 => ?_) (fun h1 => ?_)
  · try simp only [decide_eq_true_eq, decide_eq_false_iff_not, beq_iff_eq, bne_iff_ne, bne_eq_false_iff_eq, beq_eq_false_iff_ne, Bool.not_eq_true, Bool.not_eq_false, Bool.not_eq_true', Bool.not_eq_false', ne_eq] at h1
    refine awp_seq ?_
    refine awp_rw rfl ?_
    refine RW.op rfl rfl (eff_assign (v := .t _) rfl rfl rfl) ?_
    refine RW.nil ?_
    refine awp_ret ?_
    (rw [show cmpI a b = -1 from by unfold cmpI; rw [if_pos (by omega)]]; exact ⟨Or.inr rfl, [_], ⟨.tmp (.t _), trivial⟩, .refl _⟩)
  · try simp only [decide_eq_true_eq, decide_eq_false_iff_not, beq_iff_eq, bne_iff_ne, bne_eq_false_iff_eq, beq_eq_false_iff_ne, Bool.not_eq_true, Bool.not_eq_false, Bool.not_eq_true', Bool.not_eq_false', ne_eq] at h1
    refine awp_skip ?_
    refine awp_seq ?_
    refine awp_seq ?_
    refine awp_rw rfl ?_
    refine RW.op rfl rfl (eff_move (v := .t _) rfl rfl rfl) ?_
    refine RW.op rfl rfl (eff_move (v := .t _) rfl rfl rfl) ?_
    refine RW.op rfl rfl (eff_iop rfl rfl rfl rfl rfl) ?_
    refine RW.nil ?_
    refine awp_cond rfl (fun h2 => ?_) (fun h2 => ?_)
    · try simp only [decide_eq_true_eq, decide_eq_false_iff_not, beq_iff_eq, bne_iff_ne, bne_eq_false_iff_eq, beq_eq_false_iff_ne, Bool.not_eq_true, Bool.not_eq_false, Bool.not_eq_true', Bool.not_eq_false', ne_eq] at h2
      refine awp_seq ?_
      refine awp_rw rfl ?_
      refine RW.op rfl rfl (eff_assign (v := .t _) rfl rfl rfl) ?_
      refine RW.nil ?_
      refine awp_ret ?_
      (rw [show cmpI a b = 1 from by unfold cmpI; rw [if_neg (by omega), if_pos (by omega)]]; exact ⟨Or.inr rfl, [_], ⟨.tmp (.t _), trivial⟩, .refl _⟩)
    · try simp only [decide_eq_true_eq, decide_eq_false_iff_not, beq_iff_eq, bne_iff_ne, bne_eq_false_iff_eq, beq_eq_false_iff_ne, Bool.not_eq_true, Bool.not_eq_false, Bool.not_eq_true', Bool.not_eq_false', ne_eq] at h2
      refine awp_skip ?_
      refine awp_seq ?_
      refine awp_rw rfl ?_
      refine RW.op rfl rfl (eff_assign (v := .t _) rfl rfl rfl) ?_
      refine RW.nil ?_
      refine awp_ret ?_
      (rw [show cmpI a b = 0 from by unfold cmpI; rw [if_neg (by omega), if_neg (by omega)]]; exact ⟨Or.inr rfl, [_], ⟨.tmp (.t _), trivial⟩, .refl _⟩)

theorem conflict_ret (a b : Bid) : Ret Try.prog 55 [encB a, encB b] (.bool (confl a b)) := by
  refine ret_of_awp Try.func55 rfl (Nat.le_of_ble_eq_true rfl) ?_
  refine awp_seq ?_
  refine awp_rw rfl ?_
  refine RW.new rfl rfl (eff_boxK (v := .t _) (k := 5) (id := 2) rfl rfl rfl rfl rfl rfl) ?_
  refine RW.new rfl rfl (eff_boxK (v := .t _) (k := 5) (id := 3) rfl rfl rfl rfl rfl rfl) ?_
  refine RW.op rfl rfl (eff_assign (v := .t _) rfl rfl rfl) ?_
  refine RW.nil ?_
  refine awp_seq ?_
  refine awp_rw rfl ?_
  refine RW.op rfl rfl (eff_fieldAddr rfl rfl tf42_2 (by decide) rfl rfl rfl (Nat.le_of_ble_eq_true rfl)) ?_
  refine RW.op rfl rfl (eff_load (y := .t _) rfl rfl ti3 rfl (.one rfl rfl rfl rfl)) ?_
  refine RW.op rfl rfl (eff_fieldAddr rfl rfl tf42_3 (by decide) rfl rfl rfl (Nat.le_of_ble_eq_true rfl)) ?_
  refine RW.op rfl rfl (eff_load (y := .t _) rfl rfl ti3 rfl (.one rfl rfl rfl rfl)) ?_
  refine RW.op rfl rfl (eff_iop rfl rfl rfl rfl rfl) ?_
  refine RW.op rfl rfl (eff_move (v := .t _) rfl rfl rfl) ?_
  refine RW.split 10 rfl (fun h1 => ?_) (fun h1 => ?_)
  · try simp only [decide_eq_true_eq, decide_eq_false_iff_not, beq_iff_eq, bne_iff_ne, bne_eq_false_iff_eq, beq_eq_false_iff_ne, Bool.not_eq_true, Bool.not_eq_false, Bool.not_eq_true', Bool.not_eq_false', ne_eq] at h1
    refine RW.gop rfl rfl rfl rfl rfl rfl (eff_fieldAddr rfl rfl tf42_2 (by decide) rfl rfl rfl (Nat.le_of_ble_eq_true rfl)) ?_
    refine RW.gop rfl rfl rfl rfl rfl rfl (eff_load (y := .t _) rfl rfl ti3 rfl (.one rfl rfl rfl rfl)) ?_
    refine RW.gop rfl rfl rfl rfl rfl rfl (eff_fieldAddr rfl rfl tf42_3 (by decide) rfl rfl rfl (Nat.le_of_ble_eq_true rfl)) ?_
    refine RW.gop rfl rfl rfl rfl rfl rfl (eff_load (y := .t _) rfl rfl ti3 rfl (.one rfl rfl rfl rfl)) ?_
    refine RW.gop rfl rfl rfl rfl rfl rfl (eff_iop rfl rfl rfl rfl rfl) ?_
    refine RW.op rfl rfl (eff_pick (v := .t _) rfl rfl rfl rfl) ?_
    refine RW.op rfl rfl (eff_assign (v := .t _) rfl rfl rfl) ?_
    refine RW.nil ?_
    refine awp_ret ?_
    (rw [show confl a b = _ from by unfold confl; first | rw [decide_eq_false (show ¬ a.frm < b.til by assumption), Bool.false_and] | rw [decide_eq_true (show a.frm < b.til by assumption), Bool.true_and]]; exact ⟨Or.inr rfl, [_], ⟨.tmp (.t _), trivial⟩, .refl _⟩)
  · try simp only [decide_eq_true_eq, decide_eq_false_iff_not, beq_iff_eq, bne_iff_ne, bne_eq_false_iff_eq, beq_eq_false_iff_ne, Bool.not_eq_true, Bool.not_eq_false, Bool.not_eq_true', Bool.not_eq_false', ne_eq] at h1
    refine RW.gskip rfl rfl rfl rfl rfl (by decide) ?_
    refine RW.gskip rfl rfl rfl rfl rfl (by decide) ?_
    refine RW.gskip rfl rfl rfl rfl rfl (by decide) ?_
    refine RW.gskip rfl rfl rfl rfl rfl (by decide) ?_
    refine RW.gskip rfl rfl rfl rfl rfl (by decide) ?_
    refine RW.op rfl rfl (eff_pick (v := .t _) rfl rfl rfl rfl) ?_
    refine RW.op rfl rfl (eff_assign (v := .t _) rfl rfl rfl) ?_
    refine RW.nil ?_
    refine awp_ret ?_
    (rw [show confl a b = _ from by unfold confl; first | rw [decide_eq_false (show ¬ a.frm < b.til by assumption), Bool.false_and] | rw [decide_eq_true (show a.frm < b.til by assumption), Bool.true_and]]; exact ⟨Or.inr rfl, [_], ⟨.tmp (.t _), trivial⟩, .refl _⟩)

theorem order_ret (a b : Bid) : Ret Try.prog 76 [encB a, encB b] (encI (cmpI a.til b.til)) := by
  refine ret_of_awp Try.func76 rfl (Nat.le_of_ble_eq_true rfl) ?_
  refine awp_seq ?_
  refine awp_rw rfl ?_
  refine RW.new rfl rfl (eff_boxK (v := .t _) (k := 5) (id := 2) rfl rfl rfl rfl rfl rfl) ?_
  refine RW.new rfl rfl (eff_boxK (v := .t _) (k := 5) (id := 3) rfl rfl rfl rfl rfl rfl) ?_
  refine RW.op rfl rfl (eff_assign (v := .t _) rfl rfl rfl) ?_
  refine RW.nil ?_
  refine awp_seq ?_
  refine awp_rw rfl ?_
  refine RW.op rfl rfl (eff_fieldAddr rfl rfl tf42_3 (by decide) rfl rfl rfl (Nat.le_of_ble_eq_true rfl)) ?_
  refine RW.op rfl rfl (eff_load (y := .t _) rfl rfl ti3 rfl (.one rfl rfl rfl rfl)) ?_
  refine RW.op rfl rfl (eff_fieldAddr rfl rfl tf42_3 (by decide) rfl rfl rfl (Nat.le_of_ble_eq_true rfl)) ?_
  refine RW.op rfl rfl (eff_load (y := .t _) rfl rfl ti3 rfl (.one rfl rfl rfl rfl)) ?_
  refine RW.op rfl rfl (eff_callT (cmp_ret _ _) co68 rfl rfl rfl rfl) ?_
  refine RW.op rfl rfl (eff_assign (v := .t _) rfl rfl rfl) ?_
  refine RW.nil ?_
  refine awp_ret ?_
  exact ⟨Or.inr rfl, [_], ⟨.tmp (.t _), trivial⟩, .refl _⟩

theorem tick_ret (a : Bid) (t : Int) : Ret Try.prog 79 [encB a, encI t] (encI (cmpI a.til t)) := by
  refine ret_of_awp Try.func79 rfl (Nat.le_of_ble_eq_true rfl) ?_
  refine awp_seq ?_
  refine awp_rw rfl ?_
  refine RW.new rfl rfl (eff_boxK (v := .t _) (k := 5) (id := 2) rfl rfl rfl rfl rfl rfl) ?_
  refine RW.op rfl rfl (eff_assign (v := .t _) rfl rfl rfl) ?_
  refine RW.nil ?_
  refine awp_seq ?_
  refine awp_rw rfl ?_
  refine RW.op rfl rfl (eff_fieldAddr rfl rfl tf42_3 (by decide) rfl rfl rfl (Nat.le_of_ble_eq_true rfl)) ?_
  refine RW.op rfl rfl (eff_load (y := .t _) rfl rfl ti3 rfl (.one rfl rfl rfl rfl)) ?_
  refine RW.op rfl rfl (eff_move (v := .t _) rfl rfl rfl) ?_
  refine RW.op rfl rfl (eff_callT (cmp_ret _ _) co68 rfl rfl rfl rfl) ?_
  refine RW.op rfl rfl (eff_assign (v := .t _) rfl rfl rfl) ?_
  refine RW.nil ?_
  refine awp_ret ?_
  exact ⟨Or.inr rfl, [_], ⟨.tmp (.t _), trivial⟩, .refl _⟩

theorem clash_ret (x b : Bid) : Ret Try.prog 54 [encB x, .ptr (encB b).cells] (.bool (confl x b)) := by
  refine ret_of_awp Try.func54 rfl (Nat.le_of_ble_eq_true rfl) ?_
  refine awp_seq ?_
  refine awp_rw rfl ?_
  refine RW.new rfl rfl (eff_boxK (v := .t _) (k := 5) (id := 2) rfl rfl rfl rfl rfl rfl) ?_
  refine RW.op rfl rfl (eff_assign (v := .t _) rfl rfl rfl) ?_
  refine RW.nil ?_
  refine awp_seq ?_
  refine awp_rw rfl ?_
  refine RW.op rfl rfl (eff_load rfl rfl ti42 rfl (.whole rfl rfl rfl rfl rfl rfl)) ?_
  refine RW.op rfl rfl (eff_loadW rfl rfl ti42 rfl rfl rfl) ?_
  refine RW.op rfl rfl (eff_callT (conflict_ret _ _) co55 rfl rfl rfl rfl) ?_
  refine RW.op rfl rfl (eff_assign (v := .t _) rfl rfl rfl) ?_
  refine RW.nil ?_
  refine awp_ret ?_
  exact ⟨Or.inr rfl, [_], ⟨.tmp (.t _), trivial⟩, .refl _⟩

end Go.Tv.C35

end
section
open Go Go.Tv Go.Proofs
namespace Go.Tv.C35
set_option maxRecDepth 20000
set_option maxHeartbeats 2000000
set_option linter.unusedSimpArgs false
set_option linter.unusedVariables false
theorem at_yes {B : List Bid} {s : Int} {i : Nat} (h : i < B.length) (e : B[i].station = s) : atS (B.take (i + 1)) s = atS (B.take i) s ++ [B[i]] := by
  unfold atS; rw [take_succ_get h, List.filter_append, List.filter_cons, if_pos (decide_eq_true e)]; rfl
theorem at_no {B : List Bid} {s : Int} {i : Nat} (h : i < B.length) (e : ¬ B[i].station = s) : atS (B.take (i + 1)) s = atS (B.take i) s := by
  unfold atS; rw [take_succ_get h, List.filter_append, List.filter_cons, if_neg (by simpa using e)]; simp
theorem at_len (B : List Bid) (s : Int) : (atS B s).length ≤ B.length := List.length_filter_le _ _

theorem at_ret (B : List Bid) (sn : Int) (hB : B.length ≤ 100000) : Ret Try.prog 49 [.sl (B.map encB) false, encI sn] (.sl ((atS B sn).map encB) false) := by
  refine ret_of_awp Try.func49 rfl (Nat.le_of_ble_eq_true rfl) ?_
  refine awp_seq ?_
  refine awp_rw rfl ?_
  refine RW.op rfl rfl (eff_assign (v := .t _) rfl rfl rfl) ?_
  refine RW.nil ?_
  refine awp_seq ?_
  refine awp_rw rfl ?_
  refine RW.op rfl rfl (eff_assign (v := .t _) rfl rfl rfl) ?_
  refine RW.nil ?_
  show AWP _ _ _ _
  refine awp_weak (weak_adopt (d := 5) (id := 5) (k := 5) (ty := 42) rfl rfl) ?_
  refine awp_seq ?_
  refine awp_seq ?_
  refine awp_rw rfl ?_
  refine RW.op rfl rfl (eff_move (v := .t _) rfl rfl rfl) ?_
  refine RW.op rfl rfl (eff_lenM rfl rfl te23 rfl) ?_
  refine RW.op rfl rfl (eff_move (v := .t _) rfl rfl rfl) ?_
  refine RW.nil ?_
  refine awp_block ?_
  refine awp_loopW (fun m s => ∃ (i : Nat) (gn : Nat) (n : Nat) (els : List AV), (i ≤ B.length) ∧ (n = (atS (B.take i) sn).length) ∧ (els = ((atS (B.take i) sn).map encB).map .t) ∧ m = B.length - i ∧ s = ⟨24, [(1, .t (encI sn)), (5, .own 5 gn 0 n), (8, .t (.sl (B.map encB) false)), (9, .t (encI B.length)), (10, .t (encI (i : Nat)))], [(5, some ⟨5, 42, gn, els⟩)]⟩) (_) (⟨_, weak_keep (n := 24) (fr' := [(1, .t (encI sn)), (5, .own 5 0 0 0), (8, .t (.sl (B.map encB) false)), (9, .t (encI B.length)), (10, .t (encI (0 : Nat)))]) (st' := [(5, some ⟨5, 42, 0, ([])⟩)]) ⟨rfl, rfl, rfl, rfl, rfl, rfl, rfl, rfl, rfl, rfl, trivial⟩ ⟨rfl, (by first | exact okE_nil | (rw [he]; exact okE_t) | (rw [he]; intro x hx; simp only [List.mem_append, List.mem_map, List.mem_singleton] at hx; rcases hx with ⟨y, _, rfl⟩ | rfl <;> rfl)), trivial⟩, 0, 0, 0, [], (by omega), (by rfl), (by rfl), rfl, rfl⟩) ?_
  rintro m s ⟨i, gn, n, els, hi, hnn, he, rfl, rfl⟩
  have hal := at_len (B.take i) sn
  rw [List.length_take] at hal
  refine awp_seq ?_
  refine awp_rw rfl ?_
  refine RW.op rfl rfl (eff_iop rfl rfl rfl rfl rfl) ?_
  refine RW.nil ?_
  refine awp_seq ?_
  refine awp_cond rfl (fun h1 => ?_) (fun h1 => ?_)
  · try simp only [decide_eq_true_eq, decide_eq_false_iff_not, beq_iff_eq, bne_iff_ne, bne_eq_false_iff_eq, beq_eq_false_iff_ne, Bool.not_eq_true, Bool.not_eq_false, Bool.not_eq_true', Bool.not_eq_false', ne_eq] at h1
    refine awp_skip ?_
    refine awp_seq ?_
    refine awp_block ?_
    refine awp_seq ?_
    refine awp_rw rfl ?_
    have hil : i < B.length := by omega
    refine RW.op rfl rfl (eff_indexM rfl rfl te23 rfl rfl rfl (by first | assumption | exact List.getElem?_eq_getElem (by omega)) rfl (by decide)) ?_
    refine RW.op rfl rfl (eff_loadW rfl rfl ti42 rfl rfl rfl) ?_
    refine RW.new rfl rfl (eff_allocK (k := 5) (id := 7) rfl rfl tz42 rfl rfl) ?_
    refine RW.store rfl rfl (eff_storeW (v := .t _) (els := [_]) (els' := [_]) rfl rfl ti42 rfl rfl rfl rfl rfl rfl rfl rfl rfl) ?_
    refine RW.nil ?_
    refine awp_seq ?_
    refine awp_rw rfl ?_
    refine RW.op rfl rfl (eff_fieldAddr rfl rfl tf42_1 (by decide) rfl rfl rfl (Nat.le_of_ble_eq_true rfl)) ?_
    refine RW.op rfl rfl (eff_load (y := .t _) rfl rfl ti3 rfl (.one rfl rfl rfl rfl)) ?_
    refine RW.op rfl rfl (eff_move (v := .t _) rfl rfl rfl) ?_
    refine RW.op rfl rfl (eff_iop rfl rfl rfl rfl rfl) ?_
    refine RW.nil ?_
    refine awp_cond rfl (fun h2 => ?_) (fun h2 => ?_)
    · try simp only [decide_eq_true_eq, decide_eq_false_iff_not, beq_iff_eq, bne_iff_ne, bne_eq_false_iff_eq, beq_eq_false_iff_ne, Bool.not_eq_true, Bool.not_eq_false, Bool.not_eq_true', Bool.not_eq_false', ne_eq] at h2
      refine awp_rw rfl ?_
      refine RW.op rfl rfl (eff_move (v := .own _ _ _ _) rfl rfl rfl) ?_
      refine RW.op rfl rfl (eff_load rfl rfl ti42 rfl (.whole rfl rfl rfl rfl rfl rfl)) ?_
      refine RW.new rfl rfl (eff_buildSliceL (id := 20) (els := [.t (.agg [_, _, _, _, _])]) rfl rfl te23 tz42 rfl (by decide) (by decide) rfl rfl rfl rfl) ?_
      refine RW.new rfl rfl (eff_append (id := 5) (ys := [_]) rfl rfl ta23 rfl rfl rfl (by rw [he, hnn]; simp) rfl rfl (srcOwn rfl rfl rfl rfl rfl rfl) (by simp) (by simp; omega) (by simp; omega)) ?_
      refine RW.op rfl rfl (eff_assign (v := .own _ _ _ _) rfl rfl rfl) ?_
      refine RW.nil ?_
      refine awp_rw rfl ?_
      refine RW.op rfl rfl (eff_iop rfl rfl rfl rfl (iadd (by omega))) ?_
      refine RW.op rfl rfl (eff_move (v := .t _) rfl rfl rfl) ?_
      refine RW.nil ?_
      refine ⟨_, ?_, _, weak_keep (n := 24) (fr' := [(1, .t (encI sn)), (5, .own 5 _ 0 _), (8, .t (.sl (B.map encB) false)), (9, .t (encI B.length)), (10, .t (encI ((i + 1) : Nat)))]) (st' := [(5, some ⟨5, 42, _, _⟩)]) ⟨rfl, rfl, rfl, rfl, rfl, rfl, rfl, rfl, rfl, rfl, trivial⟩ ⟨rfl, (by first | exact okE_nil | (rw [he]; exact okE_t) | (rw [he]; intro x hx; simp only [List.mem_append, List.mem_map, List.mem_singleton] at hx; rcases hx with ⟨y, _, rfl⟩ | rfl <;> rfl)), trivial⟩, i + 1, _, _, _, (by omega), (by first | (rw [at_yes hil (by assumption), hnn]; simp; done) | (rw [at_no hil (by assumption)]; exact hnn)), (by first | (rw [at_no hil (by assumption)]; exact he) | (rw [at_yes hil (by assumption), he]; simp <;> rfl)), rfl, rfl⟩
      omega
    · try simp only [decide_eq_true_eq, decide_eq_false_iff_not, beq_iff_eq, bne_iff_ne, bne_eq_false_iff_eq, beq_eq_false_iff_ne, Bool.not_eq_true, Bool.not_eq_false, Bool.not_eq_true', Bool.not_eq_false', ne_eq] at h2
      refine awp_skip ?_
      refine awp_rw rfl ?_
      refine RW.op rfl rfl (eff_iop rfl rfl rfl rfl (iadd (by omega))) ?_
      refine RW.op rfl rfl (eff_move (v := .t _) rfl rfl rfl) ?_
      refine RW.nil ?_
      refine ⟨_, ?_, _, weak_keep (n := 24) (fr' := [(1, .t (encI sn)), (5, .own 5 _ 0 _), (8, .t (.sl (B.map encB) false)), (9, .t (encI B.length)), (10, .t (encI ((i + 1) : Nat)))]) (st' := [(5, some ⟨5, 42, _, _⟩)]) ⟨rfl, rfl, rfl, rfl, rfl, rfl, rfl, rfl, rfl, rfl, trivial⟩ ⟨rfl, (by first | exact okE_nil | (rw [he]; exact okE_t) | (rw [he]; intro x hx; simp only [List.mem_append, List.mem_map, List.mem_singleton] at hx; rcases hx with ⟨y, _, rfl⟩ | rfl <;> rfl)), trivial⟩, i + 1, _, _, _, (by omega), (by first | (rw [at_yes hil (by assumption), hnn]; simp; done) | (rw [at_no hil (by assumption)]; exact hnn)), (by first | (rw [at_no hil (by assumption)]; exact he) | (rw [at_yes hil (by assumption), he]; simp <;> rfl)), rfl, rfl⟩
      omega
  · try simp only [decide_eq_true_eq, decide_eq_false_iff_not, beq_iff_eq, bne_iff_ne, bne_eq_false_iff_eq, beq_eq_false_iff_ne, Bool.not_eq_true, Bool.not_eq_false, Bool.not_eq_true', Bool.not_eq_false', ne_eq] at h1
    refine awp_exit ?_
    refine awp_seq ?_
    refine awp_rw rfl ?_
    refine RW.op rfl rfl (eff_move (v := .own _ _ _ _) rfl rfl rfl) ?_
    refine RW.op rfl rfl (eff_assign (v := .own _ _ _ _) rfl rfl rfl) ?_
    refine RW.nil ?_
    refine awp_ret ?_
    obtain rfl : i = B.length := by omega
    exact ⟨Or.inr rfl, [_], ⟨.tmp (Res.ownT (xs := (atS B sn).map encB) rfl rfl (by rw [he, List.take_length]) (by rw [hnn, List.take_length]; simp)), trivial⟩, .refl _⟩

end Go.Tv.C35

end
section
open Go Go.Tv Go.Proofs
namespace Go.Tv.C35
set_option maxRecDepth 20000
set_option maxHeartbeats 2000000
set_option linter.unusedSimpArgs false
set_option linter.unusedVariables false
theorem cmpI_neg {a b : Int} : cmpI a b < 0 ↔ a < b := by
  unfold cmpI
  split
  · omega
  · split <;> omega
def posT (l : List Bid) (t : Int) : Nat := endBy l (t - 1)
def hitT (l : List Bid) (t : Int) : Bool := match l[posT l t]? with
  | some b => cmpI b.til t == 0
  | none => false
theorem posT_eq {l : List Bid} {t : Int} {i : Nat} (hs : SortedT l) (hi : i ≤ l.length) (h1 : ∀ h : 0 < i, (l[i - 1]'(by omega)).til < t) (h2 : ∀ h : i < l.length, ¬ l[i].til < t) : posT l t = i := by
  have hle := endBy_le l (t - 1)
  unfold posT
  rcases Nat.lt_trichotomy (endBy l (t - 1)) i with h | h | h
  · exfalso
    have hlt : endBy l (t - 1) < l.length := by omega
    have h3 := endBy_drop l (t - 1) hs l[endBy l (t - 1)] (by rw [List.drop_eq_getElem_cons hlt]; exact List.mem_cons_self)
    have h4 := h1 (by omega)
    rcases Nat.lt_or_ge (endBy l (t - 1)) (i - 1) with h5 | h5
    · have := List.pairwise_iff_getElem.1 hs (endBy l (t - 1)) (i - 1) hlt (by omega) h5
      omega
    · have e : endBy l (t - 1) = i - 1 := by omega
      have e2 : l[endBy l (t - 1)] = l[i - 1]'(by omega) := by congr 1
      rw [e2] at h3; omega
  · exact h
  · exfalso
    have h3 := endBy_take l (t - 1) (l[i]'(by omega)) (List.mem_take_iff_getElem.2 ⟨i, by omega, rfl⟩)
    exact h2 (by omega) (by omega)

theorem search_ret (l : List Bid) (t : Int) (hl : l.length ≤ 1000000) (hs : SortedT l) : Ret Try.prog 78 [.sl (l.map encB) false, encI t, .fn 79 []] (.tup [encI (posT l t : Nat), .bool (hitT l t)]) := by
  refine ret_of_awp Try.func78 rfl (Nat.le_of_ble_eq_true rfl) ?_
  refine awp_seq ?_
  refine awp_rw rfl ?_
  refine RW.op rfl rfl (eff_assign (v := .t _) rfl rfl rfl) ?_
  refine RW.op rfl rfl (eff_assign (v := .t _) rfl rfl rfl) ?_
  refine RW.nil ?_
  refine awp_seq ?_
  refine awp_rw rfl ?_
  refine RW.op rfl rfl (eff_move (v := .t _) rfl rfl rfl) ?_
  refine RW.op rfl rfl (eff_lenM rfl rfl te23 rfl) ?_
  refine RW.op rfl rfl (eff_assign (v := .t _) rfl rfl rfl) ?_
  refine RW.nil ?_
  refine awp_seq ?_
  refine awp_rw rfl ?_
  refine RW.op rfl rfl (eff_move (v := .t _) rfl rfl rfl) ?_
  refine RW.op rfl rfl (eff_assign (v := .t _) rfl rfl rfl) ?_
  refine RW.op rfl rfl (eff_assign (v := .t _) rfl rfl rfl) ?_
  refine RW.nil ?_
  refine awp_seq ?_
  refine awp_block ?_
  refine awp_loopW (fun m s => ∃ (lo : Nat) (hi : Nat), (lo ≤ hi) ∧ (hi ≤ l.length) ∧ (∀ (h : 0 < lo) (h2 : lo - 1 < l.length), (l[lo - 1]'h2).til < t) ∧ (∀ h : hi < l.length, ¬ l[hi].til < t) ∧ m = hi - lo ∧ s = ⟨49, [(0, .t (.sl (l.map encB) false)), (1, .t (encI t)), (2, .t (.fn 79 [])), (8, .t (encI (l.length : Nat))), (9, .t (encI (lo : Nat))), (10, .t (encI (hi : Nat)))], []⟩) (_) (⟨_, weak_keep (n := 49) (fr' := [(0, .t (.sl (l.map encB) false)), (1, .t (encI t)), (2, .t (.fn 79 [])), (8, .t (encI (l.length : Nat))), (9, .t (encI (0 : Nat))), (10, .t (encI ((l.length) : Nat)))]) (st' := []) ⟨rfl, rfl, rfl, rfl, rfl, rfl, rfl, rfl, rfl, rfl, rfl, rfl, trivial⟩ trivial, 0, l.length, (by omega), (by omega), (by intro h; omega), (by intro h; omega), rfl, rfl⟩) ?_
  rintro m s ⟨lo, hi, hlh, hhi, hy, hz, rfl, rfl⟩
  refine awp_seq ?_
  refine awp_seq ?_
  refine awp_rw rfl ?_
  refine RW.op rfl rfl (eff_move (v := .t _) rfl rfl rfl) ?_
  refine RW.op rfl rfl (eff_move (v := .t _) rfl rfl rfl) ?_
  refine RW.op rfl rfl (eff_iop rfl rfl rfl rfl rfl) ?_
  refine RW.nil ?_
  refine awp_cond rfl (fun h1 => ?_) (fun h1 => ?_)
  · try simp only [decide_eq_true_eq, decide_eq_false_iff_not, beq_iff_eq, bne_iff_ne, bne_eq_false_iff_eq, beq_eq_false_iff_ne, Bool.not_eq_true, Bool.not_eq_false, Bool.not_eq_true', Bool.not_eq_false', ne_eq] at h1
    refine awp_skip ?_
    refine awp_block ?_
    refine awp_seq ?_
    refine awp_rw rfl ?_
    refine RW.op rfl rfl (eff_move (v := .t _) rfl rfl rfl) ?_
    refine RW.op rfl rfl (eff_move (v := .t _) rfl rfl rfl) ?_
    refine RW.op rfl rfl (eff_iop rfl rfl rfl rfl (iadd (by omega))) ?_
    refine RW.op rfl rfl (eff_convIntE (m := ((lo + hi : Nat) : Int)) rfl rfl (by rw [tu3]; rfl) tu86 rfl (wrapU64 (by omega) (by omega))) ?_
    refine RW.op rfl rfl (eff_shrE (r := ((((lo + hi) / 2) : Nat) : Int)) rfl rfl rfl rfl (by decide) (shr1 _)) ?_
    refine RW.op rfl rfl (eff_convIntE (m := ((((lo + hi) / 2) : Nat) : Int)) rfl rfl (by rw [tu86]; rfl) tu3 rfl (wrap64 (by omega) (by omega))) ?_
    refine RW.op rfl rfl (eff_assign (v := .t _) rfl rfl rfl) ?_
    refine RW.nil ?_
    refine awp_seq ?_
    refine awp_rw rfl ?_
    refine RW.op rfl rfl (eff_move (v := .t _) rfl rfl rfl) ?_
    refine RW.op rfl rfl (eff_move (v := .t _) rfl rfl rfl) ?_
    refine RW.op rfl rfl (eff_move (v := .t _) rfl rfl rfl) ?_
    refine RW.op rfl rfl (eff_indexM (i := ((lo + hi) / 2)) rfl rfl te23 rfl rfl (by first | rfl | omega) (by exact List.getElem?_eq_getElem (by omega)) rfl (by decide)) ?_
    refine RW.op rfl rfl (eff_loadW rfl rfl ti42 rfl rfl rfl) ?_
    refine RW.op rfl rfl (eff_move (v := .t _) rfl rfl rfl) ?_
    refine RW.op rfl rfl (eff_callT (tick_ret (l[((lo + hi) / 2)]'(by omega)) t) co79 rfl rfl rfl rfl) ?_
    refine RW.op rfl rfl (eff_iop rfl rfl rfl rfl rfl) ?_
    refine RW.nil ?_
    refine awp_cond rfl (fun h2 => ?_) (fun h2 => ?_)
    · try simp only [decide_eq_true_eq, decide_eq_false_iff_not, beq_iff_eq, bne_iff_ne, bne_eq_false_iff_eq, beq_eq_false_iff_ne, Bool.not_eq_true, Bool.not_eq_false, Bool.not_eq_true', Bool.not_eq_false', ne_eq] at h2
      refine awp_rw rfl ?_
      refine RW.op rfl rfl (eff_move (v := .t _) rfl rfl rfl) ?_
      refine RW.op rfl rfl (eff_iop rfl rfl rfl rfl (iadd (by omega))) ?_
      refine RW.op rfl rfl (eff_assign (v := .t _) rfl rfl rfl) ?_
      refine RW.nil ?_
      exact ⟨_, (by omega : hi - (((lo + hi) / 2) + 1) < hi - lo), _, weak_keep (n := 49) (fr' := [(0, .t (.sl (l.map encB) false)), (1, .t (encI t)), (2, .t (.fn 79 [])), (8, .t (encI (l.length : Nat))), (9, .t (encI (((((lo + hi) / 2) + 1) : Nat) : Int))), (10, .t (encI ((hi : Nat) : Int)))]) (st' := []) ⟨rfl, rfl, rfl, rfl, rfl, rfl, rfl, rfl, rfl, rfl, rfl, rfl, trivial⟩ trivial, (((lo + hi) / 2) + 1), hi, by omega, by omega, (fun _ _ => cmpI_neg.1 (by assumption)), hz, rfl, rfl⟩
    · try simp only [decide_eq_true_eq, decide_eq_false_iff_not, beq_iff_eq, bne_iff_ne, bne_eq_false_iff_eq, beq_eq_false_iff_ne, Bool.not_eq_true, Bool.not_eq_false, Bool.not_eq_true', Bool.not_eq_false', ne_eq] at h2
      refine awp_rw rfl ?_
      refine RW.op rfl rfl (eff_move (v := .t _) rfl rfl rfl) ?_
      refine RW.op rfl rfl (eff_assign (v := .t _) rfl rfl rfl) ?_
      refine RW.nil ?_
      exact ⟨_, (by omega : ((lo + hi) / 2) - lo < hi - lo), _, weak_keep (n := 49) (fr' := [(0, .t (.sl (l.map encB) false)), (1, .t (encI t)), (2, .t (.fn 79 [])), (8, .t (encI (l.length : Nat))), (9, .t (encI ((lo : Nat) : Int))), (10, .t (encI ((((lo + hi) / 2) : Nat) : Int)))]) (st' := []) ⟨rfl, rfl, rfl, rfl, rfl, rfl, rfl, rfl, rfl, rfl, rfl, rfl, trivial⟩ trivial, lo, ((lo + hi) / 2), by omega, by omega, hy, (fun _ h => (by assumption : ¬ _) (cmpI_neg.2 h)), rfl, rfl⟩
  · try simp only [decide_eq_true_eq, decide_eq_false_iff_not, beq_iff_eq, bne_iff_ne, bne_eq_false_iff_eq, beq_eq_false_iff_ne, Bool.not_eq_true, Bool.not_eq_false, Bool.not_eq_true', Bool.not_eq_false', ne_eq] at h1
    refine awp_exit ?_
    refine awp_seq ?_
    by_cases hc3 : lo < l.length
    · refine awp_rw rfl ?_
      refine RW.op rfl rfl (eff_move (v := .t _) rfl rfl rfl) ?_
      refine RW.op rfl rfl (eff_move (v := .t _) rfl rfl rfl) ?_
      refine RW.op rfl rfl (eff_move (v := .t _) rfl rfl rfl) ?_
      refine RW.op rfl rfl (eff_iop (r := .bool true) rfl rfl rfl rfl (by exact iop_lss_t (by omega))) ?_
      refine RW.op rfl rfl (eff_move (v := .t _) rfl rfl rfl) ?_
      refine RW.gop rfl rfl rfl rfl rfl rfl (eff_move (v := .t _) rfl rfl rfl) ?_
      refine RW.gop rfl rfl rfl rfl rfl rfl (eff_move (v := .t _) rfl rfl rfl) ?_
      refine RW.gop rfl rfl rfl rfl rfl rfl (eff_move (v := .t _) rfl rfl rfl) ?_
      refine RW.gop rfl rfl rfl rfl rfl rfl (eff_indexM (i := lo) rfl rfl te23 rfl rfl (by first | rfl | omega) (by exact List.getElem?_eq_getElem (by omega)) rfl (by decide)) ?_
      refine RW.gop rfl rfl rfl rfl rfl rfl (eff_loadW rfl rfl ti42 rfl rfl rfl) ?_
      refine RW.gop rfl rfl rfl rfl rfl rfl (eff_move (v := .t _) rfl rfl rfl) ?_
      refine RW.gop rfl rfl rfl rfl rfl rfl (eff_callT (tick_ret (l[lo]'(by omega)) t) co79 rfl rfl rfl rfl) ?_
      refine RW.gop rfl rfl rfl rfl rfl rfl (eff_iop rfl rfl rfl rfl rfl) ?_
      refine RW.op rfl rfl (eff_pick (v := .t _) rfl rfl rfl rfl) ?_
      refine RW.op rfl rfl (eff_assign (v := .t _) rfl rfl rfl) ?_
      refine RW.op rfl rfl (eff_assign (v := .t _) rfl rfl rfl) ?_
      refine RW.nil ?_
      refine awp_ret ?_
      obtain rfl : lo = hi := by omega
      have hpos : posT l t = lo := posT_eq hs hhi (fun h => hy h (by omega)) hz
      (rw [show hitT l t = (cmpI (l[lo]'(by assumption)).til t == 0) from by unfold hitT; rw [hpos, List.getElem?_eq_getElem (by assumption)], hpos]; exact ⟨Or.inr rfl, [_, _], ⟨.tmp (.t _), .tmp (.t _), trivial⟩, .refl _⟩)
    · refine awp_rw rfl ?_
      refine RW.op rfl rfl (eff_move (v := .t _) rfl rfl rfl) ?_
      refine RW.op rfl rfl (eff_move (v := .t _) rfl rfl rfl) ?_
      refine RW.op rfl rfl (eff_move (v := .t _) rfl rfl rfl) ?_
      refine RW.op rfl rfl (eff_iop (r := .bool false) rfl rfl rfl rfl (by exact iop_lss_f (by omega))) ?_
      refine RW.op rfl rfl (eff_move (v := .t _) rfl rfl rfl) ?_
      refine RW.gskip rfl rfl rfl rfl rfl (by decide) ?_
      refine RW.gskip rfl rfl rfl rfl rfl (by decide) ?_
      refine RW.gskip rfl rfl rfl rfl rfl (by decide) ?_
      refine RW.gskip rfl rfl rfl rfl rfl (by decide) ?_
      refine RW.gskip rfl rfl rfl rfl rfl (by decide) ?_
      refine RW.gskip rfl rfl rfl rfl rfl (by decide) ?_
      refine RW.gskip rfl rfl rfl rfl rfl (by decide) ?_
      refine RW.gskip rfl rfl rfl rfl rfl (by decide) ?_
      refine RW.op rfl rfl (eff_pick (v := .t _) rfl rfl rfl rfl) ?_
      refine RW.op rfl rfl (eff_assign (v := .t _) rfl rfl rfl) ?_
      refine RW.op rfl rfl (eff_assign (v := .t _) rfl rfl rfl) ?_
      refine RW.nil ?_
      refine awp_ret ?_
      obtain rfl : lo = hi := by omega
      have hpos : posT l t = lo := posT_eq hs hhi (fun h => hy h (by omega)) hz
      (rw [show hitT l t = false from by unfold hitT; rw [hpos, List.getElem?_eq_none (by omega)], hpos]; exact ⟨Or.inr rfl, [_, _], ⟨.tmp (.t _), .tmp (.t _), trivial⟩, .refl _⟩)

end Go.Tv.C35

end
section
open Go Go.Tv Go.Proofs
namespace Go.Tv.C35
set_option maxRecDepth 20000
set_option maxHeartbeats 2000000
set_option linter.unusedSimpArgs false
set_option linter.unusedVariables false
theorem values_iter (B : List Bid) (hB : B.length ≤ 100000) : Iter Try.prog 93 [.ptr [.sl (B.map encB) false]] (B.map encB) := by
  refine iter_of_awj Try.func93 rfl (Nat.le_of_ble_eq_true rfl) rfl ?_
  intro γ X hds At Stop yl hy g0 hAt
  refine awj_seq ?_
  refine awj_rj rfl ?_
  refine RJ.op rfl rfl (eff_loadT1 rfl rfl ti23 rfl rfl) ?_
  refine RJ.op rfl rfl (eff_lenM rfl rfl te23 rfl) ?_
  refine RJ.op rfl rfl (eff_move (v := .t _) rfl rfl rfl) ?_
  refine RJ.nil ?_
  refine awj_block ?_
  refine awj_loopW (fun m s g => ∃ (i : Nat), (i ≤ B.length) ∧ (At i g) ∧ m = B.length - i ∧ s = ⟨16, [(0, .t (.yld yl)), (1, .t (.ptr [.sl (B.map encB) false])), (5, .t (.sl (B.map encB) false)), (6, .t (encI B.length)), (7, .t (encI (i : Nat)))], []⟩) (_) (⟨_, weak_keep (n := 16) (fr' := [(0, .t (.yld yl)), (1, .t (.ptr [.sl (B.map encB) false])), (5, .t (.sl (B.map encB) false)), (6, .t (encI B.length)), (7, .t (encI (0 : Nat)))]) (st' := []) ⟨rfl, rfl, rfl, rfl, rfl, rfl, rfl, rfl, rfl, rfl, trivial⟩ trivial, 0, (by omega), (by exact hAt), rfl, rfl⟩) ?_
  rintro m s g ⟨i, hi, hA, rfl, rfl⟩
  refine awj_seq ?_
  refine awj_rj rfl ?_
  refine RJ.op rfl rfl (eff_iop rfl rfl rfl rfl rfl) ?_
  refine RJ.nil ?_
  refine awj_seq ?_
  refine awj_cond rfl (fun h1 => ?_) (fun h1 => ?_)
  · try simp only [decide_eq_true_eq, decide_eq_false_iff_not, beq_iff_eq, bne_iff_ne, bne_eq_false_iff_eq, beq_eq_false_iff_ne, Bool.not_eq_true, Bool.not_eq_false, Bool.not_eq_true', Bool.not_eq_false', ne_eq] at h1
    refine awj_skip ?_
    refine awj_seq ?_
    refine awj_block ?_
    refine awj_seq ?_
    refine awj_rj rfl ?_
    have hil : i < B.length := by omega
    refine RJ.op rfl rfl (eff_indexM rfl rfl te23 rfl rfl rfl (by first | assumption | exact List.getElem?_eq_getElem (by omega)) rfl (by decide)) ?_
    refine RJ.op rfl rfl (eff_loadW rfl rfl ti42 rfl rfl rfl) ?_
    refine RJ.new rfl rfl (eff_allocK (k := 5) (id := 4) rfl rfl tz42 rfl rfl) ?_
    refine RJ.store rfl rfl (eff_storeW (v := .t _) (els := [_]) (els' := [_]) rfl rfl ti42 rfl rfl rfl rfl rfl rfl rfl rfl rfl) ?_
    refine RJ.nil ?_
    refine awj_seq ?_
    refine awj_rj rfl ?_
    refine RJ.op rfl rfl (eff_move (v := .t _) rfl rfl rfl) ?_
    refine RJ.op rfl rfl (eff_load rfl rfl ti42 rfl (.whole rfl rfl rfl rfl rfl rfl)) ?_
    have hpos : (B.map encB)[i]? = some (encB (B[i]'hil)) := by rw [List.getElem?_map, List.getElem?_eq_getElem hil]; rfl
    refine RJ.many (.inl rfl) (eff_yield rfl rfl rfl rfl hds (hy _ _ _ hpos hA)) ?_
    rintro e g2 ⟨yb, rfl, hyb⟩
    show RJ _ _ _ _ _ ⟨_, (13, .t (.bool yb)) :: _, _⟩ _ _
    refine RJ.op rfl rfl (eff_unop rfl rfl rfl rfl) ?_
    refine RJ.nil ?_
    refine awj_cond rfl (fun h2 => ?_) (fun h2 => ?_)
    · try simp only [decide_eq_true_eq, decide_eq_false_iff_not, beq_iff_eq, bne_iff_ne, bne_eq_false_iff_eq, beq_eq_false_iff_ne, Bool.not_eq_true, Bool.not_eq_false, Bool.not_eq_true', Bool.not_eq_false', ne_eq] at h2
      refine awj_ret ?_
      rcases hyb with ⟨h, _⟩ | ⟨_, h⟩
      · rw [h] at h2; simp at h2
      · exact ⟨Or.inr rfl, Or.inr h⟩
    · try simp only [decide_eq_true_eq, decide_eq_false_iff_not, beq_iff_eq, bne_iff_ne, bne_eq_false_iff_eq, beq_eq_false_iff_ne, Bool.not_eq_true, Bool.not_eq_false, Bool.not_eq_true', Bool.not_eq_false', ne_eq] at h2
      refine awj_skip ?_
      refine awj_rj rfl ?_
      refine RJ.op rfl rfl (eff_iop rfl rfl rfl rfl (iadd (by omega))) ?_
      refine RJ.op rfl rfl (eff_move (v := .t _) rfl rfl rfl) ?_
      refine RJ.nil ?_
      refine ⟨_, ?_, _, weak_keep (n := 16) (fr' := [(0, .t (.yld yl)), (1, .t (.ptr [.sl (B.map encB) false])), (5, .t (.sl (B.map encB) false)), (6, .t (encI B.length)), (7, .t (encI ((i + 1) : Nat)))]) (st' := []) ⟨rfl, rfl, rfl, rfl, rfl, rfl, rfl, rfl, rfl, rfl, trivial⟩ trivial, i + 1, (by omega), (by rcases hyb with ⟨_, h⟩ | ⟨h, _⟩ <;> first | exact h | (rw [h] at h2; simp at h2)), rfl, rfl⟩
      omega
  · try simp only [decide_eq_true_eq, decide_eq_false_iff_not, beq_iff_eq, bne_iff_ne, bne_eq_false_iff_eq, beq_eq_false_iff_ne, Bool.not_eq_true, Bool.not_eq_false, Bool.not_eq_true', Bool.not_eq_false', ne_eq] at h1
    refine awj_exit ?_
    have hi2 : i = B.length := by omega
    subst hi2
    exact ⟨Or.inl rfl, Or.inl (by rw [List.length_map]; exact hA)⟩

theorem values_ret (B : List Bid) : Ret Try.prog 75 [.sl (B.map encB) false] (.fn 93 [.ptr [.sl (B.map encB) false]]) := by
  refine ret_of_awp Try.func75 rfl (Nat.le_of_ble_eq_true rfl) ?_
  refine awp_seq ?_
  refine awp_rw rfl ?_
  refine RW.new rfl rfl (eff_boxK (v := .t _) (k := 1) (id := 1) rfl rfl rfl rfl rfl rfl) ?_
  refine RW.op rfl rfl (eff_assign (v := .t _) rfl rfl rfl) ?_
  refine RW.nil ?_
  refine awp_seq ?_
  refine awp_rw rfl ?_
  refine RW.op rfl rfl (eff_makeFunc rfl rfl rfl rfl) ?_
  refine RW.op rfl rfl (eff_assign (v := .fn _ _) rfl rfl rfl) ?_
  refine RW.nil ?_
  refine awp_ret ?_
  exact ⟨Or.inr rfl, [_], ⟨.tmp (Res.fnP (xs := [.ptr [.sl (B.map encB) false]]) ⟨Res.ptrT (x := .sl (B.map encB) false) rfl rfl rfl, trivial⟩), trivial⟩, .refl _⟩

end Go.Tv.C35

end
section
open Go Go.Tv Go.Proofs
namespace Go.Tv.C35
set_option maxRecDepth 20000
set_option maxHeartbeats 2000000
set_option linter.unusedSimpArgs false
set_option linter.unusedVariables false
theorem bmap_succ {B : List Bid} {i : Nat} (h : i < B.length) : ((B.take (i + 1)).map encB).map AV.t = ((B.take i).map encB).map AV.t ++ [.t (encB B[i])] := by
  rw [take_succ_get h, List.map_append, List.map_append]; rfl

end Go.Tv.C35

end
section
open Go Go.Tv Go.Proofs
namespace Go.Tv.C35
set_option maxRecDepth 20000
set_option maxHeartbeats 2000000
set_option linter.unusedSimpArgs false
set_option linter.unusedVariables false
theorem lookA_putA (a : Int) (b : Int) (c : Int) : ∀ l : List (Int × Int), lookA c (putA a b l) = if c = a then some b else lookA c l
  | [] => by
    unfold putA lookA lookA
    rfl
  | e :: l => by
    unfold putA
    by_cases h : a = e.1
    · rw [if_pos h]
      by_cases h2 : c = a
      · rw [if_pos h2]; unfold lookA; rw [if_pos h2]
      · rw [if_neg h2]; unfold lookA; rw [if_neg h2, if_neg (fun e => h2 (e.trans h.symm))]
    · rw [if_neg h]
      unfold lookA
      by_cases h3 : c = e.1
      · rw [if_pos h3, if_pos h3, if_neg (fun h2 => h (h2.symm.trans h3))]
      · rw [if_neg h3, if_neg h3]; exact lookA_putA a b c l
noncomputable def KI : MapK Try.prog 3 Int := MapK.int tu3
/-- The memo tells the table. -/
def GoodL (l : List Bid) (lm : List (Int × Int)) : Prop := lookA 0 lm = some 0 ∧ ∀ k v, lookA k lm = some v → ∃ n : Nat, k = n ∧ n ≤ l.length ∧ v = dp l n
def GoodM (l : List Bid) (o : Obj) : Prop := ∃ lm, o = mapO KI MapX.int lm ∧ GoodL l lm
theorem imax_max (a b : Int) : imax a b = max a b := by
  unfold imax
  split <;> omega
theorem dp_zero (l : List Bid) : dp l 0 = 0 := by rw [dp]
theorem good_put {l : List Bid} {lm : List (Int × Int)} (h : GoodL l lm) {k : Nat} (h0 : k ≠ 0) (hk : k ≤ l.length) : GoodL l (putA (k : Int) (dp l k) lm) := by
  refine ⟨?_, fun c v hc => ?_⟩
  · rw [lookA_putA, if_neg (by omega)]; exact h.1
  · rw [lookA_putA] at hc
    split at hc
    · cases hc; exact ⟨k, by assumption, hk, rfl⟩
    · exact h.2 c v hc
def capsF (r : Nat) (l : List Bid) : Nat → List Tr
  | 0 => [.ptr [.mp r], .ptr [.sl (l.map encB) false], .ptr []]
  | d + 1 => [.ptr [.mp r], .ptr [.sl (l.map encB) false], .ptr [.fn 77 (capsF r l d)]]
/-- A list that the table is made of. -/
structure TabL (l : List Bid) : Prop where
  srt : SortedT l
  ok : ∀ b, b ∈ l → Ok b
  len : l.length ≤ 1000
  lim : ∀ b, b ∈ l → b.val ≤ 1000000 ∧ 0 ≤ b.frm ∧ b.frm ≤ 1000000
theorem sumV_le {s : List Bid} (h : ∀ b, b ∈ s → b.val ≤ 1000000) : sumV s ≤ 1000000 * s.length := by
  induction s with
  | nil => simp [sumV]
  | cons b s ih =>
    have h1 := h b List.mem_cons_self
    have h2 := ih (fun c hc => h c (List.mem_cons_of_mem _ hc))
    simp only [sumV, List.length_cons]
    omega
theorem TabL.dp_range {l : List Bid} (h : TabL l) {k : Nat} (hk : k ≤ l.length) : 0 ≤ dp l k ∧ dp l k ≤ 1000000000 := by
  have ho := dp_opt h.srt h.ok k hk
  refine ⟨ho.2 [] (List.nil_sublist _) List.Pairwise.nil, ?_⟩
  obtain ⟨⟨s, h1, _, h3⟩, _⟩ := ho
  have h4 := sumV_le (s := s) (fun b hb => (h.lim b (List.mem_of_mem_take (h1.subset hb))).1)
  have h5 := h1.length_le
  have h6 := h.len
  rw [List.length_take] at h5
  omega
theorem dp_succ {l : List Bid} (h : TabL l) {k : Nat} (hk : k < l.length) : dp l (k + 1) = max (dp l k) (l[k].val + dp l (endBy l l[k].frm)) := by
  have := endBy_lt h.srt hk (h.ok _ (List.getElem_mem _))
  rw [dp, dif_pos hk, Nat.min_eq_right this]

theorem first_step (r : Nat) (l : List Bid) (hl : TabL l) (k d : Nat) (hk : k < l.length) (hkd : k ≤ d) (ih : ∀ k1, k1 ≤ k → ∀ d1, k1 ≤ d1 → k1 ≤ l.length → ∀ lm, GoodL l lm → RetR Try.prog 77 ([encI (k1 : Nat)] ++ capsF r l d1) [(r, mapO KI MapX.int lm)] (fun r' g' => r' = encI (dp l k1) ∧ ∃ o', GoodM l o' ∧ g' = [(r, o')])) (lm : List (Int × Int)) (hgl : GoodL l lm) (hno : lookA ((k + 1 : Nat) : Int) lm = none) : RetR Try.prog 77 [encI (k + 1 : Nat), .ptr [.mp r], .ptr [.sl (l.map encB) false], .ptr [.fn 77 (capsF r l d)]] [(r, mapO KI MapX.int lm)] (fun r' g' => r' = encI (dp l (k + 1)) ∧ ∃ o', GoodM l o' ∧ g' = [(r, o')]) := by
  have hlen : l.length ≤ 1000000 := by have := hl.len; omega
  have hlim := hl.lim l[k] (List.getElem_mem _)
  have hdk := hl.dp_range (k := k) (by omega)
  have heb := endBy_lt hl.srt hk (hl.ok _ (List.getElem_mem _))
  have hde := hl.dp_range (k := endBy l l[k].frm) (by omega)
  have hv1 := (hl.ok l[k] (List.getElem_mem _)).2
  have hds := dp_succ hl hk
  have hpos : posT l (l[k].frm + 1) = endBy l l[k].frm := by unfold posT; rw [show l[k].frm + 1 - 1 = l[k].frm by omega]
  refine retR_of_awj Try.func77 rfl (Nat.le_of_ble_eq_true rfl) ?_
  intro F0 w0
  refine awj_seq ?_
  refine awj_rj rfl ?_
  refine RJ.op rfl rfl (eff_assign (v := .t _) rfl rfl rfl) ?_
  refine RJ.nil ?_
  refine awj_seq ?_
  refine awj_seq ?_
  refine awj_rj rfl ?_
  refine RJ.op rfl rfl (eff_loadT1 rfl rfl ti97 rfl rfl) ?_
  refine RJ.op rfl rfl (eff_move (v := .t _) rfl rfl rfl) ?_
  refine RJ.rGet KI MapX.int (a := ((k + 1 : Nat) : Int)) (lm := lm) rfl rfl rfl rfl Try.underlying97 tz3 (solid_int _ _) rfl rfl (gget_same _ _ _) (by rw [hno]) ?_
  rw [hno]
  refine RJ.op rfl rfl (eff_move (v := .t _) rfl rfl rfl) ?_
  refine RJ.op rfl rfl (eff_extract rfl rfl rfl rfl) ?_
  refine RJ.op rfl rfl (eff_extract rfl rfl rfl rfl) ?_
  refine RJ.op rfl rfl (eff_assign (v := .t _) rfl rfl rfl) ?_
  refine RJ.op rfl rfl (eff_assign (v := .t _) rfl rfl rfl) ?_
  refine RJ.nil ?_
  refine awj_seq ?_
  refine awj_rj rfl ?_
  refine RJ.op rfl rfl (eff_move (v := .t _) rfl rfl rfl) ?_
  refine RJ.nil ?_
  refine awj_cond rfl (fun h => nomatch h) (fun _ => ?_)
  refine awj_skip ?_
  refine awj_seq ?_
  refine awj_rj rfl ?_
  refine RJ.op rfl rfl (eff_loadT1 rfl rfl ti23 rfl rfl) ?_
  refine RJ.op rfl rfl (eff_move (v := .t _) rfl rfl rfl) ?_
  refine RJ.op rfl rfl (eff_iop rfl rfl rfl rfl (isub (by omega))) ?_
  refine RJ.op rfl rfl (eff_indexM (i := k) rfl rfl te23 rfl rfl (by first | rfl | omega) (by exact List.getElem?_eq_getElem hk) rfl (by decide)) ?_
  refine RJ.op rfl rfl (eff_loadW rfl rfl ti42 rfl rfl rfl) ?_
  refine RJ.new rfl rfl (eff_allocK (k := 5) (id := 8) rfl rfl tz42 rfl rfl) ?_
  refine RJ.store rfl rfl (eff_storeW (v := .t _) (els := [_]) (els' := [_]) rfl rfl ti42 rfl rfl rfl rfl rfl rfl rfl rfl rfl) ?_
  refine RJ.nil ?_
  refine awj_seq ?_
  refine awj_rj rfl ?_
  refine RJ.op rfl rfl (eff_loadT1 rfl rfl ti23 rfl rfl) ?_
  refine RJ.op rfl rfl (eff_fieldAddr rfl rfl tf42_2 (by decide) rfl rfl rfl (Nat.le_of_ble_eq_true rfl)) ?_
  refine RJ.op rfl rfl (eff_load (y := .t _) rfl rfl ti3 rfl (.one rfl rfl rfl rfl)) ?_
  refine RJ.op rfl rfl (eff_iop rfl rfl rfl rfl (iadd (by omega))) ?_
  refine RJ.op rfl rfl (eff_callT (search_ret l (l[k].frm + 1) hlen hl.srt) co78 rfl rfl rfl rfl) ?_
  refine RJ.op rfl rfl (eff_move (v := .t _) rfl rfl rfl) ?_
  refine RJ.op rfl rfl (eff_extract rfl rfl rfl rfl) ?_
  refine RJ.op rfl rfl (eff_extract rfl rfl rfl rfl) ?_
  refine RJ.op rfl rfl (eff_assign (v := .t _) rfl rfl rfl) ?_
  refine RJ.op rfl rfl (eff_assign (v := .t _) rfl rfl rfl) ?_
  refine RJ.nil ?_
  refine awj_seq ?_
  show AWJ _ _ _ _ _ _ _ _
  refine awj_I (Good := GoodM l) ⟨lm, rfl, hgl⟩ ?_
  refine awj_rdX [(some 33, []), (some 34, []), (some 35, []), (some 36, []), (some 37, []), (some 38, []), (some 39, []), (some 40, []), (some 41, []), (some 42, []), (some 43, []), (some 11, [])] [[], [], [1], [0, 1, 2], [], [4], [], [], [0, 1, 2, 3, 6, 7], [0, 1, 2, 3, 4, 5, 6, 7, 8], [0, 1, 2, 3, 4, 5, 6, 7, 8, 9], [0, 1, 2, 3, 4, 5, 6, 7, 8, 9, 10]] tm rfl rfl rfl rfl ?_
  refine RX.op rfl rfl rfl (eff_loadT1 rfl rfl ti98 rfl rfl) ?_
  refine RX.op rfl rfl rfl (eff_move (v := .t _) rfl rfl rfl) ?_
  refine RX.op rfl rfl rfl (eff_iop rfl rfl rfl rfl (isub (by omega))) ?_
  refine RX.x rfl rfl rfl (EffX_callI (caps := capsF r l d) (res := encI (dp l k)) (fun ob hob => by
    obtain ⟨lm1, rfl, hg1⟩ := hob
    exact ih k (by omega) d (by omega) (by omega) lm1 hg1) co77 rfl rfl rfl (by exact congrArg (fun n => [AV.t (Tr.int .i64 n)]) (show ((k + 1 : Nat) : Int) - 1 = (k : Int) by omega))) ?_
  refine RX.op rfl rfl rfl (eff_fieldAddr rfl rfl tf42_4 (by decide) rfl rfl rfl (Nat.le_of_ble_eq_true rfl)) ?_
  refine RX.op rfl rfl rfl (eff_load (y := .t _) rfl rfl ti3 rfl (.one rfl rfl rfl rfl)) ?_
  refine RX.op rfl rfl rfl (eff_loadT1 rfl rfl ti98 rfl rfl) ?_
  refine RX.op rfl rfl rfl (eff_move (v := .t _) rfl rfl rfl) ?_
  refine RX.x rfl rfl rfl (EffX_callI (caps := capsF r l d) (res := encI (dp l (endBy l l[k].frm))) (fun ob hob => by
    obtain ⟨lm1, rfl, hg1⟩ := hob
    exact ih (endBy l l[k].frm) (by omega) d (by omega) (by omega) lm1 hg1) co77 rfl rfl rfl (by exact congrArg (fun n : Nat => [AV.t (encI n)]) hpos)) ?_
  refine RX.op rfl rfl rfl (eff_iop rfl rfl rfl rfl (iadd (by omega))) ?_
  refine RX.op rfl rfl rfl (eff_max rfl rfl rfl rfl) ?_
  refine RX.op rfl rfl rfl (eff_assign (v := .t _) rfl rfl rfl) ?_
  refine RX.nil ?_
  rintro o' ⟨lm2, rfl, hgl2⟩
  show AWJ _ _ _ _ _ _ _ _
  rw [show imax (dp l k) (l[k].val + dp l (endBy l l[k].frm)) = dp l (k + 1) from by rw [hds, imax_max]]
  refine awj_seq ?_
  refine awj_rj rfl ?_
  refine RJ.op rfl rfl (eff_loadT1 rfl rfl ti97 rfl rfl) ?_
  refine RJ.op rfl rfl (eff_move (v := .t _) rfl rfl rfl) ?_
  refine RJ.op rfl rfl (eff_move (v := .t _) rfl rfl rfl) ?_
  refine RJ.rPut KI MapX.int (a := ((k + 1 : Nat) : Int)) (b := dp l (k + 1)) (lm := lm2) rfl rfl (.inl rfl) Try.underlying97 rfl rfl rfl (gget_same _ _ _) ?_
  refine RJ.nil ?_
  refine awj_seq ?_
  refine awj_rj rfl ?_
  refine RJ.op rfl rfl (eff_move (v := .t _) rfl rfl rfl) ?_
  refine RJ.op rfl rfl (eff_assign (v := .t _) rfl rfl rfl) ?_
  refine RJ.nil ?_
  refine awj_ret ?_
  exact ⟨Or.inr rfl, [_], _, _, ⟨.tmp (.t _), trivial⟩, .refl _, ⟨rfl, _, ⟨_, rfl, good_put (k := k + 1) hgl2 (Nat.succ_ne_zero k) hk⟩, rfl⟩, fun b q hq => by
    change (if r = b then _ else none) = _ at hq
    split at hq
    · rename_i e; subst e; rw [gget_same]; exact hq
    · cases hq⟩

theorem first_hit (r : Nat) (l : List Bid) (c1 c2 : Tr) (k n : Nat) (lm : List (Int × Int)) (hgl : GoodL l lm) (hno : lookA (k : Int) lm = some (dp l k)) : RetR Try.prog 77 [encI (k : Nat), .ptr [.mp r], c1, c2] [(r, mapO KI MapX.int lm)] (fun r' g' => r' = encI (dp l k) ∧ ∃ o', GoodM l o' ∧ g' = [(r, o')]) := by
  refine retR_of_awj Try.func77 rfl (Nat.le_of_ble_eq_true rfl) ?_
  intro F0 w0
  refine awj_seq ?_
  refine awj_rj rfl ?_
  refine RJ.op rfl rfl (eff_assign (v := .t _) rfl rfl rfl) ?_
  refine RJ.nil ?_
  refine awj_seq ?_
  refine awj_seq ?_
  refine awj_rj rfl ?_
  refine RJ.op rfl rfl (eff_loadT1 rfl rfl ti97 rfl rfl) ?_
  refine RJ.op rfl rfl (eff_move (v := .t _) rfl rfl rfl) ?_
  refine RJ.rGet KI MapX.int (a := (k : Int)) (lm := lm) (u := encI (dp l k)) rfl rfl rfl rfl Try.underlying97 tz3 (solid_int _ _) rfl rfl (gget_same _ _ _) (by rw [hno]; rfl) ?_
  rw [hno]
  refine RJ.op rfl rfl (eff_move (v := .t _) rfl rfl rfl) ?_
  refine RJ.op rfl rfl (eff_extract rfl rfl rfl rfl) ?_
  refine RJ.op rfl rfl (eff_extract rfl rfl rfl rfl) ?_
  refine RJ.op rfl rfl (eff_assign (v := .t _) rfl rfl rfl) ?_
  refine RJ.op rfl rfl (eff_assign (v := .t _) rfl rfl rfl) ?_
  refine RJ.nil ?_
  refine awj_seq ?_
  refine awj_rj rfl ?_
  refine RJ.op rfl rfl (eff_move (v := .t _) rfl rfl rfl) ?_
  refine RJ.nil ?_
  refine awj_cond rfl (fun _ => ?_) (fun h => nomatch h)
  refine awj_seq ?_
  refine awj_rj rfl ?_
  refine RJ.op rfl rfl (eff_move (v := .t _) rfl rfl rfl) ?_
  refine RJ.op rfl rfl (eff_assign (v := .t _) rfl rfl rfl) ?_
  refine RJ.nil ?_
  refine awj_ret ?_
  exact ⟨Or.inr rfl, [_], _, _, ⟨.tmp (.t _), trivial⟩, .refl _, ⟨rfl, _, ⟨_, rfl, hgl⟩, rfl⟩, fun b q hq => hq⟩

theorem first_ret (r : Nat) (l : List Bid) (hl : TabL l) : ∀ (k d : Nat), k ≤ d → k ≤ l.length → ∀ lm, GoodL l lm →
    RetR Try.prog 77 ([encI (k : Nat)] ++ capsF r l d) [(r, mapO KI MapX.int lm)] (fun r' g' => r' = encI (dp l k) ∧ ∃ o', GoodM l o' ∧ g' = [(r, o')]) := by
  intro k
  induction k using Nat.strongRecOn with
  | _ k ih =>
    intro d hkd hkl lm hgl
    cases hno : lookA (k : Int) lm with
    | some v =>
      obtain ⟨n, h1, _, h3⟩ := hgl.2 _ _ hno
      obtain rfl : k = n := by omega
      subst h3
      cases d with
      | zero => exact first_hit r l _ _ k k lm hgl hno
      | succ d => exact first_hit r l _ _ k k lm hgl hno
    | none =>
      cases k with
      | zero => rw [show ((0 : Nat) : Int) = 0 from rfl, hgl.1] at hno; cases hno
      | succ k =>
        cases d with
        | zero => omega
        | succ d => exact first_step r l hl k d (by omega) (by omega) (fun k1 h1 d1 h2 h3 lm1 h4 => ih k1 (by omega) d1 h2 h3 lm1 h4) lm hgl hno

end Go.Tv.C35

end
section
namespace Go.Proofs
open Go.Shelf
def Try.sortIv_ren : Go.Shelf.Ren := ⟨fun | 6 => 92 | 15 => 86 | 14 => 107 | 28 => 103 | 29 => 104 | 20 => 113 | 21 => 114 | 22 => 115 | 23 => 116 | 24 => 117 | 25 => 118 | 26 => 119 | 27 => 120 | 46 => 122 | 47 => 109 | 48 => 110 | 49 => 123 | 50 => 124 | 57 => 125 | n => n, fun | 22 => 23 | 24 => 42 | 25 => 96 | 3 => 3 | 39 => 86 | 0 => 0 | 53 => 123 | 55 => 125 | 4 => 4 | 46 => 116 | 45 => 115 | 50 => 99 | 5 => 5 | 9 => 9 | 66 => 128 | 70 => 132 | 76 => 139 | 77 => 140 | n => n, fun | n => n⟩
theorem Try.sortIv : Go.Proofs.SlLaysF0.n6 Try.prog Try.sortIv_ren := {
  mixed := by kernel_rfl
  f6 := ⟨Try.f92.name, by decide, Try.func92.trans (congrArg some (by kernel_rfl))⟩
  f14 := ⟨Try.f107.name, by decide, Try.func107.trans (congrArg some (by kernel_rfl))⟩
  f15 := Try.func86.trans (congrArg some (by kernel_rfl))
  f20 := ⟨Try.f113.name, by decide, Try.func113.trans (congrArg some (by kernel_rfl))⟩
  f21 := ⟨Try.f114.name, by decide, Try.func114.trans (congrArg some (by kernel_rfl))⟩
  f22 := ⟨Try.f115.name, by decide, Try.func115.trans (congrArg some (by kernel_rfl))⟩
  f23 := ⟨Try.f116.name, by decide, Try.func116.trans (congrArg some (by kernel_rfl))⟩
  f24 := ⟨Try.f117.name, by decide, Try.func117.trans (congrArg some (by kernel_rfl))⟩
  f25 := ⟨Try.f118.name, by decide, Try.func118.trans (congrArg some (by kernel_rfl))⟩
  f26 := ⟨Try.f119.name, by decide, Try.func119.trans (congrArg some (by kernel_rfl))⟩
  f27 := ⟨Try.f120.name, by decide, Try.func120.trans (congrArg some (by kernel_rfl))⟩
  f28 := Try.func103.trans (congrArg some (by kernel_rfl))
  f29 := Try.func104.trans (congrArg some (by kernel_rfl))
  f46 := ⟨Try.f122.name, by decide, Try.func122.trans (congrArg some (by kernel_rfl))⟩
  f47 := Try.func109.trans (congrArg some (by kernel_rfl))
  f48 := Try.func110.trans (congrArg some (by kernel_rfl))
  f49 := ⟨Try.f123.name, by decide, Try.func123.trans (congrArg some (by kernel_rfl))⟩
  f50 := ⟨Try.f124.name, by decide, Try.func124.trans (congrArg some (by kernel_rfl))⟩
  f57 := ⟨Try.f125.name, by decide, Try.func125.trans (congrArg some (by kernel_rfl))⟩
  t0 := Try.underlying0
  a0 := Try.isAgg0
  z0 := Try.sizeOf0
  v0 := Try.zeroValue0
  t3 := Try.underlying3
  a3 := Try.isAgg3
  z3 := Try.sizeOf3
  v3 := Try.zeroValue3
  t4 := Try.underlying4
  a4 := Try.isAgg4
  z4 := Try.sizeOf4
  v4 := Try.zeroValue4
  t5 := Try.underlying5
  a5 := Try.isAgg5
  z5 := Try.sizeOf5
  v5 := Try.zeroValue5
  t9 := Try.underlying9
  a9 := Try.isAgg9
  z9 := Try.sizeOf9
  v9 := Try.zeroValue9
  t22 := Try.underlying23
  a22 := Try.isAgg23
  z22 := Try.sizeOf23
  v22 := Try.zeroValue23
  t25 := Try.underlying96
  a25 := Try.isAgg96
  z25 := Try.sizeOf96
  v25 := Try.zeroValue96
  t39 := Try.underlying86
  a39 := Try.isAgg86
  z39 := Try.sizeOf86
  v39 := Try.zeroValue86
  t45 := Try.underlying115
  a45 := Try.isAgg115
  z45 := Try.sizeOf115
  v45 := Try.zeroValue115
  t46 := Try.underlying116
  a46 := Try.isAgg116
  z46 := Try.sizeOf116
  v46 := Try.zeroValue116
  t50 := Try.underlying99
  a50 := Try.isAgg99
  z50 := Try.sizeOf99
  v50 := Try.zeroValue99
  t53 := Try.underlying123
  a53 := Try.isAgg123
  z53 := Try.sizeOf123
  v53 := Try.zeroValue123
  t55 := Try.underlying125
  a55 := Try.isAgg125
  z55 := Try.sizeOf125
  v55 := Try.zeroValue125
  t66 := Try.underlying128
  a66 := Try.isAgg128
  z66 := Try.sizeOf128
  v66 := Try.zeroValue128
  t70 := Try.underlying132
  a70 := Try.isAgg132
  z70 := Try.sizeOf132
  v70 := Try.zeroValue132
  t76 := Try.underlying139
  a76 := Try.isAgg139
  z76 := Try.sizeOf139
  v76 := Try.zeroValue139
  t77 := Try.underlying140
  a77 := Try.isAgg140
  z77 := Try.sizeOf140
  v77 := Try.zeroValue140 }
end Go.Proofs

end
section
open Go Go.Tv Go.Proofs
namespace Go.Tv.C35
set_option maxRecDepth 20000
set_option maxHeartbeats 2000000
set_option linter.unusedSimpArgs false
set_option linter.unusedVariables false
def cellsB (b : Bid) : List Sc := [.int .i64 b.craft, .int .i64 b.station, .int .i64 b.frm, .int .i64 b.til, .int .i64 b.val]
def cmpB (a b : Bid) : Int := cmpI a.til b.til
theorem tz97 : zeroOf Try.prog 97 = some .mpn := by kernel_rfl
theorem good_nil (l : List Bid) : GoodL l [(0, 0)] := ⟨rfl, fun k v h => by
  unfold lookA at h
  split at h
  · cases h; exact ⟨0, by assumption, Nat.zero_le _, (dp_zero l).symm⟩
  · cases h⟩
theorem cmpB_swo : Sort.SWO (ltOf cmpB) where
  irrefl x := by unfold ltOf cmpB; rw [decide_eq_false]; rw [cmpI_neg]; omega
  trans x y z h1 h2 := by
    unfold ltOf cmpB at *
    rw [decide_eq_true_eq] at *
    rw [cmpI_neg] at *
    omega
  ntrans x y z h1 h2 := by
    unfold ltOf cmpB at *
    rw [decide_eq_false_iff_not] at *
    rw [cmpI_neg] at *
    omega
theorem sortEls_eq (l : List Bid) : sortEls cellsB l = (l.map encB).map .t := by
  unfold sortEls; rw [List.map_map]; rfl
noncomputable def srtB (B : List Bid) : List Bid := sortA cmpB B
theorem srtB_perm (B : List Bid) : (srtB B).Perm B := sortA_perm cmpB_swo B
theorem srtB_len (B : List Bid) : (srtB B).length = B.length := (srtB_perm B).length_eq
theorem srtB_sorted (B : List Bid) : SortedT (srtB B) := by
  have h := sortA_sorted cmpB_swo B
  refine List.Pairwise.imp (fun {a b} hab => ?_) h
  unfold cmpB at hab
  rw [cmpI_neg] at hab
  omega
/-- Bids whose optimum the program finds. -/
structure OkL (B : List Bid) : Prop where
  ok : ∀ b, b ∈ B → Ok b
  len : B.length ≤ 1000
  lim : ∀ b, b ∈ B → b.val ≤ 1000000 ∧ 0 ≤ b.frm ∧ b.frm ≤ 1000000
theorem OkL.tab {B : List Bid} (h : OkL B) : TabL (srtB B) :=
  ⟨srtB_sorted B, fun b hb => h.ok b ((srtB_perm B).mem_iff.1 hb), by rw [srtB_len]; exact h.len, fun b hb => h.lim b ((srtB_perm B).mem_iff.1 hb)⟩
theorem OkL.dp {B : List Bid} (h : OkL B) : dp (srtB B) (srtB B).length = optOf B := dp_optOf (srtB_perm B) (srtB_sorted B) h.ok
theorem OkL.opt_range {B : List Bid} (h : OkL B) : 0 ≤ optOf B ∧ optOf B ≤ 1000000000 := by
  rw [← h.dp]; exact h.tab.dp_range (Nat.le_refl _)

theorem appendSeq_retG (B : List Bid) (hB : B.length ≤ 100000) : RetG Try.prog 106 [] ([.sl [] true, .fn 93 [.ptr [.sl (B.map encB) false]]].map .t) [(1010, some ⟨5, 42, B.length, (B.map encB).map .t⟩)] (.own 1010 B.length 0 B.length) := by
  refine retG_of_awjC Try.func106 rfl (Nat.le_of_ble_eq_true rfl) ?_
  intro F0 w0
  refine awj_seq ?_
  refine awj_rj rfl ?_
  refine RJ.new rfl rfl (eff_boxK (v := .t _) (k := 1) (id := 2) rfl rfl rfl rfl rfl rfl) ?_
  refine RJ.op rfl rfl (eff_assign (v := .t _) rfl rfl rfl) ?_
  refine RJ.nil ?_
  refine awj_seq ?_
  refine awj_seq ?_
  refine awj_rj rfl ?_
  refine RJ.op rfl rfl (eff_move (v := .t _) rfl rfl rfl) ?_
  refine RJ.nil ?_
  show AWJ _ _ _ _ _ _ _ _
  refine awj_weak (weak_adopt1 (id0 := 2) 1010 5 42 rfl rfl) ?_
  refine awj_block ?_
  refine awj_rangeFunc (kp' := fun j => [2].elem j) (f := 93) rfl co93 (values_iter B hB) rfl rfl rfl (fun i s1 => i ≤ B.length ∧ s1 = ⟨13, [(2, .ptr 2 0 0 0)], [(2, some ⟨1, 23, 0, [.own 1010 (i) 0 (i)]⟩), (1010, some ⟨5, 42, (i), ((B.take (i)).map encB).map .t⟩)]⟩) (fun c s => False) (⟨_, weak_keep (n := 13) (fr' := [(2, .ptr 2 0 0 0)]) (st' := [(2, some ⟨1, 23, 0, [.own 1010 (0) 0 (0)]⟩), (1010, some ⟨5, 42, (0), ((B.take (0)).map encB).map .t⟩)]) ⟨rfl, rfl, trivial⟩ ⟨rfl, okE_one rfl, rfl, okE_t, trivial⟩, Nat.zero_le _, rfl⟩) (fun i s1 hI => by obtain ⟨_, rfl⟩ := hI; exact ⟨rfl, kept_of rfl⟩) (fun c s1 hI => hI.elim) ?_ ?_ ?_
  · intro rl i x s1 hI hx F1 w1
    obtain ⟨hiB, rfl⟩ := hI
    rw [List.getElem?_map] at hx
    obtain ⟨b, hb, rfl⟩ := Option.map_eq_some_iff.1 hx
    obtain ⟨hil, hbe⟩ := List.getElem?_eq_some_iff.1 hb
    have hsc := bmap_succ hil
    show AWJ _ _ _ _ _ ⟨13, _, _⟩ _ _
    refine awj_rj rfl ?_
    refine RJ.new rfl rfl (eff_allocK (k := 5) (id := 5) rfl rfl tz42 rfl rfl) ?_
    refine RJ.store rfl rfl (eff_storeW (v := .t _) (els := [_]) (els' := [_]) rfl rfl ti42 rfl rfl rfl rfl rfl rfl rfl rfl rfl) ?_
    refine RJ.nil ?_
    refine ⟨rfl, rfl, fun F2 w2 => ?_⟩
    refine awj_block ?_
    refine awj_rj rfl ?_
    refine RJ.op rfl rfl (eff_load (y := .own _ _ _ _) rfl rfl ti23 rfl (.one rfl rfl rfl rfl)) ?_
    refine RJ.op rfl rfl (eff_load rfl rfl ti42 rfl (.whole rfl rfl rfl rfl rfl rfl)) ?_
    refine RJ.new rfl rfl (eff_buildSliceL (id := 10) (els := [.t (.agg [_, _, _, _, _])]) rfl rfl te23 tz42 rfl (by decide) (by decide) rfl rfl rfl rfl) ?_
    refine RJ.new rfl rfl (eff_append (id := 1010) (ys := [_]) rfl rfl ta23 rfl rfl rfl (by simp; omega) rfl rfl (srcOwn rfl rfl rfl rfl rfl rfl) (by simp) (by simp; omega) (by simp; omega)) ?_
    refine RJ.store rfl rfl (eff_storeW (v := .own _ _ _ _) (els := [_]) (els' := [_]) rfl rfl ti23 rfl rfl rfl rfl rfl rfl rfl rfl rfl) ?_
    refine RJ.nil ?_
    refine ⟨rfl, _, weak_keep (n := 13) (fr' := [(2, .ptr 2 0 0 0)]) (st' := [(2, some ⟨1, 23, 0, [.own 1010 (i + 1) 0 (i + 1)]⟩), (1010, some ⟨5, 42, (i + 1), ((B.take (i + 1)).map encB).map .t⟩)]) ⟨rfl, rfl, trivial⟩ ⟨rfl, okE_one rfl, by rw [hsc, hbe]; rfl, okE_t, trivial⟩, by omega, rfl⟩
  · intro D s1 hI
    obtain ⟨_, rfl⟩ := hI
    simp only [List.length_map, List.take_length]
    refine awj_seq ?_
    refine awj_rj rfl ?_
    refine RJ.op rfl rfl (eff_load (y := .own _ _ _ _) rfl rfl ti23 rfl (.one rfl rfl rfl rfl)) ?_
    refine RJ.op rfl rfl (eff_assign (v := .own _ _ _ _) rfl rfl rfl) ?_
    refine RJ.nil ?_
    refine awj_ret ?_
    exact ⟨Or.inr rfl, [_], [.own 1010 B.length 0 B.length], ⟨.tmp rfl, trivial⟩, rfl, weak_keep ⟨rfl, rfl, trivial⟩ ⟨rfl, okE_t, trivial⟩, rfl⟩
  · intro D c s1 hI
    exact hI.elim

theorem collect_retG (B : List Bid) (hB : B.length ≤ 100000) : RetG Try.prog 91 [] [.t (.fn 93 [.ptr [.sl (B.map encB) false]])] [(4, some ⟨5, 42, B.length, (B.map encB).map .t⟩)] (.own 4 B.length 0 B.length) := by
  refine retG_of_awp Try.func91 rfl (Nat.le_of_ble_eq_true rfl) ?_
  refine awp_seq ?_
  refine awp_rw rfl ?_
  refine RW.op rfl rfl (eff_assign (v := .t _) rfl rfl rfl) ?_
  refine RW.nil ?_
  refine awp_seq ?_
  refine awp_rw rfl ?_
  refine RW.op rfl rfl (eff_move (v := .t _) rfl rfl rfl) ?_
  refine RW.new rfl rfl (eff_callG (appendSeq_retG B hB) co106 (fun _ => 4) rfl rfl rfl ⟨.t _, .t _, trivial⟩ (.own _ _ _ _ rfl rfl) rfl trivial ⟨⟨treeEls_t, .inr rfl⟩, trivial⟩) ?_
  refine RW.op rfl rfl (eff_assign (v := .own _ _ _ _) rfl rfl rfl) ?_
  refine RW.nil ?_
  refine awp_ret ?_
  exact ⟨Or.inr rfl, [_], [_], ⟨.tmp rfl, trivial⟩, rfl, weak_keep ⟨rfl, rfl, trivial⟩ ⟨rfl, okE_t, trivial⟩, rfl⟩

theorem sorted_ret (B : List Bid) (hB : B.length ≤ 100000) : Ret Try.prog 74 [.fn 93 [.ptr [.sl (B.map encB) false]], .fn 76 []] (.sl ((srtB B).map encB) false) := by
  refine ret_of_awp Try.func74 rfl (Nat.le_of_ble_eq_true rfl) ?_
  refine awp_seq ?_
  refine awp_rw rfl ?_
  refine RW.op rfl rfl (eff_assign (v := .t _) rfl rfl rfl) ?_
  refine RW.nil ?_
  refine awp_seq ?_
  refine awp_rw rfl ?_
  refine RW.op rfl rfl (eff_move (v := .t _) rfl rfl rfl) ?_
  refine RW.new rfl rfl (eff_callG (collect_retG B hB) co91 (fun _ => 7) rfl rfl rfl ⟨.t _, trivial⟩ (.own _ _ _ _ rfl rfl) rfl trivial ⟨⟨treeEls_t, .inr rfl⟩, trivial⟩) ?_
  refine RW.op rfl rfl (eff_assign (v := .own _ _ _ _) rfl rfl rfl) ?_
  refine RW.nil ?_
  refine awp_seq ?_
  refine awp_rw rfl ?_
  refine RW.op rfl rfl (eff_move (v := .own _ _ _ _) rfl rfl rfl) ?_
  refine RW.op rfl rfl (eff_move (v := .t _) rfl rfl rfl) ?_
  refine RW.new rfl rfl (eff_sortFunc Try.sortIv (cells := cellsB) (k := 5) (fun _ => rfl) (by decide) (cf := cmpB) cmpB_swo (g := 76) order_ret co76 ti42 (id := 7) (gen := B.length) B (by omega) rfl co92 rfl rfl rfl rfl rfl rfl (sortEls_eq _).symm rfl (sortEls_eq _)) ?_
  refine RW.nil ?_
  refine awp_seq ?_
  refine awp_rw rfl ?_
  refine RW.op rfl rfl (eff_move (v := .own _ _ _ _) rfl rfl rfl) ?_
  refine RW.op rfl rfl (eff_assign (v := .own _ _ _ _) rfl rfl rfl) ?_
  refine RW.nil ?_
  refine awp_ret ?_
  exact ⟨Or.inr rfl, [_], ⟨.tmp (Res.ownT (xs := (srtB B).map encB) rfl rfl rfl (by rw [List.length_map, srtB_len])), trivial⟩, .refl _⟩

theorem clo_res {σ : Sto} {B : List Bid} {r : Nat} (h3 : sget σ 3 = some ⟨1, 23, 0, [.t (.sl ((srtB B).map encB) false)]⟩) (h4 : sget σ 4 = some ⟨1, 97, 0, [.t (.mp r)]⟩)
    (h5 : sget σ 5 = some ⟨1, 98, 0, [.fn 77 [.ptr 4 0 0 0, .ptr 3 0 0 0, .ptr 5 0 0 0]]⟩) : ∀ d : Nat, Res σ (.fn 77 [.ptr 4 0 0 0, .ptr 3 0 0 0, .ptr 5 0 0 0]) (.fn 77 (capsF r (srtB B) d)) := by
  have e3 : Res σ (.ptr 3 0 0 0) (.ptr [.sl ((srtB B).map encB) false]) := Res.ptrT (x := .sl ((srtB B).map encB) false) h3 rfl rfl
  have e4 : Res σ (.ptr 4 0 0 0) (.ptr [.mp r]) := Res.ptrT (x := .mp r) h4 rfl rfl
  intro d
  induction d with
  | zero => exact Res.fnP ⟨e4, e3, .ptr 5 0 0 0 _ _ [] h5 rfl rfl (by simp) (fun n e x _ hx => by simp at hx), trivial⟩
  | succ d ih => exact Res.fnP ⟨e4, e3, .ptr 5 0 0 0 _ _ [.fn 77 (capsF r (srtB B) d)] h5 rfl rfl (by simp [AV.cells]) (fun n e x he hx => by
      match n with
      | 0 => simp [AV.cells] at he hx; subst he; subst hx; exact ih
      | n + 1 => simp at hx), trivial⟩

theorem optimum_ret (B : List Bid) (hB : OkL B) : Ret Try.prog 50 [.sl (B.map encB) false] (encI (optOf B)) := by
  refine ret_of_awr Try.func50 rfl (Nat.le_of_ble_eq_true rfl) ?_
  intro F0 w0
  refine awj_seq ?_
  refine awj_rj rfl ?_
  refine RJ.op rfl rfl (eff_assign (v := .t _) rfl rfl rfl) ?_
  refine RJ.nil ?_
  refine awj_seq ?_
  refine awj_rj rfl ?_
  refine RJ.op rfl rfl (eff_move (v := .t _) rfl rfl rfl) ?_
  refine RJ.op rfl rfl (eff_callT (values_ret B) co75 rfl rfl rfl rfl) ?_
  refine RJ.op rfl rfl (eff_callT (sorted_ret B (by have := hB.len; omega)) co74 rfl rfl rfl rfl) ?_
  refine RJ.new rfl rfl (eff_allocK (k := 1) (id := 3) rfl rfl tz23 rfl rfl) ?_
  refine RJ.store rfl rfl (eff_storeW (v := .t _) (els := [_]) (els' := [_]) rfl rfl ti23 rfl rfl rfl rfl rfl rfl rfl rfl rfl) ?_
  refine RJ.nil ?_
  refine awj_seq ?_
  refine awj_rj rfl ?_
  refine RJ.rMake rfl rfl rfl rfl (fun rO hrO => ?_)
  refine RJ.rPut KI MapX.int (a := 0) (b := 0) (lm := []) rfl rfl (.inr rfl) Try.underlying97 rfl rfl rfl (gget_same _ _ _) ?_
  refine RJ.op rfl rfl (eff_move (v := .t _) rfl rfl rfl) ?_
  refine RJ.new rfl rfl (eff_allocK (k := 1) (id := 4) rfl rfl tz97 rfl rfl) ?_
  refine RJ.store rfl rfl (eff_storeW (v := .t _) (els := [_]) (els' := [_]) rfl rfl ti97 rfl rfl rfl rfl rfl rfl rfl rfl rfl) ?_
  refine RJ.nil ?_
  refine awj_seq ?_
  refine awj_rj rfl ?_
  refine RJ.new rfl rfl (eff_allocK (k := 1) (id := 5) rfl rfl tz98 rfl rfl) ?_
  refine RJ.nil ?_
  refine awj_seq ?_
  refine awj_rj rfl ?_
  refine RJ.op rfl rfl (eff_makeFunc rfl rfl rfl rfl) ?_
  refine RJ.store rfl rfl (eff_storeW (v := .fn _ _) (els := [_]) (els' := [_]) rfl rfl ti98 rfl rfl rfl rfl rfl rfl rfl rfl rfl) ?_
  refine RJ.nil ?_
  show AWJ _ _ _ _ _ _ _ _
  refine awj_weak (weak_frz (n := 16) (fr' := [(2, .t (encI 0)), (3, .t (.ptr [.sl ((srtB B).map encB) false])), (5, .t (.ptr [.fn 77 (capsF rO (srtB B) (srtB B).length)]))]) (st' := []) [(3, some ⟨1, 23, 0, [.t (.sl ((srtB B).map encB) false)]⟩), (4, some ⟨1, 97, 0, [.t (.mp rO)]⟩), (5, some ⟨1, 98, 0, [.fn 77 [.ptr 4 0 0 0, .ptr 3 0 0 0, .ptr 5 0 0 0]]⟩)] ⟨rfl, rfl, rfl, trivial⟩ trivial ⟨wa_eq rfl rfl, .res (Res.ptrT (x := .sl ((srtB B).map encB) false) rfl rfl rfl) (.refl _), .res (.ptr 5 0 0 0 _ _ [.fn 77 (capsF rO (srtB B) (srtB B).length)] rfl rfl rfl (Nat.le_refl 1) (fun n e x he hx => by
    match n with
    | 0 => simp [AV.cells] at he hx; subst he; subst hx; exact clo_res rfl rfl rfl _
    | n + 1 => simp at hx)) (.refl _), trivial⟩ trivial) ?_
  refine awj_seq ?_
  refine awj_rj rfl ?_
  refine RJ.op rfl rfl (eff_loadT1 rfl rfl ti98 rfl rfl) ?_
  refine RJ.op rfl rfl (eff_loadT1 rfl rfl ti23 rfl rfl) ?_
  refine RJ.op rfl rfl (eff_lenM rfl rfl te23 rfl) ?_
  refine RJ.rCall (xs := [encI ((srtB B).length : Nat)]) (caps := capsF rO (srtB B) (srtB B).length) (g := _) (by
    exact (first_ret rO (srtB B) hB.tab (srtB B).length (srtB B).length (Nat.le_refl _) (Nat.le_refl _) [(0, 0)] (good_nil _)).ext (fun b => by
      show (if rO = b then _ else if rO = b then _ else none) = (if rO = b then _ else none)
      split <;> rfl)) co77 rfl rfl rfl rfl rfl rfl ?_
  rintro r' g' ⟨rfl, hg'⟩
  rw [hB.dp]
  refine RJ.op rfl rfl (eff_assign (v := .t _) rfl rfl rfl) ?_
  refine RJ.nil ?_
  refine awj_ret ?_
  exact ⟨Or.inr rfl, [_], ⟨.tmp (.t _), trivial⟩, .refl _⟩

end Go.Tv.C35

end
section
namespace Go.Tv.C35
set_option linter.unusedVariables false

theorem best_val {B : List Bid} {s : Int} (ho : ∀ b, b ∈ B → Ok b) : vI B (bestF B s) = optOf (atS B s) := (best_lead ho).val
theorem best_comp {B : List Bid} {s : Int} (ho : ∀ b, b ∈ B → Ok b) : compI B s (bestF B s) := ic_compI ho (best_lead ho).ic
/-- The other bids. -/
def othersF (B : List Bid) (i : Nat) : List Bid := B.take i ++ B.drop (i + 1)
theorem split_get {B : List Bid} {i : Nat} (hi : i < B.length) : B = B.take i ++ B.getD i zb :: B.drop (i + 1) := by
  have : B.getD i zb = B[i] := by simp [List.getD_eq_getElem?_getD, hi]
  rw [this, ← List.drop_eq_getElem_cons hi, List.take_append_drop]
theorem others_mem {B : List Bid} {i : Nat} {x : Bid} (h : x ∈ othersF B i) : x ∈ B := by
  unfold othersF at h
  rcases List.mem_append.1 h with h | h
  · exact List.mem_of_mem_take h
  · exact List.mem_of_mem_drop h
/-- What the station is worth without bid i; what goes with bid i. -/
noncomputable def oF (B : List Bid) (s : Int) (i : Nat) : Int := optOf (atS (othersF B i) s)
theorem left_append (A C : List Bid) (b : Bid) : leftOf (A ++ C) b = leftOf A b ++ leftOf C b := List.filter_append ..
/-- The price of a bid. -/
noncomputable def priceF (B : List Bid) (s : Int) (i : Nat) : Int := if i ∈ bestF B s then oF B s i - optOf (atS B s) + (B.getD i zb).val else 0
end Go.Tv.C35

end
section
namespace Go.Tv.C35
set_option linter.unusedVariables false

def busyF (B : List Bid) (k i : Nat) : Bool := decide ((B.getD k zb).craft = (B.getD i zb).craft) && confl (B.getD k zb) (B.getD i zb)
def away (b : Bid) : Bid := { b with station := -1 }
/-- The bids for station s, those that an accepted one bars moved away (the specification). -/
def blockF (B : List Bid) (out : List Nat) (s : Int) : List Bid := (List.range B.length).map fun i => if (B.getD i zb).station = s ∧ (out.any fun k => busyF B k i) = true then away (B.getD i zb) else B.getD i zb
noncomputable def outF (B : List Bid) : Nat → List Nat
  | 0 => []
  | s + 1 => outF B s ++ bestF (blockF B (outF B s) s) s
/-- One step of the program. -/
def stepB (B O : List Bid) (s : Int) (best : List Nat) (i : Nat) : Bid := if (O.getD i zb).station > s ∧ (best.any fun k => busyF B k i) = true then away (O.getD i zb) else O.getD i zb
def stepF (B O : List Bid) (s : Int) (best : List Nat) : List Bid := (List.range B.length).map (stepB B O s best)
noncomputable def openF (B : List Bid) : Nat → List Bid
  | 0 => B
  | s + 1 => stepF B (openF B s) s (bestF (openF B s) s)
theorem getD_range {α : Type} (n : Nat) (f : Nat → α) (z : α) {i : Nat} (hi : i < n) : ((List.range n).map f).getD i z = f i := by
  simp [List.getD_eq_getElem?_getD, hi]
theorem block_len (B : List Bid) (out : List Nat) (s : Int) : (blockF B out s).length = B.length := by simp [blockF]
theorem open_len (B : List Bid) : ∀ s, (openF B s).length = B.length
  | 0 => rfl
  | s + 1 => by simp [openF, stepF]
theorem at_congr : ∀ {C D : List Bid} {s : Int}, C.length = D.length → (∀ i, i < C.length → C.getD i zb = D.getD i zb ∨ ((C.getD i zb).station ≠ s ∧ (D.getD i zb).station ≠ s)) → atS C s = atS D s
  | [], [], _, _, _ => rfl
  | [], _ :: _, _, h, _ => by simp at h
  | _ :: _, [], _, h, _ => by simp at h
  | c :: C, d :: D, s, h, hh => by
    have h1 := at_congr (C := C) (D := D) (s := s) (by simpa using h) (fun i hi => by have := hh (i + 1) (by simp; omega); simpa using this)
    have h0 := hh 0 (by simp)
    simp only [List.getD_cons_zero] at h0
    unfold atS at h1 ⊢
    rcases h0 with rfl | ⟨h2, h3⟩
    · rw [List.filter_cons, List.filter_cons, h1]
    · rw [List.filter_cons, if_neg (by simpa using h2), List.filter_cons, if_neg (by simpa using h3), h1]
theorem bestGo_congr {C D : List Bid} {s : Int} (hl : C.length = D.length) (hh : ∀ i, i < C.length → C.getD i zb = D.getD i zb ∨ ((C.getD i zb).station ≠ s ∧ (D.getD i zb).station ≠ s)) :
    ∀ (n i : Nat) (op : List Bid) (rest : Int), C.length - i = n → bestGo C s i op rest = bestGo D s i op rest := by
  intro n
  induction n with
  | zero =>
    intro i op rest hn
    rw [bestGo, dif_neg (by omega), bestGo, dif_neg (by omega)]
  | succ n ih =>
    intro i op rest hn
    have hi : i < C.length := by omega
    have e1 := ih (i + 1) op rest (by omega)
    have e2 := ih (i + 1) (leftOf op (C.getD i zb)) (rest - (C.getD i zb).val) (by omega)
    have ex : ∀ E : List Bid, i < E.length → bestGo E s i op rest = if (E.getD i zb).station ≠ s ∨ E.getD i zb ∉ op then bestGo E s (i + 1) op rest
      else if (E.getD i zb).val + optOf (leftOf op (E.getD i zb)) = rest then i :: bestGo E s (i + 1) (leftOf op (E.getD i zb)) (rest - (E.getD i zb).val) else bestGo E s (i + 1) op rest := fun E hE => by
      rw [bestGo, dif_pos hE]
    rw [ex C hi, ex D (by omega), e1, e2]
    rcases hh i hi with h | ⟨h2, h3⟩
    · rw [h]
    · rw [if_pos (Or.inl h2), if_pos (Or.inl h3)]
theorem best_congr {C D : List Bid} {s : Int} (hl : C.length = D.length) (hh : ∀ i, i < C.length → C.getD i zb = D.getD i zb ∨ ((C.getD i zb).station ≠ s ∧ (D.getD i zb).station ≠ s)) : bestF C s = bestF D s := by
  unfold bestF
  rw [at_congr hl hh, bestGo_congr hl hh _ 0 _ _ rfl]
/-- What the program's list of bids is at station s. -/
theorem open_is (B : List Bid) : ∀ (s : Nat), bestF (openF B s) s = bestF (blockF B (outF B s) s) s ∧ ∀ i, i < B.length →
    (((s : Int) ≤ (B.getD i zb).station → (openF B s).getD i zb = if ((outF B s).any fun k => busyF B k i) = true then away (B.getD i zb) else B.getD i zb) ∧
    ((B.getD i zb).station < s → (openF B s).getD i zb = B.getD i zb ∨ (openF B s).getD i zb = away (B.getD i zb))) := by
  have key : ∀ (s : Nat), (∀ i, i < B.length → (((s : Int) ≤ (B.getD i zb).station → (openF B s).getD i zb = if ((outF B s).any fun k => busyF B k i) = true then away (B.getD i zb) else B.getD i zb) ∧
    ((B.getD i zb).station < s → (openF B s).getD i zb = B.getD i zb ∨ (openF B s).getD i zb = away (B.getD i zb)))) → bestF (openF B s) s = bestF (blockF B (outF B s) s) s := by
    intro s h
    refine best_congr (by rw [open_len, block_len]) (fun i hi => ?_)
    rw [open_len] at hi
    obtain ⟨h1, h2⟩ := h i hi
    unfold blockF
    rw [getD_range _ _ _ hi]
    by_cases he : (B.getD i zb).station = s
    · left
      rw [h1 (by omega)]
      by_cases ho : ((outF B s).any fun k => busyF B k i) = true
      · rw [if_pos ho, if_pos ⟨he, ho⟩]
      · rw [if_neg ho, if_neg (fun h => ho h.2)]
    · right
      rw [if_neg (fun h => he h.1)]
      refine ⟨?_, he⟩
      have haw : (away (B.getD i zb)).station ≠ s := by show (-1 : Int) ≠ s; omega
      by_cases hlt : (B.getD i zb).station < s
      · rcases h2 hlt with e | e <;> rw [e]
        · exact he
        · exact haw
      · rw [h1 (by omega)]
        split
        · exact haw
        · exact he
  intro s
  suffices H : ∀ i, i < B.length → (((s : Int) ≤ (B.getD i zb).station → (openF B s).getD i zb = if ((outF B s).any fun k => busyF B k i) = true then away (B.getD i zb) else B.getD i zb) ∧
    ((B.getD i zb).station < s → (openF B s).getD i zb = B.getD i zb ∨ (openF B s).getD i zb = away (B.getD i zb))) from ⟨key s H, H⟩
  induction s with
  | zero =>
    intro i hi
    exact ⟨fun _ => by simp [outF, openF], fun _ => .inl rfl⟩
  | succ s ih =>
    intro i hi
    obtain ⟨h1, h2⟩ := ih i hi
    have hb := key s ih
    have e : (openF B (s + 1)).getD i zb = stepB B (openF B s) s (bestF (openF B s) s) i := by
      show (stepF _ _ _ _).getD i zb = _
      unfold stepF; rw [getD_range _ _ _ hi]
    rw [e]
    have haa : away (away (B.getD i zb)) = away (B.getD i zb) := rfl
    unfold stepB
    refine ⟨fun hle => ?_, fun hlt => ?_⟩
    · have h1' := h1 (by omega)
      rw [h1', hb]
      have e2 : ((outF B (s + 1)).any fun k => busyF B k i) = (((outF B s).any fun k => busyF B k i) || ((bestF (blockF B (outF B s) s) s).any fun k => busyF B k i)) := List.any_append
      have e3 : (if ((outF B (s + 1)).any fun k => busyF B k i) = true then away (B.getD i zb) else B.getD i zb) = if (((outF B s).any fun k => busyF B k i) = true ∨ ((bestF (blockF B (outF B s) s) s).any fun k => busyF B k i) = true) then away (B.getD i zb) else B.getD i zb := by
        rw [e2]; simp only [Bool.or_eq_true]
      rw [e3]
      by_cases ho : ((outF B s).any fun k => busyF B k i) = true
      · rw [if_pos ho, if_pos (Or.inl ho)]
        split <;> rfl
      · rw [if_neg ho]
        by_cases hq : ((bestF (blockF B (outF B s) s) s).any fun k => busyF B k i) = true
        · rw [if_pos ⟨by omega, hq⟩, if_pos (Or.inr hq)]
        · rw [if_neg (fun h => hq h.2), if_neg (fun h => h.elim ho hq)]
    · have h3 : (openF B s).getD i zb = B.getD i zb ∨ (openF B s).getD i zb = away (B.getD i zb) := by
        by_cases hq : (s : Int) ≤ (B.getD i zb).station
        · rw [h1 hq]
          split
          · exact .inr rfl
          · exact .inl rfl
        · exact h2 (by omega)
      rcases h3 with e3 | e3 <;> rw [e3] <;> split
      · exact .inr rfl
      · exact .inl rfl
      · exact .inr rfl
      · exact .inr rfl
theorem block_ok {B : List Bid} {out : List Nat} {s : Int} (ho : ∀ b, b ∈ B → Ok b) : ∀ b, b ∈ blockF B out s → Ok b := by
  intro b hb
  obtain ⟨i, hi, rfl⟩ := List.mem_map.1 hb
  have hi' : i < B.length := by simpa using hi
  have hm : B.getD i zb ∈ B := by rw [List.getD_eq_getElem?_getD, List.getElem?_eq_getElem hi']; exact List.getElem_mem _
  split
  · exact ⟨(ho _ hm).1, (ho _ hm).2⟩
  · exact ho _ hm
end Go.Tv.C35

end
