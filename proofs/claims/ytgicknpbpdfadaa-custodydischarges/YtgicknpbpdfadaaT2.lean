/- Part of the proof that the laws of this seat return true for every input. No condition. -/
import Derived.Test.YtgicknpbpdfadaaT1
import Derived.ProofKit
import Derived.OpenShut
import Derived.Carry
import Derived.Test.YtgicknpbpdfadaaProg
section
namespace Go.Tv
open Go.ChangeShapes Go.WideShapes Go.ChangeAt Go.RowKit
variable {P : Program}

/-- A reading at type t gives trees, one a cell, that satisfy ok. -/
def Reads (P : Program) (t : TypeId) (k : Nat) (ok : List Tr → Prop) : Prop :=
  P.cellsOf t = k ∧ ∀ {H : Type} (enc : TypeId × Value → H) (w : World) (fuel : Nat) (cs : List Value) (x : DataW H × List MemPlace), DataW.trod enc P w 0 (fun _ => true) true fuel t cs = some x →
    cs.length = k ∧ ∃ ts : List Tr, ts.length = k ∧ (∀ (i : Nat) c v, ts[i]? = some c → cs[i]? = some v → c.one = true ∧ V w (fun _ => False) c v) ∧ ok ts

theorem Reads.mono {t : TypeId} {k : Nat} {ok ok' : List Tr → Prop} (h : Reads P t k ok) (hk : ∀ ts, ok ts → ok' ts) : Reads P t k ok' :=
  ⟨h.1, fun enc w fuel cs x hx => by obtain ⟨h1, ts, h2, h3, h4⟩ := h.2 enc w fuel cs x hx; exact ⟨h1, ts, h2, h3, hk _ h4⟩⟩

theorem one_of {ts : List Tr} {cs : List Value} {c : Tr} {v : Value} {w : World} {F : Nat → Prop} (h1 : c.one = true) (hV : V w F c v) :
    ∀ (i : Nat) c' v', [c][i]? = some c' → [v][i]? = some v' → c'.one = true ∧ V w F c' v' := by
  intro i c' v' hc hv
  match i with
  | 0 => simp at hc hv; subst hc hv; exact ⟨h1, hV⟩
  | i + 1 => simp at hc

theorem reads_int {t : TypeId} {k : IntKind} (ht : P.underlying t = some (.int k)) (hc : P.cellsOf t = 1) : Reads P t 1 (fun ts => ∃ n, ts = [.int k n] ∧ (Lit.int k n).wf = true) := by
  refine ⟨hc, fun enc w fuel cs x hx => ?_⟩
  obtain ⟨n, rfl, _, hw⟩ := DataW.trod_int ht hx
  exact ⟨rfl, [.int k n], rfl, one_of (ts := []) (cs := []) rfl (.int k n), n, rfl, hw⟩

theorem reads_bool {t : TypeId} (ht : P.underlying t = some .bool) (hc : P.cellsOf t = 1) : Reads P t 1 (fun ts => ∃ b, ts = [.bool b]) := by
  refine ⟨hc, fun enc w fuel cs x hx => ?_⟩
  obtain ⟨b, rfl, _⟩ := DataW.trod_bool ht hx
  exact ⟨rfl, [.bool b], rfl, one_of (ts := []) (cs := []) rfl (.bool b), b, rfl⟩

theorem reads_string {t : TypeId} (ht : P.underlying t = some .string) (hc : P.cellsOf t = 1) : Reads P t 1 (fun ts => ∃ s : ByteArray, ts = [.str s] ∧ s.size ≤ maxLen) := by
  refine ⟨hc, fun enc w fuel cs x hx => ?_⟩
  obtain ⟨s, rfl, _, hm⟩ := DataW.trod_string ht hx
  exact ⟨rfl, [.str s], rfl, one_of (ts := []) (cs := []) rfl (.str s), s, rfl, hm⟩

/-- An element out of its cells. -/
def packE (g : Bool) (ts : List Tr) : Tr := if g then .agg ts else ts.headD .nilp

theorem packE_cells {g : Bool} {ts : List Tr} {k : Nat} (hg : g = true ∨ k = 1) (hl : ts.length = k) (h1 : ∀ c, c ∈ ts → c.one = true) : (packE g ts).cells = ts ∧ (packE g ts).noTup = true := by
  unfold packE
  cases g with
  | true => exact ⟨rfl, rfl⟩
  | false =>
    rcases hg with h | h
    · cases h
    · subst h
      match ts, hl with
      | [c], _ =>
        have h := h1 c List.mem_cons_self
        refine ⟨?_, ?_⟩
        · simp only [Bool.false_eq_true, if_false, List.headD_cons]
          exact (show c.cells = [c] by cases c <;> simp [Tr.one, Tr.cells] at h ⊢)
        · simp only [Bool.false_eq_true, if_false, List.headD_cons]
          cases c <;> simp [Tr.one, Tr.noTup] at h ⊢

theorem cells_row {w : World} {a : Addr} {n : Nat} {cs : List Value} (h : w.cells? 0 a n = some cs) : cs.length = n ∧ ∀ j, j < n → w.cell? (a.add j) = cs[j]? := by
  unfold World.cells? at h
  rw [if_pos (Nat.zero_le _)] at h
  refine ⟨by simpa using mapM_some_length h, fun j hj => ?_⟩
  have := mapM_some_get h j j (by simp [hj])
  exact this

theorem spot_none {w : World} {a : Addr} {v : Value} (h : w.cell? a = some v) : a = ⟨a.block, a.off, none⟩ ∧ a.block < w.heap.size := by
  unfold World.cell? at h
  cases hb : w.heap[a.block]? with
  | none => simp [hb] at h
  | some o =>
    have hlt := lt_of_heap hb
    cases o with
    | cells c ty fz =>
      simp only [hb] at h
      cases hs : a.spot with
      | none => refine ⟨?_, hlt⟩; cases a; simp_all
      | some s => simp [hs] at h
    | _ => simp [hb] at h

theorem reads_slice {t e : TypeId} {k : Nat} {g : Bool} {ok : List Tr → Prop} (ht : P.underlying t = some (.slice e)) (hc : P.cellsOf t = 1) (hk : 0 < k) (hg : g = true ∨ k = 1) (he : Reads P e k ok) :
    Reads P t 1 (fun ts => ∃ els : List Tr, ts = [.sl els false] ∧ els.length ≤ maxLen ∧ ∀ x, x ∈ els → ∃ cs, ok cs ∧ x = packE g cs) := by
  refine ⟨hc, fun {H} enc w fuel cs x hx => ?_⟩
  rcases DataW.trod_slice ht hx with ⟨rfl, _⟩ | ⟨a, len, cap, elems, rest, n, _, rfl, _, _, hlc, hcm, hlen, hel, hrest, _⟩
  · exact ⟨rfl, [.sl [] false], rfl, one_of (ts := []) (cs := []) rfl (.nils false), [], rfl, Nat.zero_le _, fun x hx => by simp at hx⟩
  · refine ⟨rfl, ?_⟩
    rw [he.1] at hel hrest
    -- each element's cells
    have hread : ∀ i, i < len → ∃ (cv : List Value) (ts : List Tr), cv.length = k ∧ ts.length = k ∧ (∀ j, j < k → w.cell? ((a.add (i * k)).add j) = cv[j]?) ∧ (∀ (j : Nat) c v, ts[j]? = some c → cv[j]? = some v → c.one = true ∧ V w (fun _ => False) c v) ∧ ok ts := by
      intro i hi
      have h := hel i hi
      rw [List.getElem?_eq_getElem (by omega)] at h
      obtain ⟨cv, hcv, htr⟩ := Option.bind_eq_some_iff.1 h
      obtain ⟨hcl, hcc⟩ := cells_row hcv
      obtain ⟨h1, ts, h2, h3, h4⟩ := he.2 enc w n cv _ htr
      exact ⟨cv, ts, h1, h2, hcc, h3, h4⟩
    by_cases h0 : cap = 0
    · have hl0 : len = 0 := by omega
      subst h0 hl0
      exact ⟨[.sl [] false], rfl, one_of (ts := []) (cs := []) rfl (.nilsE false a), [], rfl, Nat.zero_le _, fun x hx => by simp at hx⟩
    -- the address is that of cells
    have hfirst : ∃ v, w.cell? a = some v := by
      by_cases hl0 : len = 0
      · obtain ⟨hr1, hr2⟩ := hrest rfl
        have h := hr2 0 (by omega)
        rw [List.getElem?_eq_getElem (by omega)] at h
        obtain ⟨cv, hcv, _⟩ := Option.bind_eq_some_iff.1 h
        obtain ⟨hcl, hcc⟩ := cells_row hcv
        have := hcc 0 hk
        subst hl0
        simp only [Nat.zero_add, Nat.zero_mul, Addr.add, if_true] at this
        exact ⟨_, this.trans (List.getElem?_eq_getElem (by omega))⟩
      · obtain ⟨cv, ts, hcl, _, hcc, _⟩ := hread 0 (by omega)
        have := hcc 0 hk
        simp only [Nat.zero_mul, Addr.add, if_true] at this
        exact ⟨_, this.trans (List.getElem?_eq_getElem (by omega))⟩
    obtain ⟨v0, hv0⟩ := hfirst
    obtain ⟨ha, hlt⟩ := spot_none hv0
    obtain ⟨b, o, rfl⟩ : ∃ b o, a = ⟨b, o, none⟩ := ⟨_, _, ha⟩
    -- choose the elements
    have hex : ∀ i : Nat, ∃ (cv : List Value) (ts : List Tr), i < len → (cv.length = k ∧ ts.length = k ∧ (∀ j, j < k → w.cell? ⟨b, o + i * k + j, none⟩ = cv[j]?) ∧ (∀ (j : Nat) c v, ts[j]? = some c → cv[j]? = some v → c.one = true ∧ V w (fun _ => False) c v) ∧ ok ts) := by
      intro i
      by_cases hi : i < len
      · obtain ⟨cv, ts, h1, h2, h3, h4, h5⟩ := hread i hi
        refine ⟨cv, ts, fun _ => ⟨h1, h2, fun j hj => ?_, h4, h5⟩⟩
        have := h3 j hj
        rwa [Addr.add_none, Addr.add_none] at this
      · exact ⟨[], [], fun h => absurd h hi⟩
    let cv : Nat → List Value := fun i => Classical.choose (hex i)
    let ts : Nat → List Tr := fun i => Classical.choose (Classical.choose_spec (hex i))
    have hsp : ∀ i, i < len → ((cv i).length = k ∧ (ts i).length = k ∧ (∀ j, j < k → w.cell? ⟨b, o + i * k + j, none⟩ = (cv i)[j]?) ∧ (∀ (j : Nat) c v, (ts i)[j]? = some c → (cv i)[j]? = some v → c.one = true ∧ V w (fun _ => False) c v) ∧ ok (ts i)) :=
      fun i hi => Classical.choose_spec (Classical.choose_spec (hex i)) hi
    have hone : ∀ i, i < len → ∀ c, c ∈ ts i → c.one = true := by
      intro i hi c hc
      obtain ⟨h1, h2, h3, h4, h5⟩ := hsp i hi
      obtain ⟨j, hj, rfl⟩ := List.mem_iff_getElem.1 hc
      exact (h4 j _ _ (List.getElem?_eq_getElem hj) (List.getElem?_eq_getElem (by omega))).1
    let els : List Tr := (List.range len).map fun i => packE g (ts i)
    have hels : els.length = len := by simp [els]
    have hget : ∀ (i : Nat) x, els[i]? = some x → i < len ∧ x = packE g (ts i) := by
      intro i x hx
      simp only [els, List.getElem?_map, Option.map_eq_some_iff] at hx
      obtain ⟨m, hm, rfl⟩ := hx
      have hi : i < len := by have := lt_of_get hm; simpa using this
      rw [List.getElem?_range hi] at hm
      cases hm
      exact ⟨hi, rfl⟩
    have hcell : ∀ i, i < len → (packE g (ts i)).cells = ts i ∧ (packE g (ts i)).noTup = true := fun i hi => packE_cells hg (hsp i hi).2.1 (hone i hi)
    have hV : V w (fun _ => False) (.sl els false) (.slice (some ⟨b, o, none⟩) els.length cap) := by
      refine .sl els false k b o cap (fun i j => (cv i).getD j undef) hlt (fun h => h) (fun h => by cases h) (by rw [hels]; exact hlc) ?_ ?_ ?_ ?_
      · intro i x hx
        obtain ⟨hi, rfl⟩ := hget i x hx
        exact ⟨(hcell i hi).2, by rw [(hcell i hi).1]; exact (hsp i hi).2.1⟩
      · intro i x j c hx hc
        obtain ⟨hi, rfl⟩ := hget i x hx
        rw [(hcell i hi).1] at hc
        exact hone i hi c (List.mem_of_getElem? hc)
      · intro i x j c hx hc
        obtain ⟨hi, rfl⟩ := hget i x hx
        rw [(hcell i hi).1] at hc
        have hj : j < k := by have := lt_of_get hc; rw [(hsp i hi).2.1] at this; exact this
        rw [(hsp i hi).2.2.1 j hj, List.getElem?_eq_getElem (by rw [(hsp i hi).1]; exact hj)]
        simp [List.getD, (hsp i hi).1, hj]
      · intro i x j c hx hc
        obtain ⟨hi, rfl⟩ := hget i x hx
        rw [(hcell i hi).1] at hc
        have hj : j < k := by have := lt_of_get hc; rw [(hsp i hi).2.1] at this; exact this
        have hcv : (cv i)[j]? = some ((cv i)[j]'(by rw [(hsp i hi).1]; exact hj)) := List.getElem?_eq_getElem _
        have := ((hsp i hi).2.2.2.1 j c _ hc hcv).2
        simpa [List.getD, hcv] using this
    rw [hels] at hV
    refine ⟨[.sl els false], rfl, one_of (ts := []) (cs := []) rfl hV, els, rfl, by rw [hels]; omega, fun x hx => ?_⟩
    obtain ⟨i, hi, rfl⟩ := List.mem_iff_getElem.1 hx
    obtain ⟨hi', he'⟩ := hget i _ (List.getElem?_eq_getElem hi)
    exact ⟨ts i, (hsp i hi').2.2.2.2, he'⟩

/-! ### Structs -/

/-- The fields fs, from cell off on. -/
def RdFs (P : Program) (k : Nat) (fs : List Field) (off : Nat) (ok : List Tr → Prop) : Prop :=
  off ≤ k ∧ ∀ {H : Type} (enc : TypeId × Value → H) (w : World) (n : Nat) (cs : List Value), cs.length = k →
    (∀ f, f ∈ fs → ∃ x, DataW.trod enc P w 0 (fun _ => true) true n f.type ((cs.drop f.offset).take (P.cellsOf f.type)) = some x) →
    ∃ ts : List Tr, off + ts.length = k ∧ (∀ (i : Nat) c v, ts[i]? = some c → cs[off + i]? = some v → c.one = true ∧ V w (fun _ => False) c v) ∧ ok ts

theorem rdfs_nil {k : Nat} : RdFs P k [] k (fun ts => ts = []) :=
  ⟨Nat.le_refl _, fun _ _ _ _ _ _ => ⟨[], rfl, fun i c v h => by simp at h, rfl⟩⟩

theorem rdfs_cons {k kf off : Nat} {f : Field} {fs : List Field} {okf ok : List Tr → Prop} (ho : f.offset = off) (hf : Reads P f.type kf okf) (h : RdFs P k fs (off + kf) ok) :
    RdFs P k (f :: fs) off (fun ts => ∃ a b, ts = a ++ b ∧ okf a ∧ ok b) := by
  refine ⟨by have := h.1; omega, fun enc w n cs hl hx => ?_⟩
  obtain ⟨x, hx0⟩ := hx f List.mem_cons_self
  obtain ⟨h1, ts, h2, h3, h4⟩ := hf.2 enc w n _ x hx0
  obtain ⟨us, g1, g2, g3⟩ := h.2 enc w n cs hl (fun f' hf' => hx f' (List.mem_cons_of_mem _ hf'))
  refine ⟨ts ++ us, by rw [List.length_append]; omega, fun i c v hc hv => ?_, ts, us, rfl, h4, g3⟩
  by_cases hi : i < kf
  · rw [List.getElem?_append_left (by omega)] at hc
    refine h3 i c v hc ?_
    rw [hf.1, ho, List.getElem?_take_of_lt hi, List.getElem?_drop]; exact hv
  · rw [List.getElem?_append_right (by omega), h2] at hc
    refine g2 (i - kf) c v hc ?_
    rw [show off + kf + (i - kf) = off + i by omega]; exact hv

theorem reads_struct {t : TypeId} {fs : Array Field} {k : Nat} {ok : List Tr → Prop} (ht : P.underlying t = some (.struct fs)) (hc : P.cellsOf t = k) (h : RdFs P k fs.toList 0 ok) : Reads P t k ok := by
  refine ⟨hc, fun enc w fuel cs x hx => ?_⟩
  obtain ⟨xs, n, _, _, hl, hlen, hf⟩ := DataW.trod_struct ht hx
  rw [hc] at hl
  obtain ⟨ts, g1, g2, g3⟩ := h.2 enc w n cs hl (fun f hm => by
    obtain ⟨i, hi, rfl⟩ := List.mem_iff_getElem.1 hm
    have := hf i _ (by rw [← Array.getElem?_toList]; exact List.getElem?_eq_getElem hi)
    rw [List.getElem?_eq_getElem (by rw [hlen]; simpa using hi)] at this
    exact ⟨_, this⟩)
  exact ⟨hl, ts, by omega, fun i c v hc hv => g2 i c v hc (by simpa using hv), g3⟩

/-! ### Arguments -/
section
variable {H : Type} {enc : TypeId × Value → H} {W : World} {base : Nat} {v : Value} {d : DataW H} {ps : List MemPlace}

theorem arg_int {t : TypeId} {k : IntKind} (ht : P.underlying t = some (.int k)) (hv : Value.okWide P W .any base t v) (h : DataW.Trod enc P W 0 (fun _ => true) true t v d ps) :
    ∃ n, v = .int k n ∧ (Lit.int k n).wf = true := by
  obtain ⟨fuel, h⟩ := h
  obtain ⟨n, hc, _, hw⟩ := DataW.trod_int ht h
  unfold Value.okWide at hv
  rw [ht] at hv
  cases v <;> simp [Cell.okWide, ht, Cell.ok, Value.cells] at hv hc
  obtain ⟨rfl, rfl⟩ := hc
  exact ⟨_, rfl, hw⟩

theorem arg_bool {t : TypeId} (ht : P.underlying t = some .bool) (hv : Value.okWide P W .any base t v) (h : DataW.Trod enc P W 0 (fun _ => true) true t v d ps) : ∃ b, v = .bool b := by
  unfold Value.okWide at hv
  rw [ht] at hv
  cases v <;> simp [Cell.okWide, ht, Cell.ok] at hv
  exact ⟨_, rfl⟩

theorem arg_slice {t e : TypeId} {ok : List Tr → Prop} (ht : P.underlying t = some (.slice e)) (hR : Reads P t 1 ok) (hv : Value.okWide P W .any base t v) (h : DataW.Trod enc P W 0 (fun _ => true) true t v d ps) :
    ∃ x, V W (fun _ => False) x v ∧ ok [x] := by
  obtain ⟨fuel, h⟩ := h
  obtain ⟨_, ts, h2, h3, h4⟩ := hR.2 enc W fuel _ _ h
  unfold Value.okWide at hv
  rw [ht] at hv
  match ts, h2 with
  | [x], _ =>
    refine ⟨x, ?_, h4⟩
    have : v.cells.toList[0]? = some v := by cases v <;> simp [Cell.okWide, ht, Cell.ok, Value.cells] at hv ⊢
    exact (h3 0 x v rfl this).2

theorem arg_struct {t : TypeId} {fs : Array Field} {k : Nat} {ok : List Tr → Prop} (ht : P.underlying t = some (.struct fs)) (hR : Reads P t k ok) (hv : Value.okWide P W .any base t v) (h : DataW.Trod enc P W 0 (fun _ => true) true t v d ps) :
    ∃ ts, V W (fun _ => False) (.agg ts) v ∧ ok ts := by
  obtain ⟨fuel, h⟩ := h
  obtain ⟨h1, ts, h2, h3, h4⟩ := hR.2 enc W fuel _ _ h
  unfold Value.okWide at hv
  rw [ht] at hv
  obtain ⟨cs, rfl, hcs, _⟩ := hv
  refine ⟨ts, ?_, h4⟩
  have h1' : cs.toList.length = k := h1
  have := V.agg (w := W) (F := fun _ => False) ts cs.toList (by rw [h1', h2]) (fun j c hc => by
      have hj := lt_of_get hc
      exact (h3 j c _ hc (List.getElem?_eq_getElem (by show j < cs.toList.length; omega))).1) (fun j c v hc hv => (h3 j c v hc hv).2)
  simpa using this
end

/-! ### Behind the call -/

theorem trodAll_behind {H : Type} {enc : TypeId × Value → H} (hl : laidOutB P = true) {W W' : World} (hb : Below W.heap.size W W') : ∀ {ts : List TypeId} {vs : List Value} {ds : List (DataW H)} {ps : List MemPlace},
    (∀ t, t ∈ ts → P.readableRec t = true ∧ t < P.types.size) → DataW.TrodAll enc P W 0 (fun _ => true) true ts vs ds ps → DataW.TrodAll enc P W' 0 (fun b => decide (b < W.heap.size)) true ts vs ds ps
  | [], _, _, _, _, h => by
    obtain ⟨rfl, rfl, rfl⟩ := trodAll_nil h
    exact trodAll_mk0
  | t :: ts, _, _, _, hr, h => by
    have hlt := DataW.TrodAll.lt h
    obtain ⟨v, vs, d, ds, p, q, rfl, rfl, rfl, h1, h2⟩ := trodAll_cons h
    obtain ⟨hr1, hr2⟩ := hr t List.mem_cons_self
    exact trodAll_cons_mk (Below.trod hl hr1 hr2 h1 hb (fun x hx => hlt x (List.mem_append_left _ hx))) (trodAll_behind hl hb (fun t' ht' => hr t' (List.mem_cons_of_mem _ ht')) h2)

theorem law_post {H : Type} {enc : TypeId × Value → H} {f : Func} {s : ChangeSpec} {W W' : World} {args : Array Value} {ds gs : List (DataW H)} {before : List MemPlace} {tb : TypeId} (hl : laidOutB P = true)
    (hsv : s.vars = []) (hr : ∀ t, t ∈ f.params.toList → P.readableRec t = true ∧ t < P.types.size) (hrt : f.resultTypes = #[tb]) (htb : P.underlying tb = some .bool)
    (hW : DataW.Whole enc P f.params.toList s.vars false W args.toList ds gs before) (hfn : (s.fn H (ds ++ gs)).results = [.lit (.bool true)] ∧ (s.fn H (ds ++ gs)).args = ds ∧ (s.fn H (ds ++ gs)).vars = [])
    (hb : Below W.heap.size W W') : s.post enc P f false true false false W args (.bool true) W' := by
  obtain ⟨p, q, hA, hV, rfl, hfz, hnd⟩ := id hW
  rw [hsv] at hV
  obtain ⟨rfl, rfl⟩ := trodVars_none hV
  refine ⟨ds, [], p ++ [], [], p, [], hW, ?_, ?_, ?_, ?_, fun h => by cases h⟩
  · rw [hfn.1, hrt]
    exact trodAll_mk1 ⟨1, by simp [DataW.trod, htb, Value.cells]⟩
  · rw [hfn.2.1]; exact trodAll_behind hl hb hr hA
  · rw [hfn.2.2, hsv]; rfl
  · refine World.keptBut_mono (fun x hx => ?_) (hb.frame (fun x => x ∈ p))
    exact ⟨List.mem_append_left _ hx, .inr (.inl hx)⟩

/-- A contract at what the arguments stand for, as the statement wants it. -/
theorem law_calls {f : FuncId} {xs : List Tr} {W : World} {vals : List Value} (hret : Ret P f xs (.bool true)) (hV : VL W (fun _ => False) xs vals) :
    Calls P f vals.toArray W fun e W' => e = .returned (.bool true) ∧ Below W.heap.size W W' :=
  (hret (fun _ => False) W vals (fun _ h => h.elim) hV).mono (by
    rintro e W' ⟨v, rfl, hv, hb⟩
    cases hv
    exact ⟨rfl, hb⟩)

theorem vl_cons {w : World} {F : Nat → Prop} {x : Tr} {v : Value} {xs : List Tr} {vs : List Value} (h : V w F x v) (hs : VL w F xs vs) : VL w F (x :: xs) (v :: vs) := by
  refine ⟨by simp [hs.1], fun i y u hy hu => ?_⟩
  match i with
  | 0 => simp at hy hu; subst hy hu; exact h
  | i + 1 => exact hs.2 i y u (by simpa using hy) (by simpa using hu)

theorem vl_nil {w : World} {F : Nat → Prop} : VL w F [] [] := ⟨rfl, fun i y u hy => by simp at hy⟩
end Go.Tv

end
section
namespace Go.Tv

variable {P : Program} {o : Oper} {D : St}

/-- A party of no one: the blocks F0 stand as in w0. -/
def JK (F0 : Nat → Prop) (w0 : World) : JP Unit where
  q := True
  J := fun _ M C w => C = F0 ∧ ∀ b, F0 b → b < w.heap.size ∧ w.heap[b]? = w0.heap[b]? ∧ ¬ M b
  ds := fun _ => []
  stable := by
    rintro _ M C w M' w' ⟨h1, h2⟩ hs _ _ _ hk hM
    refine ⟨h1, fun b hb => ?_⟩
    obtain ⟨g1, g2, g3⟩ := h2 b hb
    exact ⟨Nat.lt_of_lt_of_le g1 hs, (hk b g1 g3).trans g2, fun hm => (hM b hm).1.elim g3 (fun h => by omega)⟩

/-- As RetG; and ks: an argument's number and what it is afterwards. -/
def RetK (P : Program) (f : FuncId) (σ0 : Sto) (xs : List AV) (σ1 : Sto) (r : AV) (ks : List (Nat × AV)) : Prop :=
  ∀ (F : Nat → Prop) (β : Nat → Option Nat) (w : World) (vals : List Value), Mem F β σ0 w → vals.length = xs.length →
    (∀ (i : Nat) (x : AV) (v : Value), xs[i]? = some x → vals[i]? = some v → VA w (G F β σ0) β σ0 x v) →
    Calls P f vals.toArray w (fun e w' => ∃ v β', e = .returned v ∧ VA w' (G F β' σ1) β' σ1 r v ∧ Mem F β' σ1 w' ∧ Evo σ0 β w σ1 β' w' ∧
      ∀ (i : Nat) (x : AV) (v : Value), (i, x) ∈ ks → vals[i]? = some v → VA w' (G F β' σ1) β' σ1 x v)

theorem retK_of_awj {f : FuncId} {fn : Func} {c : Code} {σ0 σ1 : Sto} {xs : List AV} {r : AV} {ks : List (Nat × AV)} {kp : Nat → Bool} (hf : P.funcs[f]? = some fn) (hb : fn.body = some c)
    (hn : xs.length ≤ fn.ntmps) (hkp : ∀ k, k ∈ ks → kp k.1 = true)
    (h : ∀ F0 w0, AWJ P none kp (JK F0 w0) c ⟨fn.ntmps, initFrA 0 xs, σ0⟩ () (fun e s _ => (e = .normal ∨ e = .ret) ∧ ∃ rs rs', RVarsA P s fn.results.toList rs ∧ rs'.length = rs.length ∧
      Weak ⟨(rs ++ ks.map fun k => fget s.fr k.1).length, initFrA 0 (rs ++ ks.map fun k => fget s.fr k.1), s.st⟩ ⟨(rs ++ ks.map fun k => fget s.fr k.1).length, initFrA 0 (rs' ++ ks.map Prod.snd), σ1⟩ ∧ packA rs' = r)) :
    RetK P f σ0 xs σ1 r ks := by
  intro F β w vals hm hl hV
  refine (callsIn_wide (n := 0)).1 (callsIn_of_wp (F := Fence.wide) hf hb trivial ?_)
  have h0 : Rel F β ⟨fn.ntmps, initFrA 0 xs, σ0⟩ { tmps := vals.toArray ++ Array.replicate (fn.ntmps - vals.toArray.size) undef, defers := [] } w := by
    refine ⟨rfl, by simp; omega, fun i => ?_, hm.ob, hm.inj, hm.notF, hm.ltF⟩
    show VA w _ _ _ (fget (initFrA 0 xs) i) _
    rw [initFrA_get, if_pos (Nat.zero_le _), Nat.sub_zero]
    cases hx : xs[i]? with
    | none => exact .junk _
    | some x =>
      have hi : i < vals.length := by rw [hl]; exact lt_get hx
      have hg : (vals.toArray ++ Array.replicate (fn.ntmps - vals.toArray.size) undef).getD i undef = vals[i] := by
        simp [hi, Array.getElem?_append]
      rw [hg]
      exact hV i x vals[i] hx (List.getElem?_eq_getElem hi)
  have hJ0 : (JK F w).J () (Owned β σ0) F w := ⟨rfl, fun b hb => ⟨hm.ltF b hb, rfl, fun ⟨id, ob, hs, hbe⟩ => hm.notF id ob b hs hbe hb⟩⟩
  refine wpIn_mono (h F w 0 F _ _ w h0 hJ0) ?_
  rintro e a' w' ⟨s', β', g', F', a'', ⟨he, rs, rs', hrs, hlen, hweak, hpk⟩, hr', rfl, ⟨hFF, hFk⟩, hev, hke⟩
  obtain rfl : F' = F := hFF
  obtain ⟨vs, hvs, hvl, hvV⟩ := RVarsA.run hr' _ _ hrs
  have hkv : ∀ (i : Nat) (x : AV) (v : Value), (ks.map fun k => fget s'.fr k.1)[i]? = some x → (ks.map fun k => vals.getD k.1 undef)[i]? = some v → VA w' (G F' β' s'.st) β' s'.st x v := by
    intro i x v hx hv
    rw [List.getElem?_map, Option.map_eq_some_iff] at hx hv
    obtain ⟨k, hk, rfl⟩ := hx
    obtain ⟨k', hk', rfl⟩ := hv
    rw [hk] at hk'; cases hk'
    have h1 := hr'.fr k.1
    have h2 := hke k.1 (hkp k (List.mem_of_getElem? hk))
    have h3 : a''.tmps.getD k.1 undef = vals.getD k.1 undef := by
      rw [Array.getD_eq_getD_getElem?, h2]
      by_cases hlt : k.1 < vals.length
      · simp [hlt, Array.getElem?_append]
      · have : vals.getD k.1 undef = undef := by rw [List.getD_eq_getElem?_getD, List.getElem?_eq_none (by omega)]; rfl
        rw [this]
        by_cases hlt2 : k.1 < (vals.toArray ++ Array.replicate (fn.ntmps - vals.toArray.size) undef).size
        · rw [Array.getElem?_eq_getElem hlt2, Array.getElem_append_right (by simp; omega)]; simp
        · rw [Array.getElem?_eq_none (Nat.le_of_not_lt hlt2)]; rfl
    rw [← h3]; exact h1
  let all := vs ++ ks.map fun k => vals.getD k.1 undef
  have hal : all.length = (rs ++ ks.map fun k => fget s'.fr k.1).length := by simp [all, hvl]
  have hrel1 : Rel F' β' ⟨(rs ++ ks.map fun k => fget s'.fr k.1).length, initFrA 0 (rs ++ ks.map fun k => fget s'.fr k.1), s'.st⟩ { tmps := all.toArray, defers := [] } w' := by
    refine ⟨rfl, by simp [hal], fun i => ?_, hr'.ob, hr'.inj, hr'.notF, hr'.ltF⟩
    show VA w' _ _ _ (fget (initFrA 0 (rs ++ ks.map fun k => fget s'.fr k.1)) i) _
    rw [initFrA_get, if_pos (Nat.zero_le _), Nat.sub_zero]
    cases hx : (rs ++ ks.map fun k => fget s'.fr k.1)[i]? with
    | none => exact .junk _
    | some x =>
      have hi : i < all.length := by rw [hal]; exact lt_get hx
      rw [show (all.toArray).getD i undef = all[i] from by simp [hi]]
      by_cases hlt : i < rs.length
      · rw [List.getElem?_append_left hlt] at hx
        have : all[i] = vs[i]'(by omega) := by simp [all, hvl, hlt]
        rw [this]
        exact hvV i x vs[i] hx (List.getElem?_eq_getElem (by omega))
      · rw [List.getElem?_append_right (by omega)] at hx
        have hge : vs.length ≤ i := by omega
        refine hkv (i - rs.length) x _ hx ?_
        have : all[i]? = some all[i] := List.getElem?_eq_getElem hi
        rw [← this]
        show _ = (vs ++ ks.map fun k => vals.getD k.1 undef)[i]?
        rw [List.getElem?_append_right hge, hvl]
  obtain ⟨β2, hrel2, hown⟩ := hweak F' β' _ w' hrel1
  have hget : ∀ (i : Nat) (x : AV) (v : Value), (rs' ++ ks.map Prod.snd)[i]? = some x → all[i]? = some v → VA w' (G F' β2 σ1) β2 σ1 x v := by
    intro i x v hx hv
    have := hrel2.fr i
    rw [show fget (St.mk (rs ++ ks.map fun k => fget s'.fr k.1).length (initFrA 0 (rs' ++ ks.map Prod.snd)) σ1).fr i = fget (initFrA 0 (rs' ++ ks.map Prod.snd)) i from rfl, initFrA_get, if_pos (Nat.zero_le _), Nat.sub_zero, hx] at this
    rw [show (all.toArray).getD i undef = v from by
      have hi := lt_get hv
      rw [List.getElem?_eq_getElem hi] at hv
      cases hv
      simp [hi]] at this
    exact this
  have hres : ∃ v, (results fn (shift ((JK F' w).ds g') a'').tmps).run P w' = .ok v w' ∧ VA w' (G F' β2 σ1) β2 σ1 r v := by
    have hmm : (fn.results.mapM (resOf (shift ((JK F' w).ds g') a'').tmps)).run P w' = .ok vs.toArray w' := by
      have hvs2 : (fn.results.toList.mapM (resOf (shift ((JK F' w).ds g') a'').tmps)).run P w' = .ok vs w' := hvs
      rw [Array.mapM_eq_mapM_toList, Sem.run_map, hvs2]; rfl
    refine ⟨if h : vs.toArray.size = 1 then vs.toArray[0] else .tuple vs.toArray, ?_, ?_⟩
    · rw [results_eq, Sem.run_bind, hmm]; rfl
    · rw [← hpk]
      have hl2 : vs.length = rs'.length := by omega
      have hget' : ∀ (i : Nat) (x : AV) (v : Value), rs'[i]? = some x → vs[i]? = some v → VA w' (G F' β2 σ1) β2 σ1 x v := fun i x v hx hv =>
        hget i x v (by rw [List.getElem?_append_left (lt_get hx)]; exact hx) (by show (vs ++ _)[i]? = _; rw [List.getElem?_append_left (lt_get hv)]; exact hv)
      match rs', vs, hl2, hget' with
      | [x], [v], _, hget => exact hget 0 x v rfl rfl
      | [], [], _, hget => exact .tup rfl hget
      | x :: y :: l, u :: v :: m, hl2, hget => exact .tup hl2 hget
  have hev2 : Evo σ0 β w σ1 β2 w' := ⟨hev.os, hev.tape, hev.output, hev.size, fun b hb hno => by
    by_cases hF : F' b
    · exact (hFk b hF).2.1
    · exact hev.keep b hb hF hno, fun b hb => hev.own b (hown b hb), hev.shp trivial⟩
  have hkk : ∀ (i : Nat) (x : AV) (v : Value), (i, x) ∈ ks → vals[i]? = some v → VA w' (G F' β2 σ1) β2 σ1 x v := by
    intro i x v hk hv
    obtain ⟨j, hj, he⟩ := List.mem_iff_getElem.1 hk
    refine hget (rs'.length + j) x v ?_ ?_
    · rw [List.getElem?_append_right (by omega), show rs'.length + j - rs'.length = j by omega, List.getElem?_map, List.getElem?_eq_getElem hj, he]; rfl
    · show (vs ++ _)[rs'.length + j]? = _
      rw [List.getElem?_append_right (by omega), show rs'.length + j - vs.length = j by omega, List.getElem?_map, List.getElem?_eq_getElem hj, he]
      show some (vals.getD i undef) = _
      rw [List.getD_eq_getElem?_getD, hv]; rfl
  obtain ⟨v, hv, hV'⟩ := hres
  have hdf : (shift ((JK F' w).ds g') a'').defers = [] := by simp [shift, hr'.defers, JK]
  rcases he with rfl | rfl <;> exact ⟨hdf, v, hv, v, β2, rfl, hV', hrel2.mem, hev2, hkk⟩

/-- An object that stands where it stood, and the argument that tells so. -/
def Stays (xs : List AV) (ks : List (Nat × AV)) (id : Nat) (ob ob1 : Ob) : Prop :=
  ob1.gen = ob.gen ∧ ob1.k = ob.k ∧ ob1.ty = ob.ty ∧ ob1.els.length = ob.els.length ∧ ∃ i, xs[i]? = some (.ptr id ob.gen 0 0) ∧ (i, .ptr id ob.gen 0 0) ∈ ks

theorem VA.ptrB {w : World} {H : Nat → Prop} {β : Nat → Option Nat} {σ : Sto} {id g : Nat} {ob : Ob} {v : Value} (h : VA w H β σ (.ptr id g 0 0) v) (hs : sget σ id = some ob) (hg : ob.gen = g) :
    ∃ b, β id = some b ∧ v = .pointer (some ⟨b, 0, none⟩) := by
  cases h with
  | @ptr _ _ _ _ b ob' h1 h2 h3 h4 h5 => exact ⟨b, h3, by rw [Nat.zero_mul]⟩
  | stalep h1 h2 => rw [hs] at h1; cases h1; omega

theorem eff_callK {f : FuncId} {ks : List (Nat × AV)} {x : Operand} {args : Array Operand} {ats : Array TypeId} {σ0 σ1 : Sto} {xs : List AV} {r r' : AV} (hret : RetK P f σ0 xs σ1 r ks) (hf : callOK P f = true) (ren : Nat → Nat)
    (hd : dstOK D.n o.dst = true) (ho : o.op = .call { callee := .value x, args := args, argTypes := ats }) (hx : D.ev x = .t (.fn f []))
    (hargs : RenL σ0 ren xs (args.toList.map D.ev)) (hr' : RenA σ1 ren r r') (hkeys : keysOK ren σ1 = true)
    (h0 : AllS (fun id ob => sget D.st (ren id) = some ob ∧ treeEls ob ∧ ∃ ob1, sget σ1 id = some ob1 ∧ (ob.gen < ob1.gen ∨ Stays xs ks id ob ob1)) σ0)
    (h1 : AllS (fun id ob => treeEls ob ∧ ((sget σ0 id).isSome = true ∨ (sget D.st (ren id)).isNone = true)) σ1) :
    Eff P o D ⟨r', upsOf ren σ1⟩ := by
  intro s hs hfresh F β a w hrel next Q hnext
  have hsd := hs.st
  -- the objects that are lent
  have k0 : ∀ id ob, sget σ0 id = some ob → sget s.st (ren id) = some ob ∧ treeEls ob ∧ ∃ ob1, sget σ1 id = some ob1 ∧ (ob.gen < ob1.gen ∨ Stays xs ks id ob ob1) := fun id ob h => by
    obtain ⟨q1, q2, q3⟩ := h0.get id ob h
    exact ⟨hsd _ _ q1, q2, q3⟩
  have memUps : ∀ (σ : Sto) id ob, (id, some ob) ∈ σ → (ren id, ob) ∈ upsOf ren σ := by
    intro σ
    induction σ with
    | nil => intro id ob h; simp at h
    | cons y l ih =>
      intro id ob h
      obtain ⟨i, q⟩ := y
      simp only [List.mem_cons] at h
      rcases h with h | h
      · cases h; exact List.mem_cons_self
      · cases q with
        | none => exact ih id ob h
        | some q => exact List.mem_cons_of_mem _ (ih id ob h)
  have k1 : ∀ id ob, sget σ1 id = some ob → treeEls ob ∧ ((∃ ob0, sget σ0 id = some ob0) ∨ sget s.st (ren id) = none) := fun id ob h => by
    obtain ⟨q1, q2⟩ := h1.get id ob h
    refine ⟨q1, q2.imp (fun h => Option.isSome_iff_exists.1 h) (fun h2 => ?_)⟩
    exact hfresh (ren id) ob (memUps _ _ _ (sget_mem h)) (Option.isNone_iff_eq_none.1 h2)
  have inj1 : ∀ i j oi oj, sget σ1 i = some oi → sget σ1 j = some oj → ren i = ren j → i = j := fun i j oi oj hi hj e => by
    have := keys_inj hkeys _ _ (sget_mem hi) (sget_mem hj) e
    exact congrArg Prod.fst this
  -- the callee's view
  let lent : Nat → Prop := fun n => ∃ id ob, sget σ0 id = some ob ∧ ren id = n
  let Fc : Nat → Prop := fun b => F b ∨ ∃ n ob, sget s.st n = some ob ∧ β n = some b ∧ ¬ lent n
  let β0 : Nat → Option Nat := fun id => β (ren id)
  have hG0 : ∀ b, G Fc β0 σ0 b ↔ G F β s.st b := by
    intro b
    constructor
    · rintro ((h | ⟨n, ob, hn, hb, _⟩) | ⟨id, ob, hid, hb⟩)
      · exact .inl h
      · exact .inr ⟨n, ob, hn, hb⟩
      · exact .inr ⟨ren id, ob, (k0 id ob hid).1, hb⟩
    · rintro (h | ⟨n, ob, hn, hb⟩)
      · exact .inl (.inl h)
      · by_cases hl : lent n
        · obtain ⟨id, ob', hid, rfl⟩ := hl
          exact .inr ⟨id, ob', hid, hb⟩
        · exact .inl (.inr ⟨n, ob, hn, hb, hl⟩)
  have hto : ∀ id ob, sget σ0 id = some ob → sget s.st (ren id) = some ob ∧ β (ren id) = β0 id := fun id ob h => ⟨(k0 id ob h).1, rfl⟩
  have inj0 : ∀ i j oi oj, sget σ0 i = some oi → sget σ0 j = some oj → ren i = ren j → i = j := fun i j oi oj hi hj e => by
    obtain ⟨_, _, o1, q1, _⟩ := k0 i oi hi
    obtain ⟨_, _, o2, q2, _⟩ := k0 j oj hj
    exact inj1 i j o1 o2 q1 q2 e
  have hmem0 : Mem Fc β0 σ0 w := by
    refine ⟨fun id ob h => ?_, fun i j oi oj b hi hj hbi hbj => ?_, fun i oi b hi hb => ?_, fun b hb => ?_⟩
    · exact G_eq_mono (β := β) (β' := β0) (id := ren id) (n := id) (k0 id ob h).2.1 (fun b hb => (hG0 b).1 hb) rfl (hrel.ob (ren id) ob (k0 id ob h).1)
    · exact inj0 i j oi oj hi hj (hrel.inj _ _ oi oj b (k0 i oi hi).1 (k0 j oj hj).1 hbi hbj)
    · rintro (h | ⟨n, ob, hn, hbn, hl⟩)
      · exact hrel.notF (ren i) oi b (k0 i oi hi).1 hb h
      · have := hrel.inj (ren i) n oi ob b (k0 i oi hi).1 hn hb hbn
        exact hl ⟨i, oi, hi, this⟩
    · exact hrel.ltG b ((hG0 b).1 (.inl hb))
  have hlen : args.toList.length = xs.length := by rw [hargs.len]; simp
  have hxv := hrel.evT hs hx
  generalize hxe : a.eval x = xv at hxv
  cases hxv with
  | fn f cs vs hl' hcv =>
    have hvs : vs = [] := List.length_eq_zero_iff.1 hl'
    subst hvs
    have hvals : ∀ (i : Nat) (y : AV) (v : Value), xs[i]? = some y → (args.toList.map a.eval)[i]? = some v → VA w (G Fc β0 σ0) β0 σ0 y v := by
      intro i y v hy hv
      rw [List.getElem?_map, Option.map_eq_some_iff] at hv
      obtain ⟨op, hop, rfl⟩ := hv
      have hz : (args.toList.map D.ev)[i]? = some (D.ev op) := by rw [List.getElem?_map, hop]; rfl
      exact (hargs.get _ _ i y _ hy hz).of (fun b hb => (hG0 b).1 hb) hto (hrel.evA hs rfl)
    have := hret Fc β0 w (args.toList.map a.eval) hmem0 (by simpa using hlen) hvals
    unfold Oper.wp
    rw [execCall ho hxe hf w, Oper.upon_enter]
    rw [show (args.toList.map a.eval).toArray = args.map a.eval ++ ([] : List Value).toArray from by apply Array.ext'; simp] at this
    refine Calls.mono this ?_
    rintro e w' ⟨v, β1, rfl, hva, hm1, hev, hkept⟩
    -- the caller's view behind the call
    let β2 : Nat → Option Nat := fun n => match σ1.find? (fun y => Nat.beq (ren y.1) n) with
      | some y => β1 y.1
      | none => β n
    have hβhit : ∀ id ob, sget σ1 id = some ob → β2 (ren id) = β1 id := by
      intro id ob h
      show (match σ1.find? (fun y => Nat.beq (ren y.1) (ren id)) with | some y => β1 y.1 | none => β (ren id)) = β1 id
      cases hfd : σ1.find? (fun y => Nat.beq (ren y.1) (ren id)) with
      | none =>
        have := List.find?_eq_none.1 hfd _ (sget_mem h)
        simp at this
      | some y =>
        have hy := List.find?_some hfd
        have hm := List.mem_of_find?_eq_some hfd
        have := keys_inj hkeys _ _ hm (sget_mem h) (Nat.eq_of_beq_eq_true hy)
        rw [this]
    have hβmiss : ∀ n, (∀ id ob, sget σ1 id = some ob → ren id ≠ n) → (∀ y, y ∈ σ1 → ren y.1 ≠ n) → β2 n = β n := by
      intro n _ h
      show (match σ1.find? (fun y => Nat.beq (ren y.1) n) with | some y => β1 y.1 | none => β n) = β n
      rw [List.find?_eq_none.2 (fun y hy he => h y hy (Nat.eq_of_beq_eq_true he))]
    have memSome : ∀ (σ : Sto), keysOK ren σ = true → ∀ y, y ∈ σ → ∃ ob, sget σ y.1 = some ob := by
      intro σ
      induction σ with
      | nil => intro _ y h; simp at h
      | cons z l ih =>
        intro hk y h
        obtain ⟨q1, q2, q3⟩ := keys_head hk
        rw [show z :: l = sput l z.1 z.2 from rfl, sget_sput]
        by_cases e : y.1 = z.1
        · rw [if_pos e]; exact Option.isSome_iff_exists.1 q1
        · rw [if_neg e]
          simp only [List.mem_cons] at h
          rcases h with rfl | h
          · exact absurd rfl e
          · exact ih q3 y h
    have missOf : ∀ n, (∀ id ob, sget σ1 id = some ob → ren id ≠ n) → ∀ y, y ∈ σ1 → ren y.1 ≠ n := fun n h y hy => by
      obtain ⟨ob, hob⟩ := memSome σ1 hkeys y hy
      exact h _ _ hob
    let σ2 : Sto := upAll s.st (upsOf ren σ1)
    have hσhit : ∀ id ob, sget σ1 id = some ob → sget σ2 (ren id) = some ob := fun id ob h => (upAll_ups hkeys s.st (ren id)).1 id ob (sget_mem h) rfl
    have hσmiss : ∀ n, (∀ id ob, sget σ1 id = some ob → ren id ≠ n) → sget σ2 n = sget s.st n := fun n h => (upAll_ups hkeys s.st n).2 (missOf n h)
    have hcase : ∀ n, (∃ id ob, sget σ1 id = some ob ∧ ren id = n) ∨ (∀ id ob, sget σ1 id = some ob → ren id ≠ n) := fun n => by
      by_cases h : ∃ id ob, sget σ1 id = some ob ∧ ren id = n
      · exact .inl h
      · exact .inr fun id ob h1 h2 => h ⟨id, ob, h1, h2⟩
    have hG1 : ∀ b, G F β2 σ2 b ↔ G Fc β1 σ1 b := by
      intro b
      constructor
      · rintro (h | ⟨n, ob, hn, hb⟩)
        · exact .inl (.inl h)
        · rcases hcase n with ⟨id, ob1, hid, rfl⟩ | hmiss
          · exact .inr ⟨id, ob1, hid, by rw [← hβhit id ob1 hid]; exact hb⟩
          · rw [hσmiss n hmiss] at hn
            rw [hβmiss n hmiss (missOf n hmiss)] at hb
            refine .inl (.inr ⟨n, ob, hn, hb, ?_⟩)
            rintro ⟨id, ob0, hid, rfl⟩
            obtain ⟨_, _, o1, q1, _⟩ := k0 id ob0 hid
            exact hmiss id o1 q1 rfl
      · rintro ((h | ⟨n, ob, hn, hb, hl⟩) | ⟨id, ob, hid, hb⟩)
        · exact .inl h
        · have hmiss : ∀ id ob, sget σ1 id = some ob → ren id ≠ n := by
            rintro id ob1 hid rfl
            rcases (k1 id ob1 hid).2 with ⟨ob0, h00⟩ | hnone
            · exact hl ⟨id, ob0, h00, rfl⟩
            · rw [hn] at hnone; cases hnone
          exact .inr ⟨n, ob, by rw [hσmiss n hmiss]; exact hn, by rw [hβmiss n hmiss (missOf n hmiss)]; exact hb⟩
        · exact .inr ⟨ren id, ob, hσhit id ob hid, by rw [hβhit id ob hid]; exact hb⟩
    have hkeepG : ∀ b, b < w.heap.size → ¬ G F β s.st b → ¬ G F β2 σ2 b ∧ w'.heap[b]? = w.heap[b]? := by
      intro b hb hn
      have hn0 : ¬ Owned β0 σ0 b := fun h => hn ((hG0 b).1 (.inr h))
      refine ⟨fun h => ?_, hev.keep b hb hn0⟩
      rcases (hG1 b).1 h with h | h
      · exact hn ((hG0 b).1 (.inl h))
      · rcases hev.own b h with h | h
        · omega
        · exact hn0 h
    have hmissHeap : ∀ n ob b, sget s.st n = some ob → β n = some b → (∀ id ob, sget σ1 id = some ob → ren id ≠ n) → w'.heap[b]? = w.heap[b]? := by
      intro n ob b hn hb hmiss
      refine hev.keep b (hrel.ltG b (.inr ⟨n, ob, hn, hb⟩)) ?_
      rintro ⟨id, ob0, hid, hb0⟩
      have := hrel.inj n (ren id) ob ob0 b hn (k0 id ob0 hid).1 hb hb0
      obtain ⟨_, _, o1, q1, _⟩ := k0 id ob0 hid
      exact hmiss id o1 q1 this.symm
    have hturn : Turns w w' β β2 s.st σ2 := by
      intro n ob hn
      rcases hcase n with ⟨id, ob1, hid, rfl⟩ | hmiss
      · refine ⟨ob1, hσhit id ob1 hid, ?_⟩
        rcases (k1 id ob1 hid).2 with ⟨ob0, h00⟩ | hnone
        · obtain ⟨q1, _, o1, q2, q3⟩ := k0 id ob0 h00
          rw [hid] at q2; cases q2
          rw [hn] at q1; cases q1
          refine q3.imp (fun h => h) ?_
          rintro ⟨e1, e2, e3, e4, i, hi, hk⟩
          refine ⟨e1, e2, e3, e4, ?_, fun b c _ hc => hev.shp b c _ hc⟩
          rw [hβhit id ob1 hid]
          have hil : i < (args.toList.map a.eval).length := by have := lt_get hi; rw [List.length_map]; omega
          have hv0 := hvals i _ _ hi (List.getElem?_eq_getElem hil)
          have hv1 := hkept i _ _ hk (List.getElem?_eq_getElem hil)
          obtain ⟨b0, h1, h2⟩ := hv0.ptrB h00 rfl
          obtain ⟨b1, g1, g2⟩ := hv1.ptrB hid e1
          rw [h2] at g2
          cases g2
          exact g1.trans h1.symm
        · rw [hn] at hnone; cases hnone
      · refine ⟨ob, by rw [hσmiss n hmiss]; exact hn, .inr ⟨rfl, rfl, rfl, rfl, hβmiss n hmiss (missOf n hmiss), fun b c hb hc => ⟨c, ?_, rfl⟩⟩⟩
        rw [hmissHeap n ob b hn hb hmiss]; exact hc
    have hmono : ∀ {y : AV} {v : Value}, VA w (G F β s.st) β s.st y v → VA w' (G F β2 σ2) β2 σ2 y v := fun hv => VA.mono hev.size hkeepG hturn hv
    have hrel2 : Rel F β2 ⟨s.n, s.fr, σ2⟩ a w' := by
      refine ⟨hrel.defers, hrel.size, fun i => hmono (hrel.fr i), fun n ob hn => ?_, fun i j oi oj b hi hj hbi hbj => ?_, fun i oi b hi hb => ?_, fun b hb => Nat.lt_of_lt_of_le (hrel.ltF b hb) hev.size⟩
      · change sget σ2 n = some ob at hn
        rcases hcase n with ⟨id, ob1, hid, rfl⟩ | hmiss
        · rw [hσhit id ob1 hid] at hn; cases hn
          exact G_eq_mono (k1 id _ hid).1 (fun b hb => (hG1 b).1 hb) (hβhit id _ hid) (hm1.ob id _ hid)
        · rw [hσmiss n hmiss] at hn
          rcases hrel.ob n ob hn with ⟨q1, q2⟩ | ⟨b, c, q1, q2, q3, q4, q5⟩
          · exact .inl ⟨(hβmiss n hmiss (missOf n hmiss)).trans q1, q2⟩
          · refine .inr ⟨b, c, (hβmiss n hmiss (missOf n hmiss)).trans q1, by rw [hmissHeap n ob b hn q1 hmiss]; exact q2, q3, q4, fun i x j y hx hy => ?_⟩
            obtain ⟨g1, u, hu, hva⟩ := q5 i x j y hx hy
            exact ⟨g1, u, hu, hmono hva⟩
      · change sget σ2 i = some oi at hi
        change sget σ2 j = some oj at hj
        rcases hcase i with ⟨id, ob1, hid, rfl⟩ | hmi <;> rcases hcase j with ⟨jd, ob2, hjd, rfl⟩ | hmj
        · rw [hβhit id ob1 hid] at hbi
          rw [hβhit jd ob2 hjd] at hbj
          rw [hm1.inj id jd ob1 ob2 b hid hjd hbi hbj]
        · rw [hβhit id ob1 hid] at hbi
          rw [hσmiss j hmj] at hj
          rw [hβmiss j hmj (missOf j hmj)] at hbj
          refine absurd (show Fc b from .inr ⟨j, oj, hj, hbj, ?_⟩) (hm1.notF id ob1 b hid hbi)
          rintro ⟨id', ob0, hid', rfl⟩
          obtain ⟨_, _, o1, q1, _⟩ := k0 id' ob0 hid'
          exact hmj id' o1 q1 rfl
        · rw [hβhit jd ob2 hjd] at hbj
          rw [hσmiss i hmi] at hi
          rw [hβmiss i hmi (missOf i hmi)] at hbi
          refine absurd (show Fc b from .inr ⟨i, oi, hi, hbi, ?_⟩) (hm1.notF jd ob2 b hjd hbj)
          rintro ⟨id', ob0, hid', rfl⟩
          obtain ⟨_, _, o1, q1, _⟩ := k0 id' ob0 hid'
          exact hmi id' o1 q1 rfl
        · rw [hσmiss i hmi] at hi
          rw [hσmiss j hmj] at hj
          rw [hβmiss i hmi (missOf i hmi)] at hbi
          rw [hβmiss j hmj (missOf j hmj)] at hbj
          exact hrel.inj i j oi oj b hi hj hbi hbj
      · change sget σ2 i = some oi at hi
        rcases hcase i with ⟨id, ob1, hid, rfl⟩ | hmi
        · rw [hβhit id ob1 hid] at hb
          exact fun hF => hm1.notF id ob1 b hid hb (.inl hF)
        · rw [hσmiss i hmi] at hi
          rw [hβmiss i hmi (missOf i hmi)] at hb
          exact hrel.notF i oi b hi hb
    have hva2 : VA w' (G F β2 σ2) β2 σ2 r' v := hr'.to (fun b hb => (hG1 b).1 hb) (fun id ob h => ⟨hσhit id ob h, hβhit id ob h⟩) hva
    refine hnext β2 _ _ (hrel2.put (by rw [show (St.mk s.n s.fr σ2).n = s.n from rfl, hs.n]; exact hd) hva2) ⟨hev.os, hev.tape, hev.output, hev.size, fun b hb hn => ?_, fun b hb => ?_, hev.shp⟩
    · refine hev.keep b hb ?_
      rintro ⟨id, ob0, hid, hb0⟩
      exact hn ⟨ren id, ob0, (k0 id ob0 hid).1, hb0⟩
    · obtain ⟨n, ob, hn, hbn⟩ := hb
      change sget σ2 n = some ob at hn
      rcases hcase n with ⟨id, ob1, hid, rfl⟩ | hmiss
      · rw [hβhit id ob1 hid] at hbn
        rcases hev.own b ⟨id, ob1, hid, hbn⟩ with h | ⟨id0, ob0, hid0, hb0⟩
        · exact .inl h
        · exact .inr ⟨ren id0, ob0, (k0 id0 ob0 hid0).1, hb0⟩
      · rw [hσmiss n hmiss] at hn
        rw [hβmiss n hmiss (missOf n hmiss)] at hbn
        exact .inr ⟨n, ob, hn, hbn⟩

end Go.Tv

end
section
namespace Go.Tv

variable {P : Program} {o : Oper} {D : St}

/-- A new array, its elements apart. -/
theorem eff_allocL {t : TypeId} {x y : Tr} {id k : Nat} {els : List AV} (hd : dstOK D.n o.dst = true) (ho : o.op = .alloc t) (hz : zeroOf P t = some x)
    (hid : sget D.st id = none) (hw : Wk x y) (hny : y.noTup = true) (hly : y.cells.length = x.cells.length) (hf : (AV.t y).cells = els.flatMap AV.cells) (hek : (els.all fun x => x.noTup && Nat.beq x.cells.length k) = true) (hne : els ≠ []) :
    Eff P o D ⟨.ptr id 0 0 0, [(id, ⟨k, t, 0, els⟩)]⟩ := by
  intro s hs hfresh F β a w hr next Q hnext
  have hid' := hfresh id _ (List.mem_singleton.2 rfl) hid
  obtain ⟨v, hzr, hV, hn, hsz⟩ := zeroOf_run hz w (G F β s.st)
  have hva : VA w (G F β s.st) β s.st (.t y) v := .t (hw.v hV)
  have hall : ∀ y, y ∈ els → y.noTup = true ∧ y.cells.length = k := fun y hy => by
    have := List.all_eq_true.1 hek y hy
    simp only [Bool.and_eq_true] at this
    exact ⟨this.1, Nat.eq_of_beq_eq_true this.2⟩
  have hone := one_el hva hny
  have hcr : CR w (G F β s.st) β s.st v.cells (els.flatMap AV.cells) := by
    rw [← hf]
    refine ⟨by rw [hsz, ← hly]; simp [AV.cells], fun j z hy => ?_⟩
    obtain ⟨h1, u, hu, hvu⟩ := hone 0 (.t y) j z rfl hy
    rw [Nat.zero_mul, Nat.zero_add] at hu
    exact ⟨h1, u, hu, hvu⟩
  have hfl : (els.flatMap AV.cells).length = els.length * k := flat_length (k := k) _ (fun i x hx => (hall x (List.mem_of_getElem? hx)).2)
  obtain ⟨β', hrel, hev⟩ := hr.new (id := id) (ob := ⟨k, t, 0, els⟩) (c := v.cells) (fun _ h => by rw [hid'] at h; cases h) (by rw [hcr.1, hfl]; exact Nat.le_refl _)
    (fun i y hy => hall y (List.mem_of_getElem? hy)) (RowOf.of_cr hall hcr (.inl rfl)) (d := o.dst) (by rw [hs.n]; exact hd) (x := .ptr id 0 0 0) (v := .pointer (some ⟨w.heap.size, 0, none⟩))
    (fun β' hb => by
      have := VA.ptr (w := w.alloc (.cells v.cells t)) (H := G F β' (sput s.st id (some ⟨k, t, 0, els⟩))) (β := β') (i := 0) (j := 0)
        (sget_sput_same s.st id (some ⟨k, t, 0, els⟩)) rfl hb (List.length_pos_iff.2 hne) (Nat.zero_le _)
      simpa using this)
  unfold Oper.wp
  have hrun : (execOp a.eval o).run P w = .ok (.value (.pointer (some ⟨w.heap.size, 0, none⟩))) (w.alloc (.cells v.cells t)) := by
    simp only [execOp, ho, Instr.alloc, hzr, newVar, newRow, Sem.run_bind, run_newObj, Result.andThen_ok, Sem.run_pure, World.alloc_eq]
  rw [hrun]
  exact hnext β' _ _ hrel hev

theorem run_indexAt_array {t e : TypeId} {n k : Nat} {g : Bool} (hu : P.underlying t = some (.array n e)) (ht : tinf P e = some (k, g)) (w : World) (b p i : Nat) (ik : IntKind) (hi : i < n) :
    (Instr.indexAt t (.pointer (some ⟨b, p, none⟩)) (.int ik i)).run P w = .ok (.pointer (some ⟨b, p + i * k, none⟩)) w := by
  have h1 : (0 : Int) ≤ (i : Int) ∧ (i : Int) < (n : Int) := ⟨by omega, by omega⟩
  simp [Instr.indexAt, asIntOf, run_underlying' w hu, h1, run_sizeOf' w ht, Addr.add_none, hi, Instr.sureAddr]

/-- An element of an array behind a pointer. -/
theorem eff_indexAddrP {t e : TypeId} {x ix : Operand} {n k : Nat} {ag : Bool} {ik : IntKind} {m : Int} {i id g : Nat} {ob : Ob} (hd : dstOK D.n o.dst = true)
    (ho : o.op = .indexAddr t x ix) (hu : P.underlying t = some (.array n e)) (ht : tinf P e = some (k, ag)) (hx : D.ev x = .ptr id g 0 0) (hi : D.ev ix = .t (.int ik m)) (hn : m = (i : Int)) (hin : i < n)
    (hs : sget D.st id = some ob) (hg : ob.gen = g) (hk : ob.k = k) (hlt : i < ob.els.length) : Eff P o D ⟨.ptr id g i 0, []⟩ :=
  Eff.pure hd fun s hs' F β a w hR => by
    subst hn
    have h := hR.evA hs' hx
    have hiv := hR.evInt hs' hi
    have hst := hs'.st _ _ hs
    obtain ⟨b, hb, hv⟩ := h.ptrB hst hg
    refine ⟨_, ?_, .ptr hst hg hb hlt (Nat.zero_le _)⟩
    simp only [execOp, ho, hv, hiv, Sem.run_bind, run_indexAt_array hu ht w _ _ i ik hin, Result.andThen_ok, Sem.run_pure]
    subst hk
    rw [Nat.zero_add, Nat.add_zero]

end Go.Tv

end
section
open Go Go.Tv Go.Proofs
namespace Go.Tv.C27
set_option maxRecDepth 20000
theorem ti3 : tinf Try.prog 3 = some (1, false) := by kernel_rfl
theorem tu3 : Try.prog.underlying 3 = some (.int .i64) := by kernel_rfl
abbrev z3 : Tr := .int .i64 0
theorem tz3 : zeroOf Try.prog 3 = some z3 := by kernel_rfl
theorem tb3 : (Try.prog.info? 3).map (·.bytes) = some 8 := by kernel_rfl
theorem ti4 : tinf Try.prog 4 = some (1, false) := by kernel_rfl
theorem tu4 : Try.prog.underlying 4 = some .bool := by kernel_rfl
abbrev z4 : Tr := .bool false
theorem tz4 : zeroOf Try.prog 4 = some z4 := by kernel_rfl
theorem tb4 : (Try.prog.info? 4).map (·.bytes) = some 1 := by kernel_rfl
theorem ti5 : tinf Try.prog 5 = some (1, false) := by kernel_rfl
theorem tu5 : Try.prog.underlying 5 = some (.int .u8) := by kernel_rfl
abbrev z5 : Tr := .int .u8 0
theorem tz5 : zeroOf Try.prog 5 = some z5 := by kernel_rfl
theorem tb5 : (Try.prog.info? 5).map (·.bytes) = some 1 := by kernel_rfl
theorem ti9 : tinf Try.prog 9 = some (1, false) := by kernel_rfl
theorem ts9 : Try.prog.underlying 9 = some .string := by kernel_rfl
abbrev z9 : Tr := .str ⟨#[]⟩
theorem tz9 : zeroOf Try.prog 9 = some z9 := by kernel_rfl
theorem tb9 : (Try.prog.info? 9).map (·.bytes) = some 16 := by kernel_rfl
theorem ti22 : tinf Try.prog 22 = some (1, false) := by kernel_rfl
theorem tu22 : Try.prog.underlying 22 = some (.int .u16) := by kernel_rfl
abbrev z22 : Tr := .int .u16 0
theorem tz22 : zeroOf Try.prog 22 = some z22 := by kernel_rfl
theorem tb22 : (Try.prog.info? 22).map (·.bytes) = some 2 := by kernel_rfl
theorem ti23 : tinf Try.prog 23 = some (1, false) := by kernel_rfl
theorem te23 : elemOf Try.prog 23 = some (40, 11, true) := by kernel_rfl
abbrev z23 : Tr := .sl [] true
theorem tz23 : zeroOf Try.prog 23 = some z23 := by kernel_rfl
theorem tb23 : (Try.prog.info? 23).map (·.bytes) = some 24 := by kernel_rfl
theorem ti26 : tinf Try.prog 26 = some (1, false) := by kernel_rfl
theorem te26 : elemOf Try.prog 26 = some (38, 8, true) := by kernel_rfl
abbrev z26 : Tr := .sl [] true
theorem tz26 : zeroOf Try.prog 26 = some z26 := by kernel_rfl
theorem tb26 : (Try.prog.info? 26).map (·.bytes) = some 24 := by kernel_rfl
theorem ti27 : tinf Try.prog 27 = some (1, false) := by kernel_rfl
theorem te27 : elemOf Try.prog 27 = some (3, 1, false) := by kernel_rfl
abbrev z27 : Tr := .sl [] true
theorem tz27 : zeroOf Try.prog 27 = some z27 := by kernel_rfl
theorem tb27 : (Try.prog.info? 27).map (·.bytes) = some 24 := by kernel_rfl
theorem ti28 : tinf Try.prog 28 = some (4, true) := by kernel_rfl
theorem tf28_0 : fldOf Try.prog 28 0 = some (0, 1, false) := by kernel_rfl
theorem tf28_1 : fldOf Try.prog 28 1 = some (1, 1, false) := by kernel_rfl
theorem tf28_2 : fldOf Try.prog 28 2 = some (2, 1, false) := by kernel_rfl
theorem tf28_3 : fldOf Try.prog 28 3 = some (3, 1, false) := by kernel_rfl
theorem tg28 : fldsOf Try.prog 28 = some [(0, 1), (1, 1), (2, 1), (3, 1)] := by kernel_rfl
abbrev z28 : Tr := .agg [.int .i64 0, .sl [] true, .sl [] true, .sl [] true]
theorem tz28 : zeroOf Try.prog 28 = some z28 := by kernel_rfl
theorem tb28 : (Try.prog.info? 28).map (·.bytes) = some 80 := by kernel_rfl
theorem ti29 : tinf Try.prog 29 = some (4, true) := by kernel_rfl
theorem tf29_0 : fldOf Try.prog 29 0 = some (0, 1, false) := by kernel_rfl
theorem tf29_1 : fldOf Try.prog 29 1 = some (1, 1, false) := by kernel_rfl
theorem tf29_2 : fldOf Try.prog 29 2 = some (2, 1, false) := by kernel_rfl
theorem tf29_3 : fldOf Try.prog 29 3 = some (3, 1, false) := by kernel_rfl
theorem tg29 : fldsOf Try.prog 29 = some [(0, 1), (1, 1), (2, 1), (3, 1)] := by kernel_rfl
abbrev z29 : Tr := .agg [.int .i64 0, .sl [] true, .sl [] true, .sl [] true]
theorem tz29 : zeroOf Try.prog 29 = some z29 := by kernel_rfl
theorem tb29 : (Try.prog.info? 29).map (·.bytes) = some 80 := by kernel_rfl
theorem ti30 : tinf Try.prog 30 = some (1, false) := by kernel_rfl
theorem tu30 : Try.prog.underlying 30 = some (.int .i64) := by kernel_rfl
abbrev z30 : Tr := .int .i64 0
theorem tz30 : zeroOf Try.prog 30 = some z30 := by kernel_rfl
theorem tb30 : (Try.prog.info? 30).map (·.bytes) = some 8 := by kernel_rfl
theorem ti33 : tinf Try.prog 33 = some (1, false) := by kernel_rfl
theorem tu33 : Try.prog.underlying 33 = some (.int .u32) := by kernel_rfl
abbrev z33 : Tr := .int .u32 0
theorem tz33 : zeroOf Try.prog 33 = some z33 := by kernel_rfl
theorem tb33 : (Try.prog.info? 33).map (·.bytes) = some 4 := by kernel_rfl
theorem ti34 : tinf Try.prog 34 = some (1, false) := by kernel_rfl
theorem te34 : elemOf Try.prog 34 = some (5, 1, false) := by kernel_rfl
abbrev z34 : Tr := .sl [] true
theorem tz34 : zeroOf Try.prog 34 = some z34 := by kernel_rfl
theorem tb34 : (Try.prog.info? 34).map (·.bytes) = some 24 := by kernel_rfl
theorem ti35 : tinf Try.prog 35 = some (5, true) := by kernel_rfl
theorem tf35_0 : fldOf Try.prog 35 0 = some (0, 1, false) := by kernel_rfl
theorem tf35_1 : fldOf Try.prog 35 1 = some (1, 1, false) := by kernel_rfl
theorem tf35_2 : fldOf Try.prog 35 2 = some (2, 1, false) := by kernel_rfl
theorem tf35_3 : fldOf Try.prog 35 3 = some (3, 1, false) := by kernel_rfl
theorem tf35_4 : fldOf Try.prog 35 4 = some (4, 1, false) := by kernel_rfl
theorem tg35 : fldsOf Try.prog 35 = some [(0, 1), (1, 1), (2, 1), (3, 1), (4, 1)] := by kernel_rfl
abbrev z35 : Tr := .agg [.int .i64 0, .int .i64 0, .int .i64 0, .int .u32 0, .sl [] true]
theorem tz35 : zeroOf Try.prog 35 = some z35 := by kernel_rfl
theorem tb35 : (Try.prog.info? 35).map (·.bytes) = some 56 := by kernel_rfl
theorem ti36 : tinf Try.prog 36 = some (5, true) := by kernel_rfl
theorem tf36_0 : fldOf Try.prog 36 0 = some (0, 1, false) := by kernel_rfl
theorem tf36_1 : fldOf Try.prog 36 1 = some (1, 1, false) := by kernel_rfl
theorem tf36_2 : fldOf Try.prog 36 2 = some (2, 1, false) := by kernel_rfl
theorem tf36_3 : fldOf Try.prog 36 3 = some (3, 1, false) := by kernel_rfl
theorem tf36_4 : fldOf Try.prog 36 4 = some (4, 1, false) := by kernel_rfl
theorem tg36 : fldsOf Try.prog 36 = some [(0, 1), (1, 1), (2, 1), (3, 1), (4, 1)] := by kernel_rfl
abbrev z36 : Tr := .agg [.int .i64 0, .int .i64 0, .int .i64 0, .int .u32 0, .sl [] true]
theorem tz36 : zeroOf Try.prog 36 = some z36 := by kernel_rfl
theorem tb36 : (Try.prog.info? 36).map (·.bytes) = some 56 := by kernel_rfl
theorem ti37 : tinf Try.prog 37 = some (8, true) := by kernel_rfl
theorem tf37_0 : fldOf Try.prog 37 0 = some (0, 1, false) := by kernel_rfl
theorem tf37_1 : fldOf Try.prog 37 1 = some (1, 1, false) := by kernel_rfl
theorem tf37_2 : fldOf Try.prog 37 2 = some (2, 1, false) := by kernel_rfl
theorem tf37_3 : fldOf Try.prog 37 3 = some (3, 5, true) := by kernel_rfl
theorem tg37 : fldsOf Try.prog 37 = some [(0, 1), (1, 1), (2, 1), (3, 5)] := by kernel_rfl
abbrev z37 : Tr := .agg [.int .i64 0, .int .i64 0, .int .i64 0, .int .i64 0, .int .i64 0, .int .i64 0, .int .u32 0, .sl [] true]
theorem tz37 : zeroOf Try.prog 37 = some z37 := by kernel_rfl
theorem tb37 : (Try.prog.info? 37).map (·.bytes) = some 80 := by kernel_rfl
theorem ti38 : tinf Try.prog 38 = some (8, true) := by kernel_rfl
theorem tf38_0 : fldOf Try.prog 38 0 = some (0, 1, false) := by kernel_rfl
theorem tf38_1 : fldOf Try.prog 38 1 = some (1, 1, false) := by kernel_rfl
theorem tf38_2 : fldOf Try.prog 38 2 = some (2, 1, false) := by kernel_rfl
theorem tf38_3 : fldOf Try.prog 38 3 = some (3, 5, true) := by kernel_rfl
theorem tg38 : fldsOf Try.prog 38 = some [(0, 1), (1, 1), (2, 1), (3, 5)] := by kernel_rfl
abbrev z38 : Tr := .agg [.int .i64 0, .int .i64 0, .int .i64 0, .int .i64 0, .int .i64 0, .int .i64 0, .int .u32 0, .sl [] true]
theorem tz38 : zeroOf Try.prog 38 = some z38 := by kernel_rfl
theorem tb38 : (Try.prog.info? 38).map (·.bytes) = some 80 := by kernel_rfl
theorem ti39 : tinf Try.prog 39 = some (11, true) := by kernel_rfl
theorem tf39_0 : fldOf Try.prog 39 0 = some (0, 1, false) := by kernel_rfl
theorem tf39_1 : fldOf Try.prog 39 1 = some (1, 1, false) := by kernel_rfl
theorem tf39_2 : fldOf Try.prog 39 2 = some (2, 1, false) := by kernel_rfl
theorem tf39_3 : fldOf Try.prog 39 3 = some (3, 8, true) := by kernel_rfl
theorem tg39 : fldsOf Try.prog 39 = some [(0, 1), (1, 1), (2, 1), (3, 8)] := by kernel_rfl
abbrev z39 : Tr := .agg [.int .i64 0, .int .i64 0, .int .i64 0, .int .i64 0, .int .i64 0, .int .i64 0, .int .i64 0, .int .i64 0, .int .i64 0, .int .u32 0, .sl [] true]
theorem tz39 : zeroOf Try.prog 39 = some z39 := by kernel_rfl
theorem tb39 : (Try.prog.info? 39).map (·.bytes) = some 104 := by kernel_rfl
theorem ti40 : tinf Try.prog 40 = some (11, true) := by kernel_rfl
theorem tf40_0 : fldOf Try.prog 40 0 = some (0, 1, false) := by kernel_rfl
theorem tf40_1 : fldOf Try.prog 40 1 = some (1, 1, false) := by kernel_rfl
theorem tf40_2 : fldOf Try.prog 40 2 = some (2, 1, false) := by kernel_rfl
theorem tf40_3 : fldOf Try.prog 40 3 = some (3, 8, true) := by kernel_rfl
theorem tg40 : fldsOf Try.prog 40 = some [(0, 1), (1, 1), (2, 1), (3, 8)] := by kernel_rfl
abbrev z40 : Tr := .agg [.int .i64 0, .int .i64 0, .int .i64 0, .int .i64 0, .int .i64 0, .int .i64 0, .int .i64 0, .int .i64 0, .int .i64 0, .int .u32 0, .sl [] true]
theorem tz40 : zeroOf Try.prog 40 = some z40 := by kernel_rfl
theorem tb40 : (Try.prog.info? 40).map (·.bytes) = some 104 := by kernel_rfl
theorem ti57 : tinf Try.prog 57 = some (1, false) := by kernel_rfl
theorem te57 : elemOf Try.prog 57 = some (64, 4, true) := by kernel_rfl
abbrev z57 : Tr := .sl [] true
theorem tz57 : zeroOf Try.prog 57 = some z57 := by kernel_rfl
theorem tb57 : (Try.prog.info? 57).map (·.bytes) = some 24 := by kernel_rfl
theorem ti58 : tinf Try.prog 58 = some (16, true) := by kernel_rfl
abbrev z58 : Tr := .agg [.int .i64 0, .sl [] true, .sl [] true, .sl [] true, .int .i64 0, .sl [] true, .sl [] true, .sl [] true, .int .i64 0, .sl [] true, .sl [] true, .sl [] true, .int .i64 0, .sl [] true, .sl [] true, .sl [] true]
theorem tz58 : zeroOf Try.prog 58 = some z58 := by kernel_rfl
theorem tb58 : (Try.prog.info? 58).map (·.bytes) = some 320 := by kernel_rfl
theorem ti62 : tinf Try.prog 62 = some (1, false) := by kernel_rfl
abbrev z62 : Tr := .nilp
theorem tz62 : zeroOf Try.prog 62 = some z62 := by kernel_rfl
theorem tb62 : (Try.prog.info? 62).map (·.bytes) = some 8 := by kernel_rfl
theorem ti63 : tinf Try.prog 63 = some (4, true) := by kernel_rfl
theorem tf63_0 : fldOf Try.prog 63 0 = some (0, 1, false) := by kernel_rfl
theorem tf63_1 : fldOf Try.prog 63 1 = some (1, 1, false) := by kernel_rfl
theorem tf63_2 : fldOf Try.prog 63 2 = some (2, 1, false) := by kernel_rfl
theorem tf63_3 : fldOf Try.prog 63 3 = some (3, 1, false) := by kernel_rfl
theorem tg63 : fldsOf Try.prog 63 = some [(0, 1), (1, 1), (2, 1), (3, 1)] := by kernel_rfl
abbrev z63 : Tr := .agg [.int .u8 0, .int .u8 0, .int .u8 0, .bool false]
theorem tz63 : zeroOf Try.prog 63 = some z63 := by kernel_rfl
theorem tb63 : (Try.prog.info? 63).map (·.bytes) = some 4 := by kernel_rfl
theorem ti64 : tinf Try.prog 64 = some (4, true) := by kernel_rfl
theorem tf64_0 : fldOf Try.prog 64 0 = some (0, 1, false) := by kernel_rfl
theorem tf64_1 : fldOf Try.prog 64 1 = some (1, 1, false) := by kernel_rfl
theorem tf64_2 : fldOf Try.prog 64 2 = some (2, 1, false) := by kernel_rfl
theorem tf64_3 : fldOf Try.prog 64 3 = some (3, 1, false) := by kernel_rfl
theorem tg64 : fldsOf Try.prog 64 = some [(0, 1), (1, 1), (2, 1), (3, 1)] := by kernel_rfl
abbrev z64 : Tr := .agg [.int .u8 0, .int .u8 0, .int .u8 0, .bool false]
theorem tz64 : zeroOf Try.prog 64 = some z64 := by kernel_rfl
theorem tb64 : (Try.prog.info? 64).map (·.bytes) = some 4 := by kernel_rfl
theorem ti85 : tinf Try.prog 85 = some (1, false) := by kernel_rfl
theorem tu85 : Try.prog.underlying 85 = some (.int .u64) := by kernel_rfl
abbrev z85 : Tr := .int .u64 0
theorem tz85 : zeroOf Try.prog 85 = some z85 := by kernel_rfl
theorem tb85 : (Try.prog.info? 85).map (·.bytes) = some 8 := by kernel_rfl
theorem ta23 : AppT Try.prog 23 23 40 11 104 := ⟨⟨_, te23⟩, ⟨_, _, _, te23⟩, tb40, z40, tz40, by kernel_rfl⟩
theorem ta26 : AppT Try.prog 26 26 38 8 80 := ⟨⟨_, te26⟩, ⟨_, _, _, te26⟩, tb38, z38, tz38, by kernel_rfl⟩
theorem ta27 : AppT Try.prog 27 27 3 1 8 := ⟨⟨_, te27⟩, ⟨_, _, _, te27⟩, tb3, z3, tz3, by kernel_rfl⟩
theorem ta34 : AppT Try.prog 34 34 5 1 1 := ⟨⟨_, te34⟩, ⟨_, _, _, te34⟩, tb5, z5, tz5, by kernel_rfl⟩
theorem ta57 : AppT Try.prog 57 57 64 4 4 := ⟨⟨_, te57⟩, ⟨_, _, _, te57⟩, tb64, z64, tz64, by kernel_rfl⟩
theorem tm : Try.prog.follows .mixedOrders = true := by kernel_rfl
theorem co2 : callOK Try.prog 2 = true := by kernel_rfl
theorem co3 : callOK Try.prog 3 = true := by kernel_rfl
theorem co4 : callOK Try.prog 4 = true := by kernel_rfl
theorem co5 : callOK Try.prog 5 = true := by kernel_rfl
theorem co6 : callOK Try.prog 6 = true := by kernel_rfl
theorem co7 : callOK Try.prog 7 = true := by kernel_rfl
theorem co8 : callOK Try.prog 8 = true := by kernel_rfl
theorem co9 : callOK Try.prog 9 = true := by kernel_rfl
theorem co10 : callOK Try.prog 10 = true := by kernel_rfl
theorem co11 : callOK Try.prog 11 = true := by kernel_rfl
theorem co12 : callOK Try.prog 12 = true := by kernel_rfl
theorem co13 : callOK Try.prog 13 = true := by kernel_rfl
theorem co14 : callOK Try.prog 14 = true := by kernel_rfl
theorem co15 : callOK Try.prog 15 = true := by kernel_rfl
theorem co16 : callOK Try.prog 16 = true := by kernel_rfl
theorem co17 : callOK Try.prog 17 = true := by kernel_rfl
theorem co18 : callOK Try.prog 18 = true := by kernel_rfl
theorem co19 : callOK Try.prog 19 = true := by kernel_rfl
theorem co20 : callOK Try.prog 20 = true := by kernel_rfl
theorem co21 : callOK Try.prog 21 = true := by kernel_rfl
theorem co22 : callOK Try.prog 22 = true := by kernel_rfl
theorem co23 : callOK Try.prog 23 = true := by kernel_rfl
theorem co24 : callOK Try.prog 24 = true := by kernel_rfl
theorem co25 : callOK Try.prog 25 = true := by kernel_rfl
theorem co26 : callOK Try.prog 26 = true := by kernel_rfl
theorem co27 : callOK Try.prog 27 = true := by kernel_rfl
theorem co28 : callOK Try.prog 28 = true := by kernel_rfl
theorem co29 : callOK Try.prog 29 = true := by kernel_rfl
theorem co30 : callOK Try.prog 30 = true := by kernel_rfl
theorem co31 : callOK Try.prog 31 = true := by kernel_rfl
theorem co32 : callOK Try.prog 32 = true := by kernel_rfl
theorem co33 : callOK Try.prog 33 = true := by kernel_rfl
theorem co34 : callOK Try.prog 34 = true := by kernel_rfl
theorem co35 : callOK Try.prog 35 = true := by kernel_rfl
theorem co36 : callOK Try.prog 36 = true := by kernel_rfl
theorem co37 : callOK Try.prog 37 = true := by kernel_rfl
theorem co38 : callOK Try.prog 38 = true := by kernel_rfl
theorem co39 : callOK Try.prog 39 = true := by kernel_rfl
theorem co40 : callOK Try.prog 40 = true := by kernel_rfl
theorem co41 : callOK Try.prog 41 = true := by kernel_rfl
theorem co42 : callOK Try.prog 42 = true := by kernel_rfl
theorem co43 : callOK Try.prog 43 = true := by kernel_rfl
theorem co44 : callOK Try.prog 44 = true := by kernel_rfl
theorem co45 : callOK Try.prog 45 = true := by kernel_rfl
theorem co46 : callOK Try.prog 46 = true := by kernel_rfl
theorem co47 : callOK Try.prog 47 = true := by kernel_rfl
theorem co48 : callOK Try.prog 48 = true := by kernel_rfl
theorem co49 : callOK Try.prog 49 = true := by kernel_rfl
theorem co50 : callOK Try.prog 50 = true := by kernel_rfl
theorem co51 : callOK Try.prog 51 = true := by kernel_rfl
theorem co52 : callOK Try.prog 52 = true := by kernel_rfl
theorem co53 : callOK Try.prog 53 = true := by kernel_rfl
theorem co54 : callOK Try.prog 54 = true := by kernel_rfl
theorem co55 : callOK Try.prog 55 = true := by kernel_rfl
theorem co56 : callOK Try.prog 56 = true := by kernel_rfl
theorem co57 : callOK Try.prog 57 = true := by kernel_rfl
theorem co58 : callOK Try.prog 58 = true := by kernel_rfl
theorem co59 : callOK Try.prog 59 = true := by kernel_rfl
theorem co60 : callOK Try.prog 60 = true := by kernel_rfl
theorem co61 : callOK Try.prog 61 = true := by kernel_rfl
theorem co62 : callOK Try.prog 62 = true := by kernel_rfl
theorem co64 : callOK Try.prog 64 = true := by kernel_rfl
theorem co65 : callOK Try.prog 65 = true := by kernel_rfl
theorem co66 : callOK Try.prog 66 = true := by kernel_rfl
theorem co67 : callOK Try.prog 67 = true := by kernel_rfl
end Go.Tv.C27

end
section
open Go Go.Tv Go.Proofs
namespace Go.Tv.C27

structure Bundle where
  id : Int
  frm : Int
  to : Int
  file : Int
  offset : Int
  total : Int
  sum : Int
  data : List Int
  deriving DecidableEq

structure Store where
  quota : Int
  bundles : List Bundle
  passed : List Int
  seen : List Int

structure Opn where
  kind : Int
  id : Int
  room : Int
  bundle : Bundle

def encBy (n : Int) : Tr := .int .u8 n
def encI (n : Int) : Tr := .int .i64 n
def encIs (l : List Int) : Tr := .sl (l.map encI) false
def encB (b : Bundle) : Tr := .agg [encI b.id, encI b.frm, encI b.to, encI b.file, encI b.offset, encI b.total, .int .u32 b.sum, .sl (b.data.map encBy) false]
def encS (s : Store) : Tr := .agg [encI s.quota, .sl (s.bundles.map encB) false, encIs s.passed, encIs s.seen]
def encO (o : Opn) : Tr := .agg [encI o.kind, encI o.id, encI o.room, encI o.bundle.id, encI o.bundle.frm, encI o.bundle.to, encI o.bundle.file, encI o.bundle.offset, encI o.bundle.total, .int .u32 o.bundle.sum,
  .sl (o.bundle.data.map encBy) false]

def size (b : Bundle) : Int := (b.data.length : Int) + 16
def used : List Bundle → Int
  | [] => 0
  | b :: l => size b + used l

theorem used_append (l r : List Bundle) : used (l ++ r) = used l + used r := by
  induction l with
  | nil => simp [used]
  | cons b l ih => simp only [List.cons_append, used, ih]; omega

theorem take_succ_get {α : Type} {l : List α} {i : Nat} (h : i < l.length) : l.take (i + 1) = l.take i ++ [l[i]] := by
  rw [List.take_add_one, List.getElem?_eq_getElem h]; rfl

/-- Bounds of a bundle and of a store: far from every limit of the machine. -/
def BOK (b : Bundle) : Prop := b.data.length ≤ 100000
def SOK (s : Store) : Prop := s.bundles.length ≤ 100000 ∧ s.passed.length ≤ 100000 ∧ s.seen.length ≤ 100000 ∧ ∀ b, b ∈ s.bundles → BOK b

theorem used_step {l : List Bundle} {i : Nat} (h : i < l.length) : used (l.take (i + 1)) = used (l.take i) + size l[i] := by
  rw [take_succ_get h, used_append]
  simp [used]

theorem size_bd {b : Bundle} (h : BOK b) : 16 ≤ size b ∧ size b ≤ 100016 := by
  unfold BOK at h; unfold size; omega

def sameB (a b : Bundle) : Bool := decide (a.id = b.id ∧ a.frm = b.frm ∧ a.to = b.to ∧ a.file = b.file ∧ a.offset = b.offset ∧ a.total = b.total ∧ a.sum = b.sum ∧ a.data = b.data)
def countB (l : List Bundle) (id : Int) : Int := ((l.filter fun b => b.id == id).length : Int)
def findIx (l : List Bundle) (id : Int) : Int :=
  match l.findIdx? (fun b => b.id == id) with
  | some i => (i : Int)
  | none => -1

theorem findIx_hit {l : List Bundle} {id : Int} {i : Nat} (hi : i < l.length) (h : ∀ b, b ∈ l.take i → b.id ≠ id) (he : l[i].id = id) : findIx l id = (i : Int) := by
  unfold findIx
  have : l.findIdx? (fun b => b.id == id) = some i := by
    rw [List.findIdx?_eq_some_iff_getElem]
    refine ⟨hi, by simp [he], fun j hj => ?_⟩
    have := h l[j] (by
      rw [List.mem_iff_getElem]
      exact ⟨j, by simp; omega, by simp⟩)
    simpa using this
  rw [this]

theorem findIx_none {l : List Bundle} {id : Int} (h : ∀ b, b ∈ l → b.id ≠ id) : findIx l id = -1 := by
  unfold findIx
  have : l.findIdx? (fun b => b.id == id) = none := by
    rw [List.findIdx?_eq_none_iff]
    intro b hb
    simpa using h b hb
  rw [this]

theorem mem_take_succ {α : Type} {l : List α} {i : Nat} (h : i < l.length) {x : α} : x ∈ l.take (i + 1) ↔ x ∈ l.take i ∨ x = l[i] := by
  rw [take_succ_get h, List.mem_append, List.mem_singleton]

theorem incr_step {l : List Int} {i : Nat} (hi : 0 < i) (h : i < l.length) (hp : (l.take i).Pairwise (· < ·)) (hlt : l[i - 1] < l[i]) : (l.take (i + 1)).Pairwise (· < ·) := by
  rw [take_succ_get h, List.pairwise_append]
  refine ⟨hp, by simp, fun a ha b hb => ?_⟩
  simp only [List.mem_singleton] at hb
  subst hb
  obtain ⟨j, hj, rfl⟩ := List.mem_iff_getElem.1 ha
  simp only [List.length_take] at hj
  rw [List.getElem_take]
  by_cases e : j = i - 1
  · subst e; exact hlt
  · have := List.pairwise_iff_getElem.1 hp j (i - 1) (by simp; omega) (by simp; omega) (by omega)
    rw [List.getElem_take, List.getElem_take] at this
    omega

def ins (x : Int) : List Int → List Int
  | [] => [x]
  | y :: l => if y < x then y :: ins x l else x :: y :: l
def sortl (l : List Int) : List Int := l.foldl (fun o x => ins x o) []

theorem sortl_snoc (l : List Int) (x : Int) : sortl (l ++ [x]) = ins x (sortl l) := by
  unfold sortl; rw [List.foldl_append]; rfl

theorem ins_length (x : Int) : ∀ (l : List Int), (ins x l).length = l.length + 1
  | [] => rfl
  | y :: l => by
    unfold ins
    split
    · simp [ins_length x l]
    · simp

theorem ins_split (x : Int) : ∀ (l : List Int) (k : Nat), k ≤ l.length → (∀ y, y ∈ l.take k → y < x) → (∀ h : k < l.length, ¬ l[k] < x) → ins x l = l.take k ++ [x] ++ l.drop k
  | [], k, hk, _, _ => by simp [ins]
  | y :: l, 0, _, _, h2 => by
    have := h2 (by simp)
    simp only [List.getElem_cons_zero] at this
    simp [ins, this]
  | y :: l, k + 1, hk, h1, h2 => by
    have hy : y < x := h1 y (by simp)
    unfold ins
    rw [if_pos hy, ins_split x l k (by simpa using hk) (fun z hz => h1 z (by simp [hz])) (fun h => by have h3 := h2 (Nat.succ_lt_succ h); rwa [List.getElem_cons_succ] at h3)]
    simp

theorem foldl_ins_length : ∀ (l o : List Int), (l.foldl (fun o x => ins x o) o).length = o.length + l.length
  | [], o => by simp
  | x :: l, o => by
    rw [List.foldl_cons, foldl_ins_length l, ins_length]
    simp; omega

theorem sortl_length (l : List Int) : (sortl l).length = l.length := by
  unfold sortl; rw [foldl_ins_length]; simp

theorem sortl_take {l : List Int} {i : Nat} (h : i < l.length) : sortl (l.take (i + 1)) = ins l[i] (sortl (l.take i)) := by
  rw [take_succ_get h, sortl_snoc]

def zs : Store := ⟨0, [], [], []⟩
def create (s : Store) (b : Bundle) : Store × Int :=
  if 256 < b.data.length then (zs, 2)
  else if b.id ∈ s.seen then (zs, 4)
  else if 64 ≤ s.bundles.length then (zs, 9)
  else if s.quota < used s.bundles + size b then (zs, 42)
  else (⟨s.quota, s.bundles ++ [b], s.passed, sortl (s.seen ++ [b.id])⟩, 0)
def accept (s : Store) (b : Bundle) : Store × Bool × Int :=
  if b.data.length ≤ 256 ∧ b.id ∈ s.seen then (s, true, 0)
  else ((create s b).1, decide ((create s b).2 = 0), (create s b).2)
def pass (s : Store) (n : Int) : Store × Int :=
  if findIx s.bundles n < 0 then (zs, 3)
  else if n ∈ s.passed then (zs, 44)
  else (⟨s.quota, s.bundles, sortl (s.passed ++ [n]), s.seen⟩, 0)
def confirm (s : Store) (n : Int) : Store × Int :=
  if findIx s.bundles n < 0 then (zs, 3)
  else (⟨s.quota, s.bundles.take (findIx s.bundles n).toNat ++ s.bundles.drop ((findIx s.bundles n).toNat + 1), s.passed.filter (· != n), s.seen⟩, 0)
def retry (s : Store) : Store := ⟨s.quota, s.bundles, [], s.seen⟩
def zb : Bundle := ⟨0, 0, 0, 0, 0, 0, 0, []⟩
def fits (s : Store) (room : Int) (b : Bundle) : Bool := decide (b.id ∉ s.passed ∧ size b ≤ room)
def offer (s : Store) (room : Int) : Bundle × Bool :=
  match s.bundles.find? (fits s room) with
  | some b => (b, true)
  | none => (zb, false)
def sameS (a b : Store) : Bool := decide (a.quota = b.quota ∧ a.bundles = b.bundles ∧ a.passed = b.passed ∧ a.seen = b.seen)

theorem findIx_nat {l : List Bundle} {n : Int} (h : ¬ findIx l n < 0) : ∃ i : Nat, i < l.length ∧ findIx l n = (i : Int) := by
  unfold findIx at h ⊢
  cases hf : l.findIdx? (fun b => b.id == n) with
  | none => rw [hf] at h; simp at h
  | some i =>
    rw [List.findIdx?_eq_some_iff_getElem] at hf
    exact ⟨i, hf.1, rfl⟩

theorem used_bd' : ∀ (l : List Bundle), (∀ b, b ∈ l → BOK b) → 0 ≤ used l ∧ used l ≤ 100016 * l.length
  | [], _ => by simp [used]
  | b :: l, h => by
    have h1 := size_bd (h b List.mem_cons_self)
    have h2 := used_bd' l (fun c hc => h c (List.mem_cons_of_mem _ hc))
    simp only [used, List.length_cons]
    omega

theorem used_bd {s : Store} (h : SOK s) : 0 ≤ used s.bundles ∧ used s.bundles ≤ 10001600000 := by
  have h1 := used_bd' s.bundles h.2.2.2
  have h2 := h.1
  omega

theorem offer_hit {s : Store} {room : Int} {i : Nat} (hi : i < s.bundles.length) (h : ∀ b, b ∈ s.bundles.take i → fits s room b = false) (hf : fits s room s.bundles[i] = true) : offer s room = (s.bundles[i], true) := by
  unfold offer
  have : s.bundles.find? (fits s room) = some s.bundles[i] := by
    rw [List.find?_eq_some_iff_append]
    refine ⟨hf, s.bundles.take i, s.bundles.drop (i + 1), ?_, fun a ha => by simp [h a ha]⟩
    rw [List.getElem_cons_drop, List.take_append_drop]
  rw [this]

theorem offer_none {s : Store} {room : Int} (h : ∀ b, b ∈ s.bundles → fits s room b = false) : offer s room = (zb, false) := by
  unfold offer
  have : s.bundles.find? (fits s room) = none := by
    rw [List.find?_eq_none]
    intro b hb; simp [h b hb]
  rw [this]

theorem sameB_iff {a b : Bundle} : sameB a b = true ↔ a = b := by
  unfold sameB
  rw [decide_eq_true_eq]
  constructor
  · rintro ⟨h1, h2, h3, h4, h5, h6, h7, h8⟩
    cases a; cases b; simp_all
  · rintro rfl; simp

def lowerB (x : Int) (l : List Int) : Nat := (l.takeWhile fun y => decide (y < x)).length

theorem lowerB_eq (x : Int) : ∀ (l : List Int) (k : Nat), k ≤ l.length → (∀ y, y ∈ l.take k → y < x) → (∀ h : k < l.length, ¬ l[k] < x) → lowerB x l = k
  | [], k, hk, _, _ => by simp at hk; subst hk; rfl
  | y :: l, 0, _, _, h2 => by
    have := h2 (by simp)
    simp only [List.getElem_cons_zero] at this
    simp [lowerB, this]
  | y :: l, k + 1, hk, h1, h2 => by
    have hy : y < x := h1 y (by simp)
    have := lowerB_eq x l k (by simpa using hk) (fun z hz => h1 z (by simp [hz])) (fun h => by have h3 := h2 (Nat.succ_lt_succ h); rwa [List.getElem_cons_succ] at h3)
    unfold lowerB at this ⊢
    simp [hy, this]

theorem sorted_le {l : List Int} (hp : l.Pairwise (· < ·)) {i j : Nat} (hij : i ≤ j) (hj : j < l.length) : l[i] ≤ l[j] := by
  by_cases e : i = j
  · subst e; omega
  · have := List.pairwise_iff_getElem.1 hp i j (by omega) hj (by omega)
    omega

theorem take_lt {l : List Int} (hp : l.Pairwise (· < ·)) {x : Int} {m : Nat} (hm : m < l.length) (h : l[m] < x) : ∀ y, y ∈ l.take (m + 1) → y < x := by
  intro y hy
  obtain ⟨j, hj, rfl⟩ := List.mem_iff_getElem.1 hy
  simp only [List.length_take] at hj
  rw [List.getElem_take]
  have := sorted_le hp (show j ≤ m by omega) hm
  omega

theorem not_mem_of {l : List Int} (hp : l.Pairwise (· < ·)) {x : Int} {k : Nat} (h1 : ∀ y, y ∈ l.take k → y < x) (h2 : ∀ h : k < l.length, x < l[k]) : x ∉ l := by
  intro hm
  obtain ⟨j, hj, rfl⟩ := List.mem_iff_getElem.1 hm
  by_cases h : j < k
  · have := h1 l[j] (by rw [List.mem_iff_getElem]; exact ⟨j, by simp; omega, by simp⟩)
    omega
  · have h3 := h2 (by omega)
    have := sorted_le hp (show k ≤ j by omega) hj
    omega

end Go.Tv.C27

end
section
open Go Go.Tv Go.Proofs
namespace Go.Tv.C27
set_option maxRecDepth 20000
set_option linter.unusedSimpArgs false
set_option linter.unusedVariables false
theorem size_ret (b : Bundle) (hb : BOK b) : Ret Try.prog 16 [encB b] (encI (size b)) := by
  unfold BOK at hb
  refine ret_of_awp Try.func16 rfl (Nat.le_of_ble_eq_true rfl) ?_
  refine awp_seq ?_
  refine awp_rw rfl ?_
  refine RW.new rfl rfl (eff_boxK (v := .t _) (k := 8) (id := 1) rfl rfl rfl rfl rfl rfl) ?_
  refine RW.op rfl rfl (eff_assign (v := .t _) rfl rfl rfl) ?_
  refine RW.nil ?_
  refine awp_seq ?_
  refine awp_rw rfl ?_
  refine RW.op rfl rfl (eff_fieldAddr rfl rfl tf38_3 (by decide) rfl rfl rfl (Nat.le_of_ble_eq_true rfl)) ?_
  refine RW.op rfl rfl (eff_fieldAddr rfl rfl tf36_4 (by decide) rfl rfl rfl (Nat.le_of_ble_eq_true rfl)) ?_
  refine RW.op rfl rfl (eff_load (y := .t _) rfl rfl ti34 rfl (.one rfl rfl rfl rfl)) ?_
  refine RW.op rfl rfl (eff_lenM rfl rfl te34 rfl) ?_
  refine RW.op rfl rfl (eff_iop rfl rfl rfl rfl (iadd (by omega))) ?_
  refine RW.op rfl rfl (eff_assign (v := .t _) rfl rfl rfl) ?_
  refine RW.nil ?_
  refine awp_ret ?_
  first
    | exact ⟨Or.inr rfl, [_], ⟨.tmp (.t _), trivial⟩, .refl _⟩
    | exact ⟨Or.inr rfl, [_], ⟨.tmp (.t _), trivial⟩, (by repeat' first | exact trivial | exact Wk.refl _ | exact Wk.sl _ | refine And.intro ?_ ?_ | refine Wk.tupP ?_ | refine Wk.aggP ?_)⟩
    | exact ⟨Or.inr rfl, [_], ⟨.tmp (Res.ownT rfl rfl rfl rfl), trivial⟩, .refl _⟩
    | exact ⟨Or.inr rfl, [_], ⟨.tmp (Res.ownT rfl rfl rfl rfl), trivial⟩, (by repeat' first | exact trivial | exact Wk.refl _ | exact Wk.sl _ | refine And.intro ?_ ?_ | refine Wk.tupP ?_ | refine Wk.aggP ?_)⟩

theorem size17_ret (b : Bundle) (hb : BOK b) : Ret Try.prog 17 [encB b] (encI (size b)) := by
  unfold BOK at hb
  refine ret_of_awp Try.func17 rfl (Nat.le_of_ble_eq_true rfl) ?_
  refine awp_seq ?_
  refine awp_rw rfl ?_
  refine RW.new rfl rfl (eff_boxK (v := .t _) (k := 8) (id := 1) rfl rfl rfl rfl rfl rfl) ?_
  refine RW.op rfl rfl (eff_assign (v := .t _) rfl rfl rfl) ?_
  refine RW.nil ?_
  refine awp_seq ?_
  refine awp_rw rfl ?_
  refine RW.op rfl rfl (eff_fieldAddr rfl rfl tf38_3 (by decide) rfl rfl rfl (Nat.le_of_ble_eq_true rfl)) ?_
  refine RW.op rfl rfl (eff_fieldAddr rfl rfl tf36_4 (by decide) rfl rfl rfl (Nat.le_of_ble_eq_true rfl)) ?_
  refine RW.op rfl rfl (eff_load (y := .t _) rfl rfl ti34 rfl (.one rfl rfl rfl rfl)) ?_
  refine RW.op rfl rfl (eff_lenM rfl rfl te34 rfl) ?_
  refine RW.op rfl rfl (eff_iop rfl rfl rfl rfl (iadd (by omega))) ?_
  refine RW.op rfl rfl (eff_assign (v := .t _) rfl rfl rfl) ?_
  refine RW.nil ?_
  refine awp_ret ?_
  first
    | exact ⟨Or.inr rfl, [_], ⟨.tmp (.t _), trivial⟩, .refl _⟩
    | exact ⟨Or.inr rfl, [_], ⟨.tmp (.t _), trivial⟩, (by repeat' first | exact trivial | exact Wk.refl _ | exact Wk.sl _ | refine And.intro ?_ ?_ | refine Wk.tupP ?_ | refine Wk.aggP ?_)⟩
    | exact ⟨Or.inr rfl, [_], ⟨.tmp (Res.ownT rfl rfl rfl rfl), trivial⟩, .refl _⟩
    | exact ⟨Or.inr rfl, [_], ⟨.tmp (Res.ownT rfl rfl rfl rfl), trivial⟩, (by repeat' first | exact trivial | exact Wk.refl _ | exact Wk.sl _ | refine And.intro ?_ ?_ | refine Wk.tupP ?_ | refine Wk.aggP ?_)⟩

theorem used_ret (S : Store) (hS : SOK S) : Ret Try.prog 14 [encS S] (encI (used S.bundles)) := by
  refine ret_of_awp Try.func14 rfl (Nat.le_of_ble_eq_true rfl) ?_
  refine awp_seq ?_
  refine awp_rw rfl ?_
  refine RW.new rfl rfl (eff_boxK (v := .t _) (k := 4) (id := 1) rfl rfl rfl rfl rfl rfl) ?_
  refine RW.op rfl rfl (eff_assign (v := .t _) rfl rfl rfl) ?_
  refine RW.nil ?_
  refine awp_seq ?_
  refine awp_rw rfl ?_
  refine RW.op rfl rfl (eff_assign (v := .t _) rfl rfl rfl) ?_
  refine RW.nil ?_
  refine awp_seq ?_
  refine awp_seq ?_
  refine awp_rw rfl ?_
  refine RW.op rfl rfl (eff_fieldAddr rfl rfl tf29_1 (by decide) rfl rfl rfl (Nat.le_of_ble_eq_true rfl)) ?_
  refine RW.op rfl rfl (eff_load (y := .t _) rfl rfl ti26 rfl (.one rfl rfl rfl rfl)) ?_
  refine RW.op rfl rfl (eff_lenM rfl rfl te26 rfl) ?_
  refine RW.op rfl rfl (eff_move (v := .t _) rfl rfl rfl) ?_
  refine RW.nil ?_
  refine awp_block ?_
  refine awp_loopW (fun m s => ∃ (i : Nat) (acc : Int), (i ≤ S.bundles.length) ∧ (acc = used (S.bundles.take i)) ∧ (0 ≤ acc) ∧ (acc ≤ 100016 * i) ∧ m = S.bundles.length - i ∧ s = ⟨19, [(3, .t (encI acc)), (7, .t (.sl (S.bundles.map encB) false)), (8, .t (encI S.bundles.length)), (9, .t (encI (i : Nat)))], []⟩) (_) (⟨_, weak_keep (n := 19) (fr' := [(3, .t (encI 0)), (7, .t (.sl (S.bundles.map encB) false)), (8, .t (encI S.bundles.length)), (9, .t (encI (0 : Nat)))]) (st' := []) ⟨rfl, rfl, rfl, rfl, rfl, rfl, rfl, rfl, trivial⟩ trivial, 0, 0, (by omega), (by rfl), (by omega), (by omega), rfl, rfl⟩) ?_
  rintro m s ⟨i, acc, hi, ha, h0, h1, rfl, rfl⟩
  have hL := hS.1
  refine awp_seq ?_
  refine awp_rw rfl ?_
  refine RW.op rfl rfl (eff_iop rfl rfl rfl rfl rfl) ?_
  refine RW.nil ?_
  refine awp_seq ?_
  refine awp_cond rfl (fun h1 => ?_) (fun h1 => ?_)
  · try simp only [decide_eq_true_eq, decide_eq_false_iff_not, beq_iff_eq, bne_iff_ne, bne_eq_false_iff_eq, beq_eq_false_iff_ne, Bool.not_eq_true, Bool.not_eq_false, Bool.not_eq_true', Bool.not_eq_false', ne_eq] at h1
    refine awp_skip ?_
    refine awp_seq ?_
    refine awp_block ?_
    refine awp_seq ?_
    refine awp_rw rfl ?_
    have hb := size_bd (hS.2.2.2 _ (List.getElem_mem (show i < S.bundles.length by omega)))
    refine RW.op rfl rfl (eff_indexM rfl rfl te26 rfl rfl rfl (by first | assumption | exact List.getElem?_eq_getElem (by omega)) rfl (by decide)) ?_
    refine RW.op rfl rfl (eff_loadW rfl rfl ti38 rfl rfl rfl) ?_
    refine RW.new rfl rfl (eff_allocK (k := 8) (id := 5) rfl rfl tz38 rfl rfl) ?_
    refine RW.store rfl rfl (eff_storeW (v := .t _) (els := [_]) (els' := [_]) rfl rfl ti38 rfl rfl rfl rfl rfl rfl rfl rfl rfl) ?_
    refine RW.nil ?_
    refine awp_rw rfl ?_
    refine RW.op rfl rfl (eff_move (v := .t _) rfl rfl rfl) ?_
    refine RW.op rfl rfl (eff_load rfl rfl ti38 rfl (.whole rfl rfl rfl rfl rfl rfl)) ?_
    refine RW.op rfl rfl (eff_callT (size_ret _ (hS.2.2.2 _ (List.getElem_mem _))) co16 rfl rfl rfl rfl) ?_
    refine RW.op rfl rfl (eff_iop rfl rfl rfl rfl (iadd (by omega))) ?_
    refine RW.op rfl rfl (eff_assign (v := .t _) rfl rfl rfl) ?_
    refine RW.nil ?_
    refine awp_rw rfl ?_
    refine RW.op rfl rfl (eff_iop rfl rfl rfl rfl (iadd (by omega))) ?_
    refine RW.op rfl rfl (eff_move (v := .t _) rfl rfl rfl) ?_
    refine RW.nil ?_
    refine ⟨_, ?_, _, weak_keep (n := 19) (fr' := [(3, .t (encI _)), (7, .t (.sl (S.bundles.map encB) false)), (8, .t (encI S.bundles.length)), (9, .t (encI ((i + 1) : Nat)))]) (st' := []) ⟨rfl, rfl, rfl, rfl, rfl, rfl, rfl, rfl, trivial⟩ trivial, i + 1, _, (by omega), (by rw [used_step (by omega), ← ha]), (by omega), (by omega), rfl, rfl⟩
    omega
  · try simp only [decide_eq_true_eq, decide_eq_false_iff_not, beq_iff_eq, bne_iff_ne, bne_eq_false_iff_eq, beq_eq_false_iff_ne, Bool.not_eq_true, Bool.not_eq_false, Bool.not_eq_true', Bool.not_eq_false', ne_eq] at h1
    refine awp_exit ?_
    refine awp_seq ?_
    refine awp_rw rfl ?_
    refine RW.op rfl rfl (eff_move (v := .t _) rfl rfl rfl) ?_
    refine RW.op rfl rfl (eff_assign (v := .t _) rfl rfl rfl) ?_
    refine RW.nil ?_
    refine awp_ret ?_
    have hi2 : i = S.bundles.length := by omega
    subst hi2
    rw [List.take_length] at ha
    subst ha
    exact ⟨Or.inr rfl, [_], ⟨.tmp (.t _), trivial⟩, .refl _⟩

theorem used15_ret (S : Store) (hS : SOK S) : Ret Try.prog 15 [encS S] (encI (used S.bundles)) := by
  refine ret_of_awp Try.func15 rfl (Nat.le_of_ble_eq_true rfl) ?_
  refine awp_seq ?_
  refine awp_rw rfl ?_
  refine RW.new rfl rfl (eff_boxK (v := .t _) (k := 4) (id := 1) rfl rfl rfl rfl rfl rfl) ?_
  refine RW.op rfl rfl (eff_assign (v := .t _) rfl rfl rfl) ?_
  refine RW.nil ?_
  refine awp_seq ?_
  refine awp_rw rfl ?_
  refine RW.op rfl rfl (eff_assign (v := .t _) rfl rfl rfl) ?_
  refine RW.nil ?_
  refine awp_seq ?_
  refine awp_seq ?_
  refine awp_rw rfl ?_
  refine RW.op rfl rfl (eff_assign (v := .t _) rfl rfl rfl) ?_
  refine RW.nil ?_
  refine awp_block ?_
  refine awp_loopW (fun m s => ∃ (i : Nat) (acc : Int), (i ≤ S.bundles.length) ∧ (acc = used (S.bundles.take i)) ∧ (0 ≤ acc) ∧ (acc ≤ 100016 * i) ∧ m = S.bundles.length - i ∧ s = ⟨21, [(1, .ptr 1 0 0 0), (3, .t (encI acc)), (4, .t (encI (i : Nat)))], [(1, some ⟨4, 29, 0, [.t (encS S)]⟩)]⟩) (_) (⟨_, weak_keep (n := 21) (fr' := [(1, .ptr 1 0 0 0), (3, .t (encI 0)), (4, .t (encI (0 : Nat)))]) (st' := [(1, some ⟨4, 29, 0, [.t (encS S)]⟩)]) ⟨rfl, rfl, rfl, rfl, rfl, rfl, trivial⟩ ⟨rfl, okE_one rfl, trivial⟩, 0, 0, (by omega), (by rfl), (by omega), (by omega), rfl, rfl⟩) ?_
  rintro m s ⟨i, acc, hi, ha, h0, h1, rfl, rfl⟩
  have hL := hS.1
  refine awp_seq ?_
  refine awp_seq ?_
  refine awp_rw rfl ?_
  refine RW.op rfl rfl (eff_move (v := .t _) rfl rfl rfl) ?_
  refine RW.op rfl rfl (eff_fieldAddr rfl rfl tf29_1 (by decide) rfl rfl rfl (Nat.le_of_ble_eq_true rfl)) ?_
  refine RW.op rfl rfl (eff_load (y := .t _) rfl rfl ti26 rfl (.one rfl rfl rfl rfl)) ?_
  refine RW.op rfl rfl (eff_lenM rfl rfl te26 rfl) ?_
  refine RW.op rfl rfl (eff_iop rfl rfl rfl rfl rfl) ?_
  refine RW.nil ?_
  refine awp_cond rfl (fun h1 => ?_) (fun h1 => ?_)
  · try simp only [decide_eq_true_eq, decide_eq_false_iff_not, beq_iff_eq, bne_iff_ne, bne_eq_false_iff_eq, beq_eq_false_iff_ne, Bool.not_eq_true, Bool.not_eq_false, Bool.not_eq_true', Bool.not_eq_false', ne_eq] at h1
    refine awp_skip ?_
    refine awp_seq ?_
    refine awp_block ?_
    refine awp_rw rfl ?_
    have hb := size_bd (hS.2.2.2 _ (List.getElem_mem (show i < S.bundles.length by omega)))
    refine RW.op rfl rfl (eff_move (v := .t _) rfl rfl rfl) ?_
    refine RW.op rfl rfl (eff_fieldAddr rfl rfl tf29_1 (by decide) rfl rfl rfl (Nat.le_of_ble_eq_true rfl)) ?_
    refine RW.op rfl rfl (eff_load (y := .t _) rfl rfl ti26 rfl (.one rfl rfl rfl rfl)) ?_
    refine RW.op rfl rfl (eff_move (v := .t _) rfl rfl rfl) ?_
    refine RW.op rfl rfl (eff_indexM rfl rfl te26 rfl rfl rfl (by first | assumption | exact List.getElem?_eq_getElem (by omega)) rfl (by decide)) ?_
    refine RW.op rfl rfl (eff_loadW rfl rfl ti38 rfl rfl rfl) ?_
    refine RW.op rfl rfl (eff_callT (size17_ret _ (hS.2.2.2 _ (List.getElem_mem _))) co17 rfl rfl rfl rfl) ?_
    refine RW.op rfl rfl (eff_iop rfl rfl rfl rfl (iadd (by omega))) ?_
    refine RW.op rfl rfl (eff_assign (v := .t _) rfl rfl rfl) ?_
    refine RW.nil ?_
    refine awp_rw rfl ?_
    refine RW.op rfl rfl (eff_move (v := .t _) rfl rfl rfl) ?_
    refine RW.op rfl rfl (eff_iop rfl rfl rfl rfl (iadd (by omega))) ?_
    refine RW.op rfl rfl (eff_assign (v := .t _) rfl rfl rfl) ?_
    refine RW.nil ?_
    refine ⟨_, ?_, _, weak_keep (n := 21) (fr' := [(1, .ptr 1 0 0 0), (3, .t (encI _)), (4, .t (encI ((i + 1) : Nat)))]) (st' := [(1, some ⟨4, 29, 0, [.t (encS S)]⟩)]) ⟨rfl, rfl, rfl, rfl, rfl, rfl, trivial⟩ ⟨rfl, okE_one rfl, trivial⟩, i + 1, _, (by omega), (by rw [used_step (by omega), ← ha]), (by omega), (by omega), rfl, rfl⟩
    omega
  · try simp only [decide_eq_true_eq, decide_eq_false_iff_not, beq_iff_eq, bne_iff_ne, bne_eq_false_iff_eq, beq_eq_false_iff_ne, Bool.not_eq_true, Bool.not_eq_false, Bool.not_eq_true', Bool.not_eq_false', ne_eq] at h1
    refine awp_exit ?_
    refine awp_seq ?_
    refine awp_rw rfl ?_
    refine RW.op rfl rfl (eff_move (v := .t _) rfl rfl rfl) ?_
    refine RW.op rfl rfl (eff_assign (v := .t _) rfl rfl rfl) ?_
    refine RW.nil ?_
    refine awp_ret ?_
    have hi2 : i = S.bundles.length := by omega
    subst hi2
    rw [List.take_length] at ha
    subst ha
    exact ⟨Or.inr rfl, [_], ⟨.tmp (.t _), trivial⟩, .refl _⟩

theorem count_ret (S : Store) (n : Int) (hS : SOK S) : Ret Try.prog 22 [encS S, encI n] (encI (countB S.bundles n)) := by
  refine ret_of_awp Try.func22 rfl (Nat.le_of_ble_eq_true rfl) ?_
  refine awp_seq ?_
  refine awp_rw rfl ?_
  refine RW.new rfl rfl (eff_boxK (v := .t _) (k := 4) (id := 2) rfl rfl rfl rfl rfl rfl) ?_
  refine RW.op rfl rfl (eff_assign (v := .t _) rfl rfl rfl) ?_
  refine RW.nil ?_
  refine awp_seq ?_
  refine awp_rw rfl ?_
  refine RW.op rfl rfl (eff_assign (v := .t _) rfl rfl rfl) ?_
  refine RW.nil ?_
  refine awp_seq ?_
  refine awp_seq ?_
  refine awp_rw rfl ?_
  refine RW.op rfl rfl (eff_assign (v := .t _) rfl rfl rfl) ?_
  refine RW.nil ?_
  refine awp_block ?_
  refine awp_loopW (fun m s => ∃ (i : Nat) (acc : Int), (i ≤ S.bundles.length) ∧ (acc = countB (S.bundles.take i) n) ∧ (0 ≤ acc) ∧ (acc ≤ i) ∧ m = S.bundles.length - i ∧ s = ⟨25, [(1, .t (encI n)), (2, .ptr 2 0 0 0), (5, .t (encI acc)), (6, .t (encI (i : Nat)))], [(2, some ⟨4, 29, 0, [.t (encS S)]⟩)]⟩) (_) (⟨_, weak_keep (n := 25) (fr' := [(1, .t (encI n)), (2, .ptr 2 0 0 0), (5, .t (encI 0)), (6, .t (encI (0 : Nat)))]) (st' := [(2, some ⟨4, 29, 0, [.t (encS S)]⟩)]) ⟨rfl, rfl, rfl, rfl, rfl, rfl, rfl, rfl, trivial⟩ ⟨rfl, okE_one rfl, trivial⟩, 0, 0, (by omega), (by rfl), (by omega), (by omega), rfl, rfl⟩) ?_
  rintro m s ⟨i, acc, hi, ha, h0, h1, rfl, rfl⟩
  have hL := hS.1
  refine awp_seq ?_
  refine awp_seq ?_
  refine awp_rw rfl ?_
  refine RW.op rfl rfl (eff_move (v := .t _) rfl rfl rfl) ?_
  refine RW.op rfl rfl (eff_fieldAddr rfl rfl tf29_1 (by decide) rfl rfl rfl (Nat.le_of_ble_eq_true rfl)) ?_
  refine RW.op rfl rfl (eff_load (y := .t _) rfl rfl ti26 rfl (.one rfl rfl rfl rfl)) ?_
  refine RW.op rfl rfl (eff_lenM rfl rfl te26 rfl) ?_
  refine RW.op rfl rfl (eff_iop rfl rfl rfl rfl rfl) ?_
  refine RW.nil ?_
  refine awp_cond rfl (fun h1 => ?_) (fun h1 => ?_)
  · try simp only [decide_eq_true_eq, decide_eq_false_iff_not, beq_iff_eq, bne_iff_ne, bne_eq_false_iff_eq, beq_eq_false_iff_ne, Bool.not_eq_true, Bool.not_eq_false, Bool.not_eq_true', Bool.not_eq_false', ne_eq] at h1
    refine awp_skip ?_
    refine awp_seq ?_
    refine awp_block ?_
    refine awp_seq ?_
    refine awp_rw rfl ?_
    refine RW.op rfl rfl (eff_fieldAddr rfl rfl tf29_1 (by decide) rfl rfl rfl (Nat.le_of_ble_eq_true rfl)) ?_
    refine RW.op rfl rfl (eff_load (y := .t _) rfl rfl ti26 rfl (.one rfl rfl rfl rfl)) ?_
    refine RW.op rfl rfl (eff_move (v := .t _) rfl rfl rfl) ?_
    refine RW.op rfl rfl (eff_indexM rfl rfl te26 rfl rfl rfl (by first | assumption | exact List.getElem?_eq_getElem (by omega)) rfl (by decide)) ?_
    refine RW.op rfl rfl (eff_fieldAddrT rfl rfl tf38_0 (by decide) rfl) ?_
    refine RW.op rfl rfl (eff_loadT1 rfl rfl ti3 rfl rfl) ?_
    refine RW.op rfl rfl (eff_move (v := .t _) rfl rfl rfl) ?_
    refine RW.op rfl rfl (eff_iop rfl rfl rfl rfl rfl) ?_
    refine RW.nil ?_
    refine awp_cond rfl (fun h2 => ?_) (fun h2 => ?_)
    · try simp only [decide_eq_true_eq, decide_eq_false_iff_not, beq_iff_eq, bne_iff_ne, bne_eq_false_iff_eq, beq_eq_false_iff_ne, Bool.not_eq_true, Bool.not_eq_false, Bool.not_eq_true', Bool.not_eq_false', ne_eq] at h2
      refine awp_rw rfl ?_
      refine RW.op rfl rfl (eff_move (v := .t _) rfl rfl rfl) ?_
      refine RW.op rfl rfl (eff_iop rfl rfl rfl rfl (iadd (by omega))) ?_
      refine RW.op rfl rfl (eff_assign (v := .t _) rfl rfl rfl) ?_
      refine RW.nil ?_
      refine awp_rw rfl ?_
      refine RW.op rfl rfl (eff_move (v := .t _) rfl rfl rfl) ?_
      refine RW.op rfl rfl (eff_iop rfl rfl rfl rfl (iadd (by omega))) ?_
      refine RW.op rfl rfl (eff_assign (v := .t _) rfl rfl rfl) ?_
      refine RW.nil ?_
      refine ⟨_, ?_, _, weak_keep (n := 25) (fr' := [(1, .t (encI n)), (2, .ptr 2 0 0 0), (5, .t (encI _)), (6, .t (encI ((i + 1) : Nat)))]) (st' := [(2, some ⟨4, 29, 0, [.t (encS S)]⟩)]) ⟨rfl, rfl, rfl, rfl, rfl, rfl, rfl, rfl, trivial⟩ ⟨rfl, okE_one rfl, trivial⟩, i + 1, _, (by omega), (by rw [ha]; unfold countB; rw [take_succ_get (by omega), List.filter_append]; simp [h2]), (by omega), (by omega), rfl, rfl⟩
      omega
    · try simp only [decide_eq_true_eq, decide_eq_false_iff_not, beq_iff_eq, bne_iff_ne, bne_eq_false_iff_eq, beq_eq_false_iff_ne, Bool.not_eq_true, Bool.not_eq_false, Bool.not_eq_true', Bool.not_eq_false', ne_eq] at h2
      refine awp_skip ?_
      refine awp_rw rfl ?_
      refine RW.op rfl rfl (eff_move (v := .t _) rfl rfl rfl) ?_
      refine RW.op rfl rfl (eff_iop rfl rfl rfl rfl (iadd (by omega))) ?_
      refine RW.op rfl rfl (eff_assign (v := .t _) rfl rfl rfl) ?_
      refine RW.nil ?_
      refine ⟨_, ?_, _, weak_keep (n := 25) (fr' := [(1, .t (encI n)), (2, .ptr 2 0 0 0), (5, .t (encI _)), (6, .t (encI ((i + 1) : Nat)))]) (st' := [(2, some ⟨4, 29, 0, [.t (encS S)]⟩)]) ⟨rfl, rfl, rfl, rfl, rfl, rfl, rfl, rfl, trivial⟩ ⟨rfl, okE_one rfl, trivial⟩, i + 1, _, (by omega), (by rw [ha]; unfold countB; rw [take_succ_get (by omega), List.filter_append]; simp [h2]), (by omega), (by omega), rfl, rfl⟩
      omega
  · try simp only [decide_eq_true_eq, decide_eq_false_iff_not, beq_iff_eq, bne_iff_ne, bne_eq_false_iff_eq, beq_eq_false_iff_ne, Bool.not_eq_true, Bool.not_eq_false, Bool.not_eq_true', Bool.not_eq_false', ne_eq] at h1
    refine awp_exit ?_
    refine awp_seq ?_
    refine awp_rw rfl ?_
    refine RW.op rfl rfl (eff_move (v := .t _) rfl rfl rfl) ?_
    refine RW.op rfl rfl (eff_assign (v := .t _) rfl rfl rfl) ?_
    refine RW.nil ?_
    refine awp_ret ?_
    have hi2 : i = S.bundles.length := by omega
    subst hi2
    rw [List.take_length] at ha
    subst ha
    exact ⟨Or.inr rfl, [_], ⟨.tmp (.t _), trivial⟩, .refl _⟩

theorem has_ret (l : List Int) (n : Int) (hl : l.length ≤ 1000000) : Ret Try.prog 25 [encIs l, encI n] (.bool (decide (n ∈ l))) := by
  refine ret_of_awp Try.func25 rfl (Nat.le_of_ble_eq_true rfl) ?_
  refine awp_seq ?_
  refine awp_rw rfl ?_
  refine RW.op rfl rfl (eff_assign (v := .t _) rfl rfl rfl) ?_
  refine RW.nil ?_
  refine awp_seq ?_
  refine awp_seq ?_
  refine awp_rw rfl ?_
  refine RW.op rfl rfl (eff_assign (v := .t _) rfl rfl rfl) ?_
  refine RW.nil ?_
  refine awp_block ?_
  refine awp_loopW (fun m s => ∃ (i : Nat), (i ≤ l.length) ∧ (n ∉ l.take i) ∧ m = l.length - i ∧ s = ⟨18, [(0, .t (encIs l)), (1, .t (encI n)), (5, .t (encI (i : Nat)))], []⟩) (_) (⟨_, weak_keep (n := 18) (fr' := [(0, .t (encIs l)), (1, .t (encI n)), (5, .t (encI (0 : Nat)))]) (st' := []) ⟨rfl, rfl, rfl, rfl, rfl, rfl, trivial⟩ trivial, 0, (by omega), (by simp), rfl, rfl⟩) ?_
  rintro m s ⟨i, hi, ha, rfl, rfl⟩
  refine awp_seq ?_
  refine awp_seq ?_
  refine awp_rw rfl ?_
  refine RW.op rfl rfl (eff_move (v := .t _) rfl rfl rfl) ?_
  refine RW.op rfl rfl (eff_move (v := .t _) rfl rfl rfl) ?_
  refine RW.op rfl rfl (eff_lenM rfl rfl te27 rfl) ?_
  refine RW.op rfl rfl (eff_iop rfl rfl rfl rfl rfl) ?_
  refine RW.nil ?_
  refine awp_cond rfl (fun h1 => ?_) (fun h1 => ?_)
  · try simp only [decide_eq_true_eq, decide_eq_false_iff_not, beq_iff_eq, bne_iff_ne, bne_eq_false_iff_eq, beq_eq_false_iff_ne, Bool.not_eq_true, Bool.not_eq_false, Bool.not_eq_true', Bool.not_eq_false', ne_eq] at h1
    refine awp_skip ?_
    refine awp_seq ?_
    refine awp_block ?_
    refine awp_seq ?_
    refine awp_rw rfl ?_
    refine RW.op rfl rfl (eff_move (v := .t _) rfl rfl rfl) ?_
    refine RW.op rfl rfl (eff_move (v := .t _) rfl rfl rfl) ?_
    refine RW.op rfl rfl (eff_indexM rfl rfl te27 rfl rfl rfl (by first | assumption | exact List.getElem?_eq_getElem (by omega)) rfl (by decide)) ?_
    refine RW.op rfl rfl (eff_loadW1 rfl rfl ti3 rfl rfl) ?_
    refine RW.op rfl rfl (eff_move (v := .t _) rfl rfl rfl) ?_
    refine RW.op rfl rfl (eff_iop rfl rfl rfl rfl rfl) ?_
    refine RW.nil ?_
    refine awp_cond rfl (fun h2 => ?_) (fun h2 => ?_)
    · try simp only [decide_eq_true_eq, decide_eq_false_iff_not, beq_iff_eq, bne_iff_ne, bne_eq_false_iff_eq, beq_eq_false_iff_ne, Bool.not_eq_true, Bool.not_eq_false, Bool.not_eq_true', Bool.not_eq_false', ne_eq] at h2
      refine awp_seq ?_
      refine awp_rw rfl ?_
      refine RW.op rfl rfl (eff_assign (v := .t _) rfl rfl rfl) ?_
      refine RW.nil ?_
      refine awp_ret ?_
      rw [show decide (n ∈ l) = true from decide_eq_true (h2 ▸ List.getElem_mem _)]
      exact ⟨Or.inr rfl, [_], ⟨.tmp (.t _), trivial⟩, .refl _⟩
    · try simp only [decide_eq_true_eq, decide_eq_false_iff_not, beq_iff_eq, bne_iff_ne, bne_eq_false_iff_eq, beq_eq_false_iff_ne, Bool.not_eq_true, Bool.not_eq_false, Bool.not_eq_true', Bool.not_eq_false', ne_eq] at h2
      refine awp_skip ?_
      refine awp_rw rfl ?_
      refine RW.op rfl rfl (eff_move (v := .t _) rfl rfl rfl) ?_
      refine RW.op rfl rfl (eff_iop rfl rfl rfl rfl (iadd (by omega))) ?_
      refine RW.op rfl rfl (eff_assign (v := .t _) rfl rfl rfl) ?_
      refine RW.nil ?_
      refine ⟨_, ?_, _, weak_keep (n := 18) (fr' := [(0, .t (encIs l)), (1, .t (encI n)), (5, .t (encI ((i + 1) : Nat)))]) (st' := []) ⟨rfl, rfl, rfl, rfl, rfl, rfl, trivial⟩ trivial, i + 1, (by omega), (by rw [mem_take_succ (by omega)]; exact fun hm => hm.elim ha (fun e => h2 e.symm)), rfl, rfl⟩
      omega
  · try simp only [decide_eq_true_eq, decide_eq_false_iff_not, beq_iff_eq, bne_iff_ne, bne_eq_false_iff_eq, beq_eq_false_iff_ne, Bool.not_eq_true, Bool.not_eq_false, Bool.not_eq_true', Bool.not_eq_false', ne_eq] at h1
    refine awp_exit ?_
    refine awp_seq ?_
    refine awp_rw rfl ?_
    refine RW.op rfl rfl (eff_assign (v := .t _) rfl rfl rfl) ?_
    refine RW.nil ?_
    refine awp_ret ?_
    have hi2 : i = l.length := by omega
    subst hi2
    rw [List.take_length] at ha
    rw [show decide (n ∈ l) = false from decide_eq_false ha]
    exact ⟨Or.inr rfl, [_], ⟨.tmp (.t _), trivial⟩, .refl _⟩

theorem find_ret (S : Store) (n : Int) (hS : SOK S) : Ret Try.prog 42 [encS S, encI n] (encI (findIx S.bundles n)) := by
  refine ret_of_awp Try.func42 rfl (Nat.le_of_ble_eq_true rfl) ?_
  refine awp_seq ?_
  refine awp_rw rfl ?_
  refine RW.new rfl rfl (eff_boxK (v := .t _) (k := 4) (id := 2) rfl rfl rfl rfl rfl rfl) ?_
  refine RW.op rfl rfl (eff_assign (v := .t _) rfl rfl rfl) ?_
  refine RW.nil ?_
  refine awp_seq ?_
  refine awp_seq ?_
  refine awp_rw rfl ?_
  refine RW.op rfl rfl (eff_assign (v := .t _) rfl rfl rfl) ?_
  refine RW.nil ?_
  refine awp_block ?_
  refine awp_loopW (fun m s => ∃ (i : Nat), (i ≤ S.bundles.length) ∧ (∀ b, b ∈ S.bundles.take i → b.id ≠ n) ∧ m = S.bundles.length - i ∧ s = ⟨22, [(1, .t (encI n)), (2, .ptr 2 0 0 0), (5, .t (encI (i : Nat)))], [(2, some ⟨4, 29, 0, [.t (encS S)]⟩)]⟩) (_) (⟨_, weak_keep (n := 22) (fr' := [(1, .t (encI n)), (2, .ptr 2 0 0 0), (5, .t (encI (0 : Nat)))]) (st' := [(2, some ⟨4, 29, 0, [.t (encS S)]⟩)]) ⟨rfl, rfl, rfl, rfl, rfl, rfl, trivial⟩ ⟨rfl, okE_one rfl, trivial⟩, 0, (by omega), (by simp), rfl, rfl⟩) ?_
  rintro m s ⟨i, hi, ha, rfl, rfl⟩
  have hL := hS.1
  refine awp_seq ?_
  refine awp_seq ?_
  refine awp_rw rfl ?_
  refine RW.op rfl rfl (eff_move (v := .t _) rfl rfl rfl) ?_
  refine RW.op rfl rfl (eff_fieldAddr rfl rfl tf29_1 (by decide) rfl rfl rfl (Nat.le_of_ble_eq_true rfl)) ?_
  refine RW.op rfl rfl (eff_load (y := .t _) rfl rfl ti26 rfl (.one rfl rfl rfl rfl)) ?_
  refine RW.op rfl rfl (eff_lenM rfl rfl te26 rfl) ?_
  refine RW.op rfl rfl (eff_iop rfl rfl rfl rfl rfl) ?_
  refine RW.nil ?_
  refine awp_cond rfl (fun h1 => ?_) (fun h1 => ?_)
  · try simp only [decide_eq_true_eq, decide_eq_false_iff_not, beq_iff_eq, bne_iff_ne, bne_eq_false_iff_eq, beq_eq_false_iff_ne, Bool.not_eq_true, Bool.not_eq_false, Bool.not_eq_true', Bool.not_eq_false', ne_eq] at h1
    refine awp_skip ?_
    refine awp_seq ?_
    refine awp_block ?_
    refine awp_seq ?_
    refine awp_rw rfl ?_
    refine RW.op rfl rfl (eff_fieldAddr rfl rfl tf29_1 (by decide) rfl rfl rfl (Nat.le_of_ble_eq_true rfl)) ?_
    refine RW.op rfl rfl (eff_load (y := .t _) rfl rfl ti26 rfl (.one rfl rfl rfl rfl)) ?_
    refine RW.op rfl rfl (eff_move (v := .t _) rfl rfl rfl) ?_
    refine RW.op rfl rfl (eff_indexM rfl rfl te26 rfl rfl rfl (by first | assumption | exact List.getElem?_eq_getElem (by omega)) rfl (by decide)) ?_
    refine RW.op rfl rfl (eff_fieldAddrT rfl rfl tf38_0 (by decide) rfl) ?_
    refine RW.op rfl rfl (eff_loadT1 rfl rfl ti3 rfl rfl) ?_
    refine RW.op rfl rfl (eff_move (v := .t _) rfl rfl rfl) ?_
    refine RW.op rfl rfl (eff_iop rfl rfl rfl rfl rfl) ?_
    refine RW.nil ?_
    refine awp_cond rfl (fun h2 => ?_) (fun h2 => ?_)
    · try simp only [decide_eq_true_eq, decide_eq_false_iff_not, beq_iff_eq, bne_iff_ne, bne_eq_false_iff_eq, beq_eq_false_iff_ne, Bool.not_eq_true, Bool.not_eq_false, Bool.not_eq_true', Bool.not_eq_false', ne_eq] at h2
      refine awp_seq ?_
      refine awp_rw rfl ?_
      refine RW.op rfl rfl (eff_move (v := .t _) rfl rfl rfl) ?_
      refine RW.op rfl rfl (eff_assign (v := .t _) rfl rfl rfl) ?_
      refine RW.nil ?_
      refine awp_ret ?_
      rw [findIx_hit (by omega) ha h2]
      exact ⟨Or.inr rfl, [_], ⟨.tmp (.t _), trivial⟩, .refl _⟩
    · try simp only [decide_eq_true_eq, decide_eq_false_iff_not, beq_iff_eq, bne_iff_ne, bne_eq_false_iff_eq, beq_eq_false_iff_ne, Bool.not_eq_true, Bool.not_eq_false, Bool.not_eq_true', Bool.not_eq_false', ne_eq] at h2
      refine awp_skip ?_
      refine awp_rw rfl ?_
      refine RW.op rfl rfl (eff_move (v := .t _) rfl rfl rfl) ?_
      refine RW.op rfl rfl (eff_iop rfl rfl rfl rfl (iadd (by omega))) ?_
      refine RW.op rfl rfl (eff_assign (v := .t _) rfl rfl rfl) ?_
      refine RW.nil ?_
      refine ⟨_, ?_, _, weak_keep (n := 22) (fr' := [(1, .t (encI n)), (2, .ptr 2 0 0 0), (5, .t (encI ((i + 1) : Nat)))]) (st' := [(2, some ⟨4, 29, 0, [.t (encS S)]⟩)]) ⟨rfl, rfl, rfl, rfl, rfl, rfl, trivial⟩ ⟨rfl, okE_one rfl, trivial⟩, i + 1, (by omega), (by intro b hb; rcases (mem_take_succ (by omega)).1 hb with h | h; exact ha b h; rw [h]; exact h2), rfl, rfl⟩
      omega
  · try simp only [decide_eq_true_eq, decide_eq_false_iff_not, beq_iff_eq, bne_iff_ne, bne_eq_false_iff_eq, beq_eq_false_iff_ne, Bool.not_eq_true, Bool.not_eq_false, Bool.not_eq_true', Bool.not_eq_false', ne_eq] at h1
    refine awp_exit ?_
    refine awp_seq ?_
    refine awp_rw rfl ?_
    refine RW.op rfl rfl (eff_assign (v := .t _) rfl rfl rfl) ?_
    refine RW.nil ?_
    refine awp_ret ?_
    have hi2 : i = S.bundles.length := by omega
    subst hi2
    rw [List.take_length] at ha
    rw [findIx_none ha]
    exact ⟨Or.inr rfl, [_], ⟨.tmp (.t _), trivial⟩, .refl _⟩

theorem short_ret (l : List Opn) (n : Int) (hl : l.length ≤ 9223372036854775807) : Ret Try.prog 9 [.sl (l.map encO) false, encI n] (.bool (decide ((∀ o, o ∈ l → o.bundle.data.length ≤ 300) ∧ (l.length : Int) ≤ n))) := by
  refine ret_of_awp Try.func9 rfl (Nat.le_of_ble_eq_true rfl) ?_
  refine awp_seq ?_
  refine awp_rw rfl ?_
  refine RW.op rfl rfl (eff_assign (v := .t _) rfl rfl rfl) ?_
  refine RW.nil ?_
  refine awp_seq ?_
  refine awp_seq ?_
  refine awp_rw rfl ?_
  refine RW.op rfl rfl (eff_assign (v := .t _) rfl rfl rfl) ?_
  refine RW.nil ?_
  refine awp_block ?_
  refine awp_loopW (fun m s => ∃ (i : Nat), (i ≤ l.length) ∧ (∀ o, o ∈ l.take i → o.bundle.data.length ≤ 300) ∧ m = l.length - i ∧ s = ⟨25, [(0, .t (.sl (l.map encO) false)), (1, .t (encI n)), (5, .t (encI (i : Nat)))], []⟩) (_) (⟨_, weak_keep (n := 25) (fr' := [(0, .t (.sl (l.map encO) false)), (1, .t (encI n)), (5, .t (encI (0 : Nat)))]) (st' := []) ⟨rfl, rfl, rfl, rfl, rfl, rfl, trivial⟩ trivial, 0, (by omega), (by simp), rfl, rfl⟩) ?_
  rintro m s ⟨i, hi, ha, rfl, rfl⟩
  refine awp_seq ?_
  refine awp_seq ?_
  refine awp_rw rfl ?_
  refine RW.op rfl rfl (eff_move (v := .t _) rfl rfl rfl) ?_
  refine RW.op rfl rfl (eff_move (v := .t _) rfl rfl rfl) ?_
  refine RW.op rfl rfl (eff_lenM rfl rfl te23 rfl) ?_
  refine RW.op rfl rfl (eff_iop rfl rfl rfl rfl rfl) ?_
  refine RW.nil ?_
  refine awp_cond rfl (fun h1 => ?_) (fun h1 => ?_)
  · try simp only [decide_eq_true_eq, decide_eq_false_iff_not, beq_iff_eq, bne_iff_ne, bne_eq_false_iff_eq, beq_eq_false_iff_ne, Bool.not_eq_true, Bool.not_eq_false, Bool.not_eq_true', Bool.not_eq_false', ne_eq] at h1
    refine awp_skip ?_
    refine awp_seq ?_
    refine awp_block ?_
    refine awp_seq ?_
    refine awp_rw rfl ?_
    refine RW.op rfl rfl (eff_move (v := .t _) rfl rfl rfl) ?_
    refine RW.op rfl rfl (eff_move (v := .t _) rfl rfl rfl) ?_
    refine RW.op rfl rfl (eff_indexM rfl rfl te23 rfl rfl rfl (by first | assumption | exact List.getElem?_eq_getElem (by omega)) rfl (by decide)) ?_
    refine RW.op rfl rfl (eff_fieldAddrT rfl rfl tf40_3 (by decide) rfl) ?_
    refine RW.op rfl rfl (eff_fieldAddrT rfl rfl tf38_3 (by decide) rfl) ?_
    refine RW.op rfl rfl (eff_fieldAddrT rfl rfl tf36_4 (by decide) rfl) ?_
    refine RW.op rfl rfl (eff_loadT1 rfl rfl ti34 rfl rfl) ?_
    refine RW.op rfl rfl (eff_lenM rfl rfl te34 rfl) ?_
    refine RW.op rfl rfl (eff_iop rfl rfl rfl rfl rfl) ?_
    refine RW.nil ?_
    refine awp_cond rfl (fun h2 => ?_) (fun h2 => ?_)
    · try simp only [decide_eq_true_eq, decide_eq_false_iff_not, beq_iff_eq, bne_iff_ne, bne_eq_false_iff_eq, beq_eq_false_iff_ne, Bool.not_eq_true, Bool.not_eq_false, Bool.not_eq_true', Bool.not_eq_false', ne_eq] at h2
      refine awp_seq ?_
      refine awp_rw rfl ?_
      refine RW.op rfl rfl (eff_assign (v := .t _) rfl rfl rfl) ?_
      refine RW.nil ?_
      refine awp_ret ?_
      rw [show decide ((∀ o, o ∈ l → o.bundle.data.length ≤ 300) ∧ (l.length : Int) ≤ n) = false from decide_eq_false (fun hh => by have := hh.1 _ (List.getElem_mem (show i < l.length by omega)); omega)]
      exact ⟨Or.inr rfl, [_], ⟨.tmp (.t _), trivial⟩, .refl _⟩
    · try simp only [decide_eq_true_eq, decide_eq_false_iff_not, beq_iff_eq, bne_iff_ne, bne_eq_false_iff_eq, beq_eq_false_iff_ne, Bool.not_eq_true, Bool.not_eq_false, Bool.not_eq_true', Bool.not_eq_false', ne_eq] at h2
      refine awp_skip ?_
      refine awp_rw rfl ?_
      refine RW.op rfl rfl (eff_move (v := .t _) rfl rfl rfl) ?_
      refine RW.op rfl rfl (eff_iop rfl rfl rfl rfl (iadd (by omega))) ?_
      refine RW.op rfl rfl (eff_assign (v := .t _) rfl rfl rfl) ?_
      refine RW.nil ?_
      refine ⟨_, ?_, _, weak_keep (n := 25) (fr' := [(0, .t (.sl (l.map encO) false)), (1, .t (encI n)), (5, .t (encI ((i + 1) : Nat)))]) (st' := []) ⟨rfl, rfl, rfl, rfl, rfl, rfl, trivial⟩ trivial, i + 1, (by omega), (by intro b hb; rcases (mem_take_succ (by omega)).1 hb with h | h; exact ha b h; rw [h]; omega), rfl, rfl⟩
      omega
  · try simp only [decide_eq_true_eq, decide_eq_false_iff_not, beq_iff_eq, bne_iff_ne, bne_eq_false_iff_eq, beq_eq_false_iff_ne, Bool.not_eq_true, Bool.not_eq_false, Bool.not_eq_true', Bool.not_eq_false', ne_eq] at h1
    refine awp_exit ?_
    refine awp_seq ?_
    refine awp_rw rfl ?_
    refine RW.op rfl rfl (eff_move (v := .t _) rfl rfl rfl) ?_
    refine RW.op rfl rfl (eff_lenM rfl rfl te23 rfl) ?_
    refine RW.op rfl rfl (eff_move (v := .t _) rfl rfl rfl) ?_
    refine RW.op rfl rfl (eff_iop rfl rfl rfl rfl rfl) ?_
    refine RW.op rfl rfl (eff_assign (v := .t _) rfl rfl rfl) ?_
    refine RW.nil ?_
    refine awp_ret ?_
    have hi2 : i = l.length := by omega
    subst hi2
    rw [List.take_length] at ha
    have e : decide ((∀ o, o ∈ l → o.bundle.data.length ≤ 300) ∧ (l.length : Int) ≤ n) = decide ((l.length : Int) ≤ n) := decide_eq_decide.2 ⟨fun h => h.2, fun h => ⟨ha, h⟩⟩
    rw [e]
    exact ⟨Or.inr rfl, [_], ⟨.tmp (.t _), trivial⟩, .refl _⟩

theorem incr_ret (l : List Int) (hl : l.length ≤ 1000000) : Ret Try.prog 41 [encIs l] (.bool (decide (l.Pairwise (· < ·)))) := by
  refine ret_of_awp Try.func41 rfl (Nat.le_of_ble_eq_true rfl) ?_
  refine awp_seq ?_
  refine awp_rw rfl ?_
  refine RW.op rfl rfl (eff_assign (v := .t _) rfl rfl rfl) ?_
  refine RW.nil ?_
  refine awp_seq ?_
  refine awp_seq ?_
  refine awp_rw rfl ?_
  refine RW.op rfl rfl (eff_assign (v := .t _) rfl rfl rfl) ?_
  refine RW.nil ?_
  refine awp_block ?_
  refine awp_loopW (fun m s => ∃ (i : Nat), (i ≤ l.length ∨ i = 1) ∧ (0 < i) ∧ ((l.take i).Pairwise (· < ·)) ∧ m = l.length + 1 - i ∧ s = ⟨20, [(0, .t (encIs l)), (3, .t (encI (i : Nat)))], []⟩) (_) (⟨_, weak_keep (n := 20) (fr' := [(0, .t (encIs l)), (3, .t (encI (1 : Nat)))]) (st' := []) ⟨rfl, rfl, rfl, rfl, trivial⟩ trivial, 1, (by omega), (by omega), (by rcases l with _ | ⟨a, l⟩ <;> simp), rfl, rfl⟩) ?_
  rintro m s ⟨i, hi, h0, ha, rfl, rfl⟩
  refine awp_seq ?_
  refine awp_seq ?_
  refine awp_rw rfl ?_
  refine RW.op rfl rfl (eff_move (v := .t _) rfl rfl rfl) ?_
  refine RW.op rfl rfl (eff_move (v := .t _) rfl rfl rfl) ?_
  refine RW.op rfl rfl (eff_lenM rfl rfl te27 rfl) ?_
  refine RW.op rfl rfl (eff_iop rfl rfl rfl rfl rfl) ?_
  refine RW.nil ?_
  refine awp_cond rfl (fun h1 => ?_) (fun h1 => ?_)
  · try simp only [decide_eq_true_eq, decide_eq_false_iff_not, beq_iff_eq, bne_iff_ne, bne_eq_false_iff_eq, beq_eq_false_iff_ne, Bool.not_eq_true, Bool.not_eq_false, Bool.not_eq_true', Bool.not_eq_false', ne_eq] at h1
    refine awp_skip ?_
    refine awp_seq ?_
    refine awp_block ?_
    refine awp_seq ?_
    refine awp_rd [(some 10, []), (some 11, []), (some 12, []), (some 13, []), (some 14, []), (some 15, []), (some 16, []), (some 17, []), (some 18, []), (some 19, [])] [[], [], [1], [0, 1, 2], [0, 1, 2, 3], [], [], [5, 6], [5, 6, 7], [0, 1, 2, 3, 4, 5, 6, 7, 8]] tm rfl rfl rfl rfl ?_
    refine RD.op rfl rfl rfl (eff_move (v := .t _) rfl rfl rfl) ?_
    refine RD.op rfl rfl rfl (eff_move (v := .t _) rfl rfl rfl) ?_
    refine RD.op rfl rfl rfl (eff_iop rfl rfl rfl rfl (isub (by omega))) ?_
    refine RD.op rfl rfl rfl (eff_indexM (i := i - 1) rfl rfl te27 rfl rfl (by first | rfl | omega) (by exact List.getElem?_eq_getElem (by omega)) rfl (by decide)) ?_
    refine RD.op rfl rfl rfl (eff_loadW1 rfl rfl ti3 rfl rfl) ?_
    refine RD.op rfl rfl rfl (eff_move (v := .t _) rfl rfl rfl) ?_
    refine RD.op rfl rfl rfl (eff_move (v := .t _) rfl rfl rfl) ?_
    refine RD.op rfl rfl rfl (eff_indexM rfl rfl te27 rfl rfl rfl (by first | assumption | exact List.getElem?_eq_getElem (by omega)) rfl (by decide)) ?_
    refine RD.op rfl rfl rfl (eff_loadW1 rfl rfl ti3 rfl rfl) ?_
    refine RD.op rfl rfl rfl (eff_iop rfl rfl rfl rfl rfl) ?_
    refine RD.nil ?_
    refine awp_cond rfl (fun h2 => ?_) (fun h2 => ?_)
    · try simp only [decide_eq_true_eq, decide_eq_false_iff_not, beq_iff_eq, bne_iff_ne, bne_eq_false_iff_eq, beq_eq_false_iff_ne, Bool.not_eq_true, Bool.not_eq_false, Bool.not_eq_true', Bool.not_eq_false', ne_eq] at h2
      refine awp_seq ?_
      refine awp_rw rfl ?_
      refine RW.op rfl rfl (eff_assign (v := .t _) rfl rfl rfl) ?_
      refine RW.nil ?_
      refine awp_ret ?_
      rw [show decide (l.Pairwise (· < ·)) = false from decide_eq_false (fun hp => by have := List.pairwise_iff_getElem.1 hp (i - 1) i (by omega) (by omega) (by omega); omega)]
      exact ⟨Or.inr rfl, [_], ⟨.tmp (.t _), trivial⟩, .refl _⟩
    · try simp only [decide_eq_true_eq, decide_eq_false_iff_not, beq_iff_eq, bne_iff_ne, bne_eq_false_iff_eq, beq_eq_false_iff_ne, Bool.not_eq_true, Bool.not_eq_false, Bool.not_eq_true', Bool.not_eq_false', ne_eq] at h2
      refine awp_skip ?_
      refine awp_rw rfl ?_
      refine RW.op rfl rfl (eff_move (v := .t _) rfl rfl rfl) ?_
      refine RW.op rfl rfl (eff_iop rfl rfl rfl rfl (iadd (by omega))) ?_
      refine RW.op rfl rfl (eff_assign (v := .t _) rfl rfl rfl) ?_
      refine RW.nil ?_
      refine ⟨_, ?_, _, weak_keep (n := 20) (fr' := [(0, .t (encIs l)), (3, .t (encI ((i + 1) : Nat)))]) (st' := []) ⟨rfl, rfl, rfl, rfl, trivial⟩ trivial, i + 1, (by omega), (by omega), (by exact incr_step h0 (by omega) ha (by omega)), rfl, rfl⟩
      omega
  · try simp only [decide_eq_true_eq, decide_eq_false_iff_not, beq_iff_eq, bne_iff_ne, bne_eq_false_iff_eq, beq_eq_false_iff_ne, Bool.not_eq_true, Bool.not_eq_false, Bool.not_eq_true', Bool.not_eq_false', ne_eq] at h1
    refine awp_exit ?_
    refine awp_seq ?_
    refine awp_rw rfl ?_
    refine RW.op rfl rfl (eff_assign (v := .t _) rfl rfl rfl) ?_
    refine RW.nil ?_
    refine awp_ret ?_
    rw [List.take_of_length_le (by omega)] at ha
    rw [show decide (l.Pairwise (· < ·)) = true from decide_eq_true ha]
    exact ⟨Or.inr rfl, [_], ⟨.tmp (.t _), trivial⟩, .refl _⟩

theorem sameInts_ret (a b : List Int) (hl : a.length ≤ 1000000) : Ret Try.prog 37 [encIs a, encIs b] (.bool (decide (a = b))) := by
  refine ret_of_awp Try.func37 rfl (Nat.le_of_ble_eq_true rfl) ?_
  refine awp_seq ?_
  refine awp_rw rfl ?_
  refine RW.op rfl rfl (eff_assign (v := .t _) rfl rfl rfl) ?_
  refine RW.nil ?_
  refine awp_seq ?_
  refine awp_seq ?_
  refine awp_rw rfl ?_
  refine RW.op rfl rfl (eff_move (v := .t _) rfl rfl rfl) ?_
  refine RW.op rfl rfl (eff_lenM rfl rfl te27 rfl) ?_
  refine RW.op rfl rfl (eff_move (v := .t _) rfl rfl rfl) ?_
  refine RW.op rfl rfl (eff_lenM rfl rfl te27 rfl) ?_
  refine RW.op rfl rfl (eff_iop rfl rfl rfl rfl rfl) ?_
  refine RW.nil ?_
  refine awp_cond rfl (fun h1 => ?_) (fun h1 => ?_)
  · try simp only [decide_eq_true_eq, decide_eq_false_iff_not, beq_iff_eq, bne_iff_ne, bne_eq_false_iff_eq, beq_eq_false_iff_ne, Bool.not_eq_true, Bool.not_eq_false, Bool.not_eq_true', Bool.not_eq_false', ne_eq] at h1
    refine awp_seq ?_
    refine awp_rw rfl ?_
    refine RW.op rfl rfl (eff_assign (v := .t _) rfl rfl rfl) ?_
    refine RW.nil ?_
    refine awp_ret ?_
    rw [show decide (a = b) = false from decide_eq_false (fun e => h1 (by rw [e]))]
    exact ⟨Or.inr rfl, [_], ⟨.tmp (.t _), trivial⟩, .refl _⟩
  · try simp only [decide_eq_true_eq, decide_eq_false_iff_not, beq_iff_eq, bne_iff_ne, bne_eq_false_iff_eq, beq_eq_false_iff_ne, Bool.not_eq_true, Bool.not_eq_false, Bool.not_eq_true', Bool.not_eq_false', ne_eq] at h1
    refine awp_skip ?_
    refine awp_seq ?_
    refine awp_seq ?_
    refine awp_rw rfl ?_
    refine RW.op rfl rfl (eff_assign (v := .t _) rfl rfl rfl) ?_
    refine RW.nil ?_
    refine awp_block ?_
    refine awp_loopW (fun m s => ∃ (i : Nat), (i ≤ a.length) ∧ (a.take i = b.take i) ∧ m = a.length - i ∧ s = ⟨26, [(0, .t (encIs a)), (1, .t (encIs b)), (5, .t (encI (i : Nat)))], []⟩) (_) (⟨_, weak_keep (n := 26) (fr' := [(0, .t (encIs a)), (1, .t (encIs b)), (5, .t (encI (0 : Nat)))]) (st' := []) ⟨rfl, rfl, rfl, rfl, rfl, rfl, trivial⟩ trivial, 0, (by omega), (by simp), rfl, rfl⟩) ?_
    rintro m s ⟨i, hi, ha, rfl, rfl⟩
    refine awp_seq ?_
    refine awp_seq ?_
    refine awp_rw rfl ?_
    refine RW.op rfl rfl (eff_move (v := .t _) rfl rfl rfl) ?_
    refine RW.op rfl rfl (eff_move (v := .t _) rfl rfl rfl) ?_
    refine RW.op rfl rfl (eff_lenM rfl rfl te27 rfl) ?_
    refine RW.op rfl rfl (eff_iop rfl rfl rfl rfl rfl) ?_
    refine RW.nil ?_
    refine awp_cond rfl (fun h2 => ?_) (fun h2 => ?_)
    · try simp only [decide_eq_true_eq, decide_eq_false_iff_not, beq_iff_eq, bne_iff_ne, bne_eq_false_iff_eq, beq_eq_false_iff_ne, Bool.not_eq_true, Bool.not_eq_false, Bool.not_eq_true', Bool.not_eq_false', ne_eq] at h2
      refine awp_skip ?_
      refine awp_seq ?_
      refine awp_block ?_
      refine awp_seq ?_
      refine awp_rd [(some 17, []), (some 18, []), (some 19, []), (some 20, []), (some 21, []), (some 22, []), (some 23, []), (some 24, []), (some 25, [])] [[], [], [0, 1], [0, 1, 2], [], [], [4, 5], [4, 5, 6], [0, 1, 2, 3, 4, 5, 6, 7]] tm rfl rfl rfl rfl ?_
      refine RD.op rfl rfl rfl (eff_move (v := .t _) rfl rfl rfl) ?_
      refine RD.op rfl rfl rfl (eff_move (v := .t _) rfl rfl rfl) ?_
      refine RD.op rfl rfl rfl (eff_indexM rfl rfl te27 rfl rfl rfl (by first | assumption | exact List.getElem?_eq_getElem (by omega)) rfl (by decide)) ?_
      refine RD.op rfl rfl rfl (eff_loadW1 rfl rfl ti3 rfl rfl) ?_
      refine RD.op rfl rfl rfl (eff_move (v := .t _) rfl rfl rfl) ?_
      refine RD.op rfl rfl rfl (eff_move (v := .t _) rfl rfl rfl) ?_
      refine RD.op rfl rfl rfl (eff_indexM rfl rfl te27 rfl rfl rfl (by first | assumption | exact List.getElem?_eq_getElem (by omega)) rfl (by decide)) ?_
      refine RD.op rfl rfl rfl (eff_loadW1 rfl rfl ti3 rfl rfl) ?_
      refine RD.op rfl rfl rfl (eff_iop rfl rfl rfl rfl rfl) ?_
      refine RD.nil ?_
      refine awp_cond rfl (fun h3 => ?_) (fun h3 => ?_)
      · try simp only [decide_eq_true_eq, decide_eq_false_iff_not, beq_iff_eq, bne_iff_ne, bne_eq_false_iff_eq, beq_eq_false_iff_ne, Bool.not_eq_true, Bool.not_eq_false, Bool.not_eq_true', Bool.not_eq_false', ne_eq] at h3
        refine awp_seq ?_
        refine awp_rw rfl ?_
        refine RW.op rfl rfl (eff_assign (v := .t _) rfl rfl rfl) ?_
        refine RW.nil ?_
        refine awp_ret ?_
        rw [show decide (a = b) = false from decide_eq_false (fun e => by subst e; exact h3 rfl)]
        exact ⟨Or.inr rfl, [_], ⟨.tmp (.t _), trivial⟩, .refl _⟩
      · try simp only [decide_eq_true_eq, decide_eq_false_iff_not, beq_iff_eq, bne_iff_ne, bne_eq_false_iff_eq, beq_eq_false_iff_ne, Bool.not_eq_true, Bool.not_eq_false, Bool.not_eq_true', Bool.not_eq_false', ne_eq] at h3
        refine awp_skip ?_
        refine awp_rw rfl ?_
        refine RW.op rfl rfl (eff_move (v := .t _) rfl rfl rfl) ?_
        refine RW.op rfl rfl (eff_iop rfl rfl rfl rfl (iadd (by omega))) ?_
        refine RW.op rfl rfl (eff_assign (v := .t _) rfl rfl rfl) ?_
        refine RW.nil ?_
        refine ⟨_, ?_, _, weak_keep (n := 26) (fr' := [(0, .t (encIs a)), (1, .t (encIs b)), (5, .t (encI ((i + 1) : Nat)))]) (st' := []) ⟨rfl, rfl, rfl, rfl, rfl, rfl, trivial⟩ trivial, i + 1, (by omega), (by rw [take_succ_get (by omega), take_succ_get (by omega), ha, h3]), rfl, rfl⟩
        omega
    · try simp only [decide_eq_true_eq, decide_eq_false_iff_not, beq_iff_eq, bne_iff_ne, bne_eq_false_iff_eq, beq_eq_false_iff_ne, Bool.not_eq_true, Bool.not_eq_false, Bool.not_eq_true', Bool.not_eq_false', ne_eq] at h2
      refine awp_exit ?_
      refine awp_seq ?_
      refine awp_rw rfl ?_
      refine RW.op rfl rfl (eff_assign (v := .t _) rfl rfl rfl) ?_
      refine RW.nil ?_
      refine awp_ret ?_
      rw [List.take_of_length_le (by omega), List.take_of_length_le (by omega)] at ha
      rw [show decide (a = b) = true from decide_eq_true ha]
      exact ⟨Or.inr rfl, [_], ⟨.tmp (.t _), trivial⟩, .refl _⟩

end Go.Tv.C27

end
section
open Go Go.Tv Go.Proofs
namespace Go.Tv.C27
set_option maxRecDepth 20000
set_option linter.unusedSimpArgs false
set_option linter.unusedVariables false
theorem without_ret (l : List Int) (n : Int) (hl : l.length ≤ 1000000) : Ret Try.prog 51 [encIs l, encI n] (encIs (l.filter (· != n))) := by
  refine ret_of_awp Try.func51 rfl (Nat.le_of_ble_eq_true rfl) ?_
  refine awp_seq ?_
  refine awp_rw rfl ?_
  refine RW.op rfl rfl (eff_assign (v := .t _) rfl rfl rfl) ?_
  refine RW.nil ?_
  refine awp_seq ?_
  refine awp_rw rfl ?_
  refine RW.op rfl rfl (eff_assign (v := .t _) rfl rfl rfl) ?_
  refine RW.nil ?_
  show AWP _ _ _ _
  refine awp_weak (weak_adopt (d := 5) (id := 5) (k := 1) (ty := 3) rfl rfl) ?_
  refine awp_seq ?_
  refine awp_seq ?_
  refine awp_rw rfl ?_
  refine RW.op rfl rfl (eff_assign (v := .t _) rfl rfl rfl) ?_
  refine RW.nil ?_
  refine awp_block ?_
  refine awp_loopW (fun m s => ∃ (i : Nat) (g : Nat) (k : Nat) (els : List AV), (i ≤ l.length) ∧ (k = ((l.take i).filter (· != n)).length) ∧ (els = (((l.take i).filter (· != n)).map encI).map .t) ∧ m = l.length - i ∧ s = ⟨27, [(0, .t (encIs l)), (1, .t (encI n)), (5, .own 5 g 0 k), (6, .t (encI (i : Nat)))], [(5, some ⟨1, 3, g, els⟩)]⟩) (_) (⟨_, weak_keep (n := 27) (fr' := [(0, .t (encIs l)), (1, .t (encI n)), (5, .own 5 0 0 0), (6, .t (encI (0 : Nat)))]) (st' := [(5, some ⟨1, 3, 0, ([])⟩)]) ⟨rfl, rfl, rfl, rfl, rfl, rfl, rfl, rfl, trivial⟩ ⟨rfl, (by first | exact okE_nil | (rw [he]; exact okE_t) | (rw [he]; intro x hx; simp only [List.mem_append, List.mem_map, List.mem_singleton] at hx; rcases hx with ⟨y, _, rfl⟩ | rfl <;> rfl)), trivial⟩, 0, 0, 0, [], (by omega), (by rfl), (by rfl), rfl, rfl⟩) ?_
  rintro m s ⟨i, g, k, els, hi, hk, he, rfl, rfl⟩
  have hf := List.length_filter_le (· != n) (l.take i)
  have hlt := List.length_take_le i l
  refine awp_seq ?_
  refine awp_seq ?_
  refine awp_rw rfl ?_
  refine RW.op rfl rfl (eff_move (v := .t _) rfl rfl rfl) ?_
  refine RW.op rfl rfl (eff_move (v := .t _) rfl rfl rfl) ?_
  refine RW.op rfl rfl (eff_lenM rfl rfl te27 rfl) ?_
  refine RW.op rfl rfl (eff_iop rfl rfl rfl rfl rfl) ?_
  refine RW.nil ?_
  refine awp_cond rfl (fun h1 => ?_) (fun h1 => ?_)
  · try simp only [decide_eq_true_eq, decide_eq_false_iff_not, beq_iff_eq, bne_iff_ne, bne_eq_false_iff_eq, beq_eq_false_iff_ne, Bool.not_eq_true, Bool.not_eq_false, Bool.not_eq_true', Bool.not_eq_false', ne_eq] at h1
    refine awp_skip ?_
    refine awp_seq ?_
    refine awp_block ?_
    refine awp_seq ?_
    refine awp_rw rfl ?_
    refine RW.op rfl rfl (eff_move (v := .t _) rfl rfl rfl) ?_
    refine RW.op rfl rfl (eff_move (v := .t _) rfl rfl rfl) ?_
    refine RW.op rfl rfl (eff_indexM rfl rfl te27 rfl rfl rfl (by first | assumption | exact List.getElem?_eq_getElem (by omega)) rfl (by decide)) ?_
    refine RW.op rfl rfl (eff_loadW1 rfl rfl ti3 rfl rfl) ?_
    refine RW.op rfl rfl (eff_move (v := .t _) rfl rfl rfl) ?_
    refine RW.op rfl rfl (eff_iop rfl rfl rfl rfl rfl) ?_
    refine RW.nil ?_
    refine awp_cond rfl (fun h2 => ?_) (fun h2 => ?_)
    · try simp only [decide_eq_true_eq, decide_eq_false_iff_not, beq_iff_eq, bne_iff_ne, bne_eq_false_iff_eq, beq_eq_false_iff_ne, Bool.not_eq_true, Bool.not_eq_false, Bool.not_eq_true', Bool.not_eq_false', ne_eq] at h2
      refine awp_rw rfl ?_
      refine RW.op rfl rfl (eff_move (v := .own _ _ _ _) rfl rfl rfl) ?_
      refine RW.op rfl rfl (eff_move (v := .t _) rfl rfl rfl) ?_
      refine RW.op rfl rfl (eff_move (v := .t _) rfl rfl rfl) ?_
      refine RW.op rfl rfl (eff_indexM rfl rfl te27 rfl rfl rfl (by first | assumption | exact List.getElem?_eq_getElem (by omega)) rfl (by decide)) ?_
      refine RW.op rfl rfl (eff_loadW1 rfl rfl ti3 rfl rfl) ?_
      refine RW.new rfl rfl (eff_buildSlice1 (id := 24) (els := [_]) rfl rfl te27 tz3 rfl (by decide) rfl rfl rfl rfl) ?_
      refine RW.new rfl rfl (eff_append (id := 5) (ys := [_]) rfl rfl ta27 rfl rfl rfl (by rw [he]; simp [hk]) rfl rfl (srcOwn rfl rfl rfl rfl rfl rfl) (by simp) (by simp; omega) (by simp; omega)) ?_
      refine RW.op rfl rfl (eff_assign (v := .own _ _ _ _) rfl rfl rfl) ?_
      refine RW.nil ?_
      refine awp_rw rfl ?_
      refine RW.op rfl rfl (eff_move (v := .t _) rfl rfl rfl) ?_
      refine RW.op rfl rfl (eff_iop rfl rfl rfl rfl (iadd (by omega))) ?_
      refine RW.op rfl rfl (eff_assign (v := .t _) rfl rfl rfl) ?_
      refine RW.nil ?_
      refine ⟨_, ?_, _, weak_keep (n := 27) (fr' := [(0, .t (encIs l)), (1, .t (encI n)), (5, .own 5 _ 0 _), (6, .t (encI ((i + 1) : Nat)))]) (st' := [(5, some ⟨1, 3, _, _⟩)]) ⟨rfl, rfl, rfl, rfl, rfl, rfl, rfl, rfl, trivial⟩ ⟨rfl, (by first | exact okE_nil | (rw [he]; exact okE_t) | (rw [he]; intro x hx; simp only [List.mem_append, List.mem_map, List.mem_singleton] at hx; rcases hx with ⟨y, _, rfl⟩ | rfl <;> rfl)), trivial⟩, i + 1, _, _, _, (by omega), (by rw [take_succ_get (by omega), List.filter_append]; simp [h2, hk]), (by rw [take_succ_get (by omega), List.filter_append]; simp [h2, he, encI]), rfl, rfl⟩
      omega
    · try simp only [decide_eq_true_eq, decide_eq_false_iff_not, beq_iff_eq, bne_iff_ne, bne_eq_false_iff_eq, beq_eq_false_iff_ne, Bool.not_eq_true, Bool.not_eq_false, Bool.not_eq_true', Bool.not_eq_false', ne_eq] at h2
      refine awp_skip ?_
      refine awp_rw rfl ?_
      refine RW.op rfl rfl (eff_move (v := .t _) rfl rfl rfl) ?_
      refine RW.op rfl rfl (eff_iop rfl rfl rfl rfl (iadd (by omega))) ?_
      refine RW.op rfl rfl (eff_assign (v := .t _) rfl rfl rfl) ?_
      refine RW.nil ?_
      refine ⟨_, ?_, _, weak_keep (n := 27) (fr' := [(0, .t (encIs l)), (1, .t (encI n)), (5, .own 5 _ 0 _), (6, .t (encI ((i + 1) : Nat)))]) (st' := [(5, some ⟨1, 3, _, _⟩)]) ⟨rfl, rfl, rfl, rfl, rfl, rfl, rfl, rfl, trivial⟩ ⟨rfl, (by first | exact okE_nil | (rw [he]; exact okE_t) | (rw [he]; intro x hx; simp only [List.mem_append, List.mem_map, List.mem_singleton] at hx; rcases hx with ⟨y, _, rfl⟩ | rfl <;> rfl)), trivial⟩, i + 1, _, _, _, (by omega), (by rw [take_succ_get (by omega), List.filter_append]; simp [h2, hk]), (by rw [take_succ_get (by omega), List.filter_append]; simp [h2, he, encI]), rfl, rfl⟩
      omega
  · try simp only [decide_eq_true_eq, decide_eq_false_iff_not, beq_iff_eq, bne_iff_ne, bne_eq_false_iff_eq, beq_eq_false_iff_ne, Bool.not_eq_true, Bool.not_eq_false, Bool.not_eq_true', Bool.not_eq_false', ne_eq] at h1
    refine awp_exit ?_
    refine awp_seq ?_
    refine awp_rw rfl ?_
    refine RW.op rfl rfl (eff_move (v := .own _ _ _ _) rfl rfl rfl) ?_
    refine RW.op rfl rfl (eff_assign (v := .own _ _ _ _) rfl rfl rfl) ?_
    refine RW.nil ?_
    refine awp_ret ?_
    have hi2 : i = l.length := by omega
    subst hi2
    rw [List.take_length] at hk he
    subst hk
    subst he
    exact ⟨Or.inr rfl, [_], ⟨.tmp (Res.ownM rfl (by simp)), trivial⟩, .refl _⟩

theorem copyBundle_ret (b : Bundle) (hb : BOK b) : Ret Try.prog 40 [encB b] (encB b) := by
  unfold BOK at hb
  refine ret_of_awp Try.func40 rfl (Nat.le_of_ble_eq_true rfl) ?_
  refine awp_seq ?_
  refine awp_rw rfl ?_
  refine RW.new rfl rfl (eff_boxK (v := .t _) (k := 8) (id := 1) rfl rfl rfl rfl rfl rfl) ?_
  refine RW.new rfl rfl (eff_allocK (k := 8) (id := 2) rfl rfl tz38 rfl rfl) ?_
  refine RW.nil ?_
  refine awp_seq ?_
  refine awp_rw rfl ?_
  refine RW.new rfl rfl (eff_buildSlice1 (id := 3) (els := []) rfl rfl te34 tz5 rfl (by decide) rfl rfl rfl rfl) ?_
  refine RW.op rfl rfl (eff_fieldAddr rfl rfl tf38_3 (by decide) rfl rfl rfl (Nat.le_of_ble_eq_true rfl)) ?_
  refine RW.op rfl rfl (eff_fieldAddr rfl rfl tf36_4 (by decide) rfl rfl rfl (Nat.le_of_ble_eq_true rfl)) ?_
  refine RW.op rfl rfl (eff_load (y := .t _) rfl rfl ti34 rfl (.one rfl rfl rfl rfl)) ?_
  refine RW.new rfl rfl (eff_appendAny (id := 3) rfl rfl ta34 rfl rfl rfl rfl rfl rfl (srcM rfl (fun _ => rfl)) (by simp; omega) (by simp; omega)) ?_
  refine RW.op rfl rfl (eff_fieldAddr rfl rfl tf38_3 (by decide) rfl rfl rfl (Nat.le_of_ble_eq_true rfl)) ?_
  refine RW.op rfl rfl (eff_fieldAddr rfl rfl tf36_4 (by decide) rfl rfl rfl (Nat.le_of_ble_eq_true rfl)) ?_
  refine RW.store rfl rfl (eff_storeA (v := .own _ _ _ _) (ys := [_, _, _, _, _, _, _, _]) (els := [_]) (els' := [_]) rfl rfl ti34 rfl rfl rfl rfl rfl rfl rfl (Nat.le_of_ble_eq_true rfl) rfl rfl rfl) ?_
  refine RW.nil ?_
  refine awp_seq ?_
  refine awp_rw rfl ?_
  refine RW.op rfl rfl (eff_load rfl rfl ti38 rfl (.whole rfl rfl rfl rfl rfl rfl)) ?_
  refine RW.store rfl rfl (eff_storeW (v := .agg _) (els := [_]) (els' := [_]) rfl rfl ti38 rfl rfl rfl rfl rfl rfl rfl rfl rfl) ?_
  refine RW.nil ?_
  refine awp_ret ?_
  first
    | exact ⟨Or.inr rfl, [_], ⟨.cell rfl ti38 (.whole rfl rfl rfl rfl rfl rfl) (Res.aggP (xs := [_, _, _, _, _, _, _, _]) ⟨.t _, .t _, .t _, .t _, .t _, .t _, .t _, Res.ownM (xs := b.data.map encBy) rfl (by simp), trivial⟩), trivial⟩, .refl _⟩
    | exact ⟨Or.inr rfl, [_], ⟨.cell rfl ti38 (.whole rfl rfl rfl rfl rfl rfl) (Res.aggP (xs := [_, _, _, _, _, _, _, _]) ⟨.t _, .t _, .t _, .t _, .t _, .t _, .t _, Res.ownM (xs := b.data.map encBy) rfl (by simp), trivial⟩), trivial⟩, (by repeat' first | exact trivial | exact Wk.refl _ | exact Wk.sl _ | refine And.intro ?_ ?_ | refine Wk.tupP ?_ | refine Wk.aggP ?_)⟩

theorem bundle_ret (i : Int) (m : Nat) (hm : m ≤ 1000000) : Ret Try.prog 29 [encI i, encI (m : Nat)] (encB ⟨i, 0, 1, 0, 0, 0, 0, List.replicate m 0⟩) := by
  refine ret_of_awp Try.func29 rfl (Nat.le_of_ble_eq_true rfl) ?_
  refine awp_seq ?_
  refine awp_rw rfl ?_
  refine RW.new rfl rfl (eff_allocK (k := 8) (id := 4) rfl rfl tz38 rfl rfl) ?_
  refine RW.nil ?_
  refine awp_seq ?_
  refine awp_rw rfl ?_
  refine RW.op rfl rfl (eff_move (v := .t _) rfl rfl rfl) ?_
  refine RW.op rfl rfl (eff_move (v := .t _) rfl rfl rfl) ?_
  refine RW.new rfl rfl (eff_makeSlice (id := 7) (l := m) (c := m) rfl rfl te34 tz5 rfl (by decide) tb5 rfl rfl rfl rfl (Nat.le_refl _) (by omega) (by omega) rfl) ?_
  refine RW.op rfl rfl (eff_buildA (ys := [_, _, _, _, _]) rfl rfl tz36 tg36 rfl rfl) ?_
  refine RW.op rfl rfl (eff_buildA (ys := [_, _, _, _, _, _, _, _]) rfl rfl tz38 tg38 rfl rfl) ?_
  refine RW.store rfl rfl (eff_storeW (v := .agg _) (els := [_]) (els' := [_]) rfl rfl ti38 rfl rfl rfl rfl rfl rfl rfl rfl rfl) ?_
  refine RW.nil ?_
  refine awp_ret ?_
  first
    | exact ⟨Or.inr rfl, [_], ⟨.cell rfl ti38 (.whole rfl rfl rfl rfl rfl rfl) (Res.aggP (xs := [_, _, _, _, _, _, _, _]) ⟨.t _, .t _, .t _, .t _, .t _, .t _, .t _, Res.ownT (xs := (List.replicate m (0 : Int)).map encBy) rfl rfl (by simp [List.map_replicate, encBy]) (by simp), trivial⟩), trivial⟩, .refl _⟩
    | exact ⟨Or.inr rfl, [_], ⟨.cell rfl ti38 (.whole rfl rfl rfl rfl rfl rfl) (Res.aggP (xs := [_, _, _, _, _, _, _, _]) ⟨.t _, .t _, .t _, .t _, .t _, .t _, .t _, Res.ownT (xs := (List.replicate m (0 : Int)).map encBy) rfl rfl (by simp [List.map_replicate, encBy]) (by simp), trivial⟩), trivial⟩, (by repeat' first | exact trivial | exact Wk.refl _ | exact Wk.sl _ | refine And.intro ?_ ?_ | refine Wk.tupP ?_ | refine Wk.aggP ?_)⟩

theorem sameBundle_ret (a b : Bundle) (ha : Bytes a.data) (hb : Bytes b.data) : Ret Try.prog 20 [encB a, encB b] (.bool (sameB a b)) := by
  refine ret_of_awp Try.func20 rfl (Nat.le_of_ble_eq_true rfl) ?_
  refine awp_seq ?_
  refine awp_rw rfl ?_
  refine RW.new rfl rfl (eff_boxK (v := .t _) (k := 8) (id := 2) rfl rfl rfl rfl rfl rfl) ?_
  refine RW.new rfl rfl (eff_boxK (v := .t _) (k := 8) (id := 3) rfl rfl rfl rfl rfl rfl) ?_
  refine RW.op rfl rfl (eff_assign (v := .t _) rfl rfl rfl) ?_
  refine RW.nil ?_
  refine awp_seq ?_
  refine awp_rd [(some 7, []), (some 8, []), (some 9, []), (some 10, []), (some 5, [5]), (some 6, [6]), (none, [5]), (none, [6])] [[], [0], [], [2], [], [], [0, 1, 4, 5], [0, 1, 2, 3, 4, 5, 6]] tm rfl rfl rfl rfl ?_
  refine RD.op rfl rfl rfl (eff_fieldAddr rfl rfl tf38_3 (by decide) rfl rfl rfl (Nat.le_of_ble_eq_true rfl)) ?_
  refine RD.op rfl rfl rfl (eff_loadS (ys := [_, _, _, _, _]) rfl rfl ti36 rfl rfl rfl rfl rfl rfl) ?_
  refine RD.op rfl rfl rfl (eff_fieldAddr rfl rfl tf38_3 (by decide) rfl rfl rfl (Nat.le_of_ble_eq_true rfl)) ?_
  refine RD.op rfl rfl rfl (eff_loadS (ys := [_, _, _, _, _]) rfl rfl ti36 rfl rfl rfl rfl rfl rfl) ?_
  refine RD.new rfl rfl rfl (eff_allocK (k := 5) (id := 5) rfl rfl tz36 rfl rfl) ?_
  refine RD.new rfl rfl rfl (eff_allocK (k := 5) (id := 6) rfl rfl tz36 rfl rfl) ?_
  refine RD.store rfl rfl rfl (eff_storeW (v := .t _) (els := [_]) (els' := [_]) rfl rfl ti36 rfl rfl rfl rfl rfl rfl rfl rfl rfl) ?_
  refine RD.store rfl rfl rfl (eff_storeW (v := .t _) (els := [_]) (els' := [_]) rfl rfl ti36 rfl rfl rfl rfl rfl rfl rfl rfl rfl) ?_
  refine RD.nil ?_
  refine awp_seq ?_
  refine awp_rw rfl ?_
  refine RW.op rfl rfl (eff_fieldAddr rfl rfl tf38_0 (by decide) rfl rfl rfl (Nat.le_of_ble_eq_true rfl)) ?_
  refine RW.op rfl rfl (eff_load (y := .t _) rfl rfl ti3 rfl (.one rfl rfl rfl rfl)) ?_
  refine RW.op rfl rfl (eff_fieldAddr rfl rfl tf38_0 (by decide) rfl rfl rfl (Nat.le_of_ble_eq_true rfl)) ?_
  refine RW.op rfl rfl (eff_load (y := .t _) rfl rfl ti3 rfl (.one rfl rfl rfl rfl)) ?_
  refine RW.op rfl rfl (eff_iop rfl rfl rfl rfl rfl) ?_
  refine RW.op rfl rfl (eff_move (v := .t _) rfl rfl rfl) ?_
  refine RW.split 16 rfl (fun h1 => ?_) (fun h1 => ?_)
  · try simp only [decide_eq_true_eq, decide_eq_false_iff_not, beq_iff_eq, bne_iff_ne, bne_eq_false_iff_eq, beq_eq_false_iff_ne, Bool.not_eq_true, Bool.not_eq_false, Bool.not_eq_true', Bool.not_eq_false', ne_eq] at h1
    refine RW.gop rfl rfl rfl rfl rfl rfl (eff_fieldAddr rfl rfl tf38_1 (by decide) rfl rfl rfl (Nat.le_of_ble_eq_true rfl)) ?_
    refine RW.gop rfl rfl rfl rfl rfl rfl (eff_load (y := .t _) rfl rfl ti3 rfl (.one rfl rfl rfl rfl)) ?_
    refine RW.gop rfl rfl rfl rfl rfl rfl (eff_fieldAddr rfl rfl tf38_1 (by decide) rfl rfl rfl (Nat.le_of_ble_eq_true rfl)) ?_
    refine RW.gop rfl rfl rfl rfl rfl rfl (eff_load (y := .t _) rfl rfl ti3 rfl (.one rfl rfl rfl rfl)) ?_
    refine RW.gop rfl rfl rfl rfl rfl rfl (eff_iop rfl rfl rfl rfl rfl) ?_
    refine RW.op rfl rfl (eff_pick (v := .t _) rfl rfl rfl rfl) ?_
    refine RW.op rfl rfl (eff_move (v := .t _) rfl rfl rfl) ?_
    refine RW.split 23 rfl (fun h2 => ?_) (fun h2 => ?_)
    · try simp only [decide_eq_true_eq, decide_eq_false_iff_not, beq_iff_eq, bne_iff_ne, bne_eq_false_iff_eq, beq_eq_false_iff_ne, Bool.not_eq_true, Bool.not_eq_false, Bool.not_eq_true', Bool.not_eq_false', ne_eq] at h2
      refine RW.gop rfl rfl rfl rfl rfl rfl (eff_fieldAddr rfl rfl tf38_2 (by decide) rfl rfl rfl (Nat.le_of_ble_eq_true rfl)) ?_
      refine RW.gop rfl rfl rfl rfl rfl rfl (eff_load (y := .t _) rfl rfl ti3 rfl (.one rfl rfl rfl rfl)) ?_
      refine RW.gop rfl rfl rfl rfl rfl rfl (eff_fieldAddr rfl rfl tf38_2 (by decide) rfl rfl rfl (Nat.le_of_ble_eq_true rfl)) ?_
      refine RW.gop rfl rfl rfl rfl rfl rfl (eff_load (y := .t _) rfl rfl ti3 rfl (.one rfl rfl rfl rfl)) ?_
      refine RW.gop rfl rfl rfl rfl rfl rfl (eff_iop rfl rfl rfl rfl rfl) ?_
      refine RW.op rfl rfl (eff_pick (v := .t _) rfl rfl rfl rfl) ?_
      refine RW.op rfl rfl (eff_move (v := .t _) rfl rfl rfl) ?_
      refine RW.split 30 rfl (fun h3 => ?_) (fun h3 => ?_)
      · try simp only [decide_eq_true_eq, decide_eq_false_iff_not, beq_iff_eq, bne_iff_ne, bne_eq_false_iff_eq, beq_eq_false_iff_ne, Bool.not_eq_true, Bool.not_eq_false, Bool.not_eq_true', Bool.not_eq_false', ne_eq] at h3
        refine RW.gop rfl rfl rfl rfl rfl rfl (eff_fieldAddr rfl rfl tf36_0 (by decide) rfl rfl rfl (Nat.le_of_ble_eq_true rfl)) ?_
        refine RW.gop rfl rfl rfl rfl rfl rfl (eff_load (y := .t _) rfl rfl ti3 rfl (.one rfl rfl rfl rfl)) ?_
        refine RW.gop rfl rfl rfl rfl rfl rfl (eff_fieldAddr rfl rfl tf36_0 (by decide) rfl rfl rfl (Nat.le_of_ble_eq_true rfl)) ?_
        refine RW.gop rfl rfl rfl rfl rfl rfl (eff_load (y := .t _) rfl rfl ti3 rfl (.one rfl rfl rfl rfl)) ?_
        refine RW.gop rfl rfl rfl rfl rfl rfl (eff_iop rfl rfl rfl rfl rfl) ?_
        refine RW.op rfl rfl (eff_pick (v := .t _) rfl rfl rfl rfl) ?_
        refine RW.op rfl rfl (eff_move (v := .t _) rfl rfl rfl) ?_
        refine RW.split 37 rfl (fun h4 => ?_) (fun h4 => ?_)
        · try simp only [decide_eq_true_eq, decide_eq_false_iff_not, beq_iff_eq, bne_iff_ne, bne_eq_false_iff_eq, beq_eq_false_iff_ne, Bool.not_eq_true, Bool.not_eq_false, Bool.not_eq_true', Bool.not_eq_false', ne_eq] at h4
          refine RW.gop rfl rfl rfl rfl rfl rfl (eff_fieldAddr rfl rfl tf36_1 (by decide) rfl rfl rfl (Nat.le_of_ble_eq_true rfl)) ?_
          refine RW.gop rfl rfl rfl rfl rfl rfl (eff_load (y := .t _) rfl rfl ti3 rfl (.one rfl rfl rfl rfl)) ?_
          refine RW.gop rfl rfl rfl rfl rfl rfl (eff_fieldAddr rfl rfl tf36_1 (by decide) rfl rfl rfl (Nat.le_of_ble_eq_true rfl)) ?_
          refine RW.gop rfl rfl rfl rfl rfl rfl (eff_load (y := .t _) rfl rfl ti3 rfl (.one rfl rfl rfl rfl)) ?_
          refine RW.gop rfl rfl rfl rfl rfl rfl (eff_iop rfl rfl rfl rfl rfl) ?_
          refine RW.op rfl rfl (eff_pick (v := .t _) rfl rfl rfl rfl) ?_
          refine RW.op rfl rfl (eff_move (v := .t _) rfl rfl rfl) ?_
          refine RW.split 44 rfl (fun h5 => ?_) (fun h5 => ?_)
          · try simp only [decide_eq_true_eq, decide_eq_false_iff_not, beq_iff_eq, bne_iff_ne, bne_eq_false_iff_eq, beq_eq_false_iff_ne, Bool.not_eq_true, Bool.not_eq_false, Bool.not_eq_true', Bool.not_eq_false', ne_eq] at h5
            refine RW.gop rfl rfl rfl rfl rfl rfl (eff_fieldAddr rfl rfl tf36_2 (by decide) rfl rfl rfl (Nat.le_of_ble_eq_true rfl)) ?_
            refine RW.gop rfl rfl rfl rfl rfl rfl (eff_load (y := .t _) rfl rfl ti3 rfl (.one rfl rfl rfl rfl)) ?_
            refine RW.gop rfl rfl rfl rfl rfl rfl (eff_fieldAddr rfl rfl tf36_2 (by decide) rfl rfl rfl (Nat.le_of_ble_eq_true rfl)) ?_
            refine RW.gop rfl rfl rfl rfl rfl rfl (eff_load (y := .t _) rfl rfl ti3 rfl (.one rfl rfl rfl rfl)) ?_
            refine RW.gop rfl rfl rfl rfl rfl rfl (eff_iop rfl rfl rfl rfl rfl) ?_
            refine RW.op rfl rfl (eff_pick (v := .t _) rfl rfl rfl rfl) ?_
            refine RW.op rfl rfl (eff_move (v := .t _) rfl rfl rfl) ?_
            refine RW.split 51 rfl (fun h6 => ?_) (fun h6 => ?_)
            · try simp only [decide_eq_true_eq, decide_eq_false_iff_not, beq_iff_eq, bne_iff_ne, bne_eq_false_iff_eq, beq_eq_false_iff_ne, Bool.not_eq_true, Bool.not_eq_false, Bool.not_eq_true', Bool.not_eq_false', ne_eq] at h6
              refine RW.gop rfl rfl rfl rfl rfl rfl (eff_fieldAddr rfl rfl tf36_3 (by decide) rfl rfl rfl (Nat.le_of_ble_eq_true rfl)) ?_
              refine RW.gop rfl rfl rfl rfl rfl rfl (eff_load (y := .t _) rfl rfl ti33 rfl (.one rfl rfl rfl rfl)) ?_
              refine RW.gop rfl rfl rfl rfl rfl rfl (eff_fieldAddr rfl rfl tf36_3 (by decide) rfl rfl rfl (Nat.le_of_ble_eq_true rfl)) ?_
              refine RW.gop rfl rfl rfl rfl rfl rfl (eff_load (y := .t _) rfl rfl ti33 rfl (.one rfl rfl rfl rfl)) ?_
              refine RW.gop rfl rfl rfl rfl rfl rfl (eff_iop rfl rfl rfl rfl rfl) ?_
              refine RW.op rfl rfl (eff_pick (v := .t _) rfl rfl rfl rfl) ?_
              refine RW.op rfl rfl (eff_move (v := .t _) rfl rfl rfl) ?_
              refine RW.split 58 rfl (fun h7 => ?_) (fun h7 => ?_)
              · try simp only [decide_eq_true_eq, decide_eq_false_iff_not, beq_iff_eq, bne_iff_ne, bne_eq_false_iff_eq, beq_eq_false_iff_ne, Bool.not_eq_true, Bool.not_eq_false, Bool.not_eq_true', Bool.not_eq_false', ne_eq] at h7
                refine RW.gop rfl rfl rfl rfl rfl rfl (eff_fieldAddr rfl rfl tf36_4 (by decide) rfl rfl rfl (Nat.le_of_ble_eq_true rfl)) ?_
                refine RW.gop rfl rfl rfl rfl rfl rfl (eff_load (y := .t _) rfl rfl ti34 rfl (.one rfl rfl rfl rfl)) ?_
                refine RW.gop rfl rfl rfl rfl rfl rfl (eff_convBytes rfl rfl te34 tu5 ts9 rfl) ?_
                refine RW.gop rfl rfl rfl rfl rfl rfl (eff_fieldAddr rfl rfl tf36_4 (by decide) rfl rfl rfl (Nat.le_of_ble_eq_true rfl)) ?_
                refine RW.gop rfl rfl rfl rfl rfl rfl (eff_load (y := .t _) rfl rfl ti34 rfl (.one rfl rfl rfl rfl)) ?_
                refine RW.gop rfl rfl rfl rfl rfl rfl (eff_convBytes rfl rfl te34 tu5 ts9 rfl) ?_
                refine RW.gop rfl rfl rfl rfl rfl rfl (eff_strEq rfl rfl (.inl rfl) rfl rfl rfl) ?_
                refine RW.op rfl rfl (eff_pick (v := .t _) rfl rfl rfl rfl) ?_
                refine RW.op rfl rfl (eff_assign (v := .t _) rfl rfl rfl) ?_
                refine RW.nil ?_
                refine awp_ret ?_
                refine ⟨Or.inr rfl, [_], ⟨.tmp (.t _), trivial⟩, ?_⟩
                first
                  | (rw [show sameB a b = false from decide_eq_false (fun e => by have e2 := e; simp_all)]; exact .refl _)
                  | (rw [show sameB a b = decide (a.data = b.data) from decide_eq_decide.2 (by simp_all), ← bstr_beq ha hb]; exact .refl _)
              · try simp only [decide_eq_true_eq, decide_eq_false_iff_not, beq_iff_eq, bne_iff_ne, bne_eq_false_iff_eq, beq_eq_false_iff_ne, Bool.not_eq_true, Bool.not_eq_false, Bool.not_eq_true', Bool.not_eq_false', ne_eq] at h7
                refine RW.gskip rfl rfl rfl rfl rfl (by decide) ?_
                refine RW.gskip rfl rfl rfl rfl rfl (by decide) ?_
                refine RW.gskip rfl rfl rfl rfl rfl (by decide) ?_
                refine RW.gskip rfl rfl rfl rfl rfl (by decide) ?_
                refine RW.gskip rfl rfl rfl rfl rfl (by decide) ?_
                refine RW.gskip rfl rfl rfl rfl rfl (by decide) ?_
                refine RW.gskip rfl rfl rfl rfl rfl (by decide) ?_
                refine RW.op rfl rfl (eff_pick (v := .t _) rfl rfl rfl rfl) ?_
                refine RW.op rfl rfl (eff_assign (v := .t _) rfl rfl rfl) ?_
                refine RW.nil ?_
                refine awp_ret ?_
                refine ⟨Or.inr rfl, [_], ⟨.tmp (.t _), trivial⟩, ?_⟩
                first
                  | (rw [show sameB a b = false from decide_eq_false (fun e => by have e2 := e; simp_all)]; exact .refl _)
                  | (rw [show sameB a b = decide (a.data = b.data) from decide_eq_decide.2 (by simp_all), ← bstr_beq ha hb]; exact .refl _)
            · try simp only [decide_eq_true_eq, decide_eq_false_iff_not, beq_iff_eq, bne_iff_ne, bne_eq_false_iff_eq, beq_eq_false_iff_ne, Bool.not_eq_true, Bool.not_eq_false, Bool.not_eq_true', Bool.not_eq_false', ne_eq] at h6
              refine RW.gskip rfl rfl rfl rfl rfl (by decide) ?_
              refine RW.gskip rfl rfl rfl rfl rfl (by decide) ?_
              refine RW.gskip rfl rfl rfl rfl rfl (by decide) ?_
              refine RW.gskip rfl rfl rfl rfl rfl (by decide) ?_
              refine RW.gskip rfl rfl rfl rfl rfl (by decide) ?_
              refine RW.op rfl rfl (eff_pick (v := .t _) rfl rfl rfl rfl) ?_
              refine RW.op rfl rfl (eff_move (v := .t _) rfl rfl rfl) ?_
              refine RW.gskip rfl rfl rfl rfl rfl (by decide) ?_
              refine RW.gskip rfl rfl rfl rfl rfl (by decide) ?_
              refine RW.gskip rfl rfl rfl rfl rfl (by decide) ?_
              refine RW.gskip rfl rfl rfl rfl rfl (by decide) ?_
              refine RW.gskip rfl rfl rfl rfl rfl (by decide) ?_
              refine RW.gskip rfl rfl rfl rfl rfl (by decide) ?_
              refine RW.gskip rfl rfl rfl rfl rfl (by decide) ?_
              refine RW.op rfl rfl (eff_pick (v := .t _) rfl rfl rfl rfl) ?_
              refine RW.op rfl rfl (eff_assign (v := .t _) rfl rfl rfl) ?_
              refine RW.nil ?_
              refine awp_ret ?_
              refine ⟨Or.inr rfl, [_], ⟨.tmp (.t _), trivial⟩, ?_⟩
              first
                | (rw [show sameB a b = false from decide_eq_false (fun e => by have e2 := e; simp_all)]; exact .refl _)
                | (rw [show sameB a b = decide (a.data = b.data) from decide_eq_decide.2 (by simp_all), ← bstr_beq ha hb]; exact .refl _)
          · try simp only [decide_eq_true_eq, decide_eq_false_iff_not, beq_iff_eq, bne_iff_ne, bne_eq_false_iff_eq, beq_eq_false_iff_ne, Bool.not_eq_true, Bool.not_eq_false, Bool.not_eq_true', Bool.not_eq_false', ne_eq] at h5
            refine RW.gskip rfl rfl rfl rfl rfl (by decide) ?_
            refine RW.gskip rfl rfl rfl rfl rfl (by decide) ?_
            refine RW.gskip rfl rfl rfl rfl rfl (by decide) ?_
            refine RW.gskip rfl rfl rfl rfl rfl (by decide) ?_
            refine RW.gskip rfl rfl rfl rfl rfl (by decide) ?_
            refine RW.op rfl rfl (eff_pick (v := .t _) rfl rfl rfl rfl) ?_
            refine RW.op rfl rfl (eff_move (v := .t _) rfl rfl rfl) ?_
            refine RW.gskip rfl rfl rfl rfl rfl (by decide) ?_
            refine RW.gskip rfl rfl rfl rfl rfl (by decide) ?_
            refine RW.gskip rfl rfl rfl rfl rfl (by decide) ?_
            refine RW.gskip rfl rfl rfl rfl rfl (by decide) ?_
            refine RW.gskip rfl rfl rfl rfl rfl (by decide) ?_
            refine RW.op rfl rfl (eff_pick (v := .t _) rfl rfl rfl rfl) ?_
            refine RW.op rfl rfl (eff_move (v := .t _) rfl rfl rfl) ?_
            refine RW.gskip rfl rfl rfl rfl rfl (by decide) ?_
            refine RW.gskip rfl rfl rfl rfl rfl (by decide) ?_
            refine RW.gskip rfl rfl rfl rfl rfl (by decide) ?_
            refine RW.gskip rfl rfl rfl rfl rfl (by decide) ?_
            refine RW.gskip rfl rfl rfl rfl rfl (by decide) ?_
            refine RW.gskip rfl rfl rfl rfl rfl (by decide) ?_
            refine RW.gskip rfl rfl rfl rfl rfl (by decide) ?_
            refine RW.op rfl rfl (eff_pick (v := .t _) rfl rfl rfl rfl) ?_
            refine RW.op rfl rfl (eff_assign (v := .t _) rfl rfl rfl) ?_
            refine RW.nil ?_
            refine awp_ret ?_
            refine ⟨Or.inr rfl, [_], ⟨.tmp (.t _), trivial⟩, ?_⟩
            first
              | (rw [show sameB a b = false from decide_eq_false (fun e => by have e2 := e; simp_all)]; exact .refl _)
              | (rw [show sameB a b = decide (a.data = b.data) from decide_eq_decide.2 (by simp_all), ← bstr_beq ha hb]; exact .refl _)
        · try simp only [decide_eq_true_eq, decide_eq_false_iff_not, beq_iff_eq, bne_iff_ne, bne_eq_false_iff_eq, beq_eq_false_iff_ne, Bool.not_eq_true, Bool.not_eq_false, Bool.not_eq_true', Bool.not_eq_false', ne_eq] at h4
          refine RW.gskip rfl rfl rfl rfl rfl (by decide) ?_
          refine RW.gskip rfl rfl rfl rfl rfl (by decide) ?_
          refine RW.gskip rfl rfl rfl rfl rfl (by decide) ?_
          refine RW.gskip rfl rfl rfl rfl rfl (by decide) ?_
          refine RW.gskip rfl rfl rfl rfl rfl (by decide) ?_
          refine RW.op rfl rfl (eff_pick (v := .t _) rfl rfl rfl rfl) ?_
          refine RW.op rfl rfl (eff_move (v := .t _) rfl rfl rfl) ?_
          refine RW.gskip rfl rfl rfl rfl rfl (by decide) ?_
          refine RW.gskip rfl rfl rfl rfl rfl (by decide) ?_
          refine RW.gskip rfl rfl rfl rfl rfl (by decide) ?_
          refine RW.gskip rfl rfl rfl rfl rfl (by decide) ?_
          refine RW.gskip rfl rfl rfl rfl rfl (by decide) ?_
          refine RW.op rfl rfl (eff_pick (v := .t _) rfl rfl rfl rfl) ?_
          refine RW.op rfl rfl (eff_move (v := .t _) rfl rfl rfl) ?_
          refine RW.gskip rfl rfl rfl rfl rfl (by decide) ?_
          refine RW.gskip rfl rfl rfl rfl rfl (by decide) ?_
          refine RW.gskip rfl rfl rfl rfl rfl (by decide) ?_
          refine RW.gskip rfl rfl rfl rfl rfl (by decide) ?_
          refine RW.gskip rfl rfl rfl rfl rfl (by decide) ?_
          refine RW.op rfl rfl (eff_pick (v := .t _) rfl rfl rfl rfl) ?_
          refine RW.op rfl rfl (eff_move (v := .t _) rfl rfl rfl) ?_
          refine RW.gskip rfl rfl rfl rfl rfl (by decide) ?_
          refine RW.gskip rfl rfl rfl rfl rfl (by decide) ?_
          refine RW.gskip rfl rfl rfl rfl rfl (by decide) ?_
          refine RW.gskip rfl rfl rfl rfl rfl (by decide) ?_
          refine RW.gskip rfl rfl rfl rfl rfl (by decide) ?_
          refine RW.gskip rfl rfl rfl rfl rfl (by decide) ?_
          refine RW.gskip rfl rfl rfl rfl rfl (by decide) ?_
          refine RW.op rfl rfl (eff_pick (v := .t _) rfl rfl rfl rfl) ?_
          refine RW.op rfl rfl (eff_assign (v := .t _) rfl rfl rfl) ?_
          refine RW.nil ?_
          refine awp_ret ?_
          refine ⟨Or.inr rfl, [_], ⟨.tmp (.t _), trivial⟩, ?_⟩
          first
            | (rw [show sameB a b = false from decide_eq_false (fun e => by have e2 := e; simp_all)]; exact .refl _)
            | (rw [show sameB a b = decide (a.data = b.data) from decide_eq_decide.2 (by simp_all), ← bstr_beq ha hb]; exact .refl _)
      · try simp only [decide_eq_true_eq, decide_eq_false_iff_not, beq_iff_eq, bne_iff_ne, bne_eq_false_iff_eq, beq_eq_false_iff_ne, Bool.not_eq_true, Bool.not_eq_false, Bool.not_eq_true', Bool.not_eq_false', ne_eq] at h3
        refine RW.gskip rfl rfl rfl rfl rfl (by decide) ?_
        refine RW.gskip rfl rfl rfl rfl rfl (by decide) ?_
        refine RW.gskip rfl rfl rfl rfl rfl (by decide) ?_
        refine RW.gskip rfl rfl rfl rfl rfl (by decide) ?_
        refine RW.gskip rfl rfl rfl rfl rfl (by decide) ?_
        refine RW.op rfl rfl (eff_pick (v := .t _) rfl rfl rfl rfl) ?_
        refine RW.op rfl rfl (eff_move (v := .t _) rfl rfl rfl) ?_
        refine RW.gskip rfl rfl rfl rfl rfl (by decide) ?_
        refine RW.gskip rfl rfl rfl rfl rfl (by decide) ?_
        refine RW.gskip rfl rfl rfl rfl rfl (by decide) ?_
        refine RW.gskip rfl rfl rfl rfl rfl (by decide) ?_
        refine RW.gskip rfl rfl rfl rfl rfl (by decide) ?_
        refine RW.op rfl rfl (eff_pick (v := .t _) rfl rfl rfl rfl) ?_
        refine RW.op rfl rfl (eff_move (v := .t _) rfl rfl rfl) ?_
        refine RW.gskip rfl rfl rfl rfl rfl (by decide) ?_
        refine RW.gskip rfl rfl rfl rfl rfl (by decide) ?_
        refine RW.gskip rfl rfl rfl rfl rfl (by decide) ?_
        refine RW.gskip rfl rfl rfl rfl rfl (by decide) ?_
        refine RW.gskip rfl rfl rfl rfl rfl (by decide) ?_
        refine RW.op rfl rfl (eff_pick (v := .t _) rfl rfl rfl rfl) ?_
        refine RW.op rfl rfl (eff_move (v := .t _) rfl rfl rfl) ?_
        refine RW.gskip rfl rfl rfl rfl rfl (by decide) ?_
        refine RW.gskip rfl rfl rfl rfl rfl (by decide) ?_
        refine RW.gskip rfl rfl rfl rfl rfl (by decide) ?_
        refine RW.gskip rfl rfl rfl rfl rfl (by decide) ?_
        refine RW.gskip rfl rfl rfl rfl rfl (by decide) ?_
        refine RW.op rfl rfl (eff_pick (v := .t _) rfl rfl rfl rfl) ?_
        refine RW.op rfl rfl (eff_move (v := .t _) rfl rfl rfl) ?_
        refine RW.gskip rfl rfl rfl rfl rfl (by decide) ?_
        refine RW.gskip rfl rfl rfl rfl rfl (by decide) ?_
        refine RW.gskip rfl rfl rfl rfl rfl (by decide) ?_
        refine RW.gskip rfl rfl rfl rfl rfl (by decide) ?_
        refine RW.gskip rfl rfl rfl rfl rfl (by decide) ?_
        refine RW.gskip rfl rfl rfl rfl rfl (by decide) ?_
        refine RW.gskip rfl rfl rfl rfl rfl (by decide) ?_
        refine RW.op rfl rfl (eff_pick (v := .t _) rfl rfl rfl rfl) ?_
        refine RW.op rfl rfl (eff_assign (v := .t _) rfl rfl rfl) ?_
        refine RW.nil ?_
        refine awp_ret ?_
        refine ⟨Or.inr rfl, [_], ⟨.tmp (.t _), trivial⟩, ?_⟩
        first
          | (rw [show sameB a b = false from decide_eq_false (fun e => by have e2 := e; simp_all)]; exact .refl _)
          | (rw [show sameB a b = decide (a.data = b.data) from decide_eq_decide.2 (by simp_all), ← bstr_beq ha hb]; exact .refl _)
    · try simp only [decide_eq_true_eq, decide_eq_false_iff_not, beq_iff_eq, bne_iff_ne, bne_eq_false_iff_eq, beq_eq_false_iff_ne, Bool.not_eq_true, Bool.not_eq_false, Bool.not_eq_true', Bool.not_eq_false', ne_eq] at h2
      refine RW.gskip rfl rfl rfl rfl rfl (by decide) ?_
      refine RW.gskip rfl rfl rfl rfl rfl (by decide) ?_
      refine RW.gskip rfl rfl rfl rfl rfl (by decide) ?_
      refine RW.gskip rfl rfl rfl rfl rfl (by decide) ?_
      refine RW.gskip rfl rfl rfl rfl rfl (by decide) ?_
      refine RW.op rfl rfl (eff_pick (v := .t _) rfl rfl rfl rfl) ?_
      refine RW.op rfl rfl (eff_move (v := .t _) rfl rfl rfl) ?_
      refine RW.gskip rfl rfl rfl rfl rfl (by decide) ?_
      refine RW.gskip rfl rfl rfl rfl rfl (by decide) ?_
      refine RW.gskip rfl rfl rfl rfl rfl (by decide) ?_
      refine RW.gskip rfl rfl rfl rfl rfl (by decide) ?_
      refine RW.gskip rfl rfl rfl rfl rfl (by decide) ?_
      refine RW.op rfl rfl (eff_pick (v := .t _) rfl rfl rfl rfl) ?_
      refine RW.op rfl rfl (eff_move (v := .t _) rfl rfl rfl) ?_
      refine RW.gskip rfl rfl rfl rfl rfl (by decide) ?_
      refine RW.gskip rfl rfl rfl rfl rfl (by decide) ?_
      refine RW.gskip rfl rfl rfl rfl rfl (by decide) ?_
      refine RW.gskip rfl rfl rfl rfl rfl (by decide) ?_
      refine RW.gskip rfl rfl rfl rfl rfl (by decide) ?_
      refine RW.op rfl rfl (eff_pick (v := .t _) rfl rfl rfl rfl) ?_
      refine RW.op rfl rfl (eff_move (v := .t _) rfl rfl rfl) ?_
      refine RW.gskip rfl rfl rfl rfl rfl (by decide) ?_
      refine RW.gskip rfl rfl rfl rfl rfl (by decide) ?_
      refine RW.gskip rfl rfl rfl rfl rfl (by decide) ?_
      refine RW.gskip rfl rfl rfl rfl rfl (by decide) ?_
      refine RW.gskip rfl rfl rfl rfl rfl (by decide) ?_
      refine RW.op rfl rfl (eff_pick (v := .t _) rfl rfl rfl rfl) ?_
      refine RW.op rfl rfl (eff_move (v := .t _) rfl rfl rfl) ?_
      refine RW.gskip rfl rfl rfl rfl rfl (by decide) ?_
      refine RW.gskip rfl rfl rfl rfl rfl (by decide) ?_
      refine RW.gskip rfl rfl rfl rfl rfl (by decide) ?_
      refine RW.gskip rfl rfl rfl rfl rfl (by decide) ?_
      refine RW.gskip rfl rfl rfl rfl rfl (by decide) ?_
      refine RW.op rfl rfl (eff_pick (v := .t _) rfl rfl rfl rfl) ?_
      refine RW.op rfl rfl (eff_move (v := .t _) rfl rfl rfl) ?_
      refine RW.gskip rfl rfl rfl rfl rfl (by decide) ?_
      refine RW.gskip rfl rfl rfl rfl rfl (by decide) ?_
      refine RW.gskip rfl rfl rfl rfl rfl (by decide) ?_
      refine RW.gskip rfl rfl rfl rfl rfl (by decide) ?_
      refine RW.gskip rfl rfl rfl rfl rfl (by decide) ?_
      refine RW.gskip rfl rfl rfl rfl rfl (by decide) ?_
      refine RW.gskip rfl rfl rfl rfl rfl (by decide) ?_
      refine RW.op rfl rfl (eff_pick (v := .t _) rfl rfl rfl rfl) ?_
      refine RW.op rfl rfl (eff_assign (v := .t _) rfl rfl rfl) ?_
      refine RW.nil ?_
      refine awp_ret ?_
      refine ⟨Or.inr rfl, [_], ⟨.tmp (.t _), trivial⟩, ?_⟩
      first
        | (rw [show sameB a b = false from decide_eq_false (fun e => by have e2 := e; simp_all)]; exact .refl _)
        | (rw [show sameB a b = decide (a.data = b.data) from decide_eq_decide.2 (by simp_all), ← bstr_beq ha hb]; exact .refl _)
  · try simp only [decide_eq_true_eq, decide_eq_false_iff_not, beq_iff_eq, bne_iff_ne, bne_eq_false_iff_eq, beq_eq_false_iff_ne, Bool.not_eq_true, Bool.not_eq_false, Bool.not_eq_true', Bool.not_eq_false', ne_eq] at h1
    refine RW.gskip rfl rfl rfl rfl rfl (by decide) ?_
    refine RW.gskip rfl rfl rfl rfl rfl (by decide) ?_
    refine RW.gskip rfl rfl rfl rfl rfl (by decide) ?_
    refine RW.gskip rfl rfl rfl rfl rfl (by decide) ?_
    refine RW.gskip rfl rfl rfl rfl rfl (by decide) ?_
    refine RW.op rfl rfl (eff_pick (v := .t _) rfl rfl rfl rfl) ?_
    refine RW.op rfl rfl (eff_move (v := .t _) rfl rfl rfl) ?_
    refine RW.gskip rfl rfl rfl rfl rfl (by decide) ?_
    refine RW.gskip rfl rfl rfl rfl rfl (by decide) ?_
    refine RW.gskip rfl rfl rfl rfl rfl (by decide) ?_
    refine RW.gskip rfl rfl rfl rfl rfl (by decide) ?_
    refine RW.gskip rfl rfl rfl rfl rfl (by decide) ?_
    refine RW.op rfl rfl (eff_pick (v := .t _) rfl rfl rfl rfl) ?_
    refine RW.op rfl rfl (eff_move (v := .t _) rfl rfl rfl) ?_
    refine RW.gskip rfl rfl rfl rfl rfl (by decide) ?_
    refine RW.gskip rfl rfl rfl rfl rfl (by decide) ?_
    refine RW.gskip rfl rfl rfl rfl rfl (by decide) ?_
    refine RW.gskip rfl rfl rfl rfl rfl (by decide) ?_
    refine RW.gskip rfl rfl rfl rfl rfl (by decide) ?_
    refine RW.op rfl rfl (eff_pick (v := .t _) rfl rfl rfl rfl) ?_
    refine RW.op rfl rfl (eff_move (v := .t _) rfl rfl rfl) ?_
    refine RW.gskip rfl rfl rfl rfl rfl (by decide) ?_
    refine RW.gskip rfl rfl rfl rfl rfl (by decide) ?_
    refine RW.gskip rfl rfl rfl rfl rfl (by decide) ?_
    refine RW.gskip rfl rfl rfl rfl rfl (by decide) ?_
    refine RW.gskip rfl rfl rfl rfl rfl (by decide) ?_
    refine RW.op rfl rfl (eff_pick (v := .t _) rfl rfl rfl rfl) ?_
    refine RW.op rfl rfl (eff_move (v := .t _) rfl rfl rfl) ?_
    refine RW.gskip rfl rfl rfl rfl rfl (by decide) ?_
    refine RW.gskip rfl rfl rfl rfl rfl (by decide) ?_
    refine RW.gskip rfl rfl rfl rfl rfl (by decide) ?_
    refine RW.gskip rfl rfl rfl rfl rfl (by decide) ?_
    refine RW.gskip rfl rfl rfl rfl rfl (by decide) ?_
    refine RW.op rfl rfl (eff_pick (v := .t _) rfl rfl rfl rfl) ?_
    refine RW.op rfl rfl (eff_move (v := .t _) rfl rfl rfl) ?_
    refine RW.gskip rfl rfl rfl rfl rfl (by decide) ?_
    refine RW.gskip rfl rfl rfl rfl rfl (by decide) ?_
    refine RW.gskip rfl rfl rfl rfl rfl (by decide) ?_
    refine RW.gskip rfl rfl rfl rfl rfl (by decide) ?_
    refine RW.gskip rfl rfl rfl rfl rfl (by decide) ?_
    refine RW.op rfl rfl (eff_pick (v := .t _) rfl rfl rfl rfl) ?_
    refine RW.op rfl rfl (eff_move (v := .t _) rfl rfl rfl) ?_
    refine RW.gskip rfl rfl rfl rfl rfl (by decide) ?_
    refine RW.gskip rfl rfl rfl rfl rfl (by decide) ?_
    refine RW.gskip rfl rfl rfl rfl rfl (by decide) ?_
    refine RW.gskip rfl rfl rfl rfl rfl (by decide) ?_
    refine RW.gskip rfl rfl rfl rfl rfl (by decide) ?_
    refine RW.gskip rfl rfl rfl rfl rfl (by decide) ?_
    refine RW.gskip rfl rfl rfl rfl rfl (by decide) ?_
    refine RW.op rfl rfl (eff_pick (v := .t _) rfl rfl rfl rfl) ?_
    refine RW.op rfl rfl (eff_assign (v := .t _) rfl rfl rfl) ?_
    refine RW.nil ?_
    refine awp_ret ?_
    refine ⟨Or.inr rfl, [_], ⟨.tmp (.t _), trivial⟩, ?_⟩
    first
      | (rw [show sameB a b = false from decide_eq_false (fun e => by have e2 := e; simp_all)]; exact .refl _)
      | (rw [show sameB a b = decide (a.data = b.data) from decide_eq_decide.2 (by simp_all), ← bstr_beq ha hb]; exact .refl _)

end Go.Tv.C27

end
section
open Go Go.Tv Go.Proofs
namespace Go.Tv.C27
set_option maxRecDepth 20000
set_option linter.unusedSimpArgs false
set_option linter.unusedVariables false
theorem copy_retG (S : Store) (hS : SOK S) : RetG Try.prog 49 [] [.t (encS S)] [(32, some ⟨8, 38, S.bundles.length, (S.bundles.map encB).map .t⟩), (7, some ⟨1, 3, 1, (S.passed.map encI).map .t⟩), (11, some ⟨1, 3, 1, (S.seen.map encI).map .t⟩)] (.agg [.t (encI S.quota), .own 32 S.bundles.length 0 S.bundles.length, .own 7 1 0 (0 + (List.map AV.t (List.map encI S.passed)).length), .own 11 1 0 (0 + (List.map AV.t (List.map encI S.seen)).length)]) := by
  refine retG_of_awp Try.func49 rfl (Nat.le_of_ble_eq_true rfl) ?_
  refine awp_seq ?_
  refine awp_rw rfl ?_
  refine RW.new rfl rfl (eff_boxK (v := .t _) (k := 4) (id := 1) rfl rfl rfl rfl rfl rfl) ?_
  refine RW.new rfl rfl (eff_allocK (k := 4) (id := 2) rfl rfl tz29 rfl rfl) ?_
  refine RW.nil ?_
  refine awp_seq ?_
  refine awp_rd [(some 5, []), (some 6, []), (some 7, [7]), (some 8, []), (some 9, []), (some 10, [7]), (some 11, [11]), (some 12, []), (some 13, []), (some 14, [11]), (some 15, []), (some 3, [3]), (none, [3])] [[], [0], [], [], [3], [2, 3, 4], [], [], [7], [2, 3, 4, 5, 6, 7, 8], [0, 1, 2, 3, 4, 5, 6, 7, 8, 9], [], [0, 1, 2, 3, 4, 5, 6, 7, 8, 9, 10, 11]] tm rfl rfl rfl rfl ?_
  refine RD.op rfl rfl rfl (eff_fieldAddr rfl rfl tf29_0 (by decide) rfl rfl rfl (Nat.le_of_ble_eq_true rfl)) ?_
  refine RD.op rfl rfl rfl (eff_load (y := .t _) rfl rfl ti3 rfl (.one rfl rfl rfl rfl)) ?_
  refine RD.new rfl rfl rfl (eff_buildSlice1 (id := 7) (els := []) rfl rfl te27 tz3 rfl (by decide) rfl rfl rfl rfl) ?_
  refine RD.op rfl rfl rfl (eff_fieldAddr rfl rfl tf29_2 (by decide) rfl rfl rfl (Nat.le_of_ble_eq_true rfl)) ?_
  refine RD.op rfl rfl rfl (eff_load (y := .t _) rfl rfl ti27 rfl (.one rfl rfl rfl rfl)) ?_
  refine RD.new rfl rfl rfl (eff_appendAny (id := 7) rfl rfl ta27 rfl rfl rfl rfl rfl rfl (srcM rfl (fun _ => rfl)) (by have h2 := hS.2.1; simp; omega) (by have h2 := hS.2.1; simp; omega)) ?_
  refine RD.new rfl rfl rfl (eff_buildSlice1 (id := 11) (els := []) rfl rfl te27 tz3 rfl (by decide) rfl rfl rfl rfl) ?_
  refine RD.op rfl rfl rfl (eff_fieldAddr rfl rfl tf29_3 (by decide) rfl rfl rfl (Nat.le_of_ble_eq_true rfl)) ?_
  refine RD.op rfl rfl rfl (eff_load (y := .t _) rfl rfl ti27 rfl (.one rfl rfl rfl rfl)) ?_
  refine RD.new rfl rfl rfl (eff_appendAny (id := 11) rfl rfl ta27 rfl rfl rfl rfl rfl rfl (srcM rfl (fun _ => rfl)) (by have h3 := hS.2.2.1; simp; omega) (by have h3 := hS.2.2.1; simp; omega)) ?_
  refine RD.op rfl rfl rfl (eff_buildA (ys := [.t _, .t _, .own 7 _ 0 _, .own 11 _ 0 _]) rfl rfl tz29 tg29 rfl rfl) ?_
  refine RD.new rfl rfl rfl (eff_allocK (k := 4) (id := 3) rfl rfl tz29 rfl rfl) ?_
  refine RD.store rfl rfl rfl (eff_storeW (v := .agg _) (els := [_]) (els' := [_]) rfl rfl ti29 rfl rfl rfl rfl rfl rfl rfl rfl rfl) ?_
  refine RD.nil ?_
  show AWP _ _ _ _
  refine awp_weak (weak_adoptC (id0 := 3) (cs := [_, _, _, _]) (cs' := [_, .own 32 0 0 0, _, _]) 32 8 38 1 rfl rfl rfl rfl) ?_
  refine awp_seq ?_
  refine awp_seq ?_
  refine awp_rw rfl ?_
  refine RW.op rfl rfl (eff_assign (v := .t _) rfl rfl rfl) ?_
  refine RW.nil ?_
  refine awp_block ?_
  refine awp_loopW (fun m s => ∃ (i : Nat) (els : List AV), (i ≤ S.bundles.length) ∧ (els = ((S.bundles.take i).map encB).map .t) ∧ m = S.bundles.length - i ∧ s = ⟨35, [(1, .ptr 1 0 0 0), (2, .ptr 2 0 0 0), (3, .ptr 3 0 0 0), (4, .t (encI (i : Nat)))], [(1, some ⟨4, 29, 0, [.t (encS S)]⟩), (2, some ⟨4, 29, 0, [.t z29]⟩), (3, some ⟨4, 29, 0, [.agg [.t (encI S.quota), .own 32 i 0 i, .own 7 1 0 (0 + (List.map AV.t (List.map encI S.passed)).length), .own 11 1 0 (0 + (List.map AV.t (List.map encI S.seen)).length)]]⟩), (32, some ⟨8, 38, i, els⟩), (7, some ⟨1, 3, 1, (S.passed.map encI).map .t⟩), (11, some ⟨1, 3, 1, (S.seen.map encI).map .t⟩)]⟩) (_) (⟨_, weak_keep (n := 35) (fr' := [(1, .ptr 1 0 0 0), (2, .ptr 2 0 0 0), (3, .ptr 3 0 0 0), (4, .t (encI (0 : Nat)))]) (st' := [(1, some ⟨4, 29, 0, [.t (encS S)]⟩), (2, some ⟨4, 29, 0, [.t z29]⟩), (3, some ⟨4, 29, 0, [.agg [.t (encI S.quota), .own 32 0 0 0, .own 7 1 0 (0 + (List.map AV.t (List.map encI S.passed)).length), .own 11 1 0 (0 + (List.map AV.t (List.map encI S.seen)).length)]]⟩), (32, some ⟨8, 38, 0, ([])⟩), (7, some ⟨1, 3, 1, (S.passed.map encI).map .t⟩), (11, some ⟨1, 3, 1, (S.seen.map encI).map .t⟩)]) ⟨rfl, rfl, rfl, rfl, rfl, rfl, rfl, rfl, trivial⟩ ⟨rfl, okE_one rfl, rfl, okE_one rfl, rfl, okE_one rfl, rfl, (by first | exact okE_nil | (rw [he]; intro x hx; simp only [List.mem_append, List.mem_map, List.mem_singleton] at hx; rcases hx with ⟨y, _, rfl⟩ | rfl <;> rfl)), rfl, okE_t, rfl, okE_t, trivial⟩, 0, [], (by omega), (by rfl), rfl, rfl⟩) ?_
  rintro m s ⟨i, els, hi, he, rfl, rfl⟩
  have hL := hS.1
  refine awp_seq ?_
  refine awp_seq ?_
  refine awp_rw rfl ?_
  refine RW.op rfl rfl (eff_move (v := .t _) rfl rfl rfl) ?_
  refine RW.op rfl rfl (eff_fieldAddr rfl rfl tf29_1 (by decide) rfl rfl rfl (Nat.le_of_ble_eq_true rfl)) ?_
  refine RW.op rfl rfl (eff_load (y := .t _) rfl rfl ti26 rfl (.one rfl rfl rfl rfl)) ?_
  refine RW.op rfl rfl (eff_lenM rfl rfl te26 rfl) ?_
  refine RW.op rfl rfl (eff_iop rfl rfl rfl rfl rfl) ?_
  refine RW.nil ?_
  refine awp_cond rfl (fun h1 => ?_) (fun h1 => ?_)
  · try simp only [decide_eq_true_eq, decide_eq_false_iff_not, beq_iff_eq, bne_iff_ne, bne_eq_false_iff_eq, beq_eq_false_iff_ne, Bool.not_eq_true, Bool.not_eq_false, Bool.not_eq_true', Bool.not_eq_false', ne_eq] at h1
    refine awp_skip ?_
    refine awp_seq ?_
    refine awp_block ?_
    refine awp_rd [(some 23, []), (some 24, []), (some 25, []), (some 26, []), (some 27, []), (some 28, []), (some 29, []), (some 30, []), (some 31, [31]), (some 32, [32]), (some 33, []), (none, [3])] [[], [0], [], [2], [], [2, 3, 4], [2, 3, 4, 5], [2, 3, 4, 5, 6], [2, 3, 4, 5, 6, 7], [0, 1, 2, 3, 4, 5, 6, 7, 8], [0, 1, 2, 3, 4, 5, 6, 7, 8, 9], [0, 1, 2, 3, 4, 5, 6, 7, 8, 9, 10]] tm rfl rfl rfl rfl ?_
    refine RD.op rfl rfl rfl (eff_fieldAddr rfl rfl tf29_1 (by decide) rfl rfl rfl (Nat.le_of_ble_eq_true rfl)) ?_
    refine RD.op rfl rfl rfl (eff_load (y := .own _ _ _ _) rfl rfl ti26 rfl (.one rfl rfl rfl rfl)) ?_
    refine RD.op rfl rfl rfl (eff_fieldAddr rfl rfl tf29_1 (by decide) rfl rfl rfl (Nat.le_of_ble_eq_true rfl)) ?_
    refine RD.op rfl rfl rfl (eff_load (y := .t _) rfl rfl ti26 rfl (.one rfl rfl rfl rfl)) ?_
    refine RD.op rfl rfl rfl (eff_move (v := .t _) rfl rfl rfl) ?_
    refine RD.op rfl rfl rfl (eff_indexM rfl rfl te26 rfl rfl rfl (by first | assumption | exact List.getElem?_eq_getElem (by omega)) rfl (by decide)) ?_
    refine RD.op rfl rfl rfl (eff_loadW rfl rfl ti38 rfl rfl rfl) ?_
    refine RD.op rfl rfl rfl (eff_callT (copyBundle_ret _ (hS.2.2.2 _ (List.getElem_mem _))) co40 rfl rfl rfl rfl) ?_
    refine RD.new rfl rfl rfl (eff_buildSliceL (id := 31) (els := [.t (.agg [_, _, _, _, _, _, _, _])]) rfl rfl te26 tz38 rfl (by decide) (by decide) rfl rfl rfl rfl) ?_
    refine RD.new rfl rfl rfl (eff_append (id := 32) (ys := [_]) rfl rfl ta26 rfl rfl rfl (by rw [he]; simp; omega) rfl rfl (srcOwn rfl rfl rfl rfl rfl rfl) (by simp) (by simp; omega) (by simp; omega)) ?_
    refine RD.op rfl rfl rfl (eff_fieldAddr rfl rfl tf29_1 (by decide) rfl rfl rfl (Nat.le_of_ble_eq_true rfl)) ?_
    refine RD.store rfl rfl rfl (eff_storeA (v := .own _ _ _ _) (ys := [_, _, _, _]) (els := [_]) (els' := [_]) rfl rfl ti26 rfl rfl rfl rfl rfl rfl rfl (Nat.le_of_ble_eq_true rfl) rfl rfl rfl) ?_
    refine RD.nil ?_
    refine awp_rw rfl ?_
    refine RW.op rfl rfl (eff_move (v := .t _) rfl rfl rfl) ?_
    refine RW.op rfl rfl (eff_iop rfl rfl rfl rfl (iadd (by omega))) ?_
    refine RW.op rfl rfl (eff_assign (v := .t _) rfl rfl rfl) ?_
    refine RW.nil ?_
    refine ⟨_, ?_, _, weak_keep (n := 35) (fr' := [(1, .ptr 1 0 0 0), (2, .ptr 2 0 0 0), (3, .ptr 3 0 0 0), (4, .t (encI ((i + 1) : Nat)))]) (st' := [(1, some ⟨4, 29, 0, [.t (encS S)]⟩), (2, some ⟨4, 29, 0, [.t z29]⟩), (3, some ⟨4, 29, 0, [.agg [.t (encI S.quota), .own 32 (i + 1) 0 (i + 1), .own 7 1 0 (0 + (List.map AV.t (List.map encI S.passed)).length), .own 11 1 0 (0 + (List.map AV.t (List.map encI S.seen)).length)]]⟩), (32, some ⟨8, 38, (i + 1), _⟩), (7, some ⟨1, 3, 1, (S.passed.map encI).map .t⟩), (11, some ⟨1, 3, 1, (S.seen.map encI).map .t⟩)]) ⟨rfl, rfl, rfl, rfl, rfl, rfl, rfl, rfl, trivial⟩ ⟨rfl, okE_one rfl, rfl, okE_one rfl, rfl, okE_one rfl, rfl, (by first | exact okE_nil | (rw [he]; intro x hx; simp only [List.mem_append, List.mem_map, List.mem_singleton] at hx; rcases hx with ⟨y, _, rfl⟩ | rfl <;> rfl)), rfl, okE_t, rfl, okE_t, trivial⟩, i + 1, _, (by omega), (by rw [he, take_succ_get (by omega), List.map_append, List.map_append]; rfl), rfl, rfl⟩
    omega
  · try simp only [decide_eq_true_eq, decide_eq_false_iff_not, beq_iff_eq, bne_iff_ne, bne_eq_false_iff_eq, beq_eq_false_iff_ne, Bool.not_eq_true, Bool.not_eq_false, Bool.not_eq_true', Bool.not_eq_false', ne_eq] at h1
    refine awp_exit ?_
    refine awp_seq ?_
    refine awp_rw rfl ?_
    refine RW.op rfl rfl (eff_load rfl rfl ti29 rfl (.whole rfl rfl rfl rfl rfl rfl)) ?_
    refine RW.store rfl rfl (eff_storeW (v := .agg _) (els := [_]) (els' := [_]) rfl rfl ti29 rfl rfl rfl rfl rfl rfl rfl rfl rfl) ?_
    refine RW.nil ?_
    refine awp_ret ?_
    have hi2 : i = S.bundles.length := by omega
    subst hi2
    rw [List.take_length] at he
    subst he
    exact ⟨Or.inr rfl, [_], [.agg [.t (encI S.quota), .own 32 S.bundles.length 0 S.bundles.length, .own 7 1 0 (0 + (List.map AV.t (List.map encI S.passed)).length), .own 11 1 0 (0 + (List.map AV.t (List.map encI S.seen)).length)]], ⟨.cell rfl ti29 (.whole rfl rfl rfl rfl rfl rfl), trivial⟩, rfl, weak_keep ⟨rfl, rfl, trivial⟩ ⟨rfl, okE_t, rfl, okE_t, rfl, okE_t, trivial⟩, rfl⟩

end Go.Tv.C27

end
section
open Go Go.Tv Go.Proofs
namespace Go.Tv.C27
set_option maxRecDepth 20000
set_option linter.unusedSimpArgs false
set_option linter.unusedVariables false
theorem sorted_retG (l : List Int) (hl : l.length ≤ 1000000) (hne : l ≠ []) : RetG Try.prog 50 [] [.t (encIs l)] [(3, some ⟨1, 3, 3, ((sortl l).map encI).map .t⟩)] (.own 3 3 0 l.length) := by
  refine retG_of_awp Try.func50 rfl (Nat.le_of_ble_eq_true rfl) ?_
  refine awp_seq ?_
  refine awp_rw rfl ?_
  refine RW.op rfl rfl (eff_assign (v := .t _) rfl rfl rfl) ?_
  refine RW.nil ?_
  refine awp_seq ?_
  refine awp_rw rfl ?_
  refine RW.op rfl rfl (eff_assign (v := .t _) rfl rfl rfl) ?_
  refine RW.nil ?_
  show AWP _ _ _ _
  refine awp_weak (weak_adopt (d := 3) (id := 3) (k := 1) (ty := 3) rfl rfl) ?_
  refine awp_seq ?_
  refine awp_seq ?_
  refine awp_rw rfl ?_
  refine RW.op rfl rfl (eff_assign (v := .t _) rfl rfl rfl) ?_
  refine RW.nil ?_
  refine awp_block ?_
  refine awp_loopW (fun m s => ∃ (i : Nat) (g : Nat) (els : List AV), (i ≤ l.length) ∧ ((i = 0 ∧ g = 0) ∨ (0 < i ∧ g = 3)) ∧ (els = ((sortl (l.take i)).map encI).map .t) ∧ m = l.length - i ∧ s = ⟨48, [(0, .t (encIs l)), (3, .own 3 g 0 i), (4, .t (encI (i : Nat)))], [(3, some ⟨1, 3, g, els⟩)]⟩) (_) (⟨_, weak_keep (n := 48) (fr' := [(0, .t (encIs l)), (3, .own 3 0 0 0), (4, .t (encI (0 : Nat)))]) (st' := [(3, some ⟨1, 3, 0, ([])⟩)]) ⟨rfl, rfl, rfl, rfl, rfl, rfl, trivial⟩ ⟨rfl, okE_nil, trivial⟩, 0, 0, [], (by omega), (by omega), (by rfl), rfl, rfl⟩) ?_
  rintro m s ⟨i, g, els, hi, hg, he, rfl, rfl⟩
  have hX : (sortl (l.take i)).length = i := by rw [sortl_length]; simp; omega
  refine awp_seq ?_
  refine awp_seq ?_
  refine awp_rw rfl ?_
  refine RW.op rfl rfl (eff_move (v := .t _) rfl rfl rfl) ?_
  refine RW.op rfl rfl (eff_move (v := .t _) rfl rfl rfl) ?_
  refine RW.op rfl rfl (eff_lenM rfl rfl te27 rfl) ?_
  refine RW.op rfl rfl (eff_iop rfl rfl rfl rfl rfl) ?_
  refine RW.nil ?_
  refine awp_cond rfl (fun h1 => ?_) (fun h1 => ?_)
  · try simp only [decide_eq_true_eq, decide_eq_false_iff_not, beq_iff_eq, bne_iff_ne, bne_eq_false_iff_eq, beq_eq_false_iff_ne, Bool.not_eq_true, Bool.not_eq_false, Bool.not_eq_true', Bool.not_eq_false', ne_eq] at h1
    refine awp_skip ?_
    refine awp_seq ?_
    refine awp_block ?_
    refine awp_seq ?_
    refine awp_rw rfl ?_
    refine RW.op rfl rfl (eff_assign (v := .t _) rfl rfl rfl) ?_
    refine RW.nil ?_
    refine awp_seq ?_
    refine awp_block ?_
    refine awp_loopW (fun m s => ∃ (k : Nat), (k ≤ i) ∧ (∀ y, y ∈ (sortl (l.take i)).take k → y < l[i]) ∧ m = i - k ∧ s = ⟨48, [(0, .t (encIs l)), (3, .own 3 g 0 i), (4, .t (encI (i : Nat))), (5, .t (encI (k : Nat)))], [(3, some ⟨1, 3, g, els⟩)]⟩) (_) (⟨_, weak_keep (n := 48) (fr' := [(0, .t (encIs l)), (3, .own 3 g 0 i), (4, .t (encI (i : Nat))), (5, .t (encI (0 : Nat)))]) (st' := [(3, some ⟨1, 3, g, els⟩)]) ⟨rfl, rfl, rfl, rfl, rfl, rfl, rfl, rfl, trivial⟩ ⟨rfl, (by rw [he]; exact okE_t), trivial⟩, 0, (by omega), (by simp), rfl, rfl⟩) ?_
    rintro m s ⟨k, hk, ha, rfl, rfl⟩
    refine awp_seq ?_
    refine awp_seq ?_
    by_cases hc2 : k < i
    · refine awp_rd [(some 13, []), (some 14, []), (some 15, []), (some 16, []), (some 17, []), (some 18, []), (some 19, []), (some 20, []), (some 21, []), (some 22, []), (some 23, []), (some 24, []), (some 25, []), (some 26, []), (some 27, [])] [[], [], [1], [0, 1, 2], [0, 1, 2, 3], [0, 1, 2, 3, 4], [0, 1, 2, 3, 4], [0, 1, 2, 3, 4, 5, 6], [0, 1, 2, 3, 4, 5, 6, 7], [0, 1, 2, 3, 4], [0, 1, 2, 3, 4], [0, 1, 2, 3, 4, 9, 10], [0, 1, 2, 3, 4, 9, 10, 11], [0, 1, 2, 3, 4, 5, 6, 7, 8, 9, 10, 11, 12], [0, 1, 2, 3, 4, 5, 6, 7, 8, 9, 10, 11, 12, 13]] tm rfl rfl rfl rfl ?_
      refine RD.op rfl rfl rfl (eff_move (v := .t _) rfl rfl rfl) ?_
      refine RD.op rfl rfl rfl (eff_move (v := .own _ _ _ _) rfl rfl rfl) ?_
      refine RD.op rfl rfl rfl (eff_len rfl rfl te27 rfl rfl rfl) ?_
      refine RD.op rfl rfl rfl (eff_iop (r := .bool true) rfl rfl rfl rfl (by simp [iop, hc2])) ?_
      refine RD.op rfl rfl rfl (eff_move (v := .t _) rfl rfl rfl) ?_
      refine RD.gop rfl rfl rfl rfl rfl rfl rfl (eff_move (v := .own _ _ _ _) rfl rfl rfl) ?_
      refine RD.gop rfl rfl rfl rfl rfl rfl rfl (eff_move (v := .t _) rfl rfl rfl) ?_
      refine RD.gop rfl rfl rfl rfl rfl rfl rfl (eff_indexAddr rfl rfl te27 rfl rfl rfl rfl rfl rfl (by omega)) ?_
      refine RD.gop rfl rfl rfl rfl rfl rfl rfl (eff_load (y := .t (encI (sortl (l.take i))[k])) rfl rfl ti3 rfl (.one rfl rfl (by rw [he]; simp only [Nat.zero_add, List.getElem?_map, List.getElem?_eq_getElem (show k < (sortl (l.take i)).length by omega)]; rfl) rfl)) ?_
      refine RD.gop rfl rfl rfl rfl rfl rfl rfl (eff_move (v := .t _) rfl rfl rfl) ?_
      refine RD.gop rfl rfl rfl rfl rfl rfl rfl (eff_move (v := .t _) rfl rfl rfl) ?_
      refine RD.gop rfl rfl rfl rfl rfl rfl rfl (eff_indexM rfl rfl te27 rfl rfl rfl (by first | assumption | exact List.getElem?_eq_getElem (by omega)) rfl (by decide)) ?_
      refine RD.gop rfl rfl rfl rfl rfl rfl rfl (eff_loadW1 rfl rfl ti3 rfl rfl) ?_
      refine RD.gop rfl rfl rfl rfl rfl rfl rfl (eff_iop rfl rfl rfl rfl rfl) ?_
      refine RD.op rfl rfl rfl (eff_pick (v := .t _) rfl rfl rfl rfl) ?_
      refine RD.nil ?_
      refine awp_cond rfl (fun h3 => ?_) (fun h3 => ?_)
      · try simp only [decide_eq_true_eq, decide_eq_false_iff_not, beq_iff_eq, bne_iff_ne, bne_eq_false_iff_eq, beq_eq_false_iff_ne, Bool.not_eq_true, Bool.not_eq_false, Bool.not_eq_true', Bool.not_eq_false', ne_eq] at h3
        refine awp_skip ?_
        refine awp_block ?_
        refine awp_rw rfl ?_
        refine RW.op rfl rfl (eff_move (v := .t _) rfl rfl rfl) ?_
        refine RW.op rfl rfl (eff_iop rfl rfl rfl rfl (iadd (by omega))) ?_
        refine RW.op rfl rfl (eff_assign (v := .t _) rfl rfl rfl) ?_
        refine RW.nil ?_
        refine ⟨_, ?_, _, weak_keep (n := 48) (fr' := [(0, .t (encIs l)), (3, .own 3 g 0 i), (4, .t (encI (i : Nat))), (5, .t (encI ((k + 1) : Nat)))]) (st' := [(3, some ⟨1, 3, g, els⟩)]) ⟨rfl, rfl, rfl, rfl, rfl, rfl, rfl, rfl, trivial⟩ ⟨rfl, (by rw [he]; exact okE_t), trivial⟩, k + 1, (by omega), (by intro y hy; rcases (mem_take_succ (by omega)).1 hy with h | h; exact ha y h; rw [h]; exact h3), rfl, rfl⟩
        omega
      · try simp only [decide_eq_true_eq, decide_eq_false_iff_not, beq_iff_eq, bne_iff_ne, bne_eq_false_iff_eq, beq_eq_false_iff_ne, Bool.not_eq_true, Bool.not_eq_false, Bool.not_eq_true', Bool.not_eq_false', ne_eq] at h3
        refine awp_exit ?_
        refine awp_seq ?_
        refine awp_rw rfl ?_
        refine RW.op rfl rfl (eff_assign (v := .t _) rfl rfl rfl) ?_
        refine RW.nil ?_
        show AWP _ _ _ _
        refine awp_weak (weak_adopt (d := 6) (id := 6) (k := 1) (ty := 3) rfl rfl) ?_
        refine awp_seq ?_
        refine awp_rw rfl ?_
        refine RW.op rfl rfl (eff_move (v := .own _ _ _ _) rfl rfl rfl) ?_
        refine RW.op rfl rfl (eff_move (v := .own _ _ _ _) rfl rfl rfl) ?_
        refine RW.op rfl rfl (eff_move (v := .t _) rfl rfl rfl) ?_
        refine RW.op rfl rfl (eff_slice (l := none) (h := some k) rfl rfl te27 rfl rfl rfl rfl .no (.yes rfl rfl) (Nat.zero_le _) (by rw [he]; simp; omega)) ?_
        refine RW.new rfl rfl (eff_appendAny (id := 6) rfl rfl ta27 rfl rfl rfl rfl rfl rfl (srcOwn' (ys := (((sortl (l.take i)).take k).map encI).map .t) rfl rfl rfl rfl (by rw [he]; simp; omega) (by rw [he]; simp [List.map_take])) (by simp; omega) (by simp; omega)) ?_
        refine RW.op rfl rfl (eff_assign (v := .own _ _ _ _) rfl rfl rfl) ?_
        refine RW.nil ?_
        refine awp_seq ?_
        refine awp_rw rfl ?_
        refine RW.op rfl rfl (eff_move (v := .own _ _ _ _) rfl rfl rfl) ?_
        refine RW.op rfl rfl (eff_move (v := .t _) rfl rfl rfl) ?_
        refine RW.op rfl rfl (eff_move (v := .t _) rfl rfl rfl) ?_
        refine RW.op rfl rfl (eff_indexM rfl rfl te27 rfl rfl rfl (by first | assumption | exact List.getElem?_eq_getElem (by omega)) rfl (by decide)) ?_
        refine RW.op rfl rfl (eff_loadW1 rfl rfl ti3 rfl rfl) ?_
        refine RW.new rfl rfl (eff_buildSlice1 (id := 40) (els := [_]) rfl rfl te27 tz3 rfl (by decide) rfl rfl rfl rfl) ?_
        refine RW.new rfl rfl (eff_append (id := 6) (ys := [_]) rfl rfl ta27 rfl rfl rfl (by simp) rfl rfl (srcOwn rfl rfl rfl rfl rfl rfl) (by simp) (by simp; omega) (by simp; omega)) ?_
        refine RW.op rfl rfl (eff_assign (v := .own _ _ _ _) rfl rfl rfl) ?_
        refine RW.nil ?_
        refine awp_rw rfl ?_
        refine RW.op rfl rfl (eff_move (v := .own _ _ _ _) rfl rfl rfl) ?_
        refine RW.op rfl rfl (eff_move (v := .own _ _ _ _) rfl rfl rfl) ?_
        refine RW.op rfl rfl (eff_move (v := .t _) rfl rfl rfl) ?_
        refine RW.op rfl rfl (eff_slice (l := some k) (h := none) rfl rfl te27 rfl rfl rfl rfl (.yes rfl rfl) .no (by simp; omega) (by rw [he]; simp; omega)) ?_
        refine RW.new rfl rfl (eff_appendAny (id := 6) rfl rfl ta27 rfl rfl rfl (by simp) rfl rfl (srcOwn' (ys := (((sortl (l.take i)).drop k).map encI).map .t) rfl rfl rfl rfl (by rw [he]; simp; omega) (by rw [he, List.take_of_length_le (by simp; omega)]; simp [List.map_drop])) (by simp; omega) (by simp; omega)) ?_
        refine RW.op rfl rfl (eff_assign (v := .own _ _ _ _) rfl rfl rfl) ?_
        refine RW.nil ?_
        refine awp_rw rfl ?_
        refine RW.op rfl rfl (eff_move (v := .t _) rfl rfl rfl) ?_
        refine RW.op rfl rfl (eff_iop rfl rfl rfl rfl (iadd (by omega))) ?_
        refine RW.op rfl rfl (eff_assign (v := .t _) rfl rfl rfl) ?_
        refine RW.nil ?_
        have hIn := ins_split l[i] (sortl (l.take i)) k (by omega) ha (fun hlt => by first | exact h3 | omega)
        exact ⟨_, (by omega : l.length - (i + 1) < l.length - i), _, (weak_keep (n := 48) (fr' := [(0, .t (encIs l)), (3, .own 6 3 0 (i + 1)), (4, .t (encI ((i + 1 : Nat) : Int)))]) (st' := [(6, some ⟨1, 3, 3, _⟩)]) ⟨rfl, rfl, (by show AV.own 6 _ 0 _ = AV.own 6 3 0 (i + 1); congr 1; simp; omega), rfl, rfl, rfl, trivial⟩
          ⟨rfl, okE_app (okE_app (okE_app okE_nil okE_t) (okE_one rfl)) okE_t, trivial⟩).trans (weak_ren (fr' := [(0, .t (encIs l)), (3, .own 3 3 0 (i + 1)), (4, .t (encI ((i + 1 : Nat) : Int)))]) (st' := [(3, some ⟨1, 3, 3, _⟩)]) (fun _ => 3) rfl
          ⟨treeL_app (treeL_app (treeL_app treeL_nil treeL_t) treeL_one) treeL_t, trivial⟩ ⟨rfl, .inl (.t _), rfl, .inl (.own _ _ _ _ rfl rfl), rfl, .inl (.t _), trivial⟩ rfl), i + 1, 3, _,
          by omega, by omega, (by rw [sortl_take (by omega), hIn]; simp), rfl, rfl⟩
    · refine awp_rd [(some 13, []), (some 14, []), (some 15, []), (some 16, []), (some 17, []), (some 18, []), (some 19, []), (some 20, []), (some 21, []), (some 22, []), (some 23, []), (some 24, []), (some 25, []), (some 26, []), (some 27, [])] [[], [], [1], [0, 1, 2], [0, 1, 2, 3], [0, 1, 2, 3, 4], [0, 1, 2, 3, 4], [0, 1, 2, 3, 4, 5, 6], [0, 1, 2, 3, 4, 5, 6, 7], [0, 1, 2, 3, 4], [0, 1, 2, 3, 4], [0, 1, 2, 3, 4, 9, 10], [0, 1, 2, 3, 4, 9, 10, 11], [0, 1, 2, 3, 4, 5, 6, 7, 8, 9, 10, 11, 12], [0, 1, 2, 3, 4, 5, 6, 7, 8, 9, 10, 11, 12, 13]] tm rfl rfl rfl rfl ?_
      refine RD.op rfl rfl rfl (eff_move (v := .t _) rfl rfl rfl) ?_
      refine RD.op rfl rfl rfl (eff_move (v := .own _ _ _ _) rfl rfl rfl) ?_
      refine RD.op rfl rfl rfl (eff_len rfl rfl te27 rfl rfl rfl) ?_
      refine RD.op rfl rfl rfl (eff_iop (r := .bool false) rfl rfl rfl rfl (by simp [iop, hc2])) ?_
      refine RD.op rfl rfl rfl (eff_move (v := .t _) rfl rfl rfl) ?_
      refine RD.gskip rfl rfl rfl rfl rfl rfl (by decide) ?_
      refine RD.gskip rfl rfl rfl rfl rfl rfl (by decide) ?_
      refine RD.gskip rfl rfl rfl rfl rfl rfl (by decide) ?_
      refine RD.gskip rfl rfl rfl rfl rfl rfl (by decide) ?_
      refine RD.gskip rfl rfl rfl rfl rfl rfl (by decide) ?_
      refine RD.gskip rfl rfl rfl rfl rfl rfl (by decide) ?_
      refine RD.gskip rfl rfl rfl rfl rfl rfl (by decide) ?_
      refine RD.gskip rfl rfl rfl rfl rfl rfl (by decide) ?_
      refine RD.gskip rfl rfl rfl rfl rfl rfl (by decide) ?_
      refine RD.op rfl rfl rfl (eff_pick (v := .t _) rfl rfl rfl rfl) ?_
      refine RD.nil ?_
      refine awp_cond rfl (fun h => nomatch h) (fun _ => ?_)
      refine awp_exit ?_
      refine awp_seq ?_
      refine awp_rw rfl ?_
      refine RW.op rfl rfl (eff_assign (v := .t _) rfl rfl rfl) ?_
      refine RW.nil ?_
      show AWP _ _ _ _
      refine awp_weak (weak_adopt (d := 6) (id := 6) (k := 1) (ty := 3) rfl rfl) ?_
      refine awp_seq ?_
      refine awp_rw rfl ?_
      refine RW.op rfl rfl (eff_move (v := .own _ _ _ _) rfl rfl rfl) ?_
      refine RW.op rfl rfl (eff_move (v := .own _ _ _ _) rfl rfl rfl) ?_
      refine RW.op rfl rfl (eff_move (v := .t _) rfl rfl rfl) ?_
      refine RW.op rfl rfl (eff_slice (l := none) (h := some k) rfl rfl te27 rfl rfl rfl rfl .no (.yes rfl rfl) (Nat.zero_le _) (by rw [he]; simp; omega)) ?_
      refine RW.new rfl rfl (eff_appendAny (id := 6) rfl rfl ta27 rfl rfl rfl rfl rfl rfl (srcOwn' (ys := (((sortl (l.take i)).take k).map encI).map .t) rfl rfl rfl rfl (by rw [he]; simp; omega) (by rw [he]; simp [List.map_take])) (by simp; omega) (by simp; omega)) ?_
      refine RW.op rfl rfl (eff_assign (v := .own _ _ _ _) rfl rfl rfl) ?_
      refine RW.nil ?_
      refine awp_seq ?_
      refine awp_rw rfl ?_
      refine RW.op rfl rfl (eff_move (v := .own _ _ _ _) rfl rfl rfl) ?_
      refine RW.op rfl rfl (eff_move (v := .t _) rfl rfl rfl) ?_
      refine RW.op rfl rfl (eff_move (v := .t _) rfl rfl rfl) ?_
      refine RW.op rfl rfl (eff_indexM rfl rfl te27 rfl rfl rfl (by first | assumption | exact List.getElem?_eq_getElem (by omega)) rfl (by decide)) ?_
      refine RW.op rfl rfl (eff_loadW1 rfl rfl ti3 rfl rfl) ?_
      refine RW.new rfl rfl (eff_buildSlice1 (id := 40) (els := [_]) rfl rfl te27 tz3 rfl (by decide) rfl rfl rfl rfl) ?_
      refine RW.new rfl rfl (eff_append (id := 6) (ys := [_]) rfl rfl ta27 rfl rfl rfl (by simp) rfl rfl (srcOwn rfl rfl rfl rfl rfl rfl) (by simp) (by simp; omega) (by simp; omega)) ?_
      refine RW.op rfl rfl (eff_assign (v := .own _ _ _ _) rfl rfl rfl) ?_
      refine RW.nil ?_
      refine awp_rw rfl ?_
      refine RW.op rfl rfl (eff_move (v := .own _ _ _ _) rfl rfl rfl) ?_
      refine RW.op rfl rfl (eff_move (v := .own _ _ _ _) rfl rfl rfl) ?_
      refine RW.op rfl rfl (eff_move (v := .t _) rfl rfl rfl) ?_
      refine RW.op rfl rfl (eff_slice (l := some k) (h := none) rfl rfl te27 rfl rfl rfl rfl (.yes rfl rfl) .no (by simp; omega) (by rw [he]; simp; omega)) ?_
      refine RW.new rfl rfl (eff_appendAny (id := 6) rfl rfl ta27 rfl rfl rfl (by simp) rfl rfl (srcOwn' (ys := (((sortl (l.take i)).drop k).map encI).map .t) rfl rfl rfl rfl (by rw [he]; simp; omega) (by rw [he, List.take_of_length_le (by simp; omega)]; simp [List.map_drop])) (by simp; omega) (by simp; omega)) ?_
      refine RW.op rfl rfl (eff_assign (v := .own _ _ _ _) rfl rfl rfl) ?_
      refine RW.nil ?_
      refine awp_rw rfl ?_
      refine RW.op rfl rfl (eff_move (v := .t _) rfl rfl rfl) ?_
      refine RW.op rfl rfl (eff_iop rfl rfl rfl rfl (iadd (by omega))) ?_
      refine RW.op rfl rfl (eff_assign (v := .t _) rfl rfl rfl) ?_
      refine RW.nil ?_
      have hIn := ins_split l[i] (sortl (l.take i)) k (by omega) ha (fun hlt => by first | exact h3 | omega)
      exact ⟨_, (by omega : l.length - (i + 1) < l.length - i), _, (weak_keep (n := 48) (fr' := [(0, .t (encIs l)), (3, .own 6 3 0 (i + 1)), (4, .t (encI ((i + 1 : Nat) : Int)))]) (st' := [(6, some ⟨1, 3, 3, _⟩)]) ⟨rfl, rfl, (by show AV.own 6 _ 0 _ = AV.own 6 3 0 (i + 1); congr 1; simp; omega), rfl, rfl, rfl, trivial⟩
        ⟨rfl, okE_app (okE_app (okE_app okE_nil okE_t) (okE_one rfl)) okE_t, trivial⟩).trans (weak_ren (fr' := [(0, .t (encIs l)), (3, .own 3 3 0 (i + 1)), (4, .t (encI ((i + 1 : Nat) : Int)))]) (st' := [(3, some ⟨1, 3, 3, _⟩)]) (fun _ => 3) rfl
        ⟨treeL_app (treeL_app (treeL_app treeL_nil treeL_t) treeL_one) treeL_t, trivial⟩ ⟨rfl, .inl (.t _), rfl, .inl (.own _ _ _ _ rfl rfl), rfl, .inl (.t _), trivial⟩ rfl), i + 1, 3, _,
        by omega, by omega, (by rw [sortl_take (by omega), hIn]; simp), rfl, rfl⟩
  · try simp only [decide_eq_true_eq, decide_eq_false_iff_not, beq_iff_eq, bne_iff_ne, bne_eq_false_iff_eq, beq_eq_false_iff_ne, Bool.not_eq_true, Bool.not_eq_false, Bool.not_eq_true', Bool.not_eq_false', ne_eq] at h1
    refine awp_exit ?_
    refine awp_seq ?_
    refine awp_rw rfl ?_
    refine RW.op rfl rfl (eff_move (v := .own _ _ _ _) rfl rfl rfl) ?_
    refine RW.op rfl rfl (eff_assign (v := .own _ _ _ _) rfl rfl rfl) ?_
    refine RW.nil ?_
    refine awp_ret ?_
    have hi2 : i = l.length := by omega
    have hln : l.length ≠ 0 := fun h => hne (List.length_eq_zero_iff.1 h)
    subst hi2
    rw [List.take_length] at he
    subst he
    obtain rfl : g = 3 := by omega
    exact ⟨Or.inr rfl, [_], [.own 3 3 0 l.length], ⟨.tmp rfl, trivial⟩, rfl, weak_keep ⟨rfl, rfl, trivial⟩ ⟨rfl, okE_t, trivial⟩, rfl⟩

end Go.Tv.C27

end
section
open Go Go.Tv Go.Proofs
namespace Go.Tv.C27
set_option maxRecDepth 20000
set_option linter.unusedSimpArgs false
set_option linter.unusedVariables false
theorem retry36_ret (S : Store) (hS : SOK S) : Ret Try.prog 36 [encS S] (encS (retry S)) := by
  refine ret_of_awp Try.func36 rfl (Nat.le_of_ble_eq_true rfl) ?_
  refine awp_seq ?_
  refine awp_rw rfl ?_
  refine RW.new rfl rfl (eff_boxK (v := .t _) (k := 4) (id := 1) rfl rfl rfl rfl rfl rfl) ?_
  refine RW.new rfl rfl (eff_allocK (k := 4) (id := 2) rfl rfl tz29 rfl rfl) ?_
  refine RW.nil ?_
  refine awp_seq ?_
  refine awp_rw rfl ?_
  refine RW.op rfl rfl (eff_load rfl rfl ti29 rfl (.whole rfl rfl rfl rfl rfl rfl)) ?_
  refine RW.new3 rfl rfl (eff_callG (copy_retG S hS) co49 (fun id => id + 1000) rfl rfl rfl ⟨.t _, trivial⟩ (RenA.aggL (ds := [_, _, _, _]) ⟨.t _, .own _ _ _ _ rfl rfl, .own _ _ _ _ rfl rfl, .own _ _ _ _ rfl rfl, trivial⟩) rfl trivial ⟨⟨treeEls_t, .inr rfl⟩, ⟨treeEls_t, .inr rfl⟩, ⟨treeEls_t, .inr rfl⟩, trivial⟩) ?_
  refine RW.new rfl rfl (eff_allocK (k := 4) (id := 3) rfl rfl tz29 rfl rfl) ?_
  refine RW.store rfl rfl (eff_storeW (v := .agg _) (els := [_]) (els' := [_]) rfl rfl ti29 rfl rfl rfl rfl rfl rfl rfl rfl rfl) ?_
  refine RW.nil ?_
  refine awp_seq ?_
  refine awp_rw rfl ?_
  refine RW.op rfl rfl (eff_fieldAddr rfl rfl tf29_2 (by decide) rfl rfl rfl (Nat.le_of_ble_eq_true rfl)) ?_
  refine RW.store rfl rfl (eff_storeA (v := .t _) (ys := [_, _, _, _]) (els := [_]) (els' := [_]) rfl rfl ti27 rfl rfl rfl rfl rfl rfl rfl (Nat.le_of_ble_eq_true rfl) rfl rfl rfl) ?_
  refine RW.nil ?_
  refine awp_seq ?_
  refine awp_rw rfl ?_
  refine RW.op rfl rfl (eff_load rfl rfl ti29 rfl (.whole rfl rfl rfl rfl rfl rfl)) ?_
  refine RW.store rfl rfl (eff_storeW (v := .agg _) (els := [_]) (els' := [_]) rfl rfl ti29 rfl rfl rfl rfl rfl rfl rfl rfl rfl) ?_
  refine RW.nil ?_
  refine awp_ret ?_
  exact ⟨Or.inr rfl, [_], ⟨.cell rfl ti29 (.whole rfl rfl rfl rfl rfl rfl) (Res.aggP (xs := [_, _, _, _]) ⟨.t _, Res.ownT (xs := S.bundles.map encB) rfl rfl rfl (by simp), .t _, Res.ownT (xs := S.seen.map encI) rfl rfl rfl (by simp), trivial⟩), trivial⟩, (by repeat' first | exact trivial | exact Wk.refl _ | exact Wk.sl _ | refine And.intro ?_ ?_ | refine Wk.tupP ?_ | refine Wk.aggP ?_)⟩

theorem create32_ret (S : Store) (b : Bundle) (hS : SOK S) (hb : BOK b) : Ret Try.prog 32 [encS S, encB b] (.tup [encS (create S b).1, encI (create S b).2]) := by
  refine ret_of_awp Try.func32 rfl (Nat.le_of_ble_eq_true rfl) ?_
  refine awp_seq ?_
  refine awp_rw rfl ?_
  refine RW.new rfl rfl (eff_boxK (v := .t _) (k := 4) (id := 2) rfl rfl rfl rfl rfl rfl) ?_
  refine RW.new rfl rfl (eff_boxK (v := .t _) (k := 8) (id := 3) rfl rfl rfl rfl rfl rfl) ?_
  refine RW.new rfl rfl (eff_allocK (k := 4) (id := 4) rfl rfl tz29 rfl rfl) ?_
  refine RW.op rfl rfl (eff_assign (v := .t _) rfl rfl rfl) ?_
  refine RW.nil ?_
  refine awp_seq ?_
  refine awp_seq ?_
  refine awp_rw rfl ?_
  refine RW.op rfl rfl (eff_fieldAddr rfl rfl tf38_3 (by decide) rfl rfl rfl (Nat.le_of_ble_eq_true rfl)) ?_
  refine RW.op rfl rfl (eff_fieldAddr rfl rfl tf36_4 (by decide) rfl rfl rfl (Nat.le_of_ble_eq_true rfl)) ?_
  refine RW.op rfl rfl (eff_load (y := .t _) rfl rfl ti34 rfl (.one rfl rfl rfl rfl)) ?_
  refine RW.op rfl rfl (eff_lenM rfl rfl te34 rfl) ?_
  refine RW.op rfl rfl (eff_iop rfl rfl rfl rfl rfl) ?_
  refine RW.nil ?_
  refine awp_cond rfl (fun h1 => ?_) (fun h1 => ?_)
  · try simp only [decide_eq_true_eq, decide_eq_false_iff_not, beq_iff_eq, bne_iff_ne, bne_eq_false_iff_eq, beq_eq_false_iff_ne, Bool.not_eq_true, Bool.not_eq_false, Bool.not_eq_true', Bool.not_eq_false', ne_eq] at h1
    refine awp_seq ?_
    refine awp_rw rfl ?_
    refine RW.op rfl rfl (eff_buildT (ys := [_, _, _, _]) rfl rfl tz29 tg29 rfl) ?_
    refine RW.store rfl rfl (eff_storeW (v := .t _) (els := [_]) (els' := [_]) rfl rfl ti29 rfl rfl rfl rfl rfl rfl rfl rfl rfl) ?_
    refine RW.op rfl rfl (eff_assign (v := .t _) rfl rfl rfl) ?_
    refine RW.nil ?_
    refine awp_ret ?_
    rw [show create S b = (zs, 2) from by unfold create; rw [if_pos (by omega)]]
    exact ⟨Or.inr rfl, [_, _], ⟨.cell rfl ti29 (.whole rfl rfl rfl rfl rfl rfl) (.t _), .tmp (.t _), trivial⟩, (by repeat' first | exact trivial | exact Wk.refl _ | exact Wk.sl _ | refine And.intro ?_ ?_ | refine Wk.tupP ?_ | refine Wk.aggP ?_)⟩
  · try simp only [decide_eq_true_eq, decide_eq_false_iff_not, beq_iff_eq, bne_iff_ne, bne_eq_false_iff_eq, beq_eq_false_iff_ne, Bool.not_eq_true, Bool.not_eq_false, Bool.not_eq_true', Bool.not_eq_false', ne_eq] at h1
    refine awp_skip ?_
    refine awp_seq ?_
    refine awp_seq ?_
    refine awp_rw rfl ?_
    refine RW.op rfl rfl (eff_fieldAddr rfl rfl tf29_3 (by decide) rfl rfl rfl (Nat.le_of_ble_eq_true rfl)) ?_
    refine RW.op rfl rfl (eff_load (y := .t _) rfl rfl ti27 rfl (.one rfl rfl rfl rfl)) ?_
    refine RW.op rfl rfl (eff_fieldAddr rfl rfl tf38_0 (by decide) rfl rfl rfl (Nat.le_of_ble_eq_true rfl)) ?_
    refine RW.op rfl rfl (eff_load (y := .t _) rfl rfl ti3 rfl (.one rfl rfl rfl rfl)) ?_
    refine RW.op rfl rfl (eff_callT (has_ret _ _ (by have h1 := hS.2.1; have h3 := hS.2.2.1; omega)) co25 rfl rfl rfl rfl) ?_
    refine RW.nil ?_
    refine awp_cond rfl (fun h2 => ?_) (fun h2 => ?_)
    · try simp only [decide_eq_true_eq, decide_eq_false_iff_not, beq_iff_eq, bne_iff_ne, bne_eq_false_iff_eq, beq_eq_false_iff_ne, Bool.not_eq_true, Bool.not_eq_false, Bool.not_eq_true', Bool.not_eq_false', ne_eq] at h2
      refine awp_seq ?_
      refine awp_rw rfl ?_
      refine RW.op rfl rfl (eff_buildT (ys := [_, _, _, _]) rfl rfl tz29 tg29 rfl) ?_
      refine RW.store rfl rfl (eff_storeW (v := .t _) (els := [_]) (els' := [_]) rfl rfl ti29 rfl rfl rfl rfl rfl rfl rfl rfl rfl) ?_
      refine RW.op rfl rfl (eff_assign (v := .t _) rfl rfl rfl) ?_
      refine RW.nil ?_
      refine awp_ret ?_
      rw [show create S b = (zs, 4) from by unfold create; rw [if_neg (by omega), if_pos h2]]
      exact ⟨Or.inr rfl, [_, _], ⟨.cell rfl ti29 (.whole rfl rfl rfl rfl rfl rfl) (.t _), .tmp (.t _), trivial⟩, (by repeat' first | exact trivial | exact Wk.refl _ | exact Wk.sl _ | refine And.intro ?_ ?_ | refine Wk.tupP ?_ | refine Wk.aggP ?_)⟩
    · try simp only [decide_eq_true_eq, decide_eq_false_iff_not, beq_iff_eq, bne_iff_ne, bne_eq_false_iff_eq, beq_eq_false_iff_ne, Bool.not_eq_true, Bool.not_eq_false, Bool.not_eq_true', Bool.not_eq_false', ne_eq] at h2
      refine awp_skip ?_
      refine awp_seq ?_
      refine awp_seq ?_
      refine awp_rw rfl ?_
      refine RW.op rfl rfl (eff_fieldAddr rfl rfl tf29_1 (by decide) rfl rfl rfl (Nat.le_of_ble_eq_true rfl)) ?_
      refine RW.op rfl rfl (eff_load (y := .t _) rfl rfl ti26 rfl (.one rfl rfl rfl rfl)) ?_
      refine RW.op rfl rfl (eff_lenM rfl rfl te26 rfl) ?_
      refine RW.op rfl rfl (eff_iop rfl rfl rfl rfl rfl) ?_
      refine RW.nil ?_
      refine awp_cond rfl (fun h3 => ?_) (fun h3 => ?_)
      · try simp only [decide_eq_true_eq, decide_eq_false_iff_not, beq_iff_eq, bne_iff_ne, bne_eq_false_iff_eq, beq_eq_false_iff_ne, Bool.not_eq_true, Bool.not_eq_false, Bool.not_eq_true', Bool.not_eq_false', ne_eq] at h3
        refine awp_seq ?_
        refine awp_rw rfl ?_
        refine RW.op rfl rfl (eff_buildT (ys := [_, _, _, _]) rfl rfl tz29 tg29 rfl) ?_
        refine RW.store rfl rfl (eff_storeW (v := .t _) (els := [_]) (els' := [_]) rfl rfl ti29 rfl rfl rfl rfl rfl rfl rfl rfl rfl) ?_
        refine RW.op rfl rfl (eff_assign (v := .t _) rfl rfl rfl) ?_
        refine RW.nil ?_
        refine awp_ret ?_
        rw [show create S b = (zs, 9) from by unfold create; rw [if_neg (by omega), if_neg h2, if_pos (by omega)]]
        exact ⟨Or.inr rfl, [_, _], ⟨.cell rfl ti29 (.whole rfl rfl rfl rfl rfl rfl) (.t _), .tmp (.t _), trivial⟩, (by repeat' first | exact trivial | exact Wk.refl _ | exact Wk.sl _ | refine And.intro ?_ ?_ | refine Wk.tupP ?_ | refine Wk.aggP ?_)⟩
      · try simp only [decide_eq_true_eq, decide_eq_false_iff_not, beq_iff_eq, bne_iff_ne, bne_eq_false_iff_eq, beq_eq_false_iff_ne, Bool.not_eq_true, Bool.not_eq_false, Bool.not_eq_true', Bool.not_eq_false', ne_eq] at h3
        refine awp_skip ?_
        refine awp_seq ?_
        refine awp_seq ?_
        have hu := used_bd hS
        have hsz := size_bd hb
        refine awp_rd [(some 24, []), (some 25, []), (some 26, []), (some 27, []), (some 28, []), (some 29, []), (some 30, []), (some 31, [])] [[], [0], [], [0, 1, 2], [0, 1, 2, 3], [], [5], [0, 1, 2, 3, 4, 5, 6]] tm rfl rfl rfl rfl ?_
        refine RD.op rfl rfl rfl (eff_load rfl rfl ti29 rfl (.whole rfl rfl rfl rfl rfl rfl)) ?_
        refine RD.op rfl rfl rfl (eff_callT (used15_ret S hS) co15 rfl rfl rfl rfl) ?_
        refine RD.op rfl rfl rfl (eff_load rfl rfl ti38 rfl (.whole rfl rfl rfl rfl rfl rfl)) ?_
        refine RD.op rfl rfl rfl (eff_callT (size17_ret b hb) co17 rfl rfl rfl rfl) ?_
        have hu := used_bd hS; have hsz := size_bd hb
        refine RD.op rfl rfl rfl (eff_iop rfl rfl rfl rfl (iadd (by omega))) ?_
        refine RD.op rfl rfl rfl (eff_fieldAddr rfl rfl tf29_0 (by decide) rfl rfl rfl (Nat.le_of_ble_eq_true rfl)) ?_
        refine RD.op rfl rfl rfl (eff_load (y := .t _) rfl rfl ti3 rfl (.one rfl rfl rfl rfl)) ?_
        refine RD.op rfl rfl rfl (eff_iop rfl rfl rfl rfl rfl) ?_
        refine RD.nil ?_
        refine awp_cond rfl (fun h4 => ?_) (fun h4 => ?_)
        · try simp only [decide_eq_true_eq, decide_eq_false_iff_not, beq_iff_eq, bne_iff_ne, bne_eq_false_iff_eq, beq_eq_false_iff_ne, Bool.not_eq_true, Bool.not_eq_false, Bool.not_eq_true', Bool.not_eq_false', ne_eq] at h4
          refine awp_seq ?_
          refine awp_rw rfl ?_
          refine RW.op rfl rfl (eff_buildT (ys := [_, _, _, _]) rfl rfl tz29 tg29 rfl) ?_
          refine RW.store rfl rfl (eff_storeW (v := .t _) (els := [_]) (els' := [_]) rfl rfl ti29 rfl rfl rfl rfl rfl rfl rfl rfl rfl) ?_
          refine RW.op rfl rfl (eff_assign (v := .t _) rfl rfl rfl) ?_
          refine RW.nil ?_
          refine awp_ret ?_
          rw [show create S b = (zs, 42) from by unfold create; rw [if_neg (by omega), if_neg h2, if_neg (by omega), if_pos (by omega)]]
          exact ⟨Or.inr rfl, [_, _], ⟨.cell rfl ti29 (.whole rfl rfl rfl rfl rfl rfl) (.t _), .tmp (.t _), trivial⟩, (by repeat' first | exact trivial | exact Wk.refl _ | exact Wk.sl _ | refine And.intro ?_ ?_ | refine Wk.tupP ?_ | refine Wk.aggP ?_)⟩
        · try simp only [decide_eq_true_eq, decide_eq_false_iff_not, beq_iff_eq, bne_iff_ne, bne_eq_false_iff_eq, beq_eq_false_iff_ne, Bool.not_eq_true, Bool.not_eq_false, Bool.not_eq_true', Bool.not_eq_false', ne_eq] at h4
          refine awp_skip ?_
          refine awp_seq ?_
          refine awp_rw rfl ?_
          refine RW.op rfl rfl (eff_load rfl rfl ti29 rfl (.whole rfl rfl rfl rfl rfl rfl)) ?_
          refine RW.new3 rfl rfl (eff_callG (copy_retG S hS) co49 (fun id => id + 1000) rfl rfl rfl ⟨.t _, trivial⟩ (RenA.aggL (ds := [_, _, _, _]) ⟨.t _, .own _ _ _ _ rfl rfl, .own _ _ _ _ rfl rfl, .own _ _ _ _ rfl rfl, trivial⟩) rfl trivial ⟨⟨treeEls_t, .inr rfl⟩, ⟨treeEls_t, .inr rfl⟩, ⟨treeEls_t, .inr rfl⟩, trivial⟩) ?_
          refine RW.new rfl rfl (eff_allocK (k := 4) (id := 6) rfl rfl tz29 rfl rfl) ?_
          refine RW.store rfl rfl (eff_storeW (v := .agg _) (els := [_]) (els' := [_]) rfl rfl ti29 rfl rfl rfl rfl rfl rfl rfl rfl rfl) ?_
          refine RW.nil ?_
          refine awp_seq ?_
          refine awp_rd [(some 35, []), (some 36, []), (some 37, []), (some 38, []), (some 39, [39]), (some 40, [1032]), (some 41, []), (none, [6])] [[], [0], [], [2], [2, 3], [0, 1, 2, 3, 4], [0, 1, 2, 3, 4, 5], [0, 1, 2, 3, 4, 5, 6]] tm rfl rfl rfl rfl ?_
          refine RD.op rfl rfl rfl (eff_fieldAddr rfl rfl tf29_1 (by decide) rfl rfl rfl (Nat.le_of_ble_eq_true rfl)) ?_
          refine RD.op rfl rfl rfl (eff_load (y := .own _ _ _ _) rfl rfl ti26 rfl (.one rfl rfl rfl rfl)) ?_
          refine RD.op rfl rfl rfl (eff_load rfl rfl ti38 rfl (.whole rfl rfl rfl rfl rfl rfl)) ?_
          refine RD.op rfl rfl rfl (eff_callT (copyBundle_ret b hb) co40 rfl rfl rfl rfl) ?_
          refine RD.new rfl rfl rfl (eff_buildSliceL (id := 39) (els := [.t (.agg [_, _, _, _, _, _, _, _])]) rfl rfl te26 tz38 rfl (by decide) (by decide) rfl rfl rfl rfl) ?_
          refine RD.new rfl rfl rfl (eff_append (id := 1032) (ys := [_]) rfl rfl ta26 rfl rfl rfl (by simp) rfl rfl (srcOwn rfl rfl rfl rfl rfl rfl) (by simp) (by have h1 := hS.1; have h2 := hS.2.1; have h3 := hS.2.2.1; simp; omega) (by have h1 := hS.1; have h2 := hS.2.1; have h3 := hS.2.2.1; simp; omega)) ?_
          refine RD.op rfl rfl rfl (eff_fieldAddr rfl rfl tf29_1 (by decide) rfl rfl rfl (Nat.le_of_ble_eq_true rfl)) ?_
          refine RD.store rfl rfl rfl (eff_storeA (v := .own _ _ _ _) (ys := [_, _, _, _]) (els := [_]) (els' := [_]) rfl rfl ti26 rfl rfl rfl rfl rfl rfl rfl (Nat.le_of_ble_eq_true rfl) rfl rfl rfl) ?_
          refine RD.nil ?_
          refine awp_seq ?_
          refine awp_rw rfl ?_
          refine RW.op rfl rfl (eff_fieldAddr rfl rfl tf29_3 (by decide) rfl rfl rfl (Nat.le_of_ble_eq_true rfl)) ?_
          refine RW.op rfl rfl (eff_load (y := .own _ _ _ _) rfl rfl ti27 rfl (.one rfl rfl rfl rfl)) ?_
          refine RW.op rfl rfl (eff_fieldAddr rfl rfl tf38_0 (by decide) rfl rfl rfl (Nat.le_of_ble_eq_true rfl)) ?_
          refine RW.op rfl rfl (eff_load (y := .t _) rfl rfl ti3 rfl (.one rfl rfl rfl rfl)) ?_
          refine RW.new rfl rfl (eff_buildSlice1 (id := 46) (els := [_]) rfl rfl te27 tz3 rfl (by decide) rfl rfl rfl rfl) ?_
          refine RW.new rfl rfl (eff_append (id := 1011) (ys := [_]) rfl rfl ta27 rfl rfl rfl (by simp) rfl rfl (srcOwn rfl rfl rfl rfl rfl rfl) (by simp) (by have h1 := hS.1; have h2 := hS.2.1; have h3 := hS.2.2.1; simp; omega) (by have h1 := hS.1; have h2 := hS.2.1; have h3 := hS.2.2.1; simp; omega)) ?_
          refine RW.new rfl rfl (eff_callGB (ys := [encIs (S.seen ++ [b.id])]) (sorted_retG (S.seen ++ [b.id]) (by have h3 := hS.2.2.1; simp; omega) (by simp)) co50 (fun id => id + 2000) rfl rfl rfl ⟨Res.ownT rfl rfl (by simp) (by simp), trivial⟩ (.own _ _ _ _) (.own _ _ _ _ rfl rfl) rfl ⟨⟨flatEls_t (fun x hx => by obtain ⟨y, _, rfl⟩ := List.mem_map.1 hx; rfl), (by simp [← List.length_eq_zero_iff, sortl_length]), rfl⟩, trivial⟩) ?_
          refine RW.op rfl rfl (eff_fieldAddr rfl rfl tf29_3 (by decide) rfl rfl rfl (Nat.le_of_ble_eq_true rfl)) ?_
          refine RW.store rfl rfl (eff_storeA (v := .own _ _ _ _) (ys := [_, _, _, _]) (els := [_]) (els' := [_]) rfl rfl ti27 rfl rfl rfl rfl rfl rfl rfl (Nat.le_of_ble_eq_true rfl) rfl rfl rfl) ?_
          refine RW.nil ?_
          refine awp_seq ?_
          refine awp_rw rfl ?_
          refine RW.op rfl rfl (eff_load rfl rfl ti29 rfl (.whole rfl rfl rfl rfl rfl rfl)) ?_
          refine RW.store rfl rfl (eff_storeW (v := .agg _) (els := [_]) (els' := [_]) rfl rfl ti29 rfl rfl rfl rfl rfl rfl rfl rfl rfl) ?_
          refine RW.op rfl rfl (eff_assign (v := .t _) rfl rfl rfl) ?_
          refine RW.nil ?_
          refine awp_ret ?_
          rw [show create S b = (⟨S.quota, S.bundles ++ [b], S.passed, sortl (S.seen ++ [b.id])⟩, 0) from by unfold create; rw [if_neg (by omega), if_neg h2, if_neg (by omega), if_neg (by omega)]]
          exact ⟨Or.inr rfl, [_, _], ⟨.cell rfl ti29 (.whole rfl rfl rfl rfl rfl rfl) (Res.aggP (xs := [_, _, _, _]) ⟨.t _, Res.ownT (xs := (S.bundles ++ [b]).map encB) rfl rfl (by simp <;> rfl) (by simp), Res.ownT (xs := S.passed.map encI) rfl rfl rfl (by simp), Res.ownT (xs := (sortl (S.seen ++ [b.id])).map encI) rfl rfl rfl (by simp [sortl_length]), trivial⟩), .tmp (.t _), trivial⟩, (by repeat' first | exact trivial | exact Wk.refl _ | exact Wk.sl _ | refine And.intro ?_ ?_ | refine Wk.tupP ?_ | refine Wk.aggP ?_)⟩

end Go.Tv.C27

end
section
open Go Go.Tv Go.Proofs
namespace Go.Tv.C27
set_option maxRecDepth 20000
set_option linter.unusedSimpArgs false
set_option linter.unusedVariables false
theorem pass34_ret (S : Store) (n : Int) (hS : SOK S) : Ret Try.prog 34 [encS S, encI n] (.tup [encS (pass S n).1, encI (pass S n).2]) := by
  refine ret_of_awp Try.func34 rfl (Nat.le_of_ble_eq_true rfl) ?_
  refine awp_seq ?_
  refine awp_rw rfl ?_
  refine RW.new rfl rfl (eff_boxK (v := .t _) (k := 4) (id := 2) rfl rfl rfl rfl rfl rfl) ?_
  refine RW.new rfl rfl (eff_allocK (k := 4) (id := 4) rfl rfl tz29 rfl rfl) ?_
  refine RW.op rfl rfl (eff_assign (v := .t _) rfl rfl rfl) ?_
  refine RW.nil ?_
  refine awp_seq ?_
  refine awp_seq ?_
  refine awp_rw rfl ?_
  refine RW.op rfl rfl (eff_load rfl rfl ti29 rfl (.whole rfl rfl rfl rfl rfl rfl)) ?_
  refine RW.op rfl rfl (eff_move (v := .t _) rfl rfl rfl) ?_
  refine RW.op rfl rfl (eff_callT (find_ret S n hS) co42 rfl rfl rfl rfl) ?_
  refine RW.op rfl rfl (eff_iop rfl rfl rfl rfl rfl) ?_
  refine RW.nil ?_
  refine awp_cond rfl (fun h1 => ?_) (fun h1 => ?_)
  · try simp only [decide_eq_true_eq, decide_eq_false_iff_not, beq_iff_eq, bne_iff_ne, bne_eq_false_iff_eq, beq_eq_false_iff_ne, Bool.not_eq_true, Bool.not_eq_false, Bool.not_eq_true', Bool.not_eq_false', ne_eq] at h1
    refine awp_seq ?_
    refine awp_rw rfl ?_
    refine RW.op rfl rfl (eff_buildT (ys := [_, _, _, _]) rfl rfl tz29 tg29 rfl) ?_
    refine RW.store rfl rfl (eff_storeW (v := .t _) (els := [_]) (els' := [_]) rfl rfl ti29 rfl rfl rfl rfl rfl rfl rfl rfl rfl) ?_
    refine RW.op rfl rfl (eff_assign (v := .t _) rfl rfl rfl) ?_
    refine RW.nil ?_
    refine awp_ret ?_
    rw [show pass S n = (zs, 3) from by unfold pass; rw [if_pos h1]]
    exact ⟨Or.inr rfl, [_, _], ⟨.cell rfl ti29 (.whole rfl rfl rfl rfl rfl rfl) (.t _), .tmp (.t _), trivial⟩, (by repeat' first | exact trivial | exact Wk.refl _ | exact Wk.sl _ | refine And.intro ?_ ?_ | refine Wk.tupP ?_ | refine Wk.aggP ?_)⟩
  · try simp only [decide_eq_true_eq, decide_eq_false_iff_not, beq_iff_eq, bne_iff_ne, bne_eq_false_iff_eq, beq_eq_false_iff_ne, Bool.not_eq_true, Bool.not_eq_false, Bool.not_eq_true', Bool.not_eq_false', ne_eq] at h1
    refine awp_skip ?_
    refine awp_seq ?_
    refine awp_seq ?_
    refine awp_rw rfl ?_
    refine RW.op rfl rfl (eff_fieldAddr rfl rfl tf29_2 (by decide) rfl rfl rfl (Nat.le_of_ble_eq_true rfl)) ?_
    refine RW.op rfl rfl (eff_load (y := .t _) rfl rfl ti27 rfl (.one rfl rfl rfl rfl)) ?_
    refine RW.op rfl rfl (eff_move (v := .t _) rfl rfl rfl) ?_
    refine RW.op rfl rfl (eff_callT (has_ret _ _ (by have h1 := hS.2.1; have h3 := hS.2.2.1; omega)) co25 rfl rfl rfl rfl) ?_
    refine RW.nil ?_
    refine awp_cond rfl (fun h2 => ?_) (fun h2 => ?_)
    · try simp only [decide_eq_true_eq, decide_eq_false_iff_not, beq_iff_eq, bne_iff_ne, bne_eq_false_iff_eq, beq_eq_false_iff_ne, Bool.not_eq_true, Bool.not_eq_false, Bool.not_eq_true', Bool.not_eq_false', ne_eq] at h2
      refine awp_seq ?_
      refine awp_rw rfl ?_
      refine RW.op rfl rfl (eff_buildT (ys := [_, _, _, _]) rfl rfl tz29 tg29 rfl) ?_
      refine RW.store rfl rfl (eff_storeW (v := .t _) (els := [_]) (els' := [_]) rfl rfl ti29 rfl rfl rfl rfl rfl rfl rfl rfl rfl) ?_
      refine RW.op rfl rfl (eff_assign (v := .t _) rfl rfl rfl) ?_
      refine RW.nil ?_
      refine awp_ret ?_
      rw [show pass S n = (zs, 44) from by unfold pass; rw [if_neg h1, if_pos h2]]
      exact ⟨Or.inr rfl, [_, _], ⟨.cell rfl ti29 (.whole rfl rfl rfl rfl rfl rfl) (.t _), .tmp (.t _), trivial⟩, (by repeat' first | exact trivial | exact Wk.refl _ | exact Wk.sl _ | refine And.intro ?_ ?_ | refine Wk.tupP ?_ | refine Wk.aggP ?_)⟩
    · try simp only [decide_eq_true_eq, decide_eq_false_iff_not, beq_iff_eq, bne_iff_ne, bne_eq_false_iff_eq, beq_eq_false_iff_ne, Bool.not_eq_true, Bool.not_eq_false, Bool.not_eq_true', Bool.not_eq_false', ne_eq] at h2
      refine awp_skip ?_
      refine awp_seq ?_
      refine awp_rw rfl ?_
      refine RW.op rfl rfl (eff_load rfl rfl ti29 rfl (.whole rfl rfl rfl rfl rfl rfl)) ?_
      refine RW.new3 rfl rfl (eff_callG (copy_retG S hS) co49 (fun id => id + 1000) rfl rfl rfl ⟨.t _, trivial⟩ (RenA.aggL (ds := [_, _, _, _]) ⟨.t _, .own _ _ _ _ rfl rfl, .own _ _ _ _ rfl rfl, .own _ _ _ _ rfl rfl, trivial⟩) rfl trivial ⟨⟨treeEls_t, .inr rfl⟩, ⟨treeEls_t, .inr rfl⟩, ⟨treeEls_t, .inr rfl⟩, trivial⟩) ?_
      refine RW.new rfl rfl (eff_allocK (k := 4) (id := 6) rfl rfl tz29 rfl rfl) ?_
      refine RW.store rfl rfl (eff_storeW (v := .agg _) (els := [_]) (els' := [_]) rfl rfl ti29 rfl rfl rfl rfl rfl rfl rfl rfl rfl) ?_
      refine RW.nil ?_
      refine awp_seq ?_
      refine awp_rw rfl ?_
      refine RW.op rfl rfl (eff_fieldAddr rfl rfl tf29_2 (by decide) rfl rfl rfl (Nat.le_of_ble_eq_true rfl)) ?_
      refine RW.op rfl rfl (eff_load (y := .own _ _ _ _) rfl rfl ti27 rfl (.one rfl rfl rfl rfl)) ?_
      refine RW.op rfl rfl (eff_move (v := .t _) rfl rfl rfl) ?_
      refine RW.new rfl rfl (eff_buildSlice1 (id := 22) (els := [_]) rfl rfl te27 tz3 rfl (by decide) rfl rfl rfl rfl) ?_
      refine RW.new rfl rfl (eff_append (id := 1007) (ys := [_]) rfl rfl ta27 rfl rfl rfl (by simp) rfl rfl (srcOwn rfl rfl rfl rfl rfl rfl) (by simp) (by have h1 := hS.1; have h2 := hS.2.1; have h3 := hS.2.2.1; simp; omega) (by have h1 := hS.1; have h2 := hS.2.1; have h3 := hS.2.2.1; simp; omega)) ?_
      refine RW.new rfl rfl (eff_callGB (ys := [encIs (S.passed ++ [n])]) (sorted_retG (S.passed ++ [n]) (by have h3 := hS.2.1; simp; omega) (by simp)) co50 (fun id => id + 2000) rfl rfl rfl ⟨Res.ownT rfl rfl (by simp) (by simp), trivial⟩ (.own _ _ _ _) (.own _ _ _ _ rfl rfl) rfl ⟨⟨flatEls_t (fun x hx => by obtain ⟨y, _, rfl⟩ := List.mem_map.1 hx; rfl), (by simp [← List.length_eq_zero_iff, sortl_length]), rfl⟩, trivial⟩) ?_
      refine RW.op rfl rfl (eff_fieldAddr rfl rfl tf29_2 (by decide) rfl rfl rfl (Nat.le_of_ble_eq_true rfl)) ?_
      refine RW.store rfl rfl (eff_storeA (v := .own _ _ _ _) (ys := [_, _, _, _]) (els := [_]) (els' := [_]) rfl rfl ti27 rfl rfl rfl rfl rfl rfl rfl (Nat.le_of_ble_eq_true rfl) rfl rfl rfl) ?_
      refine RW.nil ?_
      refine awp_seq ?_
      refine awp_rw rfl ?_
      refine RW.op rfl rfl (eff_load rfl rfl ti29 rfl (.whole rfl rfl rfl rfl rfl rfl)) ?_
      refine RW.store rfl rfl (eff_storeW (v := .agg _) (els := [_]) (els' := [_]) rfl rfl ti29 rfl rfl rfl rfl rfl rfl rfl rfl rfl) ?_
      refine RW.op rfl rfl (eff_assign (v := .t _) rfl rfl rfl) ?_
      refine RW.nil ?_
      refine awp_ret ?_
      rw [show pass S n = (⟨S.quota, S.bundles, sortl (S.passed ++ [n]), S.seen⟩, 0) from by unfold pass; rw [if_neg h1, if_neg h2]]
      exact ⟨Or.inr rfl, [_, _], ⟨.cell rfl ti29 (.whole rfl rfl rfl rfl rfl rfl) (Res.aggP (xs := [_, _, _, _]) ⟨.t _, Res.ownT (xs := S.bundles.map encB) rfl rfl rfl (by simp), Res.ownT (xs := (sortl (S.passed ++ [n])).map encI) rfl rfl rfl (by simp [sortl_length]), Res.ownT (xs := S.seen.map encI) rfl rfl rfl (by simp), trivial⟩), .tmp (.t _), trivial⟩, (by repeat' first | exact trivial | exact Wk.refl _ | exact Wk.sl _ | refine And.intro ?_ ?_ | refine Wk.tupP ?_ | refine Wk.aggP ?_)⟩

theorem accept33_ret (S : Store) (b : Bundle) (hS : SOK S) (hb : BOK b) : Ret Try.prog 33 [encS S, encB b] (.tup [encS (accept S b).1, .bool (accept S b).2.1, encI (accept S b).2.2]) := by
  refine ret_of_awp Try.func33 rfl (Nat.le_of_ble_eq_true rfl) ?_
  refine awp_seq ?_
  refine awp_rw rfl ?_
  refine RW.new rfl rfl (eff_boxK (v := .t _) (k := 4) (id := 2) rfl rfl rfl rfl rfl rfl) ?_
  refine RW.new rfl rfl (eff_boxK (v := .t _) (k := 8) (id := 3) rfl rfl rfl rfl rfl rfl) ?_
  refine RW.new rfl rfl (eff_allocK (k := 4) (id := 4) rfl rfl tz29 rfl rfl) ?_
  refine RW.op rfl rfl (eff_assign (v := .t _) rfl rfl rfl) ?_
  refine RW.op rfl rfl (eff_assign (v := .t _) rfl rfl rfl) ?_
  refine RW.nil ?_
  refine awp_seq ?_
  refine awp_seq ?_
  refine awp_rw rfl ?_
  refine RW.op rfl rfl (eff_fieldAddr rfl rfl tf38_3 (by decide) rfl rfl rfl (Nat.le_of_ble_eq_true rfl)) ?_
  refine RW.op rfl rfl (eff_fieldAddr rfl rfl tf36_4 (by decide) rfl rfl rfl (Nat.le_of_ble_eq_true rfl)) ?_
  refine RW.op rfl rfl (eff_load (y := .t _) rfl rfl ti34 rfl (.one rfl rfl rfl rfl)) ?_
  refine RW.op rfl rfl (eff_lenM rfl rfl te34 rfl) ?_
  refine RW.op rfl rfl (eff_iop rfl rfl rfl rfl rfl) ?_
  refine RW.op rfl rfl (eff_move (v := .t _) rfl rfl rfl) ?_
  refine RW.split 14 rfl (fun h1 => ?_) (fun h1 => ?_)
  · try simp only [decide_eq_true_eq, decide_eq_false_iff_not, beq_iff_eq, bne_iff_ne, bne_eq_false_iff_eq, beq_eq_false_iff_ne, Bool.not_eq_true, Bool.not_eq_false, Bool.not_eq_true', Bool.not_eq_false', ne_eq] at h1
    refine RW.gop rfl rfl rfl rfl rfl rfl (eff_fieldAddr rfl rfl tf29_3 (by decide) rfl rfl rfl (Nat.le_of_ble_eq_true rfl)) ?_
    refine RW.gop rfl rfl rfl rfl rfl rfl (eff_load (y := .t _) rfl rfl ti27 rfl (.one rfl rfl rfl rfl)) ?_
    refine RW.gop rfl rfl rfl rfl rfl rfl (eff_fieldAddr rfl rfl tf38_0 (by decide) rfl rfl rfl (Nat.le_of_ble_eq_true rfl)) ?_
    refine RW.gop rfl rfl rfl rfl rfl rfl (eff_load (y := .t _) rfl rfl ti3 rfl (.one rfl rfl rfl rfl)) ?_
    refine RW.gop rfl rfl rfl rfl rfl rfl (eff_callT (has_ret _ _ (by have h1 := hS.2.1; have h3 := hS.2.2.1; omega)) co25 rfl rfl rfl rfl) ?_
    refine RW.op rfl rfl (eff_pick (v := .t _) rfl rfl rfl rfl) ?_
    refine RW.nil ?_
    refine awp_cond rfl (fun h2 => ?_) (fun h2 => ?_)
    · try simp only [decide_eq_true_eq, decide_eq_false_iff_not, beq_iff_eq, bne_iff_ne, bne_eq_false_iff_eq, beq_eq_false_iff_ne, Bool.not_eq_true, Bool.not_eq_false, Bool.not_eq_true', Bool.not_eq_false', ne_eq] at h2
      refine awp_seq ?_
      refine awp_rw rfl ?_
      refine RW.op rfl rfl (eff_load rfl rfl ti29 rfl (.whole rfl rfl rfl rfl rfl rfl)) ?_
      refine RW.new3 rfl rfl (eff_callG (copy_retG S hS) co49 (fun id => id + 1000) rfl rfl rfl ⟨.t _, trivial⟩ (RenA.aggL (ds := [_, _, _, _]) ⟨.t _, .own _ _ _ _ rfl rfl, .own _ _ _ _ rfl rfl, .own _ _ _ _ rfl rfl, trivial⟩) rfl trivial ⟨⟨treeEls_t, .inr rfl⟩, ⟨treeEls_t, .inr rfl⟩, ⟨treeEls_t, .inr rfl⟩, trivial⟩) ?_
      refine RW.store rfl rfl (eff_storeW (v := .agg _) (els := [_]) (els' := [_]) rfl rfl ti29 rfl rfl rfl rfl rfl rfl rfl rfl rfl) ?_
      refine RW.op rfl rfl (eff_assign (v := .t _) rfl rfl rfl) ?_
      refine RW.op rfl rfl (eff_assign (v := .t _) rfl rfl rfl) ?_
      refine RW.nil ?_
      refine awp_ret ?_
      rw [show accept S b = (S, true, 0) from by unfold accept; rw [if_pos ⟨by omega, h2⟩]]
      exact ⟨Or.inr rfl, [_, _, _], ⟨.cell rfl ti29 (.whole rfl rfl rfl rfl rfl rfl) (Res.aggP (xs := [_, _, _, _]) ⟨.t _, Res.ownT (xs := S.bundles.map encB) rfl rfl rfl (by simp), Res.ownT (xs := S.passed.map encI) rfl rfl rfl (by simp), Res.ownT (xs := S.seen.map encI) rfl rfl rfl (by simp), trivial⟩), .tmp (.t _), .tmp (.t _), trivial⟩, (by repeat' first | exact trivial | exact Wk.refl _ | exact Wk.sl _ | refine And.intro ?_ ?_ | refine Wk.tupP ?_ | refine Wk.aggP ?_)⟩
    · try simp only [decide_eq_true_eq, decide_eq_false_iff_not, beq_iff_eq, bne_iff_ne, bne_eq_false_iff_eq, beq_eq_false_iff_ne, Bool.not_eq_true, Bool.not_eq_false, Bool.not_eq_true', Bool.not_eq_false', ne_eq] at h2
      refine awp_skip ?_
      refine awp_seq ?_
      refine awp_rw rfl ?_
      refine RW.op rfl rfl (eff_load rfl rfl ti29 rfl (.whole rfl rfl rfl rfl rfl rfl)) ?_
      refine RW.op rfl rfl (eff_load rfl rfl ti38 rfl (.whole rfl rfl rfl rfl rfl rfl)) ?_
      refine RW.op rfl rfl (eff_callT (create32_ret S b hS hb) co32 rfl rfl rfl rfl) ?_
      refine RW.op rfl rfl (eff_move (v := .t _) rfl rfl rfl) ?_
      refine RW.op rfl rfl (eff_extract rfl rfl rfl rfl) ?_
      refine RW.op rfl rfl (eff_extract rfl rfl rfl rfl) ?_
      refine RW.new rfl rfl (eff_allocK (k := 4) (id := 7) rfl rfl tz29 rfl rfl) ?_
      refine RW.store rfl rfl (eff_storeW (v := .t _) (els := [_]) (els' := [_]) rfl rfl ti29 rfl rfl rfl rfl rfl rfl rfl rfl rfl) ?_
      refine RW.op rfl rfl (eff_assign (v := .t _) rfl rfl rfl) ?_
      refine RW.nil ?_
      refine awp_seq ?_
      refine awp_rw rfl ?_
      refine RW.op rfl rfl (eff_load rfl rfl ti29 rfl (.whole rfl rfl rfl rfl rfl rfl)) ?_
      refine RW.op rfl rfl (eff_move (v := .t _) rfl rfl rfl) ?_
      refine RW.op rfl rfl (eff_iop rfl rfl rfl rfl rfl) ?_
      refine RW.op rfl rfl (eff_move (v := .t _) rfl rfl rfl) ?_
      refine RW.store rfl rfl (eff_storeW (v := .t _) (els := [_]) (els' := [_]) rfl rfl ti29 rfl rfl rfl rfl rfl rfl rfl rfl rfl) ?_
      refine RW.op rfl rfl (eff_assign (v := .t _) rfl rfl rfl) ?_
      refine RW.op rfl rfl (eff_assign (v := .t _) rfl rfl rfl) ?_
      refine RW.nil ?_
      refine awp_ret ?_
      rw [show accept S b = ((create S b).1, decide ((create S b).2 = 0), (create S b).2) from by unfold accept; rw [if_neg (fun h => h2 h.2)]]
      exact ⟨Or.inr rfl, [_, _, _], ⟨.cell rfl ti29 (.whole rfl rfl rfl rfl rfl rfl) (.t _), .tmp (.t _), .tmp (.t _), trivial⟩, (by repeat' first | exact trivial | exact Wk.refl _ | exact Wk.sl _ | refine And.intro ?_ ?_ | refine Wk.tupP ?_ | refine Wk.aggP ?_)⟩
  · try simp only [decide_eq_true_eq, decide_eq_false_iff_not, beq_iff_eq, bne_iff_ne, bne_eq_false_iff_eq, beq_eq_false_iff_ne, Bool.not_eq_true, Bool.not_eq_false, Bool.not_eq_true', Bool.not_eq_false', ne_eq] at h1
    refine RW.gskip rfl rfl rfl rfl rfl (by decide) ?_
    refine RW.gskip rfl rfl rfl rfl rfl (by decide) ?_
    refine RW.gskip rfl rfl rfl rfl rfl (by decide) ?_
    refine RW.gskip rfl rfl rfl rfl rfl (by decide) ?_
    refine RW.gskip rfl rfl rfl rfl rfl (by decide) ?_
    refine RW.op rfl rfl (eff_pick (v := .t _) rfl rfl rfl rfl) ?_
    refine RW.nil ?_
    refine awp_cond rfl (fun h => nomatch h) (fun _ => ?_)
    refine awp_skip ?_
    refine awp_seq ?_
    refine awp_rw rfl ?_
    refine RW.op rfl rfl (eff_load rfl rfl ti29 rfl (.whole rfl rfl rfl rfl rfl rfl)) ?_
    refine RW.op rfl rfl (eff_load rfl rfl ti38 rfl (.whole rfl rfl rfl rfl rfl rfl)) ?_
    refine RW.op rfl rfl (eff_callT (create32_ret S b hS hb) co32 rfl rfl rfl rfl) ?_
    refine RW.op rfl rfl (eff_move (v := .t _) rfl rfl rfl) ?_
    refine RW.op rfl rfl (eff_extract rfl rfl rfl rfl) ?_
    refine RW.op rfl rfl (eff_extract rfl rfl rfl rfl) ?_
    refine RW.new rfl rfl (eff_allocK (k := 4) (id := 7) rfl rfl tz29 rfl rfl) ?_
    refine RW.store rfl rfl (eff_storeW (v := .t _) (els := [_]) (els' := [_]) rfl rfl ti29 rfl rfl rfl rfl rfl rfl rfl rfl rfl) ?_
    refine RW.op rfl rfl (eff_assign (v := .t _) rfl rfl rfl) ?_
    refine RW.nil ?_
    refine awp_seq ?_
    refine awp_rw rfl ?_
    refine RW.op rfl rfl (eff_load rfl rfl ti29 rfl (.whole rfl rfl rfl rfl rfl rfl)) ?_
    refine RW.op rfl rfl (eff_move (v := .t _) rfl rfl rfl) ?_
    refine RW.op rfl rfl (eff_iop rfl rfl rfl rfl rfl) ?_
    refine RW.op rfl rfl (eff_move (v := .t _) rfl rfl rfl) ?_
    refine RW.store rfl rfl (eff_storeW (v := .t _) (els := [_]) (els' := [_]) rfl rfl ti29 rfl rfl rfl rfl rfl rfl rfl rfl rfl) ?_
    refine RW.op rfl rfl (eff_assign (v := .t _) rfl rfl rfl) ?_
    refine RW.op rfl rfl (eff_assign (v := .t _) rfl rfl rfl) ?_
    refine RW.nil ?_
    refine awp_ret ?_
    rw [show accept S b = ((create S b).1, decide ((create S b).2 = 0), (create S b).2) from by unfold accept; rw [if_neg (fun h => by omega)]]
    exact ⟨Or.inr rfl, [_, _, _], ⟨.cell rfl ti29 (.whole rfl rfl rfl rfl rfl rfl) (.t _), .tmp (.t _), .tmp (.t _), trivial⟩, (by repeat' first | exact trivial | exact Wk.refl _ | exact Wk.sl _ | refine And.intro ?_ ?_ | refine Wk.tupP ?_ | refine Wk.aggP ?_)⟩

theorem confirm35_ret (S : Store) (n : Int) (hS : SOK S) : Ret Try.prog 35 [encS S, encI n] (.tup [encS (confirm S n).1, encI (confirm S n).2]) := by
  refine ret_of_awp Try.func35 rfl (Nat.le_of_ble_eq_true rfl) ?_
  refine awp_seq ?_
  refine awp_rw rfl ?_
  refine RW.new rfl rfl (eff_boxK (v := .t _) (k := 4) (id := 2) rfl rfl rfl rfl rfl rfl) ?_
  refine RW.new rfl rfl (eff_allocK (k := 4) (id := 4) rfl rfl tz29 rfl rfl) ?_
  refine RW.op rfl rfl (eff_assign (v := .t _) rfl rfl rfl) ?_
  refine RW.nil ?_
  refine awp_seq ?_
  refine awp_rw rfl ?_
  refine RW.op rfl rfl (eff_load rfl rfl ti29 rfl (.whole rfl rfl rfl rfl rfl rfl)) ?_
  refine RW.op rfl rfl (eff_move (v := .t _) rfl rfl rfl) ?_
  refine RW.op rfl rfl (eff_callT (find_ret S n hS) co42 rfl rfl rfl rfl) ?_
  refine RW.op rfl rfl (eff_assign (v := .t _) rfl rfl rfl) ?_
  refine RW.nil ?_
  refine awp_seq ?_
  refine awp_seq ?_
  refine awp_rw rfl ?_
  refine RW.op rfl rfl (eff_move (v := .t _) rfl rfl rfl) ?_
  refine RW.op rfl rfl (eff_iop rfl rfl rfl rfl rfl) ?_
  refine RW.nil ?_
  refine awp_cond rfl (fun h1 => ?_) (fun h1 => ?_)
  · try simp only [decide_eq_true_eq, decide_eq_false_iff_not, beq_iff_eq, bne_iff_ne, bne_eq_false_iff_eq, beq_eq_false_iff_ne, Bool.not_eq_true, Bool.not_eq_false, Bool.not_eq_true', Bool.not_eq_false', ne_eq] at h1
    refine awp_seq ?_
    refine awp_rw rfl ?_
    refine RW.op rfl rfl (eff_buildT (ys := [_, _, _, _]) rfl rfl tz29 tg29 rfl) ?_
    refine RW.store rfl rfl (eff_storeW (v := .t _) (els := [_]) (els' := [_]) rfl rfl ti29 rfl rfl rfl rfl rfl rfl rfl rfl rfl) ?_
    refine RW.op rfl rfl (eff_assign (v := .t _) rfl rfl rfl) ?_
    refine RW.nil ?_
    refine awp_ret ?_
    rw [show confirm S n = (zs, 3) from by unfold confirm; rw [if_pos h1]]
    exact ⟨Or.inr rfl, [_, _], ⟨.cell rfl ti29 (.whole rfl rfl rfl rfl rfl rfl) (.t _), .tmp (.t _), trivial⟩, (by repeat' first | exact trivial | exact Wk.refl _ | exact Wk.sl _ | refine And.intro ?_ ?_ | refine Wk.tupP ?_ | refine Wk.aggP ?_)⟩
  · try simp only [decide_eq_true_eq, decide_eq_false_iff_not, beq_iff_eq, bne_iff_ne, bne_eq_false_iff_eq, beq_eq_false_iff_ne, Bool.not_eq_true, Bool.not_eq_false, Bool.not_eq_true', Bool.not_eq_false', ne_eq] at h1
    refine awp_skip ?_
    refine awp_seq ?_
    refine awp_rw rfl ?_
    obtain ⟨ix, hix, hfx⟩ := findIx_nat h1
    have hL := hS.1
    refine RW.op rfl rfl (eff_load rfl rfl ti29 rfl (.whole rfl rfl rfl rfl rfl rfl)) ?_
    refine RW.new3 rfl rfl (eff_callG (copy_retG S hS) co49 (fun id => id + 1000) rfl rfl rfl ⟨.t _, trivial⟩ (RenA.aggL (ds := [_, _, _, _]) ⟨.t _, .own _ _ _ _ rfl rfl, .own _ _ _ _ rfl rfl, .own _ _ _ _ rfl rfl, trivial⟩) rfl trivial ⟨⟨treeEls_t, .inr rfl⟩, ⟨treeEls_t, .inr rfl⟩, ⟨treeEls_t, .inr rfl⟩, trivial⟩) ?_
    refine RW.new rfl rfl (eff_allocK (k := 4) (id := 7) rfl rfl tz29 rfl rfl) ?_
    refine RW.store rfl rfl (eff_storeW (v := .agg _) (els := [_]) (els' := [_]) rfl rfl ti29 rfl rfl rfl rfl rfl rfl rfl rfl rfl) ?_
    refine RW.nil ?_
    refine awp_seq ?_
    refine awp_rd [(some 16, [16]), (some 17, []), (some 18, []), (some 19, []), (some 20, []), (some 21, [16]), (some 22, []), (some 23, []), (some 24, []), (some 25, []), (some 26, []), (some 27, [16]), (some 28, []), (none, [7])] [[], [], [1], [], [1, 2, 3], [0, 1, 2, 3, 4], [], [6], [], [8], [6, 7, 8, 9], [0, 1, 2, 3, 4, 5, 6, 7, 8, 9, 10], [0, 1, 2, 3, 4, 5, 6, 7, 8, 9, 10, 11], [0, 1, 2, 3, 4, 5, 6, 7, 8, 9, 10, 11, 12]] tm rfl rfl rfl rfl ?_
    refine RD.new rfl rfl rfl (eff_buildSliceL (id := 16) (els := []) rfl rfl te26 tz38 rfl (by decide) (by decide) rfl rfl rfl rfl) ?_
    refine RD.op rfl rfl rfl (eff_fieldAddr rfl rfl tf29_1 (by decide) rfl rfl rfl (Nat.le_of_ble_eq_true rfl)) ?_
    refine RD.op rfl rfl rfl (eff_load (y := .own _ _ _ _) rfl rfl ti26 rfl (.one rfl rfl rfl rfl)) ?_
    refine RD.op rfl rfl rfl (eff_move (v := .t _) rfl rfl rfl) ?_
    refine RD.op rfl rfl rfl (eff_slice (l := none) (h := some ix) rfl rfl te26 rfl rfl rfl rfl .no (.yes rfl hfx) (Nat.zero_le _) (by simp; omega)) ?_
    refine RD.new rfl rfl rfl (eff_appendAny (id := 16) rfl rfl ta26 rfl rfl rfl rfl rfl rfl (srcOwn' (ys := ((S.bundles.take ix).map encB).map .t) rfl rfl rfl rfl (by simp; omega) (by simp [List.map_take])) (by simp; omega) (by simp; omega)) ?_
    refine RD.op rfl rfl rfl (eff_fieldAddr rfl rfl tf29_1 (by decide) rfl rfl rfl (Nat.le_of_ble_eq_true rfl)) ?_
    refine RD.op rfl rfl rfl (eff_load (y := .own _ _ _ _) rfl rfl ti26 rfl (.one rfl rfl rfl rfl)) ?_
    refine RD.op rfl rfl rfl (eff_move (v := .t _) rfl rfl rfl) ?_
    refine RD.op rfl rfl rfl (eff_iop rfl rfl rfl rfl (iadd (by omega))) ?_
    refine RD.op rfl rfl rfl (eff_slice (l := some (ix + 1)) (h := none) rfl rfl te26 rfl rfl rfl rfl (.yes rfl (by rw [hfx]; rfl)) .no (by simp; omega) (by simp)) ?_
    refine RD.new rfl rfl rfl (eff_appendAny (id := 16) rfl rfl ta26 rfl rfl rfl (by simp) rfl rfl (srcOwn' (ys := ((S.bundles.drop (ix + 1)).map encB).map .t) rfl rfl rfl rfl (by simp; omega) (by rw [List.take_of_length_le (by simp <;> omega)]; simp [List.map_drop])) (by simp; omega) (by simp; omega)) ?_
    refine RD.op rfl rfl rfl (eff_fieldAddr rfl rfl tf29_1 (by decide) rfl rfl rfl (Nat.le_of_ble_eq_true rfl)) ?_
    refine RD.store rfl rfl rfl (eff_storeA (v := .own _ _ _ _) (ys := [_, _, _, _]) (els := [_]) (els' := [_]) rfl rfl ti26 rfl rfl rfl rfl rfl rfl rfl (Nat.le_of_ble_eq_true rfl) rfl rfl rfl) ?_
    refine RD.nil ?_
    refine awp_seq ?_
    refine awp_rw rfl ?_
    refine RW.op rfl rfl (eff_fieldAddr rfl rfl tf29_2 (by decide) rfl rfl rfl (Nat.le_of_ble_eq_true rfl)) ?_
    refine RW.op rfl rfl (eff_load (y := .t _) rfl rfl ti27 rfl (.one rfl rfl rfl rfl)) ?_
    refine RW.op rfl rfl (eff_move (v := .t _) rfl rfl rfl) ?_
    refine RW.op rfl rfl (eff_callT (without_ret _ _ (by have h3 := hS.2.1; omega)) co51 rfl rfl rfl rfl) ?_
    refine RW.op rfl rfl (eff_fieldAddr rfl rfl tf29_2 (by decide) rfl rfl rfl (Nat.le_of_ble_eq_true rfl)) ?_
    refine RW.store rfl rfl (eff_storeA (v := .t _) (ys := [_, _, _, _]) (els := [_]) (els' := [_]) rfl rfl ti27 rfl rfl rfl rfl rfl rfl rfl (Nat.le_of_ble_eq_true rfl) rfl rfl rfl) ?_
    refine RW.nil ?_
    refine awp_seq ?_
    refine awp_rw rfl ?_
    refine RW.op rfl rfl (eff_load rfl rfl ti29 rfl (.whole rfl rfl rfl rfl rfl rfl)) ?_
    refine RW.store rfl rfl (eff_storeW (v := .agg _) (els := [_]) (els' := [_]) rfl rfl ti29 rfl rfl rfl rfl rfl rfl rfl rfl rfl) ?_
    refine RW.op rfl rfl (eff_assign (v := .t _) rfl rfl rfl) ?_
    refine RW.nil ?_
    refine awp_ret ?_
    rw [show confirm S n = (⟨S.quota, (S.bundles.take ix ++ S.bundles.drop (ix + 1)), S.passed.filter (· != n), S.seen⟩, 0) from by unfold confirm; rw [if_neg h1, hfx]; rfl]
    exact ⟨Or.inr rfl, [_, _], ⟨.cell rfl ti29 (.whole rfl rfl rfl rfl rfl rfl) (Res.aggP (xs := [_, _, _, _]) ⟨.t _, Res.ownT (xs := (S.bundles.take ix ++ S.bundles.drop (ix + 1)).map encB) rfl rfl (by simp <;> rfl) (by simp), .t _, Res.ownT (xs := S.seen.map encI) rfl rfl rfl (by simp), trivial⟩), .tmp (.t _), trivial⟩, (by repeat' first | exact trivial | exact Wk.refl _ | exact Wk.sl _ | refine And.intro ?_ ?_ | refine Wk.tupP ?_ | refine Wk.aggP ?_)⟩

theorem offer19_ret (S : Store) (room : Int) (hS : SOK S) : Ret Try.prog 19 [encS S, encI room] (.tup [encB (offer S room).1, .bool (offer S room).2]) := by
  refine ret_of_awp Try.func19 rfl (Nat.le_of_ble_eq_true rfl) ?_
  refine awp_seq ?_
  refine awp_rw rfl ?_
  refine RW.new rfl rfl (eff_boxK (v := .t _) (k := 4) (id := 2) rfl rfl rfl rfl rfl rfl) ?_
  refine RW.new rfl rfl (eff_allocK (k := 8) (id := 4) rfl rfl tz38 rfl rfl) ?_
  refine RW.op rfl rfl (eff_assign (v := .t _) rfl rfl rfl) ?_
  refine RW.nil ?_
  refine awp_seq ?_
  refine awp_seq ?_
  refine awp_rw rfl ?_
  refine RW.op rfl rfl (eff_assign (v := .t _) rfl rfl rfl) ?_
  refine RW.nil ?_
  refine awp_block ?_
  refine awp_loopW (fun m s => ∃ (i : Nat), (i ≤ S.bundles.length) ∧ (∀ b, b ∈ S.bundles.take i → fits S room b = false) ∧ m = S.bundles.length - i ∧ s = ⟨41, [(1, .t (encI room)), (2, .ptr 2 0 0 0), (4, .ptr 4 0 0 0), (6, .t (encI (i : Nat)))], [(2, some ⟨4, 29, 0, [.t (encS S)]⟩), (4, some ⟨8, 38, 0, [.t z38]⟩)]⟩) (_) (⟨_, weak_keep (n := 41) (fr' := [(1, .t (encI room)), (2, .ptr 2 0 0 0), (4, .ptr 4 0 0 0), (6, .t (encI (0 : Nat)))]) (st' := [(2, some ⟨4, 29, 0, [.t (encS S)]⟩), (4, some ⟨8, 38, 0, [.t z38]⟩)]) ⟨rfl, rfl, rfl, rfl, rfl, rfl, rfl, rfl, trivial⟩ ⟨rfl, okE_one rfl, rfl, okE_one rfl, trivial⟩, 0, (by omega), (by simp), rfl, rfl⟩) ?_
  rintro m s ⟨i, hi, ha, rfl, rfl⟩
  have hL := hS.1
  refine awp_seq ?_
  refine awp_seq ?_
  refine awp_rw rfl ?_
  refine RW.op rfl rfl (eff_move (v := .t _) rfl rfl rfl) ?_
  refine RW.op rfl rfl (eff_fieldAddr rfl rfl tf29_1 (by decide) rfl rfl rfl (Nat.le_of_ble_eq_true rfl)) ?_
  refine RW.op rfl rfl (eff_load (y := .t _) rfl rfl ti26 rfl (.one rfl rfl rfl rfl)) ?_
  refine RW.op rfl rfl (eff_lenM rfl rfl te26 rfl) ?_
  refine RW.op rfl rfl (eff_iop rfl rfl rfl rfl rfl) ?_
  refine RW.nil ?_
  refine awp_cond rfl (fun h1 => ?_) (fun h1 => ?_)
  · try simp only [decide_eq_true_eq, decide_eq_false_iff_not, beq_iff_eq, bne_iff_ne, bne_eq_false_iff_eq, beq_eq_false_iff_ne, Bool.not_eq_true, Bool.not_eq_false, Bool.not_eq_true', Bool.not_eq_false', ne_eq] at h1
    refine awp_skip ?_
    refine awp_seq ?_
    refine awp_block ?_
    refine awp_seq ?_
    by_cases hc2 : (S.bundles[i]'(by omega)).id ∈ S.passed
    · refine awp_rd [(some 14, []), (some 15, []), (some 16, []), (some 17, []), (some 18, []), (some 19, []), (some 20, []), (some 21, []), (some 22, []), (some 23, []), (some 24, []), (some 25, []), (some 26, []), (some 27, []), (some 28, []), (some 29, []), (some 30, []), (some 31, []), (some 32, []), (some 33, [])] [[], [0], [], [2], [], [2, 3, 4], [2, 3, 4, 5], [2, 3, 4, 5, 6], [0, 1, 2, 3, 4, 5, 6, 7], [0, 1, 2, 3, 4, 5, 6, 7, 8], [0, 1, 2, 3, 4, 5, 6, 7, 8, 9], [0, 1, 2, 3, 4, 5, 6, 7, 8, 9, 10], [0, 1, 2, 3, 4, 5, 6, 7, 8, 9, 10, 11], [0, 1, 2, 3, 4, 5, 6, 7, 8, 9, 10], [0, 1, 2, 3, 4, 5, 6, 7, 8, 9, 10, 11, 12, 13], [0, 1, 2, 3, 4, 5, 6, 7, 8, 9, 10, 11, 12, 13, 14], [0, 1, 2, 3, 4, 5, 6, 7, 8, 9, 10, 11, 12, 13, 14, 15], [0, 1, 2, 3, 4, 5, 6, 7, 8, 9, 10], [0, 1, 2, 3, 4, 5, 6, 7, 8, 9, 10, 11, 12, 13, 14, 15, 16, 17], [0, 1, 2, 3, 4, 5, 6, 7, 8, 9, 10, 11, 12, 13, 14, 15, 16, 17, 18]] tm rfl rfl rfl rfl ?_
      refine RD.op rfl rfl rfl (eff_fieldAddr rfl rfl tf29_2 (by decide) rfl rfl rfl (Nat.le_of_ble_eq_true rfl)) ?_
      refine RD.op rfl rfl rfl (eff_load (y := .t _) rfl rfl ti27 rfl (.one rfl rfl rfl rfl)) ?_
      refine RD.op rfl rfl rfl (eff_fieldAddr rfl rfl tf29_1 (by decide) rfl rfl rfl (Nat.le_of_ble_eq_true rfl)) ?_
      refine RD.op rfl rfl rfl (eff_load (y := .t _) rfl rfl ti26 rfl (.one rfl rfl rfl rfl)) ?_
      refine RD.op rfl rfl rfl (eff_move (v := .t _) rfl rfl rfl) ?_
      refine RD.op rfl rfl rfl (eff_indexM rfl rfl te26 rfl rfl rfl (by first | assumption | exact List.getElem?_eq_getElem (by omega)) rfl (by decide)) ?_
      refine RD.op rfl rfl rfl (eff_fieldAddrT rfl rfl tf38_0 (by decide) rfl) ?_
      refine RD.op rfl rfl rfl (eff_loadT1 rfl rfl ti3 rfl rfl) ?_
      refine RD.op rfl rfl rfl (eff_callT ((by have h := has_ret S.passed (S.bundles[i]'(by omega)).id (by have h1 := hS.2.1; omega); rw [decide_eq_true hc2] at h; exact h)) co25 rfl rfl rfl rfl) ?_
      refine RD.op rfl rfl rfl (eff_unop rfl rfl rfl rfl) ?_
      refine RD.op rfl rfl rfl (eff_move (v := .t _) rfl rfl rfl) ?_
      refine RD.gskip rfl rfl rfl rfl rfl rfl (by decide) ?_
      refine RD.gskip rfl rfl rfl rfl rfl rfl (by decide) ?_
      refine RD.gskip rfl rfl rfl rfl rfl rfl (by decide) ?_
      refine RD.gskip rfl rfl rfl rfl rfl rfl (by decide) ?_
      refine RD.gskip rfl rfl rfl rfl rfl rfl (by decide) ?_
      refine RD.gskip rfl rfl rfl rfl rfl rfl (by decide) ?_
      refine RD.gskip rfl rfl rfl rfl rfl rfl (by decide) ?_
      refine RD.gskip rfl rfl rfl rfl rfl rfl (by decide) ?_
      refine RD.op rfl rfl rfl (eff_pick (v := .t _) rfl rfl rfl rfl) ?_
      refine RD.nil ?_
      refine awp_cond rfl (fun h => nomatch h) (fun _ => ?_)
      refine awp_skip ?_
      refine awp_rw rfl ?_
      refine RW.op rfl rfl (eff_move (v := .t _) rfl rfl rfl) ?_
      refine RW.op rfl rfl (eff_iop rfl rfl rfl rfl (iadd (by omega))) ?_
      refine RW.op rfl rfl (eff_assign (v := .t _) rfl rfl rfl) ?_
      refine RW.nil ?_
      refine ⟨_, ?_, _, weak_keep (n := 41) (fr' := [(1, .t (encI room)), (2, .ptr 2 0 0 0), (4, .ptr 4 0 0 0), (6, .t (encI ((i + 1) : Nat)))]) (st' := [(2, some ⟨4, 29, 0, [.t (encS S)]⟩), (4, some ⟨8, 38, 0, [.t z38]⟩)]) ⟨rfl, rfl, rfl, rfl, rfl, rfl, rfl, rfl, trivial⟩ ⟨rfl, okE_one rfl, rfl, okE_one rfl, trivial⟩, i + 1, (by omega), (by intro b hb; rcases (mem_take_succ (by omega)).1 hb with h | h; exact ha b h; rw [h]; unfold fits; refine decide_eq_false (fun e => ?_); first | exact e.1 hc2 | exact h3 e.2), rfl, rfl⟩
      omega
    · refine awp_rd [(some 14, []), (some 15, []), (some 16, []), (some 17, []), (some 18, []), (some 19, []), (some 20, []), (some 21, []), (some 22, []), (some 23, []), (some 24, []), (some 25, []), (some 26, []), (some 27, []), (some 28, []), (some 29, []), (some 30, []), (some 31, []), (some 32, []), (some 33, [])] [[], [0], [], [2], [], [2, 3, 4], [2, 3, 4, 5], [2, 3, 4, 5, 6], [0, 1, 2, 3, 4, 5, 6, 7], [0, 1, 2, 3, 4, 5, 6, 7, 8], [0, 1, 2, 3, 4, 5, 6, 7, 8, 9], [0, 1, 2, 3, 4, 5, 6, 7, 8, 9, 10], [0, 1, 2, 3, 4, 5, 6, 7, 8, 9, 10, 11], [0, 1, 2, 3, 4, 5, 6, 7, 8, 9, 10], [0, 1, 2, 3, 4, 5, 6, 7, 8, 9, 10, 11, 12, 13], [0, 1, 2, 3, 4, 5, 6, 7, 8, 9, 10, 11, 12, 13, 14], [0, 1, 2, 3, 4, 5, 6, 7, 8, 9, 10, 11, 12, 13, 14, 15], [0, 1, 2, 3, 4, 5, 6, 7, 8, 9, 10], [0, 1, 2, 3, 4, 5, 6, 7, 8, 9, 10, 11, 12, 13, 14, 15, 16, 17], [0, 1, 2, 3, 4, 5, 6, 7, 8, 9, 10, 11, 12, 13, 14, 15, 16, 17, 18]] tm rfl rfl rfl rfl ?_
      refine RD.op rfl rfl rfl (eff_fieldAddr rfl rfl tf29_2 (by decide) rfl rfl rfl (Nat.le_of_ble_eq_true rfl)) ?_
      refine RD.op rfl rfl rfl (eff_load (y := .t _) rfl rfl ti27 rfl (.one rfl rfl rfl rfl)) ?_
      refine RD.op rfl rfl rfl (eff_fieldAddr rfl rfl tf29_1 (by decide) rfl rfl rfl (Nat.le_of_ble_eq_true rfl)) ?_
      refine RD.op rfl rfl rfl (eff_load (y := .t _) rfl rfl ti26 rfl (.one rfl rfl rfl rfl)) ?_
      refine RD.op rfl rfl rfl (eff_move (v := .t _) rfl rfl rfl) ?_
      refine RD.op rfl rfl rfl (eff_indexM rfl rfl te26 rfl rfl rfl (by first | assumption | exact List.getElem?_eq_getElem (by omega)) rfl (by decide)) ?_
      refine RD.op rfl rfl rfl (eff_fieldAddrT rfl rfl tf38_0 (by decide) rfl) ?_
      refine RD.op rfl rfl rfl (eff_loadT1 rfl rfl ti3 rfl rfl) ?_
      refine RD.op rfl rfl rfl (eff_callT ((by have h := has_ret S.passed (S.bundles[i]'(by omega)).id (by have h1 := hS.2.1; omega); rw [decide_eq_false hc2] at h; exact h)) co25 rfl rfl rfl rfl) ?_
      refine RD.op rfl rfl rfl (eff_unop rfl rfl rfl rfl) ?_
      refine RD.op rfl rfl rfl (eff_move (v := .t _) rfl rfl rfl) ?_
      refine RD.gop rfl rfl rfl rfl rfl rfl rfl (eff_fieldAddr rfl rfl tf29_1 (by decide) rfl rfl rfl (Nat.le_of_ble_eq_true rfl)) ?_
      refine RD.gop rfl rfl rfl rfl rfl rfl rfl (eff_load (y := .t _) rfl rfl ti26 rfl (.one rfl rfl rfl rfl)) ?_
      refine RD.gop rfl rfl rfl rfl rfl rfl rfl (eff_move (v := .t _) rfl rfl rfl) ?_
      refine RD.gop rfl rfl rfl rfl rfl rfl rfl (eff_indexM rfl rfl te26 rfl rfl rfl (by first | assumption | exact List.getElem?_eq_getElem (by omega)) rfl (by decide)) ?_
      refine RD.gop rfl rfl rfl rfl rfl rfl rfl (eff_loadW rfl rfl ti38 rfl rfl rfl) ?_
      refine RD.gop rfl rfl rfl rfl rfl rfl rfl (eff_callT (size17_ret _ (hS.2.2.2 _ (List.getElem_mem _))) co17 rfl rfl rfl rfl) ?_
      refine RD.gop rfl rfl rfl rfl rfl rfl rfl (eff_move (v := .t _) rfl rfl rfl) ?_
      refine RD.gop rfl rfl rfl rfl rfl rfl rfl (eff_iop rfl rfl rfl rfl rfl) ?_
      refine RD.op rfl rfl rfl (eff_pick (v := .t _) rfl rfl rfl rfl) ?_
      refine RD.nil ?_
      refine awp_cond rfl (fun h3 => ?_) (fun h3 => ?_)
      · try simp only [decide_eq_true_eq, decide_eq_false_iff_not, beq_iff_eq, bne_iff_ne, bne_eq_false_iff_eq, beq_eq_false_iff_ne, Bool.not_eq_true, Bool.not_eq_false, Bool.not_eq_true', Bool.not_eq_false', ne_eq] at h3
        refine awp_seq ?_
        refine awp_rw rfl ?_
        refine RW.op rfl rfl (eff_fieldAddr rfl rfl tf29_1 (by decide) rfl rfl rfl (Nat.le_of_ble_eq_true rfl)) ?_
        refine RW.op rfl rfl (eff_load (y := .t _) rfl rfl ti26 rfl (.one rfl rfl rfl rfl)) ?_
        refine RW.op rfl rfl (eff_move (v := .t _) rfl rfl rfl) ?_
        refine RW.op rfl rfl (eff_indexM rfl rfl te26 rfl rfl rfl (by first | assumption | exact List.getElem?_eq_getElem (by omega)) rfl (by decide)) ?_
        refine RW.op rfl rfl (eff_loadW rfl rfl ti38 rfl rfl rfl) ?_
        refine RW.op rfl rfl (eff_callT (copyBundle_ret _ (hS.2.2.2 _ (List.getElem_mem _))) co40 rfl rfl rfl rfl) ?_
        refine RW.store rfl rfl (eff_storeW (v := .t _) (els := [_]) (els' := [_]) rfl rfl ti38 rfl rfl rfl rfl rfl rfl rfl rfl rfl) ?_
        refine RW.op rfl rfl (eff_assign (v := .t _) rfl rfl rfl) ?_
        refine RW.nil ?_
        refine awp_ret ?_
        rw [offer_hit (by omega) ha (decide_eq_true ⟨hc2, h3⟩)]
        exact ⟨Or.inr rfl, [_, _], ⟨.cell rfl ti38 (.whole rfl rfl rfl rfl rfl rfl) (.t _), .tmp (.t _), trivial⟩, .refl _⟩
      · try simp only [decide_eq_true_eq, decide_eq_false_iff_not, beq_iff_eq, bne_iff_ne, bne_eq_false_iff_eq, beq_eq_false_iff_ne, Bool.not_eq_true, Bool.not_eq_false, Bool.not_eq_true', Bool.not_eq_false', ne_eq] at h3
        refine awp_skip ?_
        refine awp_rw rfl ?_
        refine RW.op rfl rfl (eff_move (v := .t _) rfl rfl rfl) ?_
        refine RW.op rfl rfl (eff_iop rfl rfl rfl rfl (iadd (by omega))) ?_
        refine RW.op rfl rfl (eff_assign (v := .t _) rfl rfl rfl) ?_
        refine RW.nil ?_
        refine ⟨_, ?_, _, weak_keep (n := 41) (fr' := [(1, .t (encI room)), (2, .ptr 2 0 0 0), (4, .ptr 4 0 0 0), (6, .t (encI ((i + 1) : Nat)))]) (st' := [(2, some ⟨4, 29, 0, [.t (encS S)]⟩), (4, some ⟨8, 38, 0, [.t z38]⟩)]) ⟨rfl, rfl, rfl, rfl, rfl, rfl, rfl, rfl, trivial⟩ ⟨rfl, okE_one rfl, rfl, okE_one rfl, trivial⟩, i + 1, (by omega), (by intro b hb; rcases (mem_take_succ (by omega)).1 hb with h | h; exact ha b h; rw [h]; unfold fits; refine decide_eq_false (fun e => ?_); first | exact e.1 hc2 | exact h3 e.2), rfl, rfl⟩
        omega
  · try simp only [decide_eq_true_eq, decide_eq_false_iff_not, beq_iff_eq, bne_iff_ne, bne_eq_false_iff_eq, beq_eq_false_iff_ne, Bool.not_eq_true, Bool.not_eq_false, Bool.not_eq_true', Bool.not_eq_false', ne_eq] at h1
    refine awp_exit ?_
    refine awp_seq ?_
    refine awp_rw rfl ?_
    refine RW.op rfl rfl (eff_buildT (ys := [_, _, _, _, _, _, _, _]) rfl rfl tz38 tg38 rfl) ?_
    refine RW.store rfl rfl (eff_storeW (v := .t _) (els := [_]) (els' := [_]) rfl rfl ti38 rfl rfl rfl rfl rfl rfl rfl rfl rfl) ?_
    refine RW.op rfl rfl (eff_assign (v := .t _) rfl rfl rfl) ?_
    refine RW.nil ?_
    refine awp_ret ?_
    rw [offer_none (by rw [List.take_of_length_le (by omega)] at ha; exact ha)]
    exact ⟨Or.inr rfl, [_, _], ⟨.cell rfl ti38 (.whole rfl rfl rfl rfl rfl rfl) (.t _), .tmp (.t _), trivial⟩, (by repeat' first | exact trivial | exact Wk.refl _ | exact Wk.sl _ | refine And.intro ?_ ?_ | refine Wk.tupP ?_ | refine Wk.aggP ?_)⟩

end Go.Tv.C27

end
section
open Go Go.Tv Go.Proofs
namespace Go.Tv.C27
set_option maxRecDepth 20000
set_option linter.unusedSimpArgs false
set_option linter.unusedVariables false
theorem same_ret (A B : Store) (hA : SOK A) (hBA : ∀ b, b ∈ A.bundles → Bytes b.data) (hBB : ∀ b, b ∈ B.bundles → Bytes b.data) : Ret Try.prog 13 [encS A, encS B] (.bool (sameS A B)) := by
  refine ret_of_awp Try.func13 rfl (Nat.le_of_ble_eq_true rfl) ?_
  refine awp_seq ?_
  refine awp_rw rfl ?_
  refine RW.new rfl rfl (eff_boxK (v := .t _) (k := 4) (id := 2) rfl rfl rfl rfl rfl rfl) ?_
  refine RW.new rfl rfl (eff_boxK (v := .t _) (k := 4) (id := 3) rfl rfl rfl rfl rfl rfl) ?_
  refine RW.op rfl rfl (eff_assign (v := .t _) rfl rfl rfl) ?_
  refine RW.nil ?_
  refine awp_seq ?_
  refine awp_seq ?_
  refine awp_rw rfl ?_
  refine RW.op rfl rfl (eff_fieldAddr rfl rfl tf29_0 (by decide) rfl rfl rfl (Nat.le_of_ble_eq_true rfl)) ?_
  refine RW.op rfl rfl (eff_load (y := .t _) rfl rfl ti3 rfl (.one rfl rfl rfl rfl)) ?_
  refine RW.op rfl rfl (eff_fieldAddr rfl rfl tf29_0 (by decide) rfl rfl rfl (Nat.le_of_ble_eq_true rfl)) ?_
  refine RW.op rfl rfl (eff_load (y := .t _) rfl rfl ti3 rfl (.one rfl rfl rfl rfl)) ?_
  refine RW.op rfl rfl (eff_iop rfl rfl rfl rfl rfl) ?_
  refine RW.op rfl rfl (eff_move (v := .t _) rfl rfl rfl) ?_
  refine RW.split 11 rfl (fun h1 => ?_) (fun h1 => ?_)
  · try simp only [decide_eq_true_eq, decide_eq_false_iff_not, beq_iff_eq, bne_iff_ne, bne_eq_false_iff_eq, beq_eq_false_iff_ne, Bool.not_eq_true, Bool.not_eq_false, Bool.not_eq_true', Bool.not_eq_false', ne_eq] at h1
    refine RW.gskip rfl rfl rfl rfl rfl (by decide) ?_
    refine RW.gskip rfl rfl rfl rfl rfl (by decide) ?_
    refine RW.gskip rfl rfl rfl rfl rfl (by decide) ?_
    refine RW.gskip rfl rfl rfl rfl rfl (by decide) ?_
    refine RW.gskip rfl rfl rfl rfl rfl (by decide) ?_
    refine RW.gskip rfl rfl rfl rfl rfl (by decide) ?_
    refine RW.gskip rfl rfl rfl rfl rfl (by decide) ?_
    refine RW.op rfl rfl (eff_pick (v := .t _) rfl rfl rfl rfl) ?_
    refine RW.op rfl rfl (eff_move (v := .t _) rfl rfl rfl) ?_
    refine RW.gskip rfl rfl rfl rfl rfl (by decide) ?_
    refine RW.gskip rfl rfl rfl rfl rfl (by decide) ?_
    refine RW.gskip rfl rfl rfl rfl rfl (by decide) ?_
    refine RW.gskip rfl rfl rfl rfl rfl (by decide) ?_
    refine RW.gskip rfl rfl rfl rfl rfl (by decide) ?_
    refine RW.gskip rfl rfl rfl rfl rfl (by decide) ?_
    refine RW.op rfl rfl (eff_pick (v := .t _) rfl rfl rfl rfl) ?_
    refine RW.op rfl rfl (eff_move (v := .t _) rfl rfl rfl) ?_
    refine RW.gskip rfl rfl rfl rfl rfl (by decide) ?_
    refine RW.gskip rfl rfl rfl rfl rfl (by decide) ?_
    refine RW.gskip rfl rfl rfl rfl rfl (by decide) ?_
    refine RW.gskip rfl rfl rfl rfl rfl (by decide) ?_
    refine RW.gskip rfl rfl rfl rfl rfl (by decide) ?_
    refine RW.gskip rfl rfl rfl rfl rfl (by decide) ?_
    refine RW.op rfl rfl (eff_pick (v := .t _) rfl rfl rfl rfl) ?_
    refine RW.nil ?_
    refine awp_cond rfl (fun _ => ?_) (fun h => nomatch h)
    refine awp_seq ?_
    refine awp_rw rfl ?_
    refine RW.op rfl rfl (eff_assign (v := .t _) rfl rfl rfl) ?_
    refine RW.nil ?_
    refine awp_ret ?_
    rw [show sameS A B = false from decide_eq_false (fun e => by obtain ⟨e1, e2, e3, e4⟩ := e; exact h1 e1)]
    exact ⟨Or.inr rfl, [_], ⟨.tmp (.t _), trivial⟩, .refl _⟩
  · try simp only [decide_eq_true_eq, decide_eq_false_iff_not, beq_iff_eq, bne_iff_ne, bne_eq_false_iff_eq, beq_eq_false_iff_ne, Bool.not_eq_true, Bool.not_eq_false, Bool.not_eq_true', Bool.not_eq_false', ne_eq] at h1
    refine RW.gop rfl rfl rfl rfl rfl rfl (eff_fieldAddr rfl rfl tf29_1 (by decide) rfl rfl rfl (Nat.le_of_ble_eq_true rfl)) ?_
    refine RW.gop rfl rfl rfl rfl rfl rfl (eff_load (y := .t _) rfl rfl ti26 rfl (.one rfl rfl rfl rfl)) ?_
    refine RW.gop rfl rfl rfl rfl rfl rfl (eff_lenM rfl rfl te26 rfl) ?_
    refine RW.gop rfl rfl rfl rfl rfl rfl (eff_fieldAddr rfl rfl tf29_1 (by decide) rfl rfl rfl (Nat.le_of_ble_eq_true rfl)) ?_
    refine RW.gop rfl rfl rfl rfl rfl rfl (eff_load (y := .t _) rfl rfl ti26 rfl (.one rfl rfl rfl rfl)) ?_
    refine RW.gop rfl rfl rfl rfl rfl rfl (eff_lenM rfl rfl te26 rfl) ?_
    refine RW.gop rfl rfl rfl rfl rfl rfl (eff_iop rfl rfl rfl rfl rfl) ?_
    refine RW.op rfl rfl (eff_pick (v := .t _) rfl rfl rfl rfl) ?_
    refine RW.op rfl rfl (eff_move (v := .t _) rfl rfl rfl) ?_
    refine RW.split 20 rfl (fun h2 => ?_) (fun h2 => ?_)
    · try simp only [decide_eq_true_eq, decide_eq_false_iff_not, beq_iff_eq, bne_iff_ne, bne_eq_false_iff_eq, beq_eq_false_iff_ne, Bool.not_eq_true, Bool.not_eq_false, Bool.not_eq_true', Bool.not_eq_false', ne_eq] at h2
      refine RW.gskip rfl rfl rfl rfl rfl (by decide) ?_
      refine RW.gskip rfl rfl rfl rfl rfl (by decide) ?_
      refine RW.gskip rfl rfl rfl rfl rfl (by decide) ?_
      refine RW.gskip rfl rfl rfl rfl rfl (by decide) ?_
      refine RW.gskip rfl rfl rfl rfl rfl (by decide) ?_
      refine RW.gskip rfl rfl rfl rfl rfl (by decide) ?_
      refine RW.op rfl rfl (eff_pick (v := .t _) rfl rfl rfl rfl) ?_
      refine RW.op rfl rfl (eff_move (v := .t _) rfl rfl rfl) ?_
      refine RW.gskip rfl rfl rfl rfl rfl (by decide) ?_
      refine RW.gskip rfl rfl rfl rfl rfl (by decide) ?_
      refine RW.gskip rfl rfl rfl rfl rfl (by decide) ?_
      refine RW.gskip rfl rfl rfl rfl rfl (by decide) ?_
      refine RW.gskip rfl rfl rfl rfl rfl (by decide) ?_
      refine RW.gskip rfl rfl rfl rfl rfl (by decide) ?_
      refine RW.op rfl rfl (eff_pick (v := .t _) rfl rfl rfl rfl) ?_
      refine RW.nil ?_
      refine awp_cond rfl (fun _ => ?_) (fun h => nomatch h)
      refine awp_seq ?_
      refine awp_rw rfl ?_
      refine RW.op rfl rfl (eff_assign (v := .t _) rfl rfl rfl) ?_
      refine RW.nil ?_
      refine awp_ret ?_
      rw [show sameS A B = false from decide_eq_false (fun e => by obtain ⟨e1, e2, e3, e4⟩ := e; exact h2 (by rw [e2]))]
      exact ⟨Or.inr rfl, [_], ⟨.tmp (.t _), trivial⟩, .refl _⟩
    · try simp only [decide_eq_true_eq, decide_eq_false_iff_not, beq_iff_eq, bne_iff_ne, bne_eq_false_iff_eq, beq_eq_false_iff_ne, Bool.not_eq_true, Bool.not_eq_false, Bool.not_eq_true', Bool.not_eq_false', ne_eq] at h2
      refine RW.gop rfl rfl rfl rfl rfl rfl (eff_fieldAddr rfl rfl tf29_2 (by decide) rfl rfl rfl (Nat.le_of_ble_eq_true rfl)) ?_
      refine RW.gop rfl rfl rfl rfl rfl rfl (eff_load (y := .t _) rfl rfl ti27 rfl (.one rfl rfl rfl rfl)) ?_
      refine RW.gop rfl rfl rfl rfl rfl rfl (eff_fieldAddr rfl rfl tf29_2 (by decide) rfl rfl rfl (Nat.le_of_ble_eq_true rfl)) ?_
      refine RW.gop rfl rfl rfl rfl rfl rfl (eff_load (y := .t _) rfl rfl ti27 rfl (.one rfl rfl rfl rfl)) ?_
      refine RW.gop rfl rfl rfl rfl rfl rfl (eff_callT (sameInts_ret _ _ (by have h1 := hA.2.1; omega)) co37 rfl rfl rfl rfl) ?_
      refine RW.gop rfl rfl rfl rfl rfl rfl (eff_unop rfl rfl rfl rfl) ?_
      refine RW.op rfl rfl (eff_pick (v := .t _) rfl rfl rfl rfl) ?_
      refine RW.op rfl rfl (eff_move (v := .t _) rfl rfl rfl) ?_
      refine RW.split 28 rfl (fun h3 => ?_) (fun h3 => ?_)
      · try simp only [decide_eq_true_eq, decide_eq_false_iff_not, beq_iff_eq, bne_iff_ne, bne_eq_false_iff_eq, beq_eq_false_iff_ne, Bool.not_eq_true, Bool.not_eq_false, Bool.not_eq_true', Bool.not_eq_false', ne_eq] at h3
        refine RW.gskip rfl rfl rfl rfl rfl (by decide) ?_
        refine RW.gskip rfl rfl rfl rfl rfl (by decide) ?_
        refine RW.gskip rfl rfl rfl rfl rfl (by decide) ?_
        refine RW.gskip rfl rfl rfl rfl rfl (by decide) ?_
        refine RW.gskip rfl rfl rfl rfl rfl (by decide) ?_
        refine RW.gskip rfl rfl rfl rfl rfl (by decide) ?_
        refine RW.op rfl rfl (eff_pick (v := .t _) rfl rfl rfl rfl) ?_
        refine RW.nil ?_
        refine awp_cond rfl (fun _ => ?_) (fun h => nomatch h)
        refine awp_seq ?_
        refine awp_rw rfl ?_
        refine RW.op rfl rfl (eff_assign (v := .t _) rfl rfl rfl) ?_
        refine RW.nil ?_
        refine awp_ret ?_
        rw [show sameS A B = false from decide_eq_false (fun e => by obtain ⟨e1, e2, e3, e4⟩ := e; exact h3 e3)]
        exact ⟨Or.inr rfl, [_], ⟨.tmp (.t _), trivial⟩, .refl _⟩
      · try simp only [decide_eq_true_eq, decide_eq_false_iff_not, beq_iff_eq, bne_iff_ne, bne_eq_false_iff_eq, beq_eq_false_iff_ne, Bool.not_eq_true, Bool.not_eq_false, Bool.not_eq_true', Bool.not_eq_false', ne_eq] at h3
        refine RW.gop rfl rfl rfl rfl rfl rfl (eff_fieldAddr rfl rfl tf29_3 (by decide) rfl rfl rfl (Nat.le_of_ble_eq_true rfl)) ?_
        refine RW.gop rfl rfl rfl rfl rfl rfl (eff_load (y := .t _) rfl rfl ti27 rfl (.one rfl rfl rfl rfl)) ?_
        refine RW.gop rfl rfl rfl rfl rfl rfl (eff_fieldAddr rfl rfl tf29_3 (by decide) rfl rfl rfl (Nat.le_of_ble_eq_true rfl)) ?_
        refine RW.gop rfl rfl rfl rfl rfl rfl (eff_load (y := .t _) rfl rfl ti27 rfl (.one rfl rfl rfl rfl)) ?_
        refine RW.gop rfl rfl rfl rfl rfl rfl (eff_callT (sameInts_ret _ _ (by have h1 := hA.2.2.1; omega)) co37 rfl rfl rfl rfl) ?_
        refine RW.gop rfl rfl rfl rfl rfl rfl (eff_unop rfl rfl rfl rfl) ?_
        refine RW.op rfl rfl (eff_pick (v := .t _) rfl rfl rfl rfl) ?_
        refine RW.nil ?_
        refine awp_cond rfl (fun h4 => ?_) (fun h4 => ?_)
        · try simp only [decide_eq_true_eq, decide_eq_false_iff_not, beq_iff_eq, bne_iff_ne, bne_eq_false_iff_eq, beq_eq_false_iff_ne, Bool.not_eq_true, Bool.not_eq_false, Bool.not_eq_true', Bool.not_eq_false', ne_eq] at h4
          refine awp_seq ?_
          refine awp_rw rfl ?_
          refine RW.op rfl rfl (eff_assign (v := .t _) rfl rfl rfl) ?_
          refine RW.nil ?_
          refine awp_ret ?_
          rw [show sameS A B = false from decide_eq_false (fun e => by obtain ⟨e1, e2, e3, e4⟩ := e; exact h4 e4)]
          exact ⟨Or.inr rfl, [_], ⟨.tmp (.t _), trivial⟩, .refl _⟩
        · try simp only [decide_eq_true_eq, decide_eq_false_iff_not, beq_iff_eq, bne_iff_ne, bne_eq_false_iff_eq, beq_eq_false_iff_ne, Bool.not_eq_true, Bool.not_eq_false, Bool.not_eq_true', Bool.not_eq_false', ne_eq] at h4
          refine awp_skip ?_
          refine awp_seq ?_
          refine awp_seq ?_
          refine awp_rw rfl ?_
          refine RW.op rfl rfl (eff_assign (v := .t _) rfl rfl rfl) ?_
          refine RW.nil ?_
          refine awp_block ?_
          refine awp_loopW (fun m s => ∃ (i : Nat), (i ≤ A.bundles.length) ∧ (A.bundles.take i = B.bundles.take i) ∧ m = A.bundles.length - i ∧ s = ⟨55, [(2, .ptr 2 0 0 0), (3, .ptr 3 0 0 0), (5, .t (encI (i : Nat)))], [(2, some ⟨4, 29, 0, [.t (encS A)]⟩), (3, some ⟨4, 29, 0, [.t (encS B)]⟩)]⟩) (_) (⟨_, weak_keep (n := 55) (fr' := [(2, .ptr 2 0 0 0), (3, .ptr 3 0 0 0), (5, .t (encI (0 : Nat)))]) (st' := [(2, some ⟨4, 29, 0, [.t (encS A)]⟩), (3, some ⟨4, 29, 0, [.t (encS B)]⟩)]) ⟨rfl, rfl, rfl, rfl, rfl, rfl, trivial⟩ ⟨rfl, okE_one rfl, rfl, okE_one rfl, trivial⟩, 0, (by omega), (by simp), rfl, rfl⟩) ?_
          rintro m s ⟨i, hi, ha, rfl, rfl⟩
          have hL := hA.1
          refine awp_seq ?_
          refine awp_seq ?_
          refine awp_rw rfl ?_
          refine RW.op rfl rfl (eff_move (v := .t _) rfl rfl rfl) ?_
          refine RW.op rfl rfl (eff_fieldAddr rfl rfl tf29_1 (by decide) rfl rfl rfl (Nat.le_of_ble_eq_true rfl)) ?_
          refine RW.op rfl rfl (eff_load (y := .t _) rfl rfl ti26 rfl (.one rfl rfl rfl rfl)) ?_
          refine RW.op rfl rfl (eff_lenM rfl rfl te26 rfl) ?_
          refine RW.op rfl rfl (eff_iop rfl rfl rfl rfl rfl) ?_
          refine RW.nil ?_
          refine awp_cond rfl (fun h5 => ?_) (fun h5 => ?_)
          · try simp only [decide_eq_true_eq, decide_eq_false_iff_not, beq_iff_eq, bne_iff_ne, bne_eq_false_iff_eq, beq_eq_false_iff_ne, Bool.not_eq_true, Bool.not_eq_false, Bool.not_eq_true', Bool.not_eq_false', ne_eq] at h5
            refine awp_skip ?_
            refine awp_seq ?_
            refine awp_block ?_
            refine awp_seq ?_
            refine awp_rd [(some 43, []), (some 44, []), (some 45, []), (some 46, []), (some 47, []), (some 48, []), (some 49, []), (some 50, []), (some 51, []), (some 52, []), (some 53, []), (some 54, [])] [[], [0], [], [0, 1, 2], [0, 1, 2, 3], [], [5], [], [5, 6, 7], [5, 6, 7, 8], [0, 1, 2, 3, 4, 5, 6, 7, 8, 9], [0, 1, 2, 3, 4, 5, 6, 7, 8, 9, 10]] tm rfl rfl rfl rfl ?_
            refine RD.op rfl rfl rfl (eff_fieldAddr rfl rfl tf29_1 (by decide) rfl rfl rfl (Nat.le_of_ble_eq_true rfl)) ?_
            refine RD.op rfl rfl rfl (eff_load (y := .t _) rfl rfl ti26 rfl (.one rfl rfl rfl rfl)) ?_
            refine RD.op rfl rfl rfl (eff_move (v := .t _) rfl rfl rfl) ?_
            refine RD.op rfl rfl rfl (eff_indexM rfl rfl te26 rfl rfl rfl (by first | assumption | exact List.getElem?_eq_getElem (by omega)) rfl (by decide)) ?_
            refine RD.op rfl rfl rfl (eff_loadW rfl rfl ti38 rfl rfl rfl) ?_
            refine RD.op rfl rfl rfl (eff_fieldAddr rfl rfl tf29_1 (by decide) rfl rfl rfl (Nat.le_of_ble_eq_true rfl)) ?_
            refine RD.op rfl rfl rfl (eff_load (y := .t _) rfl rfl ti26 rfl (.one rfl rfl rfl rfl)) ?_
            refine RD.op rfl rfl rfl (eff_move (v := .t _) rfl rfl rfl) ?_
            refine RD.op rfl rfl rfl (eff_indexM rfl rfl te26 rfl rfl rfl (by first | assumption | exact List.getElem?_eq_getElem (by omega)) rfl (by decide)) ?_
            refine RD.op rfl rfl rfl (eff_loadW rfl rfl ti38 rfl rfl rfl) ?_
            refine RD.op rfl rfl rfl (eff_callT (sameBundle_ret _ _ (hBA _ (List.getElem_mem _)) (hBB _ (List.getElem_mem _))) co20 rfl rfl rfl rfl) ?_
            refine RD.op rfl rfl rfl (eff_unop rfl rfl rfl rfl) ?_
            refine RD.nil ?_
            refine awp_cond rfl (fun h6 => ?_) (fun h6 => ?_)
            · try simp only [decide_eq_true_eq, decide_eq_false_iff_not, beq_iff_eq, bne_iff_ne, bne_eq_false_iff_eq, beq_eq_false_iff_ne, Bool.not_eq_true, Bool.not_eq_false, Bool.not_eq_true', Bool.not_eq_false', ne_eq] at h6
              refine awp_seq ?_
              refine awp_rw rfl ?_
              refine RW.op rfl rfl (eff_assign (v := .t _) rfl rfl rfl) ?_
              refine RW.nil ?_
              refine awp_ret ?_
              rw [show sameS A B = false from decide_eq_false (fun e => by obtain ⟨e1, e2, e3, e4⟩ := e; rw [Bool.eq_false_iff] at h6; exact h6 (sameB_iff.2 (by simp [e2])))]
              exact ⟨Or.inr rfl, [_], ⟨.tmp (.t _), trivial⟩, .refl _⟩
            · try simp only [decide_eq_true_eq, decide_eq_false_iff_not, beq_iff_eq, bne_iff_ne, bne_eq_false_iff_eq, beq_eq_false_iff_ne, Bool.not_eq_true, Bool.not_eq_false, Bool.not_eq_true', Bool.not_eq_false', ne_eq] at h6
              refine awp_skip ?_
              refine awp_rw rfl ?_
              refine RW.op rfl rfl (eff_move (v := .t _) rfl rfl rfl) ?_
              refine RW.op rfl rfl (eff_iop rfl rfl rfl rfl (iadd (by omega))) ?_
              refine RW.op rfl rfl (eff_assign (v := .t _) rfl rfl rfl) ?_
              refine RW.nil ?_
              refine ⟨_, ?_, _, weak_keep (n := 55) (fr' := [(2, .ptr 2 0 0 0), (3, .ptr 3 0 0 0), (5, .t (encI ((i + 1) : Nat)))]) (st' := [(2, some ⟨4, 29, 0, [.t (encS A)]⟩), (3, some ⟨4, 29, 0, [.t (encS B)]⟩)]) ⟨rfl, rfl, rfl, rfl, rfl, rfl, trivial⟩ ⟨rfl, okE_one rfl, rfl, okE_one rfl, trivial⟩, i + 1, (by omega), (by rw [take_succ_get (by omega), take_succ_get (by omega), ha, sameB_iff.1 h6]), rfl, rfl⟩
              omega
          · try simp only [decide_eq_true_eq, decide_eq_false_iff_not, beq_iff_eq, bne_iff_ne, bne_eq_false_iff_eq, beq_eq_false_iff_ne, Bool.not_eq_true, Bool.not_eq_false, Bool.not_eq_true', Bool.not_eq_false', ne_eq] at h5
            refine awp_exit ?_
            refine awp_seq ?_
            refine awp_rw rfl ?_
            refine RW.op rfl rfl (eff_assign (v := .t _) rfl rfl rfl) ?_
            refine RW.nil ?_
            refine awp_ret ?_
            rw [List.take_of_length_le (by omega), List.take_of_length_le (by omega)] at ha
            rw [show sameS A B = true from decide_eq_true ⟨h1, ha, h3, h4⟩]
            exact ⟨Or.inr rfl, [_], ⟨.tmp (.t _), trivial⟩, .refl _⟩

end Go.Tv.C27

end
section
open Go Go.Tv Go.Proofs
namespace Go.Tv.C27
set_option maxRecDepth 20000
set_option linter.unusedSimpArgs false
set_option linter.unusedVariables false
theorem clone55_retG (l : List Int) (hl : l.length ≤ 1000000) : RetG Try.prog 55 [] [.t (.sl (l.map encI) false)] [(5, some ⟨1, 3, 1, (l.map encI).map .t⟩)] (.own 5 1 0 l.length) := by
  refine retG_of_awp Try.func55 rfl (Nat.le_of_ble_eq_true rfl) ?_
  refine awp_seq ?_
  refine awp_rw rfl ?_
  refine RW.op rfl rfl (eff_assign (v := .t _) rfl rfl rfl) ?_
  refine RW.nil ?_
  refine awp_seq ?_
  refine awp_seq ?_
  refine awp_rw rfl ?_
  refine RW.op rfl rfl (eff_move (v := .t _) rfl rfl rfl) ?_
  refine RW.nilEq rfl rfl rfl rfl te27 rfl (fun b1 hb1 => ?_)
  refine RW.nil ?_
  refine awp_cond rfl (fun h2 => ?_) (fun h2 => ?_)
  · try simp only [decide_eq_true_eq, decide_eq_false_iff_not, beq_iff_eq, bne_iff_ne, bne_eq_false_iff_eq, beq_eq_false_iff_ne, Bool.not_eq_true, Bool.not_eq_false, Bool.not_eq_true', Bool.not_eq_false', ne_eq] at h2
    refine awp_seq ?_
    refine awp_rw rfl ?_
    refine RW.op rfl rfl (eff_assign (v := .t _) rfl rfl rfl) ?_
    refine RW.nil ?_
    show AWP _ _ _ _
    refine awp_weak (weak_adopt (d := 2) (id := 5) (k := 1) (ty := 3) rfl rfl) ?_
    refine awp_weak (weak_bumpS (d := 2) (id := 5) (off := 0) (len := 0) 1 rfl rfl (by decide)) ?_
    refine awp_ret ?_
    have hl0 : l = [] := by simpa using hb1 h2
    subst hl0
    exact ⟨Or.inr rfl, [_], [.own 5 1 0 0], ⟨.tmp rfl, trivial⟩, rfl, weak_keep ⟨rfl, rfl, trivial⟩ ⟨rfl, okE_nil, trivial⟩, rfl⟩
  · try simp only [decide_eq_true_eq, decide_eq_false_iff_not, beq_iff_eq, bne_iff_ne, bne_eq_false_iff_eq, beq_eq_false_iff_ne, Bool.not_eq_true, Bool.not_eq_false, Bool.not_eq_true', Bool.not_eq_false', ne_eq] at h2
    refine awp_skip ?_
    refine awp_seq ?_
    refine awp_rw rfl ?_
    refine RW.new rfl rfl (eff_buildSlice1 (id := 5) (els := []) rfl rfl te27 tz3 rfl (by decide) rfl rfl rfl rfl) ?_
    refine RW.op rfl rfl (eff_move (v := .t _) rfl rfl rfl) ?_
    refine RW.new rfl rfl (eff_appendAny (id := 5) rfl rfl ta27 rfl rfl rfl rfl rfl rfl (srcM rfl (fun _ => rfl)) (by simp; omega) (by simp; omega)) ?_
    refine RW.op rfl rfl (eff_assign (v := .own _ _ _ _) rfl rfl rfl) ?_
    refine RW.nil ?_
    refine awp_ret ?_
    exact ⟨Or.inr rfl, [_], [.own 5 1 0 l.length], ⟨.tmp rfl, trivial⟩, rfl, weak_keep ⟨(by show AV.own 5 _ 0 _ = AV.own 5 1 0 l.length; congr 1; simp), rfl, trivial⟩ ⟨rfl, okE_t, trivial⟩, rfl⟩

theorem clone54_retG (l : List Int) (hl : l.length ≤ 1000000) : RetG Try.prog 54 [] [.t (.sl (l.map encBy) false)] [(5, some ⟨1, 5, 1, (l.map encBy).map .t⟩)] (.own 5 1 0 l.length) := by
  refine retG_of_awp Try.func54 rfl (Nat.le_of_ble_eq_true rfl) ?_
  refine awp_seq ?_
  refine awp_rw rfl ?_
  refine RW.op rfl rfl (eff_assign (v := .t _) rfl rfl rfl) ?_
  refine RW.nil ?_
  refine awp_seq ?_
  refine awp_seq ?_
  refine awp_rw rfl ?_
  refine RW.op rfl rfl (eff_move (v := .t _) rfl rfl rfl) ?_
  refine RW.nilEq rfl rfl rfl rfl te34 rfl (fun b1 hb1 => ?_)
  refine RW.nil ?_
  refine awp_cond rfl (fun h2 => ?_) (fun h2 => ?_)
  · try simp only [decide_eq_true_eq, decide_eq_false_iff_not, beq_iff_eq, bne_iff_ne, bne_eq_false_iff_eq, beq_eq_false_iff_ne, Bool.not_eq_true, Bool.not_eq_false, Bool.not_eq_true', Bool.not_eq_false', ne_eq] at h2
    refine awp_seq ?_
    refine awp_rw rfl ?_
    refine RW.op rfl rfl (eff_assign (v := .t _) rfl rfl rfl) ?_
    refine RW.nil ?_
    show AWP _ _ _ _
    refine awp_weak (weak_adopt (d := 2) (id := 5) (k := 1) (ty := 5) rfl rfl) ?_
    refine awp_weak (weak_bumpS (d := 2) (id := 5) (off := 0) (len := 0) 1 rfl rfl (by decide)) ?_
    refine awp_ret ?_
    have hl0 : l = [] := by simpa using hb1 h2
    subst hl0
    exact ⟨Or.inr rfl, [_], [.own 5 1 0 0], ⟨.tmp rfl, trivial⟩, rfl, weak_keep ⟨rfl, rfl, trivial⟩ ⟨rfl, okE_nil, trivial⟩, rfl⟩
  · try simp only [decide_eq_true_eq, decide_eq_false_iff_not, beq_iff_eq, bne_iff_ne, bne_eq_false_iff_eq, beq_eq_false_iff_ne, Bool.not_eq_true, Bool.not_eq_false, Bool.not_eq_true', Bool.not_eq_false', ne_eq] at h2
    refine awp_skip ?_
    refine awp_seq ?_
    refine awp_rw rfl ?_
    refine RW.new rfl rfl (eff_buildSlice1 (id := 5) (els := []) rfl rfl te34 tz5 rfl (by decide) rfl rfl rfl rfl) ?_
    refine RW.op rfl rfl (eff_move (v := .t _) rfl rfl rfl) ?_
    refine RW.new rfl rfl (eff_appendAny (id := 5) rfl rfl ta34 rfl rfl rfl rfl rfl rfl (srcM rfl (fun _ => rfl)) (by simp; omega) (by simp; omega)) ?_
    refine RW.op rfl rfl (eff_assign (v := .own _ _ _ _) rfl rfl rfl) ?_
    refine RW.nil ?_
    refine awp_ret ?_
    exact ⟨Or.inr rfl, [_], [.own 5 1 0 l.length], ⟨.tmp rfl, trivial⟩, rfl, weak_keep ⟨(by show AV.own 5 _ 0 _ = AV.own 5 1 0 l.length; congr 1; simp), rfl, trivial⟩ ⟨rfl, okE_t, trivial⟩, rfl⟩

theorem clone39_ret (b : Bundle) (hb : BOK b) : Ret Try.prog 39 [encB b] (encB b) := by
  unfold BOK at hb
  refine ret_of_awp Try.func39 rfl (Nat.le_of_ble_eq_true rfl) ?_
  refine awp_seq ?_
  refine awp_rw rfl ?_
  refine RW.new rfl rfl (eff_boxK (v := .t _) (k := 8) (id := 1) rfl rfl rfl rfl rfl rfl) ?_
  refine RW.new rfl rfl (eff_allocK (k := 8) (id := 2) rfl rfl tz38 rfl rfl) ?_
  refine RW.nil ?_
  refine awp_seq ?_
  refine awp_rw rfl ?_
  refine RW.op rfl rfl (eff_fieldAddr rfl rfl tf38_3 (by decide) rfl rfl rfl (Nat.le_of_ble_eq_true rfl)) ?_
  refine RW.op rfl rfl (eff_fieldAddr rfl rfl tf36_4 (by decide) rfl rfl rfl (Nat.le_of_ble_eq_true rfl)) ?_
  refine RW.op rfl rfl (eff_load (y := .t _) rfl rfl ti34 rfl (.one rfl rfl rfl rfl)) ?_
  refine RW.new rfl rfl (eff_callG (clone54_retG b.data (by omega)) co54 (fun id => id + 1000) rfl rfl rfl ⟨.t _, trivial⟩ (.own _ _ _ _ rfl rfl) rfl trivial ⟨⟨treeEls_t, .inr rfl⟩, trivial⟩) ?_
  refine RW.op rfl rfl (eff_fieldAddr rfl rfl tf38_3 (by decide) rfl rfl rfl (Nat.le_of_ble_eq_true rfl)) ?_
  refine RW.op rfl rfl (eff_fieldAddr rfl rfl tf36_4 (by decide) rfl rfl rfl (Nat.le_of_ble_eq_true rfl)) ?_
  refine RW.store rfl rfl (eff_storeA (v := .own _ _ _ _) (ys := [_, _, _, _, _, _, _, _]) (els := [_]) (els' := [_]) rfl rfl ti34 rfl rfl rfl rfl rfl rfl rfl (Nat.le_of_ble_eq_true rfl) rfl rfl rfl) ?_
  refine RW.nil ?_
  refine awp_seq ?_
  refine awp_rw rfl ?_
  refine RW.op rfl rfl (eff_load rfl rfl ti38 rfl (.whole rfl rfl rfl rfl rfl rfl)) ?_
  refine RW.store rfl rfl (eff_storeW (v := .agg _) (els := [_]) (els' := [_]) rfl rfl ti38 rfl rfl rfl rfl rfl rfl rfl rfl rfl) ?_
  refine RW.nil ?_
  refine awp_ret ?_
  first
    | exact ⟨Or.inr rfl, [_], ⟨.cell rfl ti38 (.whole rfl rfl rfl rfl rfl rfl) (Res.aggP (xs := [_, _, _, _, _, _, _, _]) ⟨.t _, .t _, .t _, .t _, .t _, .t _, .t _, Res.ownM (xs := b.data.map encBy) rfl (by simp), trivial⟩), trivial⟩, .refl _⟩
    | exact ⟨Or.inr rfl, [_], ⟨.cell rfl ti38 (.whole rfl rfl rfl rfl rfl rfl) (Res.aggP (xs := [_, _, _, _, _, _, _, _]) ⟨.t _, .t _, .t _, .t _, .t _, .t _, .t _, Res.ownM (xs := b.data.map encBy) rfl (by simp), trivial⟩), trivial⟩, (by repeat' first | exact trivial | exact Wk.refl _ | exact Wk.sl _ | refine And.intro ?_ ?_ | refine Wk.tupP ?_ | refine Wk.aggP ?_)⟩

theorem copied_retG (S : Store) (hS : SOK S) : RetG Try.prog 43 [] [.t (encS S)] [(27, some ⟨8, 38, S.bundles.length, (S.bundles.map encB).map .t⟩), (1005, some ⟨1, 3, 1, (S.passed.map encI).map .t⟩), (2005, some ⟨1, 3, 1, (S.seen.map encI).map .t⟩)] (.agg [.t (encI S.quota), .own 27 S.bundles.length 0 S.bundles.length, .own 1005 1 0 S.passed.length, .own 2005 1 0 S.seen.length]) := by
  refine retG_of_awp Try.func43 rfl (Nat.le_of_ble_eq_true rfl) ?_
  refine awp_seq ?_
  refine awp_rw rfl ?_
  refine RW.new rfl rfl (eff_boxK (v := .t _) (k := 4) (id := 1) rfl rfl rfl rfl rfl rfl) ?_
  refine RW.new rfl rfl (eff_allocK (k := 4) (id := 2) rfl rfl tz29 rfl rfl) ?_
  refine RW.nil ?_
  refine awp_seq ?_
  refine awp_rd [(some 6, []), (some 7, []), (some 8, []), (some 9, []), (some 10, [1005]), (some 11, []), (some 12, []), (some 13, [2005]), (some 14, []), (some 3, [3]), (none, [3])] [[], [0], [], [2], [2, 3], [], [5], [2, 3, 4, 5, 6], [0, 1, 2, 3, 4, 5, 6, 7], [], [0, 1, 2, 3, 4, 5, 6, 7, 8, 9]] tm rfl rfl rfl rfl ?_
  refine RD.op rfl rfl rfl (eff_fieldAddr rfl rfl tf29_0 (by decide) rfl rfl rfl (Nat.le_of_ble_eq_true rfl)) ?_
  refine RD.op rfl rfl rfl (eff_load (y := .t _) rfl rfl ti3 rfl (.one rfl rfl rfl rfl)) ?_
  refine RD.op rfl rfl rfl (eff_fieldAddr rfl rfl tf29_2 (by decide) rfl rfl rfl (Nat.le_of_ble_eq_true rfl)) ?_
  refine RD.op rfl rfl rfl (eff_load (y := .t _) rfl rfl ti27 rfl (.one rfl rfl rfl rfl)) ?_
  refine RD.new rfl rfl rfl (eff_callG (clone55_retG S.passed (by have h := hS.2.1; omega)) co55 (fun id => id + 1000) rfl rfl rfl ⟨.t _, trivial⟩ (.own _ _ _ _ rfl rfl) rfl trivial ⟨⟨treeEls_t, .inr rfl⟩, trivial⟩) ?_
  refine RD.op rfl rfl rfl (eff_fieldAddr rfl rfl tf29_3 (by decide) rfl rfl rfl (Nat.le_of_ble_eq_true rfl)) ?_
  refine RD.op rfl rfl rfl (eff_load (y := .t _) rfl rfl ti27 rfl (.one rfl rfl rfl rfl)) ?_
  refine RD.new rfl rfl rfl (eff_callG (clone55_retG S.seen (by have h := hS.2.2.1; omega)) co55 (fun id => id + 2000) rfl rfl rfl ⟨.t _, trivial⟩ (.own _ _ _ _ rfl rfl) rfl trivial ⟨⟨treeEls_t, .inr rfl⟩, trivial⟩) ?_
  refine RD.op rfl rfl rfl (eff_buildA (ys := [.t _, .t _, .own 1005 _ 0 _, .own 2005 _ 0 _]) rfl rfl tz29 tg29 rfl rfl) ?_
  refine RD.new rfl rfl rfl (eff_allocK (k := 4) (id := 3) rfl rfl tz29 rfl rfl) ?_
  refine RD.store rfl rfl rfl (eff_storeW (v := .agg _) (els := [_]) (els' := [_]) rfl rfl ti29 rfl rfl rfl rfl rfl rfl rfl rfl rfl) ?_
  refine RD.nil ?_
  show AWP _ _ _ _
  refine awp_weak (weak_adoptC (id0 := 3) (cs := [_, _, _, _]) (cs' := [_, .own 27 0 0 0, _, _]) 27 8 38 1 rfl rfl rfl rfl) ?_
  refine awp_seq ?_
  refine awp_seq ?_
  refine awp_rw rfl ?_
  refine RW.op rfl rfl (eff_fieldAddr rfl rfl tf29_1 (by decide) rfl rfl rfl (Nat.le_of_ble_eq_true rfl)) ?_
  refine RW.op rfl rfl (eff_load (y := .t _) rfl rfl ti26 rfl (.one rfl rfl rfl rfl)) ?_
  refine RW.op rfl rfl (eff_lenM rfl rfl te26 rfl) ?_
  refine RW.op rfl rfl (eff_move (v := .t _) rfl rfl rfl) ?_
  refine RW.nil ?_
  refine awp_block ?_
  refine awp_loopW (fun m s => ∃ (i : Nat) (els : List AV), (i ≤ S.bundles.length) ∧ (els = ((S.bundles.take i).map encB).map .t) ∧ m = S.bundles.length - i ∧ s = ⟨31, [(1, .ptr 1 0 0 0), (2, .ptr 2 0 0 0), (3, .ptr 3 0 0 0), (16, .t (.sl (S.bundles.map encB) false)), (17, .t (encI S.bundles.length)), (18, .t (encI (i : Nat)))], [(1, some ⟨4, 29, 0, [.t (encS S)]⟩), (2, some ⟨4, 29, 0, [.t z29]⟩), (3, some ⟨4, 29, 0, [.agg [.t (encI S.quota), .own 27 i 0 i, .own 1005 1 0 S.passed.length, .own 2005 1 0 S.seen.length]]⟩), (27, some ⟨8, 38, i, els⟩), (1005, some ⟨1, 3, 1, (S.passed.map encI).map .t⟩), (2005, some ⟨1, 3, 1, (S.seen.map encI).map .t⟩)]⟩) (_) (⟨_, weak_keep (n := 31) (fr' := [(1, .ptr 1 0 0 0), (2, .ptr 2 0 0 0), (3, .ptr 3 0 0 0), (16, .t (.sl (S.bundles.map encB) false)), (17, .t (encI S.bundles.length)), (18, .t (encI (0 : Nat)))]) (st' := [(1, some ⟨4, 29, 0, [.t (encS S)]⟩), (2, some ⟨4, 29, 0, [.t z29]⟩), (3, some ⟨4, 29, 0, [.agg [.t (encI S.quota), .own 27 0 0 0, .own 1005 1 0 S.passed.length, .own 2005 1 0 S.seen.length]]⟩), (27, some ⟨8, 38, 0, ([])⟩), (1005, some ⟨1, 3, 1, (S.passed.map encI).map .t⟩), (2005, some ⟨1, 3, 1, (S.seen.map encI).map .t⟩)]) ⟨rfl, rfl, rfl, rfl, rfl, rfl, rfl, rfl, rfl, rfl, rfl, rfl, trivial⟩ ⟨rfl, okE_one rfl, rfl, okE_one rfl, rfl, okE_one rfl, rfl, (by first | exact okE_nil | (rw [he]; intro x hx; simp only [List.mem_append, List.mem_map, List.mem_singleton] at hx; rcases hx with ⟨y, _, rfl⟩ | rfl <;> rfl)), rfl, okE_t, rfl, okE_t, trivial⟩, 0, [], (by omega), (by rfl), rfl, rfl⟩) ?_
  rintro m s ⟨i, els, hi, he, rfl, rfl⟩
  have hL := hS.1
  refine awp_seq ?_
  refine awp_rw rfl ?_
  refine RW.op rfl rfl (eff_iop rfl rfl rfl rfl rfl) ?_
  refine RW.nil ?_
  refine awp_seq ?_
  refine awp_cond rfl (fun h1 => ?_) (fun h1 => ?_)
  · try simp only [decide_eq_true_eq, decide_eq_false_iff_not, beq_iff_eq, bne_iff_ne, bne_eq_false_iff_eq, beq_eq_false_iff_ne, Bool.not_eq_true, Bool.not_eq_false, Bool.not_eq_true', Bool.not_eq_false', ne_eq] at h1
    refine awp_skip ?_
    refine awp_seq ?_
    refine awp_block ?_
    refine awp_seq ?_
    refine awp_rw rfl ?_
    refine RW.op rfl rfl (eff_indexM rfl rfl te26 rfl rfl rfl (by first | assumption | exact List.getElem?_eq_getElem (by omega)) rfl (by decide)) ?_
    refine RW.op rfl rfl (eff_loadW rfl rfl ti38 rfl rfl rfl) ?_
    refine RW.new rfl rfl (eff_allocK (k := 8) (id := 5) rfl rfl tz38 rfl rfl) ?_
    refine RW.store rfl rfl (eff_storeW (v := .t _) (els := [_]) (els' := [_]) rfl rfl ti38 rfl rfl rfl rfl rfl rfl rfl rfl rfl) ?_
    refine RW.nil ?_
    refine awp_rd [(some 22, []), (some 23, []), (some 24, []), (some 25, []), (some 26, [26]), (some 27, [27]), (some 28, []), (none, [3])] [[], [0], [], [2], [2, 3], [0, 1, 2, 3, 4], [0, 1, 2, 3, 4, 5], [0, 1, 2, 3, 4, 5, 6]] tm rfl rfl rfl rfl ?_
    refine RD.op rfl rfl rfl (eff_fieldAddr rfl rfl tf29_1 (by decide) rfl rfl rfl (Nat.le_of_ble_eq_true rfl)) ?_
    refine RD.op rfl rfl rfl (eff_load (y := .own _ _ _ _) rfl rfl ti26 rfl (.one rfl rfl rfl rfl)) ?_
    refine RD.op rfl rfl rfl (eff_load rfl rfl ti38 rfl (.whole rfl rfl rfl rfl rfl rfl)) ?_
    refine RD.op rfl rfl rfl (eff_callT (clone39_ret _ (hS.2.2.2 _ (List.getElem_mem _))) co39 rfl rfl rfl rfl) ?_
    refine RD.new rfl rfl rfl (eff_buildSliceL (id := 26) (els := [.t (.agg [_, _, _, _, _, _, _, _])]) rfl rfl te26 tz38 rfl (by decide) (by decide) rfl rfl rfl rfl) ?_
    refine RD.new rfl rfl rfl (eff_append (id := 27) (ys := [_]) rfl rfl ta26 rfl rfl rfl (by rw [he]; simp; omega) rfl rfl (srcOwn rfl rfl rfl rfl rfl rfl) (by simp) (by simp; omega) (by simp; omega)) ?_
    refine RD.op rfl rfl rfl (eff_fieldAddr rfl rfl tf29_1 (by decide) rfl rfl rfl (Nat.le_of_ble_eq_true rfl)) ?_
    refine RD.store rfl rfl rfl (eff_storeA (v := .own _ _ _ _) (ys := [_, _, _, _]) (els := [_]) (els' := [_]) rfl rfl ti26 rfl rfl rfl rfl rfl rfl rfl (Nat.le_of_ble_eq_true rfl) rfl rfl rfl) ?_
    refine RD.nil ?_
    refine awp_rw rfl ?_
    refine RW.op rfl rfl (eff_iop rfl rfl rfl rfl (iadd (by omega))) ?_
    refine RW.op rfl rfl (eff_move (v := .t _) rfl rfl rfl) ?_
    refine RW.nil ?_
    refine ⟨_, ?_, _, weak_keep (n := 31) (fr' := [(1, .ptr 1 0 0 0), (2, .ptr 2 0 0 0), (3, .ptr 3 0 0 0), (16, .t (.sl (S.bundles.map encB) false)), (17, .t (encI S.bundles.length)), (18, .t (encI ((i + 1) : Nat)))]) (st' := [(1, some ⟨4, 29, 0, [.t (encS S)]⟩), (2, some ⟨4, 29, 0, [.t z29]⟩), (3, some ⟨4, 29, 0, [.agg [.t (encI S.quota), .own 27 (i + 1) 0 (i + 1), .own 1005 1 0 S.passed.length, .own 2005 1 0 S.seen.length]]⟩), (27, some ⟨8, 38, (i + 1), _⟩), (1005, some ⟨1, 3, 1, (S.passed.map encI).map .t⟩), (2005, some ⟨1, 3, 1, (S.seen.map encI).map .t⟩)]) ⟨rfl, rfl, rfl, rfl, rfl, rfl, rfl, rfl, rfl, rfl, rfl, rfl, trivial⟩ ⟨rfl, okE_one rfl, rfl, okE_one rfl, rfl, okE_one rfl, rfl, (by first | exact okE_nil | (rw [he]; intro x hx; simp only [List.mem_append, List.mem_map, List.mem_singleton] at hx; rcases hx with ⟨y, _, rfl⟩ | rfl <;> rfl)), rfl, okE_t, rfl, okE_t, trivial⟩, i + 1, _, (by omega), (by rw [he, take_succ_get (by omega), List.map_append, List.map_append]; rfl), rfl, rfl⟩
    omega
  · try simp only [decide_eq_true_eq, decide_eq_false_iff_not, beq_iff_eq, bne_iff_ne, bne_eq_false_iff_eq, beq_eq_false_iff_ne, Bool.not_eq_true, Bool.not_eq_false, Bool.not_eq_true', Bool.not_eq_false', ne_eq] at h1
    refine awp_exit ?_
    refine awp_seq ?_
    refine awp_rw rfl ?_
    refine RW.op rfl rfl (eff_load rfl rfl ti29 rfl (.whole rfl rfl rfl rfl rfl rfl)) ?_
    refine RW.store rfl rfl (eff_storeW (v := .agg _) (els := [_]) (els' := [_]) rfl rfl ti29 rfl rfl rfl rfl rfl rfl rfl rfl rfl) ?_
    refine RW.nil ?_
    refine awp_ret ?_
    have hi2 : i = S.bundles.length := by omega
    subst hi2
    rw [List.take_length] at he
    subst he
    exact ⟨Or.inr rfl, [_], [.agg [.t (encI S.quota), .own 27 S.bundles.length 0 S.bundles.length, .own 1005 1 0 S.passed.length, .own 2005 1 0 S.seen.length]], ⟨.cell rfl ti29 (.whole rfl rfl rfl rfl rfl rfl), trivial⟩, rfl, weak_keep ⟨rfl, rfl, trivial⟩ ⟨rfl, okE_t, rfl, okE_t, rfl, okE_t, trivial⟩, rfl⟩

end Go.Tv.C27

end
