/- Part of the proof that the laws of this seat return true for every input. No condition. -/
import Derived.Orders
import Derived.Below
import Derived.Tactics
import Derived.Laws.Append
set_option linter.unnecessarySimpa false
set_option linter.unusedVariables false
set_option linter.unusedSimpArgs false
section
namespace Go.Tv

/-- The entries of a map, in the order in which their keys came. -/
def entsFrom (n : Nat) : List (Value × Value) → List MapEntry
  | [] => []
  | k :: l => { key := k.1, val := k.2, born := n } :: entsFrom (n + 1) l
def mapM (L : List (Value × Value)) : Obj := .map (entsFrom 0 L).toArray L.length

inductive Tr where
  | bool (b : Bool)
  | int (k : IntKind) (n : Int)
  | str (s : ByteArray)
  | nilp
  | nilf
  | ptr (cs : List Tr)
  | sl (xs : List Tr) (full : Bool)
  | agg (cs : List Tr)
  | tup (vs : List Tr)
  | fn (f : FuncId) (cs : List Tr)
  | yld (l : Nat)
  | mp (b : Nat)
  | mpn
  | adr (b o : Nat)
  | mpd (L : List (Value × Value))
  | mpx (b : Nat) (L : List (Value × Value))
  deriving Inhabited

def Tr.cells : Tr → List Tr
  | .agg cs => cs
  | x => [x]

def Tr.one : Tr → Bool
  | .agg _ => false
  | .tup _ => false
  | _ => true

def Tr.noTup : Tr → Bool
  | .tup _ => false
  | _ => true

inductive V (w : World) (F : Nat → Prop) : Tr → Value → Prop
  | bool (b : Bool) : V w F (.bool b) (.bool b)
  | int (k : IntKind) (n : Int) : V w F (.int k n) (.int k n)
  | str (s : ByteArray) : V w F (.str s) (.string s)
  | nilp : V w F .nilp (.pointer none)
  | nilf : V w F .nilf .nilFunc
  | ptr (cs : List Tr) (b o : Nat) (vs : Nat → Value) (hb : b < w.heap.size) (hF : ¬ F b)
      (h1 : ∀ (j : Nat) (c : Tr), cs[j]? = some c → c.one = true)
      (hc : ∀ (j : Nat) (c : Tr), cs[j]? = some c → w.cell? ⟨b, o + j, none⟩ = some (vs j))
      (hv : ∀ (j : Nat) (c : Tr), cs[j]? = some c → V w F c (vs j)) : V w F (.ptr cs) (.pointer (some ⟨b, o, none⟩))
  | nils (f : Bool) : V w F (.sl [] f) (.slice none 0 0)
  | nilsE (f : Bool) (a : Addr) : V w F (.sl [] f) (.slice (some a) 0 0)
  | sl (xs : List Tr) (f : Bool) (k b o cap : Nat) (vs : Nat → Nat → Value) (hb : b < w.heap.size) (hF : ¬ F b)
      (hf : f = true → cap = xs.length) (hcap : xs.length ≤ cap)
      (hk : ∀ (i : Nat) (x : Tr), xs[i]? = some x → x.noTup = true ∧ x.cells.length = k)
      (h1 : ∀ (i : Nat) (x : Tr) (j : Nat) (c : Tr), xs[i]? = some x → x.cells[j]? = some c → c.one = true)
      (hc : ∀ (i : Nat) (x : Tr) (j : Nat) (c : Tr), xs[i]? = some x → x.cells[j]? = some c → w.cell? ⟨b, o + i * k + j, none⟩ = some (vs i j))
      (hv : ∀ (i : Nat) (x : Tr) (j : Nat) (c : Tr), xs[i]? = some x → x.cells[j]? = some c → V w F c (vs i j)) : V w F (.sl xs f) (.slice (some ⟨b, o, none⟩) xs.length cap)
  | agg (cs : List Tr) (vs : List Value) (hl : vs.length = cs.length)
      (h1 : ∀ (j : Nat) (c : Tr), cs[j]? = some c → c.one = true)
      (hv : ∀ (j : Nat) (c : Tr) (v : Value), cs[j]? = some c → vs[j]? = some v → V w F c v) : V w F (.agg cs) (.agg vs.toArray)
  | tup (cs : List Tr) (vs : List Value) (hl : vs.length = cs.length)
      (hv : ∀ (j : Nat) (c : Tr) (v : Value), cs[j]? = some c → vs[j]? = some v → V w F c v) : V w F (.tup cs) (.tuple vs.toArray)
  | fn (f : FuncId) (cs : List Tr) (vs : List Value) (hl : vs.length = cs.length)
      (hv : ∀ (j : Nat) (c : Tr) (v : Value), cs[j]? = some c → vs[j]? = some v → V w F c v) : V w F (.fn f cs) (.func (.func f) #[] vs.toArray)
  | yld (l : Nat) : V w F (.yld l) (.func (.yield l) #[] #[])
  | mp (b : Nat) : V w F (.mp b) (.map (some b))
  | mpn : V w F .mpn (.map none)
  | adr (b o : Nat) : V w F (.adr b o) (.pointer (some ⟨b, o, none⟩))
  | mpd (L L' : List (Value × Value)) (b : Nat) (hb : b < w.heap.size) (hF : ¬ F b) (hp : L'.Perm L) (hm : w.heap[b]? = some (mapM L')) : V w F (.mpd L) (.map (some b))
  | mpx (b : Nat) (L : List (Value × Value)) (hb : b < w.heap.size) (hF : ¬ F b) (hm : w.heap[b]? = some (mapM L)) : V w F (.mpx b L) (.map (some b))

/-- The worlds' step under which trees that avoid F still read the same and avoid F'. -/
theorem V.mono {w w' : World} {F F' : Nat → Prop} (hs : w.heap.size ≤ w'.heap.size)
    (hk : ∀ b, b < w.heap.size → ¬ F b → ¬ F' b ∧ w'.heap[b]? = w.heap[b]?) {x : Tr} {v : Value} (h : V w F x v) : V w' F' x v := by
  have hcell : ∀ {b : Nat} (o : Nat), b < w.heap.size → ¬ F b → w'.cell? ⟨b, o, none⟩ = w.cell? ⟨b, o, none⟩ := by
    intro b o hb hF
    unfold World.cell?
    simp only [(hk b hb hF).2]
  induction h with
  | bool b => exact .bool b
  | int k n => exact .int k n
  | str s => exact .str s
  | nilp => exact .nilp
  | nilf => exact .nilf
  | nils f => exact .nils f
  | nilsE f a => exact .nilsE f a
  | ptr cs b o vs hb hF h1 hc hv ih =>
    exact .ptr cs b o vs (Nat.lt_of_lt_of_le hb hs) (hk b hb hF).1 h1 (fun j c h => (hcell _ hb hF).trans (hc j c h)) ih
  | sl xs f k b o cap vs hb hF hf hcap hkk h1 hc hv ih =>
    exact .sl xs f k b o cap vs (Nat.lt_of_lt_of_le hb hs) (hk b hb hF).1 hf hcap hkk h1 (fun i x j c hx hx' => (hcell _ hb hF).trans (hc i x j c hx hx')) ih
  | agg cs vs hl h1 hv ih => exact .agg cs vs hl h1 ih
  | tup cs vs hl hv ih => exact .tup cs vs hl ih
  | fn f cs vs hl hv ih => exact .fn f cs vs hl ih
  | yld l => exact .yld l
  | mp b => exact .mp b
  | mpn => exact .mpn
  | adr b o => exact .adr b o
  | mpd L L' b hb hF hp hm => exact .mpd L L' b (Nat.lt_of_lt_of_le hb hs) (hk b hb hF).1 hp ((hk b hb hF).2.trans hm)
  | mpx b L hb hF hm => exact .mpx b L (Nat.lt_of_lt_of_le hb hs) (hk b hb hF).1 ((hk b hb hF).2.trans hm)

theorem V.one {w : World} {F : Nat → Prop} {x : Tr} {v : Value} (h : V w F x v) (h1 : x.one = true) : v.oneCell' = true := by
  cases h <;> first | rfl | simp [Tr.one] at h1

/-- The cells of a value that represents a tree represent the tree's cells. -/
theorem V.cells {w : World} {F : Nat → Prop} {x : Tr} {v : Value} (h : V w F x v) (hn : x.noTup = true) :
    v.cells.size = x.cells.length ∧ (∀ (j : Nat) c, x.cells[j]? = some c → c.one = true) ∧
    ∀ (j : Nat) c u, x.cells[j]? = some c → v.cells[j]? = some u → V w F c u := by
  have key : ∀ (y : Tr) (u : Value), y.cells = [y] → u.cells = #[u] → y.one = true → V w F y u →
      u.cells.size = y.cells.length ∧ (∀ (j : Nat) c, y.cells[j]? = some c → c.one = true) ∧
      ∀ (j : Nat) c z, y.cells[j]? = some c → u.cells[j]? = some z → V w F c z := by
    intro y u h1 h2 h3 hV
    rw [h1, h2]
    refine ⟨rfl, fun j c hc => ?_, fun j c z hc hz => ?_⟩
    · cases j with
      | zero => simp at hc; subst hc; exact h3
      | succ j => simp at hc
    · cases j with
      | zero => simp at hc hz; subst hc; subst hz; exact hV
      | succ j => simp at hc
  cases h with
  | agg cs vs hl h1 hv => exact ⟨by simp [Value.cells, Tr.cells, hl], h1, fun j c u hc hu => hv j c u hc (by simpa [Value.cells] using hu)⟩
  | tup cs vs hl hv => simp [Tr.noTup] at hn
  | bool b => exact key _ _ rfl rfl rfl (.bool b)
  | int k n => exact key _ _ rfl rfl rfl (.int k n)
  | str s => exact key _ _ rfl rfl rfl (.str s)
  | nilp => exact key _ _ rfl rfl rfl .nilp
  | nilf => exact key _ _ rfl rfl rfl .nilf
  | nils f => exact key _ _ rfl rfl rfl (.nils f)
  | nilsE f a => exact key _ _ rfl rfl rfl (.nilsE f a)
  | ptr cs b o vs hb hF h1 hc hv => exact key _ _ rfl rfl rfl (.ptr cs b o vs hb hF h1 hc hv)
  | sl xs f k b o cap vs hb hF hf hcap hkk h1 hc hv => exact key _ _ rfl rfl rfl (.sl xs f k b o cap vs hb hF hf hcap hkk h1 hc hv)
  | fn f cs vs hl hv => exact key _ _ rfl rfl rfl (.fn f cs vs hl hv)
  | yld l => exact key _ _ rfl rfl rfl (.yld l)
  | mp b => exact key _ _ rfl rfl rfl (.mp b)
  | mpn => exact key _ _ rfl rfl rfl .mpn
  | adr b o => exact key _ _ rfl rfl rfl (.adr b o)
  | mpd L L' b hb hF hp hm => exact key _ _ rfl rfl rfl (.mpd L L' b hb hF hp hm)
  | mpx b L hb hF hm => exact key _ _ rfl rfl rfl (.mpx b L hb hF hm)

/-! ### Abstract values -/

inductive AV where
  | t (x : Tr)
  | own (id g off len : Nat)
  | ptr (id g i j : Nat)
  | agg (cs : List AV)
  | tup (vs : List AV)
  | fn (f : FuncId) (cs : List AV)
  | junk
  deriving Inhabited

def AV.one : AV → Bool
  | .t x => x.one
  | .own .. => true
  | .ptr .. => true
  | .fn .. => true
  | _ => false

def AV.noTup : AV → Bool
  | .t x => x.noTup
  | .tup _ => false
  | .junk => false
  | _ => true

def AV.cells : AV → List AV
  | .t x => x.cells.map .t
  | .agg cs => cs
  | x => [x]

structure Ob where
  k : Nat
  ty : TypeId
  gen : Nat
  els : List AV
  deriving Inhabited

abbrev Sto := List (Nat × Option Ob)

def sget : Sto → Nat → Option Ob
  | [], _ => none
  | x :: l, n => cond (Nat.beq x.1 n) x.2 (sget l n)

def sput (σ : Sto) (n : Nat) (o : Option Ob) : Sto := (n, o) :: σ

theorem sget_sput_same (σ : Sto) (n : Nat) (o : Option Ob) : sget (sput σ n o) n = o := by
  simp [sget, sput]

theorem sget_sput_ne (σ : Sto) (n m : Nat) (o : Option Ob) (h : m ≠ n) : sget (sput σ n o) m = sget σ m := by
  have : Nat.beq n m = false := by
    rw [Bool.eq_false_iff]; intro e; exact h (Nat.eq_of_beq_eq_true e).symm
  simp [sget, sput, this]

theorem sget_sput (σ : Sto) (n m : Nat) (o : Option Ob) : sget (sput σ n o) m = if m = n then o else sget σ m := by
  by_cases h : m = n
  · subst h; rw [if_pos rfl]; exact sget_sput_same _ _ _
  · rw [if_neg h]; exact sget_sput_ne _ _ _ _ h

abbrev Fra := List (Nat × AV)

def fget : Fra → Nat → AV
  | [], _ => .junk
  | x :: l, n => cond (Nat.beq x.1 n) x.2 (fget l n)

def fput (fr : Fra) (n : Nat) (v : AV) : Fra := (n, v) :: fr

theorem fget_fput_same (σ : Fra) (n : Nat) (o : AV) : fget (fput σ n o) n = o := by
  simp [fget, fput]

theorem fget_fput_ne (σ : Fra) (n m : Nat) (o : AV) (h : m ≠ n) : fget (fput σ n o) m = fget σ m := by
  have : Nat.beq n m = false := by
    rw [Bool.eq_false_iff]; intro e; exact h (Nat.eq_of_beq_eq_true e).symm
  simp [fget, fput, this]

theorem fget_fput (σ : Fra) (n m : Nat) (o : AV) : fget (fput σ n o) m = if m = n then o else fget σ m := by
  by_cases h : m = n
  · subst h; rw [if_pos rfl]; exact fget_fput_same _ _ _
  · rw [if_neg h]; exact fget_fput_ne _ _ _ _ h

structure St where
  n : Nat
  fr : Fra
  st : Sto
  deriving Inhabited

/-- A block that one of the store's objects owns. -/
def Owned (β : Nat → Option Nat) (σ : Sto) (b : Nat) : Prop := ∃ id ob, sget σ id = some ob ∧ β id = some b

def G (F : Nat → Prop) (β : Nat → Option Nat) (σ : Sto) : Nat → Prop := fun b => F b ∨ Owned β σ b

/-- An abstract value and a value: H: the blocks that trees avoid. -/
inductive VA (w : World) (H : Nat → Prop) (β : Nat → Option Nat) (σ : Sto) : AV → Value → Prop
  | t {x : Tr} {v : Value} (h : V w H x v) : VA w H β σ (.t x) v
  | own {id g off len b cap : Nat} {ob : Ob} {c : Array Value} (hs : sget σ id = some ob) (hg : ob.gen = g) (hb : β id = some b)
      (hl : off + len ≤ ob.els.length) (hcap : ob.els.length ≤ off + cap) (hh : w.heap[b]? = some (.cells c ob.ty (0, 0))) (hc : (off + cap) * ob.k ≤ c.size) :
      VA w H β σ (.own id g off len) (.slice (some ⟨b, off * ob.k, none⟩) len cap)
  | ownNil {id g : Nat} {ob : Ob} (hs : sget σ id = some ob) (hg : ob.gen = g) (hb : β id = none) (he : ob.els = []) :
      VA w H β σ (.own id g 0 0) (.slice none 0 0)
  | ownZ {id g off b o : Nat} {ob : Ob} (hs : sget σ id = some ob) (hg : ob.gen = g) (hb : β id = some b) (hl : off = ob.els.length) (hlt : b < w.heap.size) :
      VA w H β σ (.own id g off 0) (.slice (some ⟨b, o, none⟩) 0 0)
  | ownE {id g : Nat} {a : Addr} {ob : Ob} (hs : sget σ id = some ob) (hg : ob.gen = g) (hb : β id = none) (he : ob.els = []) :
      VA w H β σ (.own id g 0 0) (.slice (some a) 0 0)
  | stale {id g off len : Nat} {ob : Ob} {v : Value} (hs : sget σ id = some ob) (hg : g < ob.gen) (h1 : v.oneCell' = true) : VA w H β σ (.own id g off len) v
  | ptr {id g i j b : Nat} {ob : Ob} (hs : sget σ id = some ob) (hg : ob.gen = g) (hb : β id = some b) (hi : i < ob.els.length) (hj : j ≤ ob.k) :
      VA w H β σ (.ptr id g i j) (.pointer (some ⟨b, i * ob.k + j, none⟩))
  | stalep {id g i j : Nat} {ob : Ob} {v : Value} (hs : sget σ id = some ob) (hg : g < ob.gen) (h1 : v.oneCell' = true) : VA w H β σ (.ptr id g i j) v
  | agg {cs : List AV} {vs : List Value} (hl : vs.length = cs.length)
      (h1 : ∀ (j : Nat) (c : AV), cs[j]? = some c → c.one = true)
      (hv : ∀ (j : Nat) (c : AV) (v : Value), cs[j]? = some c → vs[j]? = some v → VA w H β σ c v) : VA w H β σ (.agg cs) (.agg vs.toArray)
  | tup {cs : List AV} {vs : List Value} (hl : vs.length = cs.length)
      (hv : ∀ (j : Nat) (c : AV) (v : Value), cs[j]? = some c → vs[j]? = some v → VA w H β σ c v) : VA w H β σ (.tup cs) (.tuple vs.toArray)
  | fn {f : FuncId} {cs : List AV} {vs : List Value} (hl : vs.length = cs.length)
      (hv : ∀ (j : Nat) (c : AV) (v : Value), cs[j]? = some c → vs[j]? = some v → VA w H β σ c v) : VA w H β σ (.fn f cs) (.func (.func f) #[] vs.toArray)
  | junk (v : Value) : VA w H β σ .junk v

/-- How an object may turn under a value that points into it: what was readable stays so, or the value is stale. -/
def Turns (w w' : World) (β β' : Nat → Option Nat) (σ σ' : Sto) : Prop :=
  ∀ id ob, sget σ id = some ob → ∃ ob', sget σ' id = some ob' ∧
    (ob.gen < ob'.gen ∨ (ob'.gen = ob.gen ∧ ob'.k = ob.k ∧ ob'.ty = ob.ty ∧ ob'.els.length = ob.els.length ∧ β' id = β id ∧
      ∀ b c, β id = some b → w.heap[b]? = some (.cells c ob.ty (0, 0)) → ∃ c', w'.heap[b]? = some (.cells c' ob.ty (0, 0)) ∧ c'.size = c.size))

theorem VA.mono {w w' : World} {H H' : Nat → Prop} {β β' : Nat → Option Nat} {σ σ' : Sto} (hs : w.heap.size ≤ w'.heap.size)
    (hk : ∀ b, b < w.heap.size → ¬ H b → ¬ H' b ∧ w'.heap[b]? = w.heap[b]?) (ht : Turns w w' β β' σ σ') {x : AV} {v : Value}
    (h : VA w H β σ x v) : VA w' H' β' σ' x v := by
  induction h with
  | t h => exact .t (h.mono hs hk)
  | @own id g off len b cap ob c hs' hg hb hl hcap hh hc =>
    obtain ⟨ob', ho, h | ⟨hg', hk', hty, hle, hbe, hcs⟩⟩ := ht _ _ hs'
    · exact .stale ho (hg ▸ h) rfl
    · obtain ⟨c', hc', hsz⟩ := hcs b c hb hh
      rw [← hk']
      exact .own ho (hg'.trans hg) (hbe.trans hb) (by rw [hle]; exact hl) (by rw [hle]; exact hcap) (by rw [hty]; exact hc') (by rw [hk', hsz]; exact hc)
  | ownNil hs' hg hb he =>
    obtain ⟨ob', ho, h | ⟨hg', hk', hty, hle, hbe, hcs⟩⟩ := ht _ _ hs'
    · exact .stale ho (hg ▸ h) rfl
    · exact .ownNil ho (hg'.trans hg) (hbe.trans hb) (List.length_eq_zero_iff.1 (by rw [hle, he]; rfl))
  | ownZ hs' hg hb hl hlt =>
    obtain ⟨ob', ho, h | ⟨hg', hk', hty, hle, hbe, hcs⟩⟩ := ht _ _ hs'
    · exact .stale ho (hg ▸ h) rfl
    · exact .ownZ ho (hg'.trans hg) (hbe.trans hb) (by rw [hle]; exact hl) (Nat.lt_of_lt_of_le hlt hs)
  | ownE hs' hg hb he =>
    obtain ⟨ob', ho, h | ⟨hg', hk', hty, hle, hbe, hcs⟩⟩ := ht _ _ hs'
    · exact .stale ho (hg ▸ h) rfl
    · exact .ownE ho (hg'.trans hg) (hbe.trans hb) (List.length_eq_zero_iff.1 (by rw [hle, he]; rfl))
  | stale hs' hg h1 =>
    obtain ⟨ob', ho, h | ⟨hg', hk', hty, hle, hbe, hcs⟩⟩ := ht _ _ hs'
    · exact .stale ho (Nat.lt_trans hg h) h1
    · exact .stale ho (hg'.symm ▸ hg) h1
  | ptr hs' hg hb hi hj =>
    obtain ⟨ob', ho, h | ⟨hg', hk', hty, hle, hbe, hcs⟩⟩ := ht _ _ hs'
    · exact .stalep ho (hg ▸ h) rfl
    · rw [← hk']
      exact .ptr ho (hg'.trans hg) (hbe.trans hb) (by rw [hle]; exact hi) (by rw [hk']; exact hj)
  | stalep hs' hg h1 =>
    obtain ⟨ob', ho, h | ⟨hg', hk', hty, hle, hbe, hcs⟩⟩ := ht _ _ hs'
    · exact .stalep ho (Nat.lt_trans hg h) h1
    · exact .stalep ho (hg'.symm ▸ hg) h1
  | agg hl h1 hv ih => exact .agg hl h1 ih
  | tup hl hv ih => exact .tup hl ih
  | fn hl hv ih => exact .fn hl ih
  | junk v => exact .junk v

theorem VA.one {w : World} {H : Nat → Prop} {β : Nat → Option Nat} {σ : Sto} {x : AV} {v : Value} (h : VA w H β σ x v) (h1 : x.one = true) : v.oneCell' = true := by
  cases h with
  | t h => exact h.one h1
  | own => rfl
  | ownNil => rfl
  | ownZ => rfl
  | ownE => rfl
  | stale _ _ h => exact h
  | ptr => rfl
  | stalep _ _ h => exact h
  | agg => simp [AV.one] at h1
  | tup => simp [AV.one] at h1
  | fn => rfl
  | junk => simp [AV.one] at h1

end Go.Tv

end
section
namespace Go.Tv

def ofConst : Value → AV
  | .bool b => .t (.bool b)
  | .int k n => .t (.int k n)
  | .string s => .t (.str s)
  | .pointer none => .t .nilp
  | .slice none 0 0 => .t (.sl [] true)
  | .nilFunc => .t .nilf
  | _ => .junk

theorem ofConst_va (w : World) (H : Nat → Prop) (β : Nat → Option Nat) (σ : Sto) (v : Value) : VA w H β σ (ofConst v) v := by
  unfold ofConst
  split
  · exact .t (.bool _)
  · exact .t (.int _ _)
  · exact .t (.str _)
  · exact .t .nilp
  · exact .t (.nils _)
  · exact .t .nilf
  · exact .junk _

/-- The value of a slot; behind the slots of the activation stand the addresses of the package-level variables. -/
def vAt (a : Act) (i : Nat) : Value := if i < a.tmps.size then a.tmps.getD i undef else .pointer (some ⟨i - a.tmps.size, 0, none⟩)
theorem vAt_lt {a : Act} {i : Nat} (h : i < a.tmps.size) : vAt a i = a.tmps.getD i undef := if_pos h
theorem vAt_glob {a : Act} {n : Nat} (h : a.tmps.size = n) (g : Nat) : vAt a (n + g) = .pointer (some ⟨g, 0, none⟩) := by
  unfold vAt; rw [if_neg (by omega), h, Nat.add_sub_cancel_left]

def St.ev (s : St) : Operand → AV
  | .tmp t => cond (Nat.blt t s.n) (fget s.fr t) .junk
  | .const v => ofConst v
  | .global g => fget s.fr (s.n + g)
  | .func f => .t (.fn f [])

/-- An object and the block that holds it. -/
def ObOK (w : World) (H : Nat → Prop) (β : Nat → Option Nat) (σ : Sto) (id : Nat) (ob : Ob) : Prop :=
  (β id = none ∧ ob.els = []) ∨
  ∃ b c, β id = some b ∧ w.heap[b]? = some (.cells c ob.ty (0, 0)) ∧ ob.els.length * ob.k ≤ c.size ∧
    (∀ (i : Nat) x, ob.els[i]? = some x → x.noTup = true ∧ x.cells.length = ob.k) ∧
    ∀ (i : Nat) x (j : Nat) y, ob.els[i]? = some x → x.cells[j]? = some y → y.one = true ∧ ∃ v, c[i * ob.k + j]? = some v ∧ VA w H β σ y v

structure Rel (F : Nat → Prop) (β : Nat → Option Nat) (s : St) (a : Act) (w : World) : Prop where
  defers : a.defers = []
  size : a.tmps.size = s.n
  fr : ∀ i, VA w (G F β s.st) β s.st (fget s.fr i) (vAt a i)
  ob : ∀ id ob, sget s.st id = some ob → ObOK w (G F β s.st) β s.st id ob
  inj : ∀ i j oi oj b, sget s.st i = some oi → sget s.st j = some oj → β i = some b → β j = some b → i = j
  notF : ∀ i oi b, sget s.st i = some oi → β i = some b → ¬ F b
  ltF : ∀ b, F b → b < w.heap.size

theorem Rel.ev {F : Nat → Prop} {β : Nat → Option Nat} {s : St} {a : Act} {w : World} (h : Rel F β s a w) (x : Operand) :
    VA w (G F β s.st) β s.st (s.ev x) (a.eval x) := by
  cases x with
  | tmp t =>
    show VA w _ _ _ (cond (Nat.blt t s.n) (fget s.fr t) .junk) _
    cases ht : Nat.blt t s.n with
    | false => exact .junk _
    | true =>
      have hlt : t < a.tmps.size := by rw [h.size]; exact Nat.le_of_ble_eq_true ht
      have := h.fr t
      rw [vAt_lt hlt] at this
      exact this
  | const v => exact ofConst_va _ _ _ _ v
  | global g =>
    have := h.fr (s.n + g)
    rw [vAt_glob h.size] at this
    exact this
  | func f => exact .t (.fn f [] [] rfl (fun j c v hc => by simp at hc))

/-- The same tape, read on from here or further on. -/
def TapeLe (w w' : World) : Prop := w'.tape = w.tape ∧ w.drawn ≤ w'.drawn
theorem TapeLe.refl (w : World) : TapeLe w w := ⟨rfl, Nat.le_refl _⟩
theorem TapeLe.trans {a b c : World} (k : TapeLe b c) (h : TapeLe a b) : TapeLe a c := ⟨k.1.trans h.1, Nat.le_trans h.2 k.2⟩

/-- Below, and what was drawn stays drawn. -/
structure BelowD (B : Nat) (w w' : World) : Prop extends RowKit.Below B w w' where
  drawn : w.drawn ≤ w'.drawn
theorem BelowD.le {B : Nat} {w w' : World} (h : BelowD B w w') : TapeLe w w' := ⟨h.tape, h.drawn⟩

/-- What a piece of a run does to memory: what nobody owned stands; what is owned afterwards is new or was owned. -/
structure Evo (σ : Sto) (β : Nat → Option Nat) (w : World) (σ' : Sto) (β' : Nat → Option Nat) (w' : World) : Prop where
  os : w'.os = w.os
  tape : TapeLe w w'
  output : w'.output = w.output
  size : w.heap.size ≤ w'.heap.size
  keep : ∀ b, b < w.heap.size → ¬ Owned β σ b → w'.heap[b]? = w.heap[b]?
  own : ∀ b, Owned β' σ' b → w.heap.size ≤ b ∨ Owned β σ b
  shp : ∀ (b : Nat) (c : Array Value) (ty : TypeId), w.heap[b]? = some (.cells c ty (0, 0)) → ∃ c', w'.heap[b]? = some (.cells c' ty (0, 0)) ∧ c'.size = c.size

theorem Evo.refl (σ : Sto) (β : Nat → Option Nat) (w : World) : Evo σ β w σ β w :=
  ⟨rfl, ⟨rfl, by simp⟩, rfl, Nat.le_refl _, fun _ _ _ => rfl, fun _ h => .inr h, fun _ c _ h => ⟨c, h, rfl⟩⟩

theorem Evo.trans {σ₁ σ₂ σ₃ : Sto} {β₁ β₂ β₃ : Nat → Option Nat} {w₁ w₂ w₃ : World} (h : Evo σ₁ β₁ w₁ σ₂ β₂ w₂) (k : Evo σ₂ β₂ w₂ σ₃ β₃ w₃) : Evo σ₁ β₁ w₁ σ₃ β₃ w₃ where
  os := k.os.trans h.os
  tape := k.tape.trans h.tape
  output := k.output.trans h.output
  size := Nat.le_trans h.size k.size
  keep := fun b hb hn => (k.keep b (Nat.lt_of_lt_of_le hb h.size) (fun ho => (h.own b ho).elim (fun hh => by omega) hn)).trans (h.keep b hb hn)
  own := fun b hb => (k.own b hb).elim (fun hh => .inl (Nat.le_trans h.size hh)) (h.own b)
  shp := fun b c ty hc => by
    obtain ⟨c1, h1, e1⟩ := h.shp b c ty hc
    obtain ⟨c2, h2, e2⟩ := k.shp b c1 ty h1
    exact ⟨c2, h2, e2.trans e1⟩

/-- A draw is nothing to the relation. -/
theorem V.drew {w : World} {H : Nat → Prop} {x : Tr} {v : Value} (h : V w H x v) : V w.drew H x v :=
  V.mono (w := w) (w' := w.drew) (Nat.le_refl w.heap.size) (fun _ _ hn => ⟨hn, rfl⟩) h

theorem VA.drew {w : World} {H : Nat → Prop} {β : Nat → Option Nat} {σ : Sto} {x : AV} {v : Value} (h : VA w H β σ x v) : VA w.drew H β σ x v :=
  VA.mono (w := w) (w' := w.drew) (Nat.le_refl w.heap.size) (fun _ _ hn => ⟨hn, rfl⟩) (fun _ ob ho => ⟨ob, ho, .inr ⟨rfl, rfl, rfl, rfl, rfl, fun _ c _ hc => ⟨c, hc, rfl⟩⟩⟩) h

theorem Turns.refl (w : World) (β : Nat → Option Nat) (σ : Sto) : Turns w w β β σ σ :=
  fun _ ob ho => ⟨ob, ho, .inr ⟨rfl, rfl, rfl, rfl, rfl, fun _ c _ hc => ⟨c, hc, rfl⟩⟩⟩

theorem Rel.drew {F : Nat → Prop} {β : Nat → Option Nat} {s : St} {a : Act} {w : World} (h : Rel F β s a w) : Rel F β s a w.drew where
  defers := h.defers
  size := h.size
  fr := fun i => (h.fr i).drew
  ob := fun id ob ho => by
    rcases h.ob id ob ho with h0 | ⟨b, c, h1, h2, h3, h4, h5⟩
    · exact .inl h0
    · exact .inr ⟨b, c, h1, h2, h3, h4, fun i x j y hx hy => ⟨(h5 i x j y hx hy).1, by
        obtain ⟨v, hv, hva⟩ := (h5 i x j y hx hy).2
        exact ⟨v, hv, hva.drew⟩⟩⟩
  inj := h.inj
  notF := h.notF
  ltF := h.ltF

theorem Evo.drew (σ : Sto) (β : Nat → Option Nat) (w : World) : Evo σ β w σ β w.drew :=
  ⟨rfl, ⟨rfl, by simp⟩, rfl, Nat.le_refl _, fun _ _ _ => rfl, fun _ h => .inr h, fun _ c _ h => ⟨c, h, rfl⟩⟩

/-! ### Less known -/

structure Le (D s : St) : Prop where
  n : s.n = D.n
  fr : ∀ i, fget D.fr i = .junk ∨ fget s.fr i = fget D.fr i
  st : ∀ id ob, sget D.st id = some ob → sget s.st id = some ob

theorem Le.refl (s : St) : Le s s := ⟨rfl, fun _ => .inr rfl, fun _ _ h => h⟩

theorem Le.ev {D s : St} (h : Le D s) {x : Operand} {v : AV} (hx : D.ev x = v) (hv : v ≠ .junk) : s.ev x = v := by
  cases x with
  | tmp t =>
    have hn := h.n
    revert hx
    show cond (Nat.blt t D.n) (fget D.fr t) .junk = v → cond (Nat.blt t s.n) (fget s.fr t) .junk = v
    rw [hn]
    cases Nat.blt t D.n with
    | false => exact fun h => h
    | true =>
      intro hx
      rcases h.fr t with h' | h'
      · exact absurd (hx.symm.trans h') hv
      · exact h'.trans hx
  | const _ => exact hx
  | global g =>
    have hn := h.n
    revert hx
    show fget D.fr (D.n + g) = v → fget s.fr (s.n + g) = v
    rw [hn]
    intro hx
    rcases h.fr (D.n + g) with h' | h'
    · exact absurd (hx.symm.trans h') hv
    · exact h'.trans hx
  | func _ => exact hx

/-! ### Effects -/

structure Ef where
  val : AV
  ups : List (Nat × Ob)

def upAll (σ : Sto) : List (Nat × Ob) → Sto
  | [] => σ
  | p :: l => upAll (sput σ p.1 (some p.2)) l

def fputO (fr : Fra) : Option Tmp → AV → Fra
  | some d, v => fput fr d v
  | none, _ => fr

def St.app (s : St) (dst : Option Tmp) (e : Ef) : St :=
  { n := s.n, fr := fputO s.fr dst e.val, st := upAll s.st e.ups }

/-- Operation o, in every state of which at least D is known, has the effect e. -/
def Eff (P : Program) (o : Oper) (D : St) (e : Ef) : Prop :=
  ∀ s, Le D s → (∀ id ob, (id, ob) ∈ e.ups → sget D.st id = none → sget s.st id = none) → ∀ F β a w, Rel F β s a w →
    ∀ (next : Act → World → Prop) (Q : Exit → Act → World → Prop),
      (∀ β' a' w', Rel F β' (s.app o.dst e) a' w' → Evo s.st β w (s.app o.dst e).st β' w' → next a' w') → o.wp P a w next Q

/-- The frame behind a put. -/
theorem Act.put_tmps (a : Act) (d : Option Tmp) (v : Value) : (a.put d v).tmps.size = a.tmps.size ∧ (a.put d v).defers = a.defers := by
  cases d <;> simp [Act.put]

def dstOK (n : Nat) : Option Tmp → Bool
  | some d => d < n
  | none => true

theorem put_fr {w : World} {H : Nat → Prop} {β : Nat → Option Nat} {σ : Sto} {fr : Fra} {a : Act} {n : Nat} (hn : a.tmps.size = n) {d : Option Tmp} (hd : dstOK n d = true)
    {x : AV} {v : Value} (hx : VA w H β σ x v) (h : ∀ i, VA w H β σ (fget fr i) (vAt a i)) (i : Nat) :
    VA w H β σ (fget (fputO fr d x) i) (vAt (a.put d v) i) := by
  cases d with
  | none => exact h i
  | some d =>
    have hd' : d < a.tmps.size := by rw [hn]; simpa [dstOK] using hd
    have hsz : (a.put (some d) v).tmps.size = a.tmps.size := (Act.put_tmps _ _ _).1
    have hi := h i
    unfold vAt at hi ⊢
    rw [hsz]
    simp only [Act.put, fputO, fget_fput]
    by_cases e : i = d
    · subst e
      simp [hd', hx]
    · rw [if_neg e]
      have : (a.tmps.setIfInBounds d v).getD i undef = a.tmps.getD i undef := by
        simp [Array.getElem?_setIfInBounds_ne (Ne.symm e)]
      rw [this]; exact hi

/-- An operation that yields a value and leaves the world. -/
theorem Eff.pure {P : Program} {o : Oper} {D : St} {x : AV} (hd : dstOK D.n o.dst = true)
    (h : ∀ s, Le D s → ∀ F β a w, Rel F β s a w → ∃ v, (execOp a.eval o).run P w = .ok (.value v) w ∧ VA w (G F β s.st) β s.st x v) :
    Eff P o D ⟨x, []⟩ := by
  intro s hs _ F β a w hr next Q hn
  obtain ⟨v, hrun, hv⟩ := h s hs F β a w hr
  unfold Oper.wp
  rw [hrun]
  refine hn β _ w ⟨?_, ?_, ?_, hr.ob, hr.inj, hr.notF, hr.ltF⟩ (Evo.refl _ _ _)
  · rw [(Act.put_tmps _ _ _).2]; exact hr.defers
  · rw [(Act.put_tmps _ _ _).1]; exact hr.size
  · exact put_fr hr.size (by rw [hs.n]; exact hd) hv hr.fr

/-! ### Code -/

/-- Code c, from the abstract state s, comes to an exit and a state that Q admits. -/
def AWP (P : Program) (c : Code) (s : St) (Q : Exit → St → Prop) : Prop :=
  ∀ F β a w, Rel F β s a w → c.wp P (fun e a' w' => ∃ s' β', Q e s' ∧ Rel F β' s' a' w' ∧ Evo s.st β w s'.st β' w') a w

variable {P : Program} {s : St} {Q : Exit → St → Prop}

theorem AWP.mono {c : Code} {Q' : Exit → St → Prop} (h : AWP P c s Q) (hq : ∀ e s, Q e s → Q' e s) : AWP P c s Q' :=
  fun F β a w hr => wp_mono (h F β a w hr) (fun _ _ _ ⟨s', β', q, r⟩ => ⟨s', β', hq _ _ q, r⟩)

theorem awp_skip (h : Q .normal s) : AWP P .skip s Q := fun _ β _ _ hr => wp_skip ⟨s, β, h, hr, Evo.refl _ _ _⟩
theorem awp_exit {id : Nat} (h : Q (.exit id) s) : AWP P (.exit id) s Q := fun _ β _ _ hr => wp_exit ⟨s, β, h, hr, Evo.refl _ _ _⟩
theorem awp_ret (h : Q .ret s) : AWP P .ret s Q := fun _ β _ _ hr => wp_ret ⟨s, β, h, hr, Evo.refl _ _ _⟩

/-- What follows where code ends normally. -/
def thenA (next : St → Prop) (Q : Exit → St → Prop) : Exit → St → Prop
  | .normal, s => next s
  | e, s => Q e s

theorem awp_seq {x y : Code} (h : AWP P x s (thenA (fun s' => AWP P y s' Q) Q)) : AWP P (.seq x y) s Q := by
  intro F β a w hr
  refine wp_seq (wp_mono (h F β a w hr) ?_)
  rintro e a' w' ⟨s', β', q, hr', hev⟩
  cases e with
  | normal =>
    exact wp_mono (q F β' a' w' hr') (fun e a'' w'' ⟨s'', β'', q'', hr'', hev'⟩ => ⟨s'', β'', q'', hr'', hev.trans hev'⟩)
  | exit id => exact ⟨s', β', q, hr', hev⟩
  | goto l => exact ⟨s', β', q, hr', hev⟩
  | ret => exact ⟨s', β', q, hr', hev⟩
  | panic ch => exact ⟨s', β', q, hr', hev⟩
  | outgrown => exact ⟨s', β', q, hr', hev⟩

theorem awp_cond {c : Operand} {x y : Code} {t : Bool} (hc : s.ev c = .t (.bool t)) (ht : t = true → AWP P x s Q) (hf : t = false → AWP P y s Q) :
    AWP P (.cond c x y) s Q := by
  intro F β a w hr
  have h := hr.ev c
  rw [hc] at h
  have hv : a.eval c = .bool t := by
    generalize a.eval c = v at h
    cases h with
    | t h => cases h; rfl
  exact wp_cond_split hv (fun e => ht e F β a w hr) (fun e => hf e F β a w hr)

def blockA (id : Nat) (Q : Exit → St → Prop) : Exit → St → Prop
  | .exit id', s => if id' = id then Q .normal s else Q (.exit id') s
  | e, s => Q e s

theorem awp_block {id : Nat} {c : Code} (h : AWP P c s (blockA id Q)) : AWP P (.block id c) s Q := by
  intro F β a w hr
  refine wp_block (wp_mono (h F β a w hr) ?_)
  rintro e a' w' ⟨s', β', q, hr', hev⟩
  cases e with
  | normal => exact ⟨s', β', q, hr', hev⟩
  | exit id' =>
    simp only [blockA, Exit.inBlock] at q ⊢
    split
    · rename_i h; rw [if_pos h] at q; exact ⟨s', β', q, hr', hev⟩
    · rename_i h; rw [if_neg h] at q; exact ⟨s', β', q, hr', hev⟩
  | goto l => exact ⟨s', β', q, hr', hev⟩
  | ret => exact ⟨s', β', q, hr', hev⟩
  | panic ch => exact ⟨s', β', q, hr', hev⟩
  | outgrown => exact ⟨s', β', q, hr', hev⟩

/-- A loop: I n s: what holds of the state at a round's head, n bounding the rounds to come. -/
theorem awp_loop {c : Code} (I : Nat → St → Prop) (n₀ : Nat) (h₀ : I n₀ s)
    (round : ∀ n s, I n s → AWP P c s (thenA (fun s' => ∃ m, m < n ∧ I m s') Q)) : AWP P (.loop c) s Q := by
  intro F β a w hr
  intro b k cs
  have key : ∀ n s' β' a' w', I n s' → Rel F β' s' a' w' → Evo s.st β w s'.st β' w' →
      ∃ e a'' w'', (∃ s'' β'', Q e s'' ∧ Rel F β'' s'' a'' w'' ∧ Evo s.st β w s''.st β'' w'') ∧
        Arrives P (lone (b.at a' (.code c :: .inLoop c :: k)) cs w') b k cs e a'' w'' := by
    intro n
    induction n using Nat.strongRecOn with
    | _ n ih =>
      intro s' β' a' w' hI hr' hev
      obtain ⟨e, a₁, w₁, ⟨s₁, β₁, hq, hr₁, hev₁⟩, harr⟩ := round n s' hI F β' a' w' hr' b (.inLoop c :: k) cs
      cases e with
      | normal =>
        obtain ⟨m, hm, hI₁⟩ := hq
        obtain ⟨e₂, a₂, w₂, hq₂, harr₂⟩ := ih m hm s₁ β₁ a₁ w₁ hI₁ hr₁ (hev.trans hev₁)
        exact ⟨e₂, a₂, w₂, hq₂, .of_steps (Steps.trans harr (.one step_inLoop)) harr₂⟩
      | exit id => exact ⟨_, a₁, w₁, ⟨s₁, β₁, hq, hr₁, hev.trans hev₁⟩, .pass (x := .inLoop c) rfl (fun _ _ => .inl (by simp)) harr⟩
      | goto l => exact ⟨_, a₁, w₁, ⟨s₁, β₁, hq, hr₁, hev.trans hev₁⟩, .pass (x := .inLoop c) rfl (fun _ _ => .inl (by simp)) harr⟩
      | ret => exact ⟨_, a₁, w₁, ⟨s₁, β₁, hq, hr₁, hev.trans hev₁⟩, .pass (x := .inLoop c) rfl (fun _ _ => .inl (by simp)) harr⟩
      | panic ch => exact ⟨_, a₁, w₁, ⟨s₁, β₁, hq, hr₁, hev.trans hev₁⟩, .pass (x := .inLoop c) rfl (fun _ _ => .inl (by simp)) harr⟩
      | outgrown => exact ⟨_, a₁, w₁, ⟨s₁, β₁, hq, hr₁, hev.trans hev₁⟩, .pass (x := .inLoop c) rfl (fun _ _ => .inl (by simp)) harr⟩
  obtain ⟨e, a', w', hq, harr⟩ := key n₀ s β a w h₀ hr (Evo.refl _ _ _)
  exact ⟨e, a', w', hq, .of_steps (.one step_loop) harr⟩

/-- The state may be taken for a weaker one. -/
def Weak (s s' : St) : Prop :=
  ∀ F β a w, Rel F β s a w → ∃ β', Rel F β' s' a w ∧ ∀ b, Owned β' s'.st b → Owned β s.st b

theorem awp_weak {c : Code} {s' : St} (hw : Weak s s') (h : AWP P c s' Q) : AWP P c s Q := by
  intro F β a w hr
  obtain ⟨β', hr', ho⟩ := hw F β a w hr
  refine wp_mono (h F β' a w hr') ?_
  rintro e a' w' ⟨s'', β'', q, hr'', hev⟩
  exact ⟨s'', β'', q, hr'', ⟨hev.os, hev.tape, hev.output, hev.size, fun b hb hn => hev.keep b hb (fun h => hn (ho b h)), fun b hb => (hev.own b hb).imp id (ho b), hev.shp⟩⟩

/-! ### Regions in the order of the text -/

theorem wanted_none {o : Oper} (y : Nat → Option Bool) (h : o.guard = none) : Region.wanted o y = true := by
  unfold Region.wanted; rw [h]

end Go.Tv

end
section
namespace Go.Tv

/-! ### Types -/

def TypeDesc.agg : TypeDesc → Bool
  | .struct _ => true
  | .array _ _ => true
  | _ => false

/-- Size in cells, and whether a value of the type is an aggregate. -/
def tinf (P : Program) (t : TypeId) : Option (Nat × Bool) :=
  match P.info? t, P.underlying t with
  | some i, some d => some (i.size, TypeDesc.agg d)
  | _, _ => none

section
variable {P : Program} {t : TypeId} {k : Nat} {g : Bool} (w : World)

theorem run_underlying' {d : TypeDesc} (h : P.underlying t = some d) : (underlying t).run P w = .ok d w := by
  simp [underlying, h]

theorem run_typeInfo' {i : TypeInfo} (h : P.info? t = some i) : (typeInfo t).run P w = .ok i w := by
  simp [typeInfo, h]

theorem run_sizeOf' (h : tinf P t = some (k, g)) : (sizeOf t).run P w = .ok k w := by
  unfold tinf at h
  split at h
  · rename_i i d hi hd
    cases h
    simp [sizeOf, run_typeInfo' w hi]
  · cases h

theorem run_isAgg' (h : tinf P t = some (k, g)) : (isAgg t).run P w = .ok g w := by
  unfold tinf at h
  split at h
  · rename_i i d hi hd
    cases h
    simp only [isAgg, Sem.run_bind, run_underlying' w hd, Result.andThen_ok]
    cases d <;> rfl
  · cases h
end

/-! ### Rows of cells -/

theorem Addr.add_none (b o n : Nat) : (Addr.add ⟨b, o, none⟩ n) = ⟨b, o + n, none⟩ := by
  unfold Addr.add
  split
  · rename_i h; subst h; rfl
  · rfl

theorem run_load_cell {P : Program} {w : World} {a : Addr} {v : Value} (h : w.cell? a = some v) : (load a).run P w = .ok v w := by
  simp [run_load, h]

theorem run_loadCellsFrom (P : Program) (w : World) (b o : Nat) (vs : Nat → Value) : ∀ (n i : Nat) (acc : Array Value),
    (∀ j, j < n → w.cell? ⟨b, o + (i + j), none⟩ = some (vs (i + j))) →
    (loadCellsFrom ⟨b, o, none⟩ i n acc).run P w = .ok (acc ++ ((List.range n).map fun j => vs (i + j)).toArray) w
  | 0, i, acc, _ => by simp [loadCellsFrom]
  | n + 1, i, acc, h => by
    have h0 := h 0 (by omega)
    have ih := run_loadCellsFrom P w b o vs n (i + 1) (acc.push (vs i)) (fun j hj => by
      have := h (j + 1) (by omega)
      rw [show i + 1 + j = i + (j + 1) from by omega]; exact this)
    simp only [loadCellsFrom, Sem.run_bind, Addr.add_none, run_load_cell (by simpa using h0), Result.andThen_ok, ih]
    congr 1
    rw [List.range_succ_eq_map]
    apply Array.ext'
    simp [Nat.add_comm, Nat.add_left_comm]

theorem run_loadCells {P : Program} {w : World} {b o n : Nat} (vs : Nat → Value) (h : ∀ j, j < n → w.cell? ⟨b, o + j, none⟩ = some (vs j)) :
    (loadCells ⟨b, o, none⟩ n).run P w = .ok ((List.range n).map vs).toArray w := by
  have := run_loadCellsFrom P w b o vs n 0 #[] (fun j hj => by simpa using h j hj)
  simpa [loadCells] using this

theorem run_loadVar_agg {P : Program} {w : World} {t : TypeId} {b o k : Nat} (ht : tinf P t = some (k, true)) (vs : Nat → Value)
    (h : ∀ j, j < k → w.cell? ⟨b, o + j, none⟩ = some (vs j)) :
    (loadVar t ⟨b, o, none⟩).run P w = .ok (.agg ((List.range k).map vs).toArray) w := by
  simp only [loadVar, Sem.run_bind, run_isAgg' w ht, Result.andThen_ok, if_true, run_sizeOf' w ht, run_loadCells vs h, Sem.run_pure]

theorem run_loadVar_one {P : Program} {w : World} {t : TypeId} {b o k : Nat} (ht : tinf P t = some (k, false)) {v : Value}
    (h : w.cell? ⟨b, o, none⟩ = some v) : (loadVar t ⟨b, o, none⟩).run P w = .ok v w := by
  simp only [loadVar, Sem.run_bind, run_isAgg' w ht, Result.andThen_ok, Bool.false_eq_true, if_false, run_load_cell h]

/-- Cells o, o + 1, .. of a row written. -/
def writeAt (c : Array Value) : Nat → List Value → Array Value
  | _, [] => c
  | o, v :: vs => writeAt (c.setIfInBounds o v) (o + 1) vs

theorem writeAt_size : ∀ (vs : List Value) (c : Array Value) (o : Nat), (writeAt c o vs).size = c.size
  | [], _, _ => rfl
  | v :: vs, c, o => by rw [writeAt, writeAt_size vs]; simp

theorem writeAt_get : ∀ (vs : List Value) (c : Array Value) (o j : Nat), o + vs.length ≤ c.size →
    (writeAt c o vs)[j]? = if o ≤ j ∧ j < o + vs.length then vs[j - o]? else c[j]?
  | [], c, o, j, _ => by rw [writeAt, if_neg (by simp only [List.length_nil]; omega)]
  | v :: vs, c, o, j, h => by
    rw [writeAt, writeAt_get vs _ _ _ (by simp at h; simp; omega)]
    simp only [List.length_cons] at h ⊢
    by_cases h1 : o + 1 ≤ j ∧ j < o + 1 + vs.length
    · rw [if_pos h1, if_pos (by omega), show j - o = (j - (o + 1)) + 1 from by omega, List.getElem?_cons_succ]
    · rw [if_neg h1]
      by_cases h2 : j = o
      · subst h2
        rw [if_pos (by omega)]
        simp [show j < c.size from by omega]
      · rw [if_neg (by omega), Array.getElem?_setIfInBounds_ne (by omega)]

/-- The world with another object in block b. -/
def setB (w : World) (b : Nat) (o : Obj) : World := { w with heap := w.heap.setIfInBounds b o }

theorem setB_size (w : World) (b : Nat) (o : Obj) : (setB w b o).heap.size = w.heap.size := by simp [setB]

theorem setB_same {w : World} {b : Nat} (o : Obj) (h : b < w.heap.size) : (setB w b o).heap[b]? = some o := by simp [setB, h]

theorem setB_ne {w : World} {b b' : Nat} (o : Obj) (h : b' ≠ b) : (setB w b o).heap[b']? = w.heap[b']? := by
  simp [setB, Array.getElem?_setIfInBounds_ne (Ne.symm h)]

theorem lt_of_heap {w : World} {b : Nat} {o : Obj} (h : w.heap[b]? = some o) : b < w.heap.size := by
  rcases Nat.lt_or_ge b w.heap.size with h' | h'
  · exact h'
  · rw [Array.getElem?_eq_none h'] at h; cases h

theorem cell_of_heap {w : World} {b : Nat} {c : Array Value} {ty : TypeId} {fz : Nat × Nat} (h : w.heap[b]? = some (.cells c ty fz)) (o : Nat) :
    w.cell? ⟨b, o, none⟩ = c[o]? := by
  simp [World.cell?, h]

theorem setCell_eq {w : World} {b : Nat} {c : Array Value} {ty : TypeId} {fz : Nat × Nat} (h : w.heap[b]? = some (.cells c ty fz)) (o : Nat) (v : Value) :
    w.setCell ⟨b, o, none⟩ v = setB w b (.cells (c.setIfInBounds o v) ty fz) := by
  have hb := lt_of_heap h
  have hv : w.heap[b] = .cells c ty fz := by rw [Array.getElem?_eq_getElem hb] at h; exact Option.some.inj h
  unfold World.setCell setB
  congr 1
  apply Array.ext
  · simp
  · intro i h1 h2
    rw [Array.getElem_modify]
    by_cases e : b = i
    · subst e
      simp [hv]
    · rw [if_neg e, Array.getElem_setIfInBounds, if_neg e]

theorem setB_setB (w : World) (b : Nat) (o o' : Obj) : setB (setB w b o) b o' = setB w b o' := by
  unfold setB
  congr 1
  simp

theorem setB_self {w : World} {b : Nat} {o : Obj} (h : w.heap[b]? = some o) : setB w b o = w := by
  have hb := lt_of_heap h
  have hv : w.heap[b] = o := by rw [Array.getElem?_eq_getElem hb] at h; exact Option.some.inj h
  unfold setB
  have : w.heap.setIfInBounds b o = w.heap := by
    apply Array.ext
    · simp
    · intro i h1 h2
      by_cases e : b = i
      · subst e; simp [hv]
      · rw [Array.getElem_setIfInBounds, if_neg e]
  rw [this]

theorem run_storeCells (P : Program) {ty : TypeId} {b : Nat} : ∀ (vs : List Value) (w : World) (c : Array Value) (o i : Nat),
    w.heap[b]? = some (.cells c ty (0, 0)) → (∀ v, v ∈ vs → v.oneCell' = true) → o + i + vs.length ≤ c.size →
    (storeCells ⟨b, o, none⟩ vs i).run P w = .ok () (setB w b (.cells (writeAt c (o + i) vs) ty (0, 0)))
  | [], w, c, o, i, h, _, _ => by simp [storeCells, writeAt, setB_self h]
  | v :: vs, w, c, o, i, h, h1, hl => by
    have hb := lt_of_heap h
    simp only [List.length_cons] at hl
    have hcell : w.cell? ⟨b, o + i, none⟩ = some c[o + i] := by
      rw [cell_of_heap h]; exact Array.getElem?_eq_getElem (by omega)
    have hfz : w.frozen? ⟨b, o + i, none⟩ = false := by simp [World.frozen?, h]
    have hst : (store ⟨b, o + i, none⟩ v).run P w = .ok () (setB w b (.cells (c.setIfInBounds (o + i) v) ty (0, 0))) := by
      rw [run_store P w _ v .plain (h1 v (by simp)), hcell]
      simp only [hfz, Bool.false_eq_true, if_false]
      rw [setCell_eq h]
    have ih := run_storeCells P vs (setB w b (.cells (c.setIfInBounds (o + i) v) ty (0, 0))) (c.setIfInBounds (o + i) v) o (i + 1)
      (setB_same _ hb) (fun u hu => h1 u (by simp [hu])) (by simp; omega)
    simp only [storeCells, Sem.run_bind, Addr.add_none, hst, Result.andThen_ok, ih, setB_setB]
    rfl

theorem run_storeVar {P : Program} {t : TypeId} {k : Nat} {g : Bool} (ht : tinf P t = some (k, g)) {w : World} {b o : Nat} {c : Array Value} {ty : TypeId}
    (h : w.heap[b]? = some (.cells c ty (0, 0))) {v : Value} (hk : v.cells.size = k) (h1 : ∀ u, u ∈ v.cells.toList → u.oneCell' = true) (hl : o + k ≤ c.size) :
    (storeVar t ⟨b, o, none⟩ v).run P w = .ok () (setB w b (.cells (writeAt c o v.cells.toList) ty (0, 0))) := by
  have := run_storeCells P v.cells.toList w c o 0 h h1 (by simp [hk]; omega)
  simp only [Nat.add_zero] at this
  simp only [storeVar, Sem.run_bind, run_sizeOf' w ht, Result.andThen_ok, hk, ne_eq, not_true_eq_false, if_false, this]

/-! ### What an abstract value stands for, as a tree -/

inductive Res (σ : Sto) : AV → Tr → Prop
  | t (x : Tr) : Res σ (.t x) x
  | own (id g off len : Nat) (ob : Ob) (xs : List Tr) (hs : sget σ id = some ob) (hg : ob.gen = g) (hl : off + len ≤ ob.els.length) (hx : xs.length = len)
      (h : ∀ (i : Nat) (e : AV) (x : Tr), ob.els[off + i]? = some e → xs[i]? = some x → Res σ e x) : Res σ (.own id g off len) (.sl xs false)
  | ptr (id g i j : Nat) (ob : Ob) (el : AV) (cs : List Tr) (hs : sget σ id = some ob) (hg : ob.gen = g) (he : ob.els[i]? = some el) (hj : j + cs.length ≤ el.cells.length)
      (h : ∀ (n : Nat) (e : AV) (x : Tr), el.cells[j + n]? = some e → cs[n]? = some x → Res σ e x) : Res σ (.ptr id g i j) (.ptr cs)
  | agg (cs : List AV) (xs : List Tr) (hx : xs.length = cs.length)
      (h : ∀ (i : Nat) (e : AV) (x : Tr), cs[i]? = some e → xs[i]? = some x → Res σ e x) : Res σ (.agg cs) (.agg xs)
  | tup (cs : List AV) (xs : List Tr) (hx : xs.length = cs.length)
      (h : ∀ (i : Nat) (e : AV) (x : Tr), cs[i]? = some e → xs[i]? = some x → Res σ e x) : Res σ (.tup cs) (.tup xs)
  | fn (f : FuncId) (cs : List AV) (xs : List Tr) (hx : xs.length = cs.length)
      (h : ∀ (i : Nat) (e : AV) (x : Tr), cs[i]? = some e → xs[i]? = some x → Res σ e x) : Res σ (.fn f cs) (.fn f xs)

theorem Res.cells {σ : Sto} {e : AV} {x : Tr} (h : Res σ e x) (hn : e.noTup = true) :
    x.noTup = true ∧ x.cells.length = e.cells.length ∧ ∀ (j : Nat) y c, e.cells[j]? = some y → x.cells[j]? = some c → Res σ y c := by
  have key : ∀ (y : AV) (c : Tr), y.cells = [y] → c.cells = [c] → c.noTup = true → Res σ y c →
      c.noTup = true ∧ c.cells.length = y.cells.length ∧ ∀ (j : Nat) z d, y.cells[j]? = some z → c.cells[j]? = some d → Res σ z d := by
    intro y c h1 h2 h3 hR
    rw [h1, h2]
    refine ⟨h3, rfl, fun j z d hz hd => ?_⟩
    cases j with
    | zero => simp at hz hd; subst hz; subst hd; exact hR
    | succ j => simp at hz
  cases h with
  | t =>
    refine ⟨hn, by simp [AV.cells], fun j y c hy hc => ?_⟩
    simp only [AV.cells, List.getElem?_map, hc, Option.map_some, Option.some.injEq] at hy
    subst hy; exact .t c
  | own id g off len ob xs hs hg hl hx h => exact key _ _ rfl rfl rfl (.own id g off len ob xs hs hg hl hx h)
  | ptr id g i j ob el cs hs hg he hj h => exact key _ _ rfl rfl rfl (.ptr id g i j ob el cs hs hg he hj h)
  | agg cs xs hx h => exact ⟨rfl, hx, h⟩
  | tup => simp [AV.noTup] at hn
  | fn f cs xs hx h => exact key _ _ rfl rfl rfl (.fn f cs xs hx h)

theorem Res.one {σ : Sto} {e : AV} {x : Tr} (h : Res σ e x) (h1 : e.one = true) : x.one = true := by
  cases h <;> first | exact h1 | rfl | simp [AV.one] at h1

/-- A value that stands for an abstract value stands for its tree. -/
theorem Res.v' {w : World} {H F : Nat → Prop} {β : Nat → Option Nat} {σ σf : Sto} (hob : ∀ id ob, sget σ id = some ob → ObOK w H β σ id ob)
    (hsub : ∀ id ob, sget σf id = some ob → sget σ id = some ob) (hFH : ∀ b, F b → H b)
    (hnF : ∀ i oi b, sget σf i = some oi → β i = some b → ¬ F b) {e : AV} {x : Tr} (h : Res σf e x) :
    (∀ v, VA w H β σ e v → V w F x v) ∧
    ∀ (j : Nat) y d, e.cells[j]? = some y → x.cells[j]? = some d → ∀ v, VA w H β σ y v → V w F d v := by
  have hanti : ∀ {y : Tr} {v : Value}, V w H y v → V w F y v := fun hv =>
    V.mono (w := w) (w' := w) (Nat.le_refl _) (fun b _ hn => ⟨fun hF => hn (hFH b hF), rfl⟩) hv
  have single : ∀ {e : AV} {x : Tr}, e.cells = [e] → x.cells = [x] → (∀ v, VA w H β σ e v → V w F x v) →
      (∀ v, VA w H β σ e v → V w F x v) ∧
      ∀ (j : Nat) y d, e.cells[j]? = some y → x.cells[j]? = some d → ∀ v, VA w H β σ y v → V w F d v := by
    intro e x h1 h2 h
    rw [h1, h2]
    refine ⟨h, fun j y d hy hd => ?_⟩
    cases j with
    | zero => simp at hy hd; subst hy; subst hd; exact h
    | succ j => simp at hy
  induction h with
  | t x =>
    refine ⟨fun v hv => ?_, fun j y d hy hd v hv => ?_⟩
    · cases hv with
      | t h => exact hanti h
    · simp only [AV.cells, List.getElem?_map, hd, Option.map_some, Option.some.injEq] at hy
      subst hy
      cases hv with
      | t h => exact hanti h
  | own id g off len ob xs hsf hg hl hx hr ih =>
    have hs := hsub _ _ hsf
    refine single rfl rfl (fun v hv => ?_)
    cases hv with
    | @own _ _ _ _ b cap ob' c hs' hg' hb hl' hcap hh hc =>
      rw [hs] at hs'; cases hs'
      rcases hob id ob hs with ⟨h0, _⟩ | ⟨b', c', hb', hh', hsz, hk, hcell⟩
      · rw [hb] at h0; cases h0
      rw [hb] at hb'; cases hb'
      rw [hh] at hh'; cases hh'
      have hel : ∀ (i : Nat) (x : Tr), xs[i]? = some x → ∃ el, ob.els[off + i]? = some el := by
        intro i x hx'
        have : i < xs.length := by
          rcases Nat.lt_or_ge i xs.length with h | h
          · exact h
          · rw [List.getElem?_eq_none h] at hx'; cases hx'
        exact ⟨ob.els[off + i]'(by omega), List.getElem?_eq_getElem (by omega)⟩
      rw [← hx]
      have hget : ∀ (i : Nat) (x : Tr) (j : Nat) (d : Tr), xs[i]? = some x → x.cells[j]? = some d →
          d.one = true ∧ ∃ v, w.cell? ⟨b, off * ob.k + i * ob.k + j, none⟩ = some v ∧ V w F d v := by
        intro i x j d hx' hd
        obtain ⟨el, he⟩ := hel i x hx'
        have hR := hr i el x he hx'
        obtain ⟨hn, hkk⟩ := hk _ _ he
        obtain ⟨_, hlen, hRc⟩ := hR.cells hn
        have hj : j < el.cells.length := by
          rw [← hlen]
          rcases Nat.lt_or_ge j x.cells.length with h | h
          · exact h
          · rw [List.getElem?_eq_none h] at hd; cases hd
        have hy : el.cells[j]? = some el.cells[j] := List.getElem?_eq_getElem hj
        obtain ⟨h1, v, hv, hva⟩ := hcell _ _ j _ he hy
        refine ⟨(hRc j _ d hy hd).one h1, v, ?_, (ih i el x he hx').2 j _ d hy hd v hva⟩
        rw [cell_of_heap hh, ← Nat.add_mul]; exact hv
      have hval : ∀ (i : Nat) (x : Tr) (j : Nat) (d : Tr), xs[i]? = some x → x.cells[j]? = some d →
          w.cell? ⟨b, off * ob.k + i * ob.k + j, none⟩ = some ((fun i j => (w.cell? ⟨b, off * ob.k + i * ob.k + j, none⟩).getD undef) i j) := by
        intro i x j d hx' hd
        obtain ⟨_, v, hv, _⟩ := hget i x j d hx' hd
        simp [hv]
      refine V.sl xs false ob.k b (off * ob.k) cap (fun i j => (w.cell? ⟨b, off * ob.k + i * ob.k + j, none⟩).getD undef) (lt_of_heap hh) (hnF _ _ _ hsf hb) (fun h => by cases h)
        (by rw [hx]; omega) (fun i x hx' => ?_) (fun i x j d hx' hd => (hget i x j d hx' hd).1) hval (fun i x j d hx' hd => ?_)
      · obtain ⟨el, he⟩ := hel i x hx'
        obtain ⟨hn, hkk⟩ := hk _ _ he
        obtain ⟨h1, h2, _⟩ := (hr i el x he hx').cells hn
        exact ⟨h1, h2.trans hkk⟩
      · obtain ⟨_, v, hv, hV⟩ := hget i x j d hx' hd
        simp only [hv, Option.getD_some]; exact hV
    | ownNil hs' hg' hb he =>
      have : xs = [] := List.length_eq_zero_iff.1 hx
      subst this
      exact .nils false
    | @ownZ _ _ _ b o ob' hs' hg' hb hl' hlt =>
      have : xs = [] := List.length_eq_zero_iff.1 hx
      subst this
      exact V.sl [] false 0 b o 0 (fun _ _ => undef) hlt (hnF _ _ _ hsf hb) (fun h => by cases h) (Nat.le_refl _) (fun i x h => by simp at h) (fun i x j c h => by simp at h)
        (fun i x j c h => by simp at h) (fun i x j c h => by simp at h)
    | @ownE _ _ ad ob' hs' hg' hb he =>
      have : xs = [] := List.length_eq_zero_iff.1 hx
      subst this
      exact .nilsE false ad
    | stale hs' hg' => rw [hs] at hs'; cases hs'; omega
  | ptr id g i j ob el cs hsf hg he hj hr ih =>
    have hs := hsub _ _ hsf
    refine single rfl rfl (fun v hv => ?_)
    cases hv with
    | @ptr _ _ _ _ b ob' hs' hg' hb hi hjk =>
      rw [hs] at hs'; cases hs'
      rcases hob id ob hs with ⟨h0, _⟩ | ⟨b', c', hb', hh', hsz, hk, hcell⟩
      · rw [hb] at h0; cases h0
      rw [hb] at hb'; cases hb'
      have hget : ∀ (n : Nat) (d : Tr), cs[n]? = some d → d.one = true ∧ ∃ v, w.cell? ⟨b, i * ob.k + j + n, none⟩ = some v ∧ V w F d v := by
        intro n d hd
        have hn : n < cs.length := by
          rcases Nat.lt_or_ge n cs.length with h | h
          · exact h
          · rw [List.getElem?_eq_none h] at hd; cases hd
        have hy : el.cells[j + n]? = some (el.cells[j + n]'(by omega)) := List.getElem?_eq_getElem (by omega)
        obtain ⟨h1, v, hv, hva⟩ := hcell _ _ _ _ he hy
        refine ⟨(hr n _ d hy hd).one h1, v, ?_, (ih n _ d hy hd).1 v hva⟩
        rw [cell_of_heap hh', Nat.add_assoc]; exact hv
      refine V.ptr cs b (i * ob.k + j) (fun n => (w.cell? ⟨b, i * ob.k + j + n, none⟩).getD undef) (lt_of_heap hh') (hnF _ _ _ hsf hb)
        (fun n d hd => (hget n d hd).1) (fun n d hd => ?_) (fun n d hd => ?_)
      · obtain ⟨_, v, hv, _⟩ := hget n d hd
        simp [hv]
      · obtain ⟨_, v, hv, hV⟩ := hget n d hd
        simp only [hv, Option.getD_some]; exact hV
    | stalep hs' hg' => rw [hs] at hs'; cases hs'; omega
  | agg cs xs hx hr ih =>
    have hone : ∀ (j : Nat) (d : Tr) (c : AV), cs[j]? = some c → c.one = true → xs[j]? = some d → d.one = true := fun j d c hc h1 hd => (hr j c d hc hd).one h1
    refine ⟨fun v hv => ?_, fun j y d hy hd v hv => (ih j y d hy hd).1 v hv⟩
    cases hv with
    | @agg _ vs hl h1 hva =>
      have hc : ∀ (j : Nat) (d : Tr), xs[j]? = some d → ∃ c, cs[j]? = some c := by
        intro j d hd
        have hj : j < xs.length := by
          rcases Nat.lt_or_ge j xs.length with h | h
          · exact h
          · rw [List.getElem?_eq_none h] at hd; cases hd
        exact ⟨_, List.getElem?_eq_getElem (by omega)⟩
      refine .agg xs vs (by omega) (fun j d hd => ?_) (fun j d u hd hu => ?_)
      · obtain ⟨c, hc'⟩ := hc j d hd
        exact hone j d c hc' (h1 j c hc') hd
      · obtain ⟨c, hc'⟩ := hc j d hd
        exact (ih j c d hc' hd).1 u (hva j c u hc' hu)
  | tup cs xs hx hr ih =>
    refine single rfl rfl (fun v hv => ?_)
    cases hv with
    | @tup _ vs hl hva =>
      refine .tup xs vs (by omega) (fun j d u hd hu => ?_)
      have hj : j < xs.length := by
        rcases Nat.lt_or_ge j xs.length with h | h
        · exact h
        · rw [List.getElem?_eq_none h] at hd; cases hd
      have hc : cs[j]? = some (cs[j]'(by omega)) := List.getElem?_eq_getElem (by omega)
      exact (ih j _ d hc hd).1 u (hva j _ u hc hu)
  | fn f cs xs hx hr ih =>
    refine single rfl rfl (fun v hv => ?_)
    cases hv with
    | @fn _ _ vs hl hva =>
      refine .fn f xs vs (by omega) (fun j d u hd hu => ?_)
      have hj : j < xs.length := by
        rcases Nat.lt_or_ge j xs.length with h | h
        · exact h
        · rw [List.getElem?_eq_none h] at hd; cases hd
      have hc : cs[j]? = some (cs[j]'(by omega)) := List.getElem?_eq_getElem (by omega)
      exact (ih j _ d hc hd).1 u (hva j _ u hc hu)

theorem Rel.res {F : Nat → Prop} {β : Nat → Option Nat} {s : St} {a : Act} {w : World} (h : Rel F β s a w) {e : AV} {x : Tr} (hr : Res s.st e x) {v : Value}
    (hv : VA w (G F β s.st) β s.st e v) : V w F x v :=
  (hr.v' h.ob (fun _ _ h => h) (fun _ h => .inl h) h.notF).1 v hv

end Go.Tv

end
section
namespace Go.Tv

def VL (w : World) (F : Nat → Prop) (xs : List Tr) (vals : List Value) : Prop :=
  vals.length = xs.length ∧ ∀ (i : Nat) (x : Tr) (v : Value), xs[i]? = some x → vals[i]? = some v → V w F x v

/-- Called with values that stand for the trees xs, function f returns a value that stands for r; old memory stands. -/
def Ret (P : Program) (f : FuncId) (xs : List Tr) (r : Tr) : Prop :=
  ∀ (F : Nat → Prop) (w : World) (vals : List Value), (∀ b, F b → b < w.heap.size) → VL w F xs vals →
    Calls P f vals.toArray w fun e w' => ∃ v, e = .returned v ∧ V w' F r v ∧ BelowD w.heap.size w w'

def Tr.isAgg : Tr → Bool
  | .agg _ => true
  | _ => false

def AV.isAgg : AV → Bool
  | .t x => x.isAgg
  | .agg _ => true
  | _ => false

def allT : List AV → Option (List Tr)
  | [] => some []
  | .t x :: l => match allT l with | some xs => some (x :: xs) | none => none
  | _ => none

def mkAgg (ys : List AV) : AV :=
  match allT ys with
  | some xs => .t (.agg xs)
  | none => .agg ys

theorem allT_eq : ∀ (ys : List AV) (xs : List Tr), allT ys = some xs → ys = xs.map .t
  | [], xs, h => by simp [allT] at h; subst h; rfl
  | .t x :: l, xs, h => by
    simp only [allT] at h
    split at h
    · rename_i zs hz
      cases h
      simp [allT_eq l zs hz]
    · cases h
  | .own .. :: _, _, h => by simp [allT] at h
  | .ptr .. :: _, _, h => by simp [allT] at h
  | .agg .. :: _, _, h => by simp [allT] at h
  | .tup .. :: _, _, h => by simp [allT] at h
  | .fn .. :: _, _, h => by simp [allT] at h
  | .junk :: _, _, h => by simp [allT] at h

theorem allT_map (xs : List Tr) : allT (xs.map .t) = some xs := by
  induction xs with
  | nil => rfl
  | cons x l ih => simp [allT, ih]

section
variable {w : World} {H : Nat → Prop} {β : Nat → Option Nat} {σ : Sto}

theorem VA.mkAgg {ys : List AV} {vs : List Value} (hl : vs.length = ys.length) (h1 : ∀ (j : Nat) (c : AV), ys[j]? = some c → c.one = true)
    (hv : ∀ (j : Nat) (c : AV) (v : Value), ys[j]? = some c → vs[j]? = some v → VA w H β σ c v) : VA w H β σ (mkAgg ys) (.agg vs.toArray) := by
  unfold Tv.mkAgg
  split
  · rename_i xs hx
    have := allT_eq _ _ hx
    subst this
    refine .t (.agg xs vs (by simpa using hl) (fun j c hc => ?_) (fun j c v hc hvv => ?_))
    · exact h1 j (.t c) (by simp [hc])
    · have := hv j (.t c) v (by simp [hc]) hvv
      cases this with
      | t h => exact h
  · exact .agg hl h1 hv

/-- The cells of a value and of what it stands for. -/
theorem VA.cells {e : AV} {v : Value} (h : VA w H β σ e v) (hn : e.noTup = true) :
    v.cells.size = e.cells.length ∧ (∀ (j : Nat) c, e.cells[j]? = some c → c.one = true) ∧
    (∀ u, u ∈ v.cells.toList → u.oneCell' = true) ∧
    ∀ (j : Nat) c u, e.cells[j]? = some c → v.cells[j]? = some u → VA w H β σ c u := by
  have fin : ∀ {e : AV} {v : Value}, v.cells.size = e.cells.length → (∀ (j : Nat) c, e.cells[j]? = some c → c.one = true) →
      (∀ (j : Nat) c u, e.cells[j]? = some c → v.cells[j]? = some u → VA w H β σ c u) →
      v.cells.size = e.cells.length ∧ (∀ (j : Nat) c, e.cells[j]? = some c → c.one = true) ∧ (∀ u, u ∈ v.cells.toList → u.oneCell' = true) ∧
      ∀ (j : Nat) c u, e.cells[j]? = some c → v.cells[j]? = some u → VA w H β σ c u := by
    intro e v h1 h2 h3
    refine ⟨h1, h2, fun u hu => ?_, h3⟩
    obtain ⟨j, hj, he⟩ := List.mem_iff_getElem.1 hu
    have hj0 : j < v.cells.size := by simpa using hj
    have hu' : v.cells[j]? = some u := by rw [← he, Array.getElem?_eq_getElem hj0]; simp
    have hj' : j < e.cells.length := by rw [← h1]; exact hj0
    exact (h3 j _ u (List.getElem?_eq_getElem hj') hu').one (h2 j _ (List.getElem?_eq_getElem hj'))
  have single : ∀ {e : AV} {v : Value}, e.cells = [e] → v.cells = #[v] → e.one = true → VA w H β σ e v →
      v.cells.size = e.cells.length ∧ (∀ (j : Nat) c, e.cells[j]? = some c → c.one = true) ∧ (∀ u, u ∈ v.cells.toList → u.oneCell' = true) ∧
      ∀ (j : Nat) c u, e.cells[j]? = some c → v.cells[j]? = some u → VA w H β σ c u := by
    intro e v h1 h2 h3 h
    refine fin (by rw [h1, h2]; rfl) (fun j c hc => ?_) (fun j c u hc hu => ?_)
    · rw [h1] at hc
      cases j with
      | zero => simp at hc; subst hc; exact h3
      | succ j => simp at hc
    · rw [h1] at hc; rw [h2] at hu
      cases j with
      | zero => simp at hc hu; subst hc; subst hu; exact h
      | succ j => simp at hc
  have vcells : ∀ v : Value, v.oneCell' = true → v.cells = #[v] := by
    intro v hv
    cases v <;> first | rfl | simp [Value.oneCell'] at hv
  cases h with
  | @t x v h =>
    obtain ⟨h1, h2, h3⟩ := h.cells hn
    refine fin (by simp [AV.cells, h1]) (fun j c hc => ?_) (fun j c u hc hu => ?_)
    · simp only [AV.cells, List.getElem?_map, Option.map_eq_some_iff] at hc
      obtain ⟨y, hy, rfl⟩ := hc
      exact h2 j y hy
    · simp only [AV.cells, List.getElem?_map, Option.map_eq_some_iff] at hc
      obtain ⟨y, hy, rfl⟩ := hc
      exact .t (h3 j y u hy hu)
  | own hs hg hb hl hcap hh hc => exact single rfl rfl rfl (.own hs hg hb hl hcap hh hc)
  | ownNil hs hg hb he => exact single rfl rfl rfl (.ownNil hs hg hb he)
  | ownZ hs hg hb hl hlt => exact single rfl rfl rfl (.ownZ hs hg hb hl hlt)
  | ownE hs hg hb he => exact single rfl rfl rfl (.ownE hs hg hb he)
  | stale hs hg h1 => exact single rfl (vcells _ h1) rfl (.stale hs hg h1)
  | ptr hs hg hb hi hj => exact single rfl rfl rfl (.ptr hs hg hb hi hj)
  | stalep hs hg h1 => exact single rfl (vcells _ h1) rfl (.stalep hs hg h1)
  | @agg cs vs hl h1 hva => exact fin (by simp [AV.cells, Value.cells, hl]) h1 (fun j c u hc hu => hva j c u hc (by simpa [Value.cells] using hu))
  | tup => simp [AV.noTup] at hn
  | fn hl hva => exact single rfl rfl rfl (.fn hl hva)
  | junk => simp [AV.noTup] at hn

end

/-! ### Loads off the store -/

/-- What a load of a value of k cells (agg: of an aggregate) gives at cell j of element i of object id. -/
inductive LoadA (σ : Sto) (id g i j k : Nat) : Bool → AV → Prop
  | whole {ob : Ob} {el : AV} (hs : sget σ id = some ob) (hg : ob.gen = g) (he : ob.els[i]? = some el) (hj : j = 0) (hk : el.cells.length = k) (ha : el.isAgg = true) :
      LoadA σ id g i j k true el
  | sub {ob : Ob} {el : AV} (hs : sget σ id = some ob) (hg : ob.gen = g) (he : ob.els[i]? = some el) (hk : ((el.cells.drop j).take k).length = k) :
      LoadA σ id g i j k true (mkAgg ((el.cells.drop j).take k))
  | one {ob : Ob} {el y : AV} (hs : sget σ id = some ob) (hg : ob.gen = g) (he : ob.els[i]? = some el) (hy : el.cells[j]? = some y) :
      LoadA σ id g i j k false y

theorem AV.cells_agg {el : AV} (h : el.isAgg = true) : (∃ xs, el = .t (.agg xs)) ∨ ∃ cs, el = .agg cs := by
  cases el with
  | t x => cases x <;> first | exact .inl ⟨_, rfl⟩ | simp [AV.isAgg, Tr.isAgg] at h
  | agg cs => exact .inr ⟨cs, rfl⟩
  | _ => simp [AV.isAgg] at h

/-- The cells that a pointer's load reads. -/
theorem Rel.cellsAt {F : Nat → Prop} {β : Nat → Option Nat} {s : St} {a : Act} {w : World} (h : Rel F β s a w) {id g i j : Nat} {ob : Ob} {el : AV} {v : Value}
    (hs : sget s.st id = some ob) (hg : ob.gen = g) (he : ob.els[i]? = some el) (hv : VA w (G F β s.st) β s.st (.ptr id g i j) v) :
    ∃ b c, β id = some b ∧ w.heap[b]? = some (.cells c ob.ty (0, 0)) ∧ v = .pointer (some ⟨b, i * ob.k + j, none⟩) ∧ el.noTup = true ∧ el.cells.length = ob.k ∧
      ob.els.length * ob.k ≤ c.size ∧
      ∀ (n : Nat) y, el.cells[n]? = some y → y.one = true ∧ ∃ u, c[i * ob.k + n]? = some u ∧ VA w (G F β s.st) β s.st y u := by
  rcases h.ob id ob hs with ⟨_, h0⟩ | ⟨b, c, hb, hh, hsz, hk, hcell⟩
  · rw [h0] at he; simp at he
  · cases hv with
    | @ptr _ _ _ _ b' ob' hs' hg' hb' hi hj =>
      rw [hs] at hs'; cases hs'
      rw [hb] at hb'; cases hb'
      exact ⟨b, c, hb, hh, rfl, (hk i el he).1, (hk i el he).2, hsz, fun n y hy => hcell i el n y he hy⟩
    | stalep hs' hg' => rw [hs] at hs'; cases hs'; omega

theorem Rel.load {P : Program} {F : Nat → Prop} {β : Nat → Option Nat} {s : St} {a : Act} {w : World} (h : Rel F β s a w) {id g i j k : Nat} {agg : Bool} {y : AV} {v : Value} {t : TypeId}
    (ht : tinf P t = some (k, agg)) (hl : LoadA s.st id g i j k agg y) (hv : VA w (G F β s.st) β s.st (.ptr id g i j) v) :
    ∃ ad u, v = .pointer (some ad) ∧ (loadVar t ad).run P w = .ok u w ∧ VA w (G F β s.st) β s.st y u := by
  have fromCells : ∀ {ob : Ob} {el : AV}, sget s.st id = some ob → ob.gen = g → ob.els[i]? = some el → ∀ m, j + m ≤ el.cells.length →
      ∃ (ad : Addr) (b : Nat) (vs : Nat → Value), v = .pointer (some ad) ∧ ad = ⟨b, i * ob.k + j, none⟩ ∧
        (∀ n, n < m → w.cell? ⟨b, i * ob.k + j + n, none⟩ = some (vs n)) ∧
        (∀ n y, n < m → el.cells[j + n]? = some y → y.one = true ∧ VA w (G F β s.st) β s.st y (vs n)) := by
    intro ob el hs hg he m hm
    obtain ⟨b, c, hb, hh, hv', hn, hlen, hsz, hc⟩ := h.cellsAt hs hg he hv
    refine ⟨_, b, fun n => (c[i * ob.k + (j + n)]?).getD undef, hv', rfl, fun n hnm => ?_, fun n y hnm hy => ?_⟩
    · obtain ⟨_, u, hu, _⟩ := hc (j + n) _ (List.getElem?_eq_getElem (by omega))
      rw [cell_of_heap hh, Nat.add_assoc, hu]; simp only [hu, Option.getD_some]
    · obtain ⟨h1, u, hu, hva⟩ := hc (j + n) y hy
      refine ⟨h1, ?_⟩
      simp only [hu, Option.getD_some]; exact hva
  cases hl with
  | @whole ob el hs hg he hj hk ha =>
    subst hj
    obtain ⟨ad, b, vs, rfl, rfl, hc, hva⟩ := fromCells hs hg he k (by omega)
    refine ⟨_, _, rfl, run_loadVar_agg ht vs hc, ?_⟩
    have hone : ∀ (n : Nat) (c : AV), y.cells[n]? = some c → n < k := by
      intro n c hn
      rcases Nat.lt_or_ge n k with h | h
      · exact h
      · rw [List.getElem?_eq_none (by omega)] at hn; cases hn
    rcases AV.cells_agg ha with ⟨xs, rfl⟩ | ⟨cs, rfl⟩
    · refine .t (.agg xs _ (by simpa [AV.cells, Tr.cells] using hk.symm) (fun n c hn => ?_) (fun n c u hn hu => ?_))
      · have hy : (AV.t (.agg xs)).cells[n]? = some (.t c) := by simp [AV.cells, Tr.cells, hn]
        exact (hva n (.t c) (hone n _ hy) (by simpa using hy)).1
      · have hy : (AV.t (.agg xs)).cells[n]? = some (.t c) := by simp [AV.cells, Tr.cells, hn]
        have := (hva n (.t c) (hone n _ hy) (by simpa using hy)).2
        have hu' : vs n = u := by
          rw [List.getElem?_map, List.getElem?_range (hone n _ hy)] at hu
          simpa using hu
        rw [hu'] at this
        cases this with
        | t h => exact h
    · refine .agg (by simpa [AV.cells] using hk.symm) (fun n c hn => ?_) (fun n c u hn hu => ?_)
      · exact (hva n c (hone n _ hn) (by simpa [AV.cells] using hn)).1
      · have := (hva n c (hone n _ hn) (by simpa [AV.cells] using hn)).2
        have hu' : vs n = u := by
          rw [List.getElem?_map, List.getElem?_range (hone n _ hn)] at hu
          simpa using hu
        rw [hu'] at this; exact this
  | @sub ob el hs hg he hk =>
    have hjk : k = 0 ∨ j + k ≤ el.cells.length := by
      simp only [List.length_take, List.length_drop] at hk; omega
    obtain ⟨ad, b, vs, rfl, rfl, hc, hva⟩ : ∃ (ad : Addr) (b : Nat) (vs : Nat → Value), v = .pointer (some ad) ∧ ad = ⟨b, i * ob.k + j, none⟩ ∧
        (∀ n, n < k → w.cell? ⟨b, i * ob.k + j + n, none⟩ = some (vs n)) ∧
        (∀ n y, n < k → el.cells[j + n]? = some y → y.one = true ∧ VA w (G F β s.st) β s.st y (vs n)) := by
      rcases hjk with h0 | h0
      · obtain ⟨b, c, hb, hh, hv', _⟩ := h.cellsAt hs hg he hv
        exact ⟨_, b, fun _ => undef, hv', rfl, fun n hn => by omega, fun n y hn => by omega⟩
      · exact fromCells hs hg he k h0
    refine ⟨_, _, rfl, run_loadVar_agg ht vs hc, VA.mkAgg (by simpa using hk.symm) (fun n c hn => ?_) (fun n c u hn hu => ?_)⟩
    · have hnk : n < k := by
        rcases Nat.lt_or_ge n k with h | h
        · exact h
        · rw [List.getElem?_eq_none (by omega)] at hn; cases hn
      rw [List.getElem?_take_of_lt hnk, List.getElem?_drop] at hn
      exact (hva n c hnk hn).1
    · have hnk : n < k := by
        rcases Nat.lt_or_ge n k with h | h
        · exact h
        · rw [List.getElem?_eq_none (by omega)] at hn; cases hn
      rw [List.getElem?_take_of_lt hnk, List.getElem?_drop] at hn
      have hu' : vs n = u := by
        rw [List.getElem?_map, List.getElem?_range hnk] at hu
        simpa using hu
      have := (hva n c hnk hn).2
      rw [hu'] at this; exact this
  | @one ob el y hs hg he hy =>
    have hj : j < el.cells.length := by
      rcases Nat.lt_or_ge j el.cells.length with h | h
      · exact h
      · rw [List.getElem?_eq_none h] at hy; cases hy
    obtain ⟨ad, b, vs, rfl, rfl, hc, hva⟩ := fromCells hs hg he 1 (by omega)
    exact ⟨_, _, rfl, run_loadVar_one ht (by simpa using hc 0 (by omega)), (hva 0 y (by omega) (by simpa using hy)).2⟩

/-! ### From a body to a contract -/

inductive RVar (P : Program) (s : St) : ResultVar → Tr → Prop
  | tmp {t : Tmp} {x : Tr} (h : Res s.st (s.ev (.tmp t)) x) : RVar P s (.tmp t) x
  | cell {t : Tmp} {ty : TypeId} {x : Tr} {id g i j k : Nat} {agg : Bool} {y : AV} (hp : s.ev (.tmp t) = .ptr id g i j) (ht : tinf P ty = some (k, agg))
      (hl : LoadA s.st id g i j k agg y) (h : Res s.st y x) : RVar P s (.cell t ty) x

/-- What is known of a slice's capacity is forgotten. -/
inductive Wk : Tr → Tr → Prop
  | refl (x : Tr) : Wk x x
  | sl (xs : List Tr) : Wk (.sl xs true) (.sl xs false)
  | agg (xs ys : List Tr) (hl : xs.length = ys.length) (h : ∀ (i : Nat) (x y : Tr), xs[i]? = some x → ys[i]? = some y → Wk x y) : Wk (.agg xs) (.agg ys)
  | tup (xs ys : List Tr) (hl : xs.length = ys.length) (h : ∀ (i : Nat) (x y : Tr), xs[i]? = some x → ys[i]? = some y → Wk x y) : Wk (.tup xs) (.tup ys)

theorem Wk.one {x y : Tr} (h : Wk x y) : y.one = x.one := by
  cases h <;> rfl

theorem Wk.v {w : World} {F : Nat → Prop} {x y : Tr} (h : Wk x y) : ∀ {v : Value}, V w F x v → V w F y v := by
  induction h with
  | refl x => exact fun h => h
  | sl xs =>
    intro v h
    cases h with
    | nils f => exact .nils false
    | nilsE f a => exact .nilsE false a
    | sl xs f k b o cap vs hb hF hf hcap hk h1 hc hv => exact .sl xs false k b o cap vs hb hF (fun h => by cases h) hcap hk h1 hc hv
  | agg xs ys hl hw ih =>
    intro v h
    cases h with
    | agg cs vs hl' h1 hv =>
      have hx : ∀ (j : Nat) (y : Tr), ys[j]? = some y → ∃ x, xs[j]? = some x := fun j y hy => by
        have : j < ys.length := by
          rcases Nat.lt_or_ge j ys.length with h | h
          · exact h
          · rw [List.getElem?_eq_none h] at hy; cases hy
        exact ⟨_, List.getElem?_eq_getElem (by omega)⟩
      refine .agg ys vs (by omega) (fun j y hy => ?_) (fun j y u hy hu => ?_)
      · obtain ⟨x, hx'⟩ := hx j y hy
        rw [(hw j x y hx' hy).one]; exact h1 j x hx'
      · obtain ⟨x, hx'⟩ := hx j y hy
        exact ih j x y hx' hy (hv j x u hx' hu)
  | tup xs ys hl hw ih =>
    intro v h
    cases h with
    | tup cs vs hl' hv =>
      refine .tup ys vs (by omega) (fun j y u hy hu => ?_)
      have hj : j < ys.length := by
        rcases Nat.lt_or_ge j ys.length with h | h
        · exact h
        · rw [List.getElem?_eq_none h] at hy; cases hy
      have hx' : xs[j]? = some (xs[j]'(by omega)) := List.getElem?_eq_getElem (by omega)
      exact ih j _ y hx' hy (hv j _ u hx' hu)

def packT : List Tr → Tr
  | [x] => x
  | xs => .tup xs

def RVars (P : Program) (s : St) : List ResultVar → List Tr → Prop
  | [], [] => True
  | r :: rs, x :: xs => RVar P s r x ∧ RVars P s rs xs
  | _, _ => False

def resOf (tmps : Array Value) : ResultVar → Sem Value
  | .tmp t => pure (tmps.getD t undef)
  | .cell ad t => do loadVar t (← asAddr (tmps.getD ad undef))

theorem results_eq (fn : Func) (tmps : Array Value) :
    results fn tmps = (do let vs ← fn.results.mapM (resOf tmps); pure (if h : vs.size = 1 then vs[0] else .tuple vs)) := by
  unfold results
  have : (fun (x : ResultVar) => (match x with | .tmp t => pure (tmps.getD t undef) | .cell a t => do loadVar t (← asAddr (tmps.getD a undef)) : Sem Value)) = resOf tmps := by
    funext r; cases r <;> rfl
  rw [← this]
  rfl

theorem RVar.run {P : Program} {F : Nat → Prop} {β : Nat → Option Nat} {s : St} {a : Act} {w : World} (h : Rel F β s a w) {r : ResultVar} {x : Tr} (hr : RVar P s r x) :
    ∃ v, (resOf a.tmps r).run P w = .ok v w ∧ V w F x v := by
  cases hr with
  | @tmp t x h' => exact ⟨_, rfl, h.res h' (h.ev (.tmp t))⟩
  | @cell t ty x id g i j k agg y hp ht hl h' =>
    have hv := h.ev (.tmp t)
    rw [hp] at hv
    obtain ⟨ad, u, hpt, hrun, hva⟩ := h.load ht hl hv
    have hpt : a.tmps.getD t undef = .pointer (some ad) := hpt
    refine ⟨u, ?_, h.res h' hva⟩
    simp only [resOf, hpt, asAddr, Sem.run_bind, Sem.run_pure, Result.andThen_ok, hrun]

theorem RVars.run {P : Program} {F : Nat → Prop} {β : Nat → Option Nat} {s : St} {a : Act} {w : World} (h : Rel F β s a w) : ∀ (rs : List ResultVar) (xs : List Tr), RVars P s rs xs →
    ∃ vs, (rs.mapM (resOf a.tmps)).run P w = .ok vs w ∧ VL w F xs vs
  | [], [], _ => ⟨[], rfl, rfl, fun i x v hx => by simp at hx⟩
  | r :: rs, x :: xs, ⟨h1, h2⟩ => by
    obtain ⟨v, hv, hV⟩ := h1.run h
    obtain ⟨vs, hvs, hl, hV'⟩ := RVars.run h rs xs h2
    refine ⟨v :: vs, ?_, by simp [hl], fun i y u hy hu => ?_⟩
    · rw [List.mapM_cons]
      simp only [Sem.run_bind, hv, hvs, Result.andThen_ok, Sem.run_pure]
    · cases i with
      | zero => simp at hy hu; subst hy; subst hu; exact hV
      | succ i => exact hV' i y u (by simpa using hy) (by simpa using hu)
  | [], _ :: _, h => h.elim
  | _ :: _, [], h => h.elim

/-- The frame at a function's entry. -/
def initFr : Nat → List Tr → Fra
  | _, [] => []
  | i, x :: l => (i, .t x) :: initFr (i + 1) l

theorem initFr_get : ∀ (l : List Tr) (i j : Nat), fget (initFr i l) j = if i ≤ j then (match l[j - i]? with | some x => .t x | none => .junk) else .junk
  | [], i, j => by simp [initFr, fget]
  | x :: l, i, j => by
    have := fget_fput (initFr (i + 1) l) i j (.t x)
    rw [show fput (initFr (i + 1) l) i (.t x) = initFr i (x :: l) from rfl] at this
    rw [this, initFr_get l]
    by_cases h : j = i
    · subst h; simp
    · rw [if_neg h]
      by_cases h2 : i ≤ j
      · rw [if_pos (by omega), if_pos h2, show j - i = (j - (i + 1)) + 1 from by omega, List.getElem?_cons_succ]
      · rw [if_neg (by omega), if_neg h2]

theorem ret_of_awp {P : Program} {f : FuncId} {fn : Func} {c : Code} {xs : List Tr} {r : Tr} (hf : P.funcs[f]? = some fn) (hb : fn.body = some c)
    (hn : xs.length ≤ fn.ntmps)
    (h : AWP P c ⟨fn.ntmps, initFr 0 xs, []⟩ (fun e s => (e = .normal ∨ e = .ret) ∧ ∃ rs, RVars P s fn.results.toList rs ∧ Wk (packT rs) r)) : Ret P f xs r := by
  intro F w vals hlt ⟨hl, hV⟩
  refine calls_of_wp hf hb ?_
  have h0 : Rel F (fun _ => none) ⟨fn.ntmps, initFr 0 xs, []⟩ { tmps := vals.toArray ++ Array.replicate (fn.ntmps - vals.toArray.size) undef, defers := [] } w := by
    refine ⟨rfl, by simp; omega, fun i => ?_, fun id ob ho => by simp [sget] at ho, fun i j oi oj b ho => by simp [sget] at ho, fun i oi b ho => by simp [sget] at ho, hlt⟩
    show VA w _ _ _ (fget (initFr 0 xs) i) _
    rw [initFr_get, if_pos (Nat.zero_le _), Nat.sub_zero]
    cases hx : xs[i]? with
    | none => exact .junk _
    | some x =>
      have hi : i < vals.length := by
        rw [hl]
        rcases Nat.lt_or_ge i xs.length with h | h
        · exact h
        · rw [List.getElem?_eq_none h] at hx; cases hx
      have hg : (vals.toArray ++ Array.replicate (fn.ntmps - vals.toArray.size) undef).getD i undef = vals[i] := by
        simp [hi, Array.getElem?_append]
      rw [vAt_lt (by simp; omega), hg]
      have hv := hV i x vals[i] hx (List.getElem?_eq_getElem hi)
      exact .t (V.mono (w := w) (w' := w) (Nat.le_refl _) (fun b _ hn => ⟨fun hG => hG.elim hn (fun ⟨id, ob, ho, _⟩ => by simp [sget] at ho), rfl⟩) hv)
  refine wp_mono (h F _ _ w h0) ?_
  rintro e a' w' ⟨s', β', ⟨he, rs, hrs, hwk⟩, hr', hev⟩
  obtain ⟨vs, hvs, hvl, hvV⟩ := RVars.run hr' _ _ hrs
  have hres : ∃ v, (results fn a'.tmps).run P w' = .ok v w' ∧ V w' F (packT rs) v := by
    have hm : (fn.results.mapM (resOf a'.tmps)).run P w' = .ok vs.toArray w' := by
      rw [Array.mapM_eq_mapM_toList, Sem.run_map, hvs]; rfl
    refine ⟨if h : vs.toArray.size = 1 then vs.toArray[0] else .tuple vs.toArray, ?_, ?_⟩
    · rw [results_eq, Sem.run_bind, hm]; rfl
    · match rs, vs, hvl with
      | [x], [v], _ => exact hvV 0 x v rfl rfl
      | [], [], _ => exact .tup [] [] rfl hvV
      | x :: y :: l, u :: v :: m, hvl => exact .tup _ _ hvl hvV
  have hbel : BelowD w.heap.size w w' := ⟨⟨hev.os, hev.tape.1, hev.output, hev.size, fun b hb => hev.keep b hb (fun ⟨id, ob, ho, _⟩ => by simp [sget] at ho)⟩, hev.tape.2⟩
  obtain ⟨v, hv, hV'⟩ := hres
  rcases he with rfl | rfl
  · exact ⟨hr'.defers, v, hv, v, rfl, hwk.v hV', hbel⟩
  · exact ⟨hr'.defers, v, hv, v, rfl, hwk.v hV', hbel⟩

end Go.Tv

end
section
namespace Go.Tv

section
variable {F : Nat → Prop} {β : Nat → Option Nat} {D s : St} {a : Act} {w : World}

theorem Rel.evT (hr : Rel F β s a w) (hs : Le D s) {x : Operand} {t : Tr} (hx : D.ev x = .t t) : V w (G F β s.st) t (a.eval x) := by
  have h := hr.ev x
  rw [hs.ev hx (by simp)] at h
  cases h with
  | t h => exact h

theorem Rel.evInt (hr : Rel F β s a w) (hs : Le D s) {x : Operand} {k : IntKind} {n : Int} (hx : D.ev x = .t (.int k n)) : a.eval x = .int k n := by
  have h := hr.evT hs hx
  generalize a.eval x = v at h
  cases h; rfl

theorem Rel.evBool (hr : Rel F β s a w) (hs : Le D s) {x : Operand} {b : Bool} (hx : D.ev x = .t (.bool b)) : a.eval x = .bool b := by
  have h := hr.evT hs hx
  generalize a.eval x = v at h
  cases h; rfl

theorem Rel.evA (hr : Rel F β s a w) (hs : Le D s) {x : Operand} {v : AV} (hx : D.ev x = v) : VA w (G F β s.st) β s.st v (a.eval x) := by
  by_cases h : v = .junk
  · subst h; exact .junk _
  · have h' := hr.ev x
    rw [hs.ev hx h] at h'
    exact h'
end

variable {P : Program} {o : Oper} {D : St}

theorem eff_move {x : Operand} {v : AV} (hd : dstOK D.n o.dst = true) (ho : o.op = .move x) (hx : D.ev x = v) : Eff P o D ⟨v, []⟩ :=
  Eff.pure hd fun s hs F β a w hr => ⟨a.eval x, by simp [execOp, ho], hr.evA hs hx⟩

theorem eff_assign {x : Operand} {v : AV} (hd : dstOK D.n o.dst = true) (ho : o.op = .assign x) (hx : D.ev x = v) : Eff P o D ⟨v, []⟩ :=
  Eff.pure hd fun s hs F β a w hr => ⟨a.eval x, by simp [execOp, ho], hr.evA hs hx⟩

theorem eff_pick {c x y : Operand} {b : Bool} {v : AV} (hd : dstOK D.n o.dst = true) (ho : o.op = .pick c x y) (hc : D.ev c = .t (.bool b))
    (hv : (if b then D.ev x else D.ev y) = v) : Eff P o D ⟨v, []⟩ :=
  Eff.pure hd fun s hs F β a w hr => ⟨if b then a.eval x else a.eval y, by
    simp [execOp, ho, hr.evBool hs hc, asBool], by
    cases b
    · exact hr.evA hs hv
    · exact hr.evA hs hv⟩

/-! ### Integers, booleans, strings -/

def iop (op : BinOp) (k : IntKind) (a b : Int) : Option Tr :=
  match op with
  | .add => some (.int k (k.wrap (a + b)))
  | .sub => some (.int k (k.wrap (a - b)))
  | .mul => some (.int k (k.wrap (a * b)))
  | .and => some (.int k (k.wrap ((BitVec.ofInt k.bits a) &&& (BitVec.ofInt k.bits b)).toNat))
  | .or => some (.int k (k.wrap ((BitVec.ofInt k.bits a) ||| (BitVec.ofInt k.bits b)).toNat))
  | .xor => some (.int k (k.wrap ((BitVec.ofInt k.bits a) ^^^ (BitVec.ofInt k.bits b)).toNat))
  | .andNot => some (.int k (k.wrap ((BitVec.ofInt k.bits a) &&& ~~~(BitVec.ofInt k.bits b)).toNat))
  | .eql => some (.bool (a == b))
  | .neq => some (.bool (a != b))
  | .lss => some (.bool (decide (a < b)))
  | .leq => some (.bool (decide (a ≤ b)))
  | .gtr => some (.bool (decide (a > b)))
  | .geq => some (.bool (decide (a ≥ b)))
  | _ => none

theorem iop_run {op : BinOp} {k : IntKind} {n m : Int} {t : Tr} (h : iop op k n m = some t) (P : Program) (w : World) (ty : TypeId) (H : Nat → Prop) :
    ∃ v, (binOp op ty (.int k n) (.int k m)).run P w = .ok v w ∧ V w H t v := by
  cases op <;> simp only [iop, Option.some.injEq, reduceCtorEq] at h <;> subst h <;>
    simp only [binOp, Op.intArith, Op.intBits, Op.intCmp, ne_eq, not_true_eq_false, if_false, Sem.run_pure] <;>
    first
      | exact ⟨_, rfl, .int _ _⟩
      | exact ⟨_, rfl, .bool _⟩

theorem eqGuard_int (op : BinOp) (ty : TypeId) (x y : Operand) (k k' : IntKind) (n m : Int) (P : Program) (w : World) :
    (eqGuard op ty x y (.int k n) (.int k' m)).run P w = .ok () w := by
  unfold eqGuard
  cases op <;> rfl

theorem eff_iop {op : BinOp} {t ty : TypeId} {x y : Operand} {k : IntKind} {n m : Int} {r : Tr} (hd : dstOK D.n o.dst = true) (ho : o.op = .binOp op t x y ty)
    (hx : D.ev x = .t (.int k n)) (hy : D.ev y = .t (.int k m)) (hr : iop op k n m = some r) : Eff P o D ⟨.t r, []⟩ :=
  Eff.pure hd fun s hs F β a w hR => by
    obtain ⟨v, hv, hV⟩ := iop_run hr P w t (G F β s.st)
    refine ⟨v, ?_, .t hV⟩
    simp only [execOp, ho, hR.evInt hs hx, hR.evInt hs hy, Sem.run_bind, eqGuard_int, Result.andThen_ok, hv, Sem.run_pure]

theorem eff_rem {t ty : TypeId} {x y : Operand} {k : IntKind} {n m : Int} (hd : dstOK D.n o.dst = true) (ho : o.op = .binOp .rem t x y ty)
    (hx : D.ev x = .t (.int k n)) (hy : D.ev y = .t (.int k m)) (hm : m ≠ 0) : Eff P o D ⟨.t (.int k (n.tmod m)), []⟩ :=
  Eff.pure hd fun s hs F β a w hR => by
    refine ⟨_, ?_, .t (.int k _)⟩
    simp only [execOp, ho, hR.evInt hs hx, hR.evInt hs hy, Sem.run_bind, eqGuard_int, Result.andThen_ok, binOp, Op.intDiv, ne_eq, not_true_eq_false, if_false, hm, Sem.run_pure]

theorem eff_shl {t ty : TypeId} {x y : Operand} {k yk : IntKind} {n m : Int} (hd : dstOK D.n o.dst = true) (ho : o.op = .binOp .shl t x y ty)
    (hx : D.ev x = .t (.int k n)) (hy : D.ev y = .t (.int yk m)) (hm : 0 ≤ m) : Eff P o D ⟨.t (.int k (k.wrap (n * 2 ^ (min m.toNat k.bits)))), []⟩ :=
  Eff.pure hd fun s hs F β a w hR => by
    refine ⟨_, ?_, .t (.int k _)⟩
    simp only [execOp, ho, hR.evInt hs hx, hR.evInt hs hy, Sem.run_bind, eqGuard_int, Result.andThen_ok, binOp, Op.shift, show ¬ m < 0 from by omega, if_false, Sem.run_pure]

theorem eff_shr {t ty : TypeId} {x y : Operand} {k yk : IntKind} {n m : Int} (hd : dstOK D.n o.dst = true) (ho : o.op = .binOp .shr t x y ty)
    (hx : D.ev x = .t (.int k n)) (hy : D.ev y = .t (.int yk m)) (hm : 0 ≤ m) : Eff P o D ⟨.t (.int k (n.fdiv (2 ^ (min m.toNat k.bits)))), []⟩ :=
  Eff.pure hd fun s hs F β a w hR => by
    refine ⟨_, ?_, .t (.int k _)⟩
    simp only [execOp, ho, hR.evInt hs hx, hR.evInt hs hy, Sem.run_bind, eqGuard_int, Result.andThen_ok, binOp, Op.shift, show ¬ m < 0 from by omega, if_false, Sem.run_pure]

def uop (op : UnOp) : Tr → Option Tr
  | .bool b => match op with | .not => some (.bool !b) | _ => none
  | .int k n => match op with
    | .neg => some (.int k (k.wrap (0 - n)))
    | .xor => some (.int k (k.wrap ((BitVec.ofInt k.bits (if k.signed then -1 else k.max)) ^^^ (BitVec.ofInt k.bits n)).toNat))
    | _ => none
  | _ => none

theorem eff_unop {op : UnOp} {t : TypeId} {x : Operand} {y r : Tr} (hd : dstOK D.n o.dst = true) (ho : o.op = .unOp op t x)
    (hx : D.ev x = .t y) (hr : uop op y = some r) : Eff P o D ⟨.t r, []⟩ :=
  Eff.pure hd fun s hs F β a w hR => by
    cases y with
    | bool b =>
      cases op <;> simp only [uop, Option.some.injEq, reduceCtorEq] at hr
      subst hr
      refine ⟨.bool !b, ?_, .t (.bool _)⟩
      simp only [execOp, ho, hR.evBool hs hx, Op.unary, Sem.run_bind, Sem.run_pure, Result.andThen_ok]
    | int k n =>
      cases op <;> simp only [uop, Option.some.injEq, reduceCtorEq] at hr <;> subst hr <;>
        refine ⟨_, ?_, .t (.int k _)⟩ <;>
        simp only [execOp, ho, hR.evInt hs hx, Op.unary, Op.intArith, Op.intBits, Sem.run_bind, Sem.run_pure, Result.andThen_ok]
    | _ => simp [uop] at hr

theorem eff_convInt {src dst : TypeId} {x : Operand} {k k' : IntKind} {n : Int} (hd : dstOK D.n o.dst = true) (ho : o.op = .convert src dst x)
    (hsrc : (P.underlying src).isSome = true) (hdst : P.underlying dst = some (.int k')) (hx : D.ev x = .t (.int k n)) : Eff P o D ⟨.t (.int k' (k'.wrap n)), []⟩ :=
  Eff.pure hd fun s hs F β a w hR => by
    obtain ⟨ds, hds⟩ := Option.isSome_iff_exists.1 hsrc
    refine ⟨_, ?_, .t (.int k' _)⟩
    simp only [execOp, ho, hR.evInt hs hx, convert, Sem.run_bind, run_underlying' w hds, run_underlying' w hdst, Result.andThen_ok]
    cases ds <;> simp [Conv.intToInt]

/-! ### Tuples -/

theorem eff_extract {x : Operand} {i : Nat} {xs : List Tr} {r : Tr} (hd : dstOK D.n o.dst = true) (ho : o.op = .extract x i)
    (hx : D.ev x = .t (.tup xs)) (hr : xs[i]? = some r) : Eff P o D ⟨.t r, []⟩ :=
  Eff.pure hd fun s hs F β a w hR => by
    have h := hR.evT hs hx
    generalize hv : a.eval x = v at h
    cases h with
    | tup cs vs hl hva =>
      have hi : i < xs.length := by
        rcases Nat.lt_or_ge i xs.length with h | h
        · exact h
        · rw [List.getElem?_eq_none h] at hr; cases hr
      have hu : vs[i]? = some (vs[i]'(by omega)) := List.getElem?_eq_getElem (by omega)
      refine ⟨vs[i]'(by omega), ?_, .t (hva i r _ hr hu)⟩
      simp only [execOp, ho, hv, Instr.extract, List.getElem?_toArray, hu, Sem.run_bind, Sem.run_pure, Result.andThen_ok]

/-! ### Addresses -/

/-- The cell offset of a struct's field and the field's size and kind. -/
def fldOf (P : Program) (t : TypeId) (f : Nat) : Option (Nat × Nat × Bool) :=
  match P.underlying t with
  | some (.struct fs) => match fs[f]? with
    | some fd => match tinf P fd.type with
      | some (k, g) => some (fd.offset, k, g)
      | none => none
    | none => none
  | _ => none

theorem fldOf_spec {t : TypeId} {f off k : Nat} {g : Bool} (h : fldOf P t f = some (off, k, g)) :
    ∃ fs fd, P.underlying t = some (.struct fs) ∧ fs[f]? = some fd ∧ fd.offset = off ∧ tinf P fd.type = some (k, g) := by
  unfold fldOf at h
  split at h
  · rename_i fs hu
    split at h
    · rename_i fd hf
      split at h
      · rename_i k' g' ht
        cases h
        exact ⟨fs, fd, hu, hf, rfl, ht⟩
      · cases h
    · cases h
  · cases h

theorem run_fieldAt {t : TypeId} {f off k : Nat} {g : Bool} (h : fldOf P t f = some (off, k, g)) (hk : k ≠ 0) (w : World) (b p : Nat) :
    (Instr.fieldAt t (.pointer (some ⟨b, p, none⟩)) f).run P w = .ok (.pointer (some ⟨b, p + off, none⟩)) w := by
  obtain ⟨fs, fd, hu, hf, rfl, ht⟩ := fldOf_spec h
  simp only [Instr.fieldAt, Sem.run_bind, run_underlying' w hu, Result.andThen_ok, hf, Instr.sureAddr, fieldPlace, run_sizeOf' w ht, hk, if_false, Sem.run_pure, Addr.add_none]

theorem eff_fieldAddr {t : TypeId} {x : Operand} {f off k : Nat} {ag : Bool} {id g i j : Nat} {ob : Ob} (hd : dstOK D.n o.dst = true) (ho : o.op = .fieldAddr t x f)
    (hf : fldOf P t f = some (off, k, ag)) (hk : k ≠ 0) (hx : D.ev x = .ptr id g i j) (hs : sget D.st id = some ob) (hg : ob.gen = g) (hj : j + off ≤ ob.k) :
    Eff P o D ⟨.ptr id g i (j + off), []⟩ :=
  Eff.pure hd fun s hs' F β a w hR => by
    have h := hR.evA hs' hx
    have hst := hs'.st _ _ hs
    generalize hv : a.eval x = v at h
    cases h with
    | @ptr _ _ _ _ b ob' h1 h2 h3 h4 h5 =>
      rw [hst] at h1; cases h1
      refine ⟨_, ?_, .ptr hst hg h3 h4 hj⟩
      simp only [execOp, ho, hv, Sem.run_bind, run_fieldAt hf hk, Result.andThen_ok, Sem.run_pure, Nat.add_assoc]
    | stalep h1 h2 => rw [hst] at h1; cases h1; omega

theorem eff_fieldAddrT {t : TypeId} {x : Operand} {f off k : Nat} {ag : Bool} {cs : List Tr} (hd : dstOK D.n o.dst = true) (ho : o.op = .fieldAddr t x f)
    (hf : fldOf P t f = some (off, k, ag)) (hk : k ≠ 0) (hx : D.ev x = .t (.ptr cs)) :
    Eff P o D ⟨.t (.ptr (cs.drop off)), []⟩ :=
  Eff.pure hd fun s hs' F β a w hR => by
    have h := hR.evT hs' hx
    generalize hv : a.eval x = v at h
    cases h with
    | ptr cs b p vs hb hF h1 hc hva =>
      refine ⟨_, ?_, .t (.ptr (cs.drop off) b (p + off) (fun n => vs (off + n)) hb hF (fun n c hn => ?_) (fun n c hn => ?_) (fun n c hn => ?_))⟩
      · simp only [execOp, ho, hv, Sem.run_bind, run_fieldAt hf hk, Result.andThen_ok, Sem.run_pure]
      · exact h1 (off + n) c (by rw [List.getElem?_drop] at hn; exact hn)
      · have := hc (off + n) c (by rw [List.getElem?_drop] at hn; exact hn)
        rw [← Nat.add_assoc] at this; exact this
      · exact hva (off + n) c (by rw [List.getElem?_drop] at hn; exact hn)

/-- The element type's size behind a slice type. -/
def elemOf (P : Program) (t : TypeId) : Option (TypeId × Nat × Bool) :=
  match P.underlying t with
  | some (.slice e) => match tinf P e with
    | some (k, g) => some (e, k, g)
    | none => none
  | _ => none

theorem elemOf_spec {t e : TypeId} {k : Nat} {g : Bool} (h : elemOf P t = some (e, k, g)) : P.underlying t = some (.slice e) ∧ tinf P e = some (k, g) := by
  unfold elemOf at h
  split at h
  · rename_i e' hu
    split at h
    · rename_i k' g' ht
      cases h; exact ⟨hu, ht⟩
    · cases h
  · cases h

theorem run_indexAt_slice {t e : TypeId} {k : Nat} {g : Bool} (h : elemOf P t = some (e, k, g)) (w : World) (b p len cap i : Nat) (ik : IntKind) (hi : i < len) :
    (Instr.indexAt t (.slice (some ⟨b, p, none⟩) len cap) (.int ik i)).run P w = .ok (.pointer (some ⟨b, p + i * k, none⟩)) w := by
  obtain ⟨hu, ht⟩ := elemOf_spec h
  have h1 : (0 : Int) ≤ (i : Int) ∧ (i : Int) < (len : Int) := ⟨by omega, by omega⟩
  simp [Instr.indexAt, asIntOf, run_underlying' w hu, h1, run_sizeOf' w ht, Addr.add_none, hi]

theorem eff_indexAddrT {t e : TypeId} {x ix : Operand} {k : Nat} {ag fl : Bool} {ik : IntKind} {n : Int} {i : Nat} {xs : List Tr} {y : Tr} (hd : dstOK D.n o.dst = true)
    (ho : o.op = .indexAddr t x ix) (ht : elemOf P t = some (e, k, ag)) (hx : D.ev x = .t (.sl xs fl)) (hi : D.ev ix = .t (.int ik n)) (hn : n = (i : Int))
    (hy : xs[i]? = some y) (hk : y.cells.length = k) (hk0 : k ≠ 0) : Eff P o D ⟨.t (.ptr y.cells), []⟩ :=
  Eff.pure hd fun s hs' F β a w hR => by
    subst hn
    have h := hR.evT hs' hx
    have hiv := hR.evInt hs' hi
    have hlt : i < xs.length := by
      rcases Nat.lt_or_ge i xs.length with h | h
      · exact h
      · rw [List.getElem?_eq_none h] at hy; cases hy
    generalize hv : a.eval x = v at h
    cases h with
    | nils f => simp at hlt
    | nilsE f ad => simp at hlt
    | sl xs f k' b p cap vs hb hF hf hcap hkk h1 hc hva =>
      have hke : k' = k := by rw [← hk]; exact (hkk i y hy).2.symm
      subst hke
      refine ⟨_, ?_, .t (.ptr y.cells b (p + i * k') (fun j => vs i j) hb hF (fun j c hj => h1 i y j c hy hj) (fun j c hj => ?_) (fun j c hj => hva i y j c hy hj))⟩
      · simp only [execOp, ho, hv, hiv, Sem.run_bind, run_indexAt_slice ht w _ _ _ _ i ik hlt, Result.andThen_ok, Sem.run_pure]
      · exact hc i y j c hy hj

theorem eff_indexAddr {t e : TypeId} {x ix : Operand} {k : Nat} {ag : Bool} {ik : IntKind} {n : Int} {i id g off len : Nat} {ob : Ob} (hd : dstOK D.n o.dst = true)
    (ho : o.op = .indexAddr t x ix) (ht : elemOf P t = some (e, k, ag)) (hx : D.ev x = .own id g off len) (hi : D.ev ix = .t (.int ik n)) (hn : n = (i : Int))
    (hs : sget D.st id = some ob) (hg : ob.gen = g) (hk : ob.k = k) (hlt : i < len) : Eff P o D ⟨.ptr id g (off + i) 0, []⟩ :=
  Eff.pure hd fun s hs' F β a w hR => by
    subst hn
    have h := hR.evA hs' hx
    have hiv := hR.evInt hs' hi
    have hst := hs'.st _ _ hs
    generalize hv : a.eval x = v at h
    cases h with
    | @own _ _ _ _ b cap ob' c h1 h2 h3 h4 h5 h6 h7 =>
      rw [hst] at h1; cases h1
      refine ⟨_, ?_, .ptr hst hg h3 (by omega) (Nat.zero_le _)⟩
      simp only [execOp, ho, hv, hiv, Sem.run_bind, run_indexAt_slice ht w _ _ _ _ i ik hlt, Result.andThen_ok, Sem.run_pure]
      subst hk
      rw [← Nat.add_mul, Nat.add_zero]
    | ownNil => omega
    | ownZ => omega
    | ownE => omega
    | stale h1 h2 => rw [hst] at h1; cases h1; omega

/-! ### Loads -/

theorem eff_load {t : TypeId} {x : Operand} {k id g i j : Nat} {ag : Bool} {y : AV} (hd : dstOK D.n o.dst = true) (ho : o.op = .load t x) (ht : tinf P t = some (k, ag))
    (hx : D.ev x = .ptr id g i j) (hl : LoadA D.st id g i j k ag y) : Eff P o D ⟨y, []⟩ :=
  Eff.pure hd fun s hs' F β a w hR => by
    have h := hR.evA hs' hx
    have hl' : LoadA s.st id g i j k ag y := by
      cases hl with
      | whole h1 h2 h3 h4 h5 h6 => exact .whole (hs'.st _ _ h1) h2 h3 h4 h5 h6
      | sub h1 h2 h3 h4 => exact .sub (hs'.st _ _ h1) h2 h3 h4
      | one h1 h2 h3 h4 => exact .one (hs'.st _ _ h1) h2 h3 h4
    obtain ⟨ad, u, hv, hrun, hva⟩ := hR.load ht hl' h
    refine ⟨u, ?_, hva⟩
    simp only [execOp, ho, hv, Instr.loadAt, Instr.sureAddr, Sem.run_bind, Sem.run_pure, Result.andThen_ok, hrun]

theorem eff_loadT {t : TypeId} {x : Operand} {k : Nat} {cs ys : List Tr} (hd : dstOK D.n o.dst = true) (ho : o.op = .load t x) (ht : tinf P t = some (k, true))
    (hx : D.ev x = .t (.ptr cs)) (hy : cs.take k = ys) (hk : ys.length = k) : Eff P o D ⟨.t (.agg ys), []⟩ :=
  Eff.pure hd fun s hs' F β a w hR => by
    have h := hR.evT hs' hx
    generalize hv : a.eval x = v at h
    cases h with
    | ptr cs b p vs hb hF h1 hc hva =>
      have hget : ∀ n, n < k → cs[n]? = ys[n]? := by
        intro n hn
        rw [← hy, List.getElem?_take_of_lt hn]
      have hsome : ∀ n, n < k → ∃ c, cs[n]? = some c := fun n hn => by
        rw [hget n hn]; exact ⟨_, List.getElem?_eq_getElem (by omega)⟩
      refine ⟨_, ?_, .t (.agg ys ((List.range k).map vs) (by simp [hk]) (fun n c hn => ?_) (fun n c u hn hu => ?_))⟩
      · have hrun := run_loadVar_agg (P := P) (w := w) (b := b) (o := p) ht vs (fun n hn => by
          obtain ⟨c, hc'⟩ := hsome n hn
          exact hc n c hc')
        simp only [execOp, ho, hv, Instr.loadAt, Instr.sureAddr, Sem.run_bind, Sem.run_pure, Result.andThen_ok, hrun]
      · have hnk : n < k := by
          rcases Nat.lt_or_ge n k with h | h
          · exact h
          · rw [List.getElem?_eq_none (by omega)] at hn; cases hn
        exact h1 n c (by rw [hget n hnk]; exact hn)
      · have hnk : n < k := by
          rcases Nat.lt_or_ge n k with h | h
          · exact h
          · rw [List.getElem?_eq_none (by omega)] at hn; cases hn
        rw [List.getElem?_map, List.getElem?_range hnk] at hu
        simp at hu; subst hu
        exact hva n c (by rw [hget n hnk]; exact hn)

theorem eff_loadT1 {t : TypeId} {x : Operand} {k : Nat} {cs : List Tr} {y : Tr} (hd : dstOK D.n o.dst = true) (ho : o.op = .load t x) (ht : tinf P t = some (k, false))
    (hx : D.ev x = .t (.ptr cs)) (hy : cs[0]? = some y) : Eff P o D ⟨.t y, []⟩ :=
  Eff.pure hd fun s hs' F β a w hR => by
    have h := hR.evT hs' hx
    generalize hv : a.eval x = v at h
    cases h with
    | ptr cs b p vs hb hF h1 hc hva =>
      refine ⟨_, ?_, .t (hva 0 y hy)⟩
      have hrun := run_loadVar_one (P := P) (w := w) (b := b) (o := p) ht (hc 0 y hy)
      simp only [execOp, ho, hv, Instr.loadAt, Instr.sureAddr, Sem.run_bind, Sem.run_pure, Result.andThen_ok, hrun]

/-! ### len, closures -/

theorem eff_lenT {t : TypeId} {x : Operand} {e : TypeId} {k : Nat} {ag fl : Bool} {xs : List Tr} (hd : dstOK D.n o.dst = true)
    (ho : o.op = .call { callee := .builtin .len, args := #[x], argTypes := #[t] }) (ht : elemOf P t = some (e, k, ag)) (hx : D.ev x = .t (.sl xs fl)) :
    Eff P o D ⟨.t (.int .i64 xs.length), []⟩ :=
  Eff.pure hd fun s hs' F β a w hR => by
    have h := hR.evT hs' hx
    have hu := (elemOf_spec ht).1
    generalize hv : a.eval x = v at h
    have key : ∀ (b : Option Addr) (cap : Nat), v = .slice b xs.length cap → (execOp a.eval o).run P w = .ok (.value (.int .i64 xs.length)) w := by
      intro b cap hb
      subst hb
      simp only [execOp, ho, resolve, hv, invoke, builtin, Builtin.len_, List.map_toArray, List.map_cons, List.map_nil, Sem.run_bind, Sem.run_pure, Result.andThen_ok, List.getElem?_toArray, List.getElem?_cons_zero,
        run_underlying' w hu, goInt]
    cases h with
    | nils f => exact ⟨_, key none 0 rfl, .t (.int _ _)⟩
    | nilsE f ad => exact ⟨_, key _ 0 rfl, .t (.int _ _)⟩
    | sl xs f k' b p cap vs hb hF hf hcap hkk h1 hc hva => exact ⟨_, key _ cap rfl, .t (.int _ _)⟩

theorem eff_len {t : TypeId} {x : Operand} {e : TypeId} {k id g off len : Nat} {ag : Bool} {ob : Ob} (hd : dstOK D.n o.dst = true)
    (ho : o.op = .call { callee := .builtin .len, args := #[x], argTypes := #[t] }) (ht : elemOf P t = some (e, k, ag)) (hx : D.ev x = .own id g off len)
    (hs : sget D.st id = some ob) (hg : ob.gen = g) : Eff P o D ⟨.t (.int .i64 len), []⟩ :=
  Eff.pure hd fun s hs' F β a w hR => by
    have h := hR.evA hs' hx
    have hu := (elemOf_spec ht).1
    have hst := hs'.st _ _ hs
    generalize hv : a.eval x = v at h
    have key : ∀ (b : Option Addr) (cap : Nat), v = .slice b len cap → (execOp a.eval o).run P w = .ok (.value (.int .i64 len)) w := by
      intro b cap hb
      subst hb
      simp only [execOp, ho, resolve, hv, invoke, builtin, Builtin.len_, List.map_toArray, List.map_cons, List.map_nil, Sem.run_bind, Sem.run_pure, Result.andThen_ok, List.getElem?_toArray, List.getElem?_cons_zero,
        run_underlying' w hu, goInt]
    cases h with
    | own => exact ⟨_, key _ _ rfl, .t (.int _ _)⟩
    | ownNil => exact ⟨_, key _ _ rfl, .t (.int _ _)⟩
    | ownZ => exact ⟨_, key _ _ rfl, .t (.int _ _)⟩
    | ownE => exact ⟨_, key _ _ rfl, .t (.int _ _)⟩
    | stale h1 h2 => rw [hst] at h1; cases h1; omega

/-- A closure: the captured values are pointers or trees. -/
theorem eff_makeFunc {f : FuncId} {cap : Array Operand} {cs : List AV} {v : AV} (hd : dstOK D.n o.dst = true) (ho : o.op = .makeFunc (.func f) #[] cap)
    (hc : cap.toList.map D.ev = cs) (hv : v = match allT cs with | some xs => .t (.fn f xs) | none => .fn f cs) : Eff P o D ⟨v, []⟩ :=
  Eff.pure hd fun s hs' F β a w hR => by
    have hva : ∀ (j : Nat) (c : AV) (u : Value), cs[j]? = some c → (cap.toList.map a.eval)[j]? = some u → VA w (G F β s.st) β s.st c u := by
      intro j c u hj hu
      rw [← hc, List.getElem?_map, Option.map_eq_some_iff] at hj
      obtain ⟨x, hx, rfl⟩ := hj
      rw [List.getElem?_map, hx] at hu
      simp at hu; subst hu
      exact hR.evA hs' rfl
    have hl : (cap.toList.map a.eval).length = cs.length := by rw [← hc]; simp
    refine ⟨.func (.func f) #[] (cap.toList.map a.eval).toArray, ?_, ?_⟩
    · simp only [execOp, ho, Instr.makeFunc, Sem.run_bind, Sem.run_pure, Result.andThen_ok]
      have he : Array.map a.eval cap = (List.map a.eval cap.toList).toArray := by
        apply Array.ext'
        simp
      rw [he, show Array.map a.eval #[] = #[] from by simp]
    · subst hv
      split
      · rename_i xs hx
        have := allT_eq _ _ hx
        subst this
        refine .t (.fn f xs _ (by simpa using hl) (fun j c u hj hu => ?_))
        have := hva j (.t c) u (by simp [hj]) hu
        cases this with
        | t h => exact h
      · exact .fn hl hva

end Go.Tv

end
section
namespace Go.Tv

section
variable {F : Nat → Prop} {β : Nat → Option Nat} {s : St} {a : Act} {w : World}

/-- A new object in a new block. -/
theorem Rel.new (hr : Rel F β s a w) {id : Nat} {ob : Ob} {c : Array Value} (hid : ∀ ob₀, sget s.st id = some ob₀ → ob₀.gen < ob.gen) (hsz : ob.els.length * ob.k ≤ c.size)
    (hk : ∀ (i : Nat) x, ob.els[i]? = some x → x.noTup = true ∧ x.cells.length = ob.k)
    (hc : ∀ (i : Nat) x (j : Nat) y, ob.els[i]? = some x → x.cells[j]? = some y → y.one = true ∧ ∃ v, c[i * ob.k + j]? = some v ∧ VA w (G F β s.st) β s.st y v)
    {d : Option Tmp} (hd : dstOK s.n d = true) {x : AV} {v : Value}
    (hx : ∀ β', β' id = some w.heap.size → VA (w.alloc (.cells c ob.ty)) (G F β' (sput s.st id (some ob))) β' (sput s.st id (some ob)) x v) :
    ∃ β', Rel F β' { n := s.n, fr := fputO s.fr d x, st := sput s.st id (some ob) } (a.put d v) (w.alloc (.cells c ob.ty)) ∧
      Evo s.st β w (sput s.st id (some ob)) β' (w.alloc (.cells c ob.ty)) := by
  let β' : Nat → Option Nat := fun n => if n = id then some w.heap.size else β n
  have hβid : β' id = some w.heap.size := by simp [β']
  have hβne : ∀ n, n ≠ id → β' n = β n := fun n hn => by simp [β', hn]
  have hold : ∀ n o, sget (sput s.st id (some ob)) n = some o → n ≠ id → sget s.st n = some o := fun n o h hn => by
    rw [sget_sput_ne _ _ _ _ hn] at h; exact h
  have hlt : ∀ n o b, sget s.st n = some o → β n = some b → b < w.heap.size := by
    intro n o b hn hb
    rcases hr.ob n o hn with ⟨h0, _⟩ | ⟨b', c', hb', hh, _⟩
    · rw [hb] at h0; cases h0
    · rw [hb] at hb'; cases hb'; exact lt_of_heap hh
  have hsize : (w.alloc (.cells c ob.ty)).heap.size = w.heap.size + 1 := by simp
  have hheap : ∀ b, b < w.heap.size → (w.alloc (.cells c ob.ty)).heap[b]? = w.heap[b]? := fun b hb => RowKit.Below.heap_alloc w _ b hb
  have hown : ∀ b, Owned β' (sput s.st id (some ob)) b → b = w.heap.size ∨ Owned β s.st b := by
    rintro b ⟨n, o, hn, hb⟩
    by_cases e : n = id
    · subst e; rw [hβid] at hb; cases hb; exact .inl rfl
    · exact .inr ⟨n, o, hold n o hn e, (hβne n e).symm.trans hb⟩
  have hG : ∀ b, b < w.heap.size → ¬ G F β s.st b → ¬ G F β' (sput s.st id (some ob)) b ∧ (w.alloc (.cells c ob.ty)).heap[b]? = w.heap[b]? := by
    intro b hb hn
    refine ⟨fun h => ?_, hheap b hb⟩
    rcases h with h | h
    · exact hn (.inl h)
    · rcases hown b h with h | h
      · omega
      · exact hn (.inr h)
  have hturn : Turns w (w.alloc (.cells c ob.ty)) β β' s.st (sput s.st id (some ob)) := by
    intro n o hn
    by_cases hne : n = id
    · subst hne
      exact ⟨ob, sget_sput_same _ _ _, .inl (hid o hn)⟩
    refine ⟨o, by rw [sget_sput_ne _ _ _ _ hne]; exact hn, .inr ⟨rfl, rfl, rfl, rfl, hβne n hne, fun b c' hb hh => ⟨c', ?_, rfl⟩⟩⟩
    rw [hheap b (hlt n o b hn hb)]; exact hh
  have hmono : ∀ {y : AV} {u : Value}, VA w (G F β s.st) β s.st y u → VA (w.alloc (.cells c ob.ty)) (G F β' (sput s.st id (some ob))) β' (sput s.st id (some ob)) y u :=
    fun h => VA.mono (by rw [hsize]; omega) hG hturn h
  refine ⟨β', ⟨?_, ?_, ?_, ?_, ?_, ?_, ?_⟩, ⟨rfl, .refl _, rfl, by rw [hsize]; omega, fun b hb _ => hheap b hb, fun b hb => (hown b hb).imp (fun h => by omega) _root_.id, fun b c' _ h => ⟨c', (hheap b (lt_of_heap h)).trans h, rfl⟩⟩⟩
  · rw [(Act.put_tmps _ _ _).2]; exact hr.defers
  · rw [(Act.put_tmps _ _ _).1]; exact hr.size
  · exact put_fr hr.size hd (hx β' hβid) (fun i => hmono (hr.fr i))
  · intro n o hn
    by_cases e : n = id
    · subst e
      rw [sget_sput_same] at hn; cases hn
      refine .inr ⟨w.heap.size, c, hβid, (by show (w.heap.push _)[w.heap.size]? = _; simp), hsz, hk, fun i x j y hx' hy => ?_⟩
      obtain ⟨h1, u, hu, hva⟩ := hc i x j y hx' hy
      exact ⟨h1, u, hu, hmono hva⟩
    · rcases hr.ob n o (hold n o hn e) with ⟨h0, h1⟩ | ⟨b, c', hb, hh, hs, hk', hcell⟩
      · exact .inl ⟨(hβne n e).trans h0, h1⟩
      · refine .inr ⟨b, c', (hβne n e).trans hb, by rw [hheap b (lt_of_heap hh)]; exact hh, hs, hk', fun i x j y hx' hy => ?_⟩
        obtain ⟨h1, u, hu, hva⟩ := hcell i x j y hx' hy
        exact ⟨h1, u, hu, hmono hva⟩
  · intro i j oi oj b hi hj hbi hbj
    by_cases ei : i = id
    · subst ei
      rw [hβid] at hbi; cases hbi
      by_cases ej : j = i
      · exact ej.symm
      · have := hlt j oj w.heap.size (hold j oj hj ej) ((hβne j ej).symm.trans hbj); omega
    · by_cases ej : j = id
      · subst ej
        rw [hβid] at hbj; cases hbj
        have := hlt i oi w.heap.size (hold i oi hi ei) ((hβne i ei).symm.trans hbi); omega
      · exact hr.inj i j oi oj b (hold i oi hi ei) (hold j oj hj ej) ((hβne i ei).symm.trans hbi) ((hβne j ej).symm.trans hbj)
  · intro i oi b hi hb hF
    by_cases ei : i = id
    · subst ei
      rw [hβid] at hb; cases hb
      have := hr.ltF _ hF; omega
    · exact hr.notF i oi b (hold i oi hi ei) ((hβne i ei).symm.trans hb) hF
  · intro b hb
    rw [hsize]
    have := hr.ltF b hb; omega

/-- An object whose cells are written in place. -/
theorem Rel.upd (hr : Rel F β s a w) {id b : Nat} {ob : Ob} {c c' : Array Value} {els' : List AV} {g' : Nat} (hs : sget s.st id = some ob) (hb : β id = some b)
    (hh : w.heap[b]? = some (.cells c ob.ty (0, 0))) (hcs : c'.size = c.size) (hl : (g' = ob.gen ∧ els'.length = ob.els.length) ∨ ob.gen < g') (hsz : els'.length * ob.k ≤ c.size)
    (hk : ∀ (i : Nat) x, els'[i]? = some x → x.noTup = true ∧ x.cells.length = ob.k)
    (hc : ∀ (i : Nat) x (j : Nat) y, els'[i]? = some x → x.cells[j]? = some y → y.one = true ∧ ∃ v, c'[i * ob.k + j]? = some v ∧ VA w (G F β s.st) β s.st y v) :
    Rel F β { n := s.n, fr := s.fr, st := sput s.st id (some { ob with gen := g', els := els' }) } a (setB w b (.cells c' ob.ty (0, 0))) ∧
      Evo s.st β w (sput s.st id (some { ob with gen := g', els := els' })) β (setB w b (.cells c' ob.ty (0, 0))) ∧
      ∀ {y : AV} {u : Value}, VA w (G F β s.st) β s.st y u →
        VA (setB w b (.cells c' ob.ty (0, 0))) (G F β (sput s.st id (some { ob with gen := g', els := els' }))) β (sput s.st id (some { ob with gen := g', els := els' })) y u := by
  have hblt := lt_of_heap hh
  have hne : ∀ n o bn, sget s.st n = some o → β n = some bn → n ≠ id → bn ≠ b := fun n o bn hn hbn e eb => by
    subst eb; exact e (hr.inj n id o ob bn hn hs hbn hb)
  have hown : ∀ b', Owned β (sput s.st id (some { ob with gen := g', els := els' })) b' → Owned β s.st b' := by
    rintro b' ⟨n, o, hn, hb'⟩
    by_cases e : n = id
    · subst e; exact ⟨n, ob, hs, hb'⟩
    · rw [sget_sput_ne _ _ _ _ e] at hn; exact ⟨n, o, hn, hb'⟩
  have hOb : Owned β s.st b := ⟨id, ob, hs, hb⟩
  have hG : ∀ b', b' < w.heap.size → ¬ G F β s.st b' → ¬ G F β (sput s.st id (some { ob with gen := g', els := els' })) b' ∧ (setB w b (.cells c' ob.ty (0, 0))).heap[b']? = w.heap[b']? := by
    intro b' hb' hn
    refine ⟨fun h => hn (h.imp _root_.id (hown b')), setB_ne _ (fun e => hn (.inr (e ▸ hOb)))⟩
  have hturn : Turns w (setB w b (.cells c' ob.ty (0, 0))) β β s.st (sput s.st id (some { ob with gen := g', els := els' })) := by
    intro n o hn
    by_cases e : n = id
    · subst e
      rw [hs] at hn; cases hn
      refine ⟨_, sget_sput_same _ _ _, hl.symm.imp _root_.id (fun hl => ⟨hl.1, rfl, rfl, hl.2, rfl, fun b' c'' hb' hh' => ?_⟩)⟩
      rw [hb] at hb'; cases hb'
      rw [hh] at hh'; cases hh'
      exact ⟨c', setB_same _ hblt, hcs⟩
    · refine ⟨o, by rw [sget_sput_ne _ _ _ _ e]; exact hn, .inr ⟨rfl, rfl, rfl, rfl, rfl, fun b' c'' hb' hh' => ⟨c'', ?_, rfl⟩⟩⟩
      rw [setB_ne _ (hne n o b' hn hb' e)]; exact hh'
  have hmono : ∀ {y : AV} {u : Value}, VA w (G F β s.st) β s.st y u →
      VA (setB w b (.cells c' ob.ty (0, 0))) (G F β (sput s.st id (some { ob with gen := g', els := els' }))) β (sput s.st id (some { ob with gen := g', els := els' })) y u :=
    fun h => VA.mono (Nat.le_of_eq (setB_size _ _ _).symm) hG hturn h
  refine ⟨⟨hr.defers, hr.size, fun i => hmono (hr.fr i), ?_, ?_, ?_, ?_⟩, ⟨rfl, .refl _, rfl, Nat.le_of_eq (setB_size _ _ _).symm, fun b' hb' hn => setB_ne _ (fun e => hn (e ▸ hOb)), fun b' h => .inr (hown b' h), fun b' c'' ty' h => by
    by_cases e : b' = b
    · subst e; rw [hh] at h; cases h; exact ⟨c', setB_same _ hblt, hcs⟩
    · exact ⟨c'', (setB_ne _ e).trans h, rfl⟩⟩, hmono⟩
  · intro n o hn
    by_cases e : n = id
    · subst e
      rw [sget_sput_same] at hn; cases hn
      refine .inr ⟨b, c', hb, setB_same _ hblt, ?_, hk, fun i x j y hx hy => ?_⟩
      · show els'.length * ob.k ≤ c'.size
        rw [hcs]; exact hsz
      · obtain ⟨h1, u, hu, hva⟩ := hc i x j y hx hy
        exact ⟨h1, u, hu, hmono hva⟩
    · rw [sget_sput_ne _ _ _ _ e] at hn
      rcases hr.ob n o hn with ⟨h0, h1⟩ | ⟨b2, c2, hb2, hh2, hs2, hk', hcell⟩
      · exact .inl ⟨h0, h1⟩
      · refine .inr ⟨b2, c2, hb2, by rw [setB_ne _ (hne n o b2 hn hb2 e)]; exact hh2, hs2, hk', fun i x j y hx' hy => ?_⟩
        obtain ⟨h1, u, hu, hva⟩ := hcell i x j y hx' hy
        exact ⟨h1, u, hu, hmono hva⟩
  · intro i j oi oj b' hi hj hbi hbj
    obtain ⟨oi', hi'⟩ : ∃ o, sget s.st i = some o := by
      by_cases e : i = id
      · subst e; exact ⟨ob, hs⟩
      · rw [sget_sput_ne _ _ _ _ e] at hi; exact ⟨oi, hi⟩
    obtain ⟨oj', hj'⟩ : ∃ o, sget s.st j = some o := by
      by_cases e : j = id
      · subst e; exact ⟨ob, hs⟩
      · rw [sget_sput_ne _ _ _ _ e] at hj; exact ⟨oj, hj⟩
    exact hr.inj i j oi' oj' b' hi' hj' hbi hbj
  · intro i oi b' hi hb'
    by_cases e : i = id
    · subst e; exact hr.notF i ob b' hs hb'
    · rw [sget_sput_ne _ _ _ _ e] at hi; exact hr.notF i oi b' hi hb'
  · intro b' hb'
    rw [setB_size]; exact hr.ltF b' hb'

theorem Rel.put (hr : Rel F β s a w) {d : Option Tmp} (hd : dstOK s.n d = true) {x : AV} {v : Value} (hx : VA w (G F β s.st) β s.st x v) :
    Rel F β { n := s.n, fr := fputO s.fr d x, st := s.st } (a.put d v) w where
  defers := by rw [(Act.put_tmps _ _ _).2]; exact hr.defers
  size := by rw [(Act.put_tmps _ _ _).1]; exact hr.size
  fr := put_fr hr.size hd hx hr.fr
  ob := hr.ob
  inj := hr.inj
  notF := hr.notF
  ltF := hr.ltF
end

/-! ### Zero values -/

def const1 : Value → Option Tr
  | .bool b => some (.bool b)
  | .int k n => some (.int k n)
  | .string s => some (.str s)
  | .pointer none => some .nilp
  | .slice none 0 0 => some (.sl [] true)
  | .nilFunc => some .nilf
  | .map none => some .mpn
  | _ => none

def constL : List Value → Option (List Tr)
  | [] => some []
  | v :: l => match const1 v, constL l with
    | some x, some xs => some (x :: xs)
    | _, _ => none

def constT : Value → Option Tr
  | .agg cs => match constL cs.toList with
    | some xs => some (.agg xs)
    | none => none
  | v => const1 v

theorem const1_v {v : Value} {x : Tr} (h : const1 v = some x) (w : World) (H : Nat → Prop) : V w H x v ∧ x.one = true := by
  unfold const1 at h
  split at h <;> first | (cases h; done) | (cases h; refine ⟨?_, rfl⟩; first | exact .bool _ | exact .int _ _ | exact .str _ | exact .nilp | exact .nils _ | exact .nilf | exact .mpn)

theorem constL_v : ∀ {vs : List Value} {xs : List Tr}, constL vs = some xs → ∀ (w : World) (H : Nat → Prop), vs.length = xs.length ∧
    (∀ (j : Nat) c, xs[j]? = some c → c.one = true) ∧ ∀ (j : Nat) c v, xs[j]? = some c → vs[j]? = some v → V w H c v
  | [], xs, h, w, H => by simp [constL] at h; subst h; simp
  | v :: l, xs, h, w, H => by
    simp only [constL] at h
    split at h
    · rename_i x ys hx hy
      cases h
      obtain ⟨h1, h2, h3⟩ := constL_v hy w H
      refine ⟨by simp [h1], fun j c hc => ?_, fun j c u hc hu => ?_⟩
      · cases j with
        | zero => simp at hc; subst hc; exact (const1_v hx w H).2
        | succ j => exact h2 j c (by simpa using hc)
      · cases j with
        | zero => simp at hc hu; subst hc; subst hu; exact (const1_v hx w H).1
        | succ j => exact h3 j c u (by simpa using hc) (by simpa using hu)
    · cases h

theorem constT_v {v : Value} {x : Tr} (h : constT v = some x) (w : World) (H : Nat → Prop) : V w H x v ∧ x.noTup = true ∧ v.cells.size = x.cells.length := by
  have one : ∀ {v : Value} {x : Tr}, const1 v = some x → V w H x v ∧ x.noTup = true ∧ v.cells.size = x.cells.length := by
    intro v x h
    refine ⟨(const1_v h w H).1, ?_, ?_⟩ <;> (unfold const1 at h; split at h <;> first | (cases h; done) | (cases h; rfl))
  unfold constT at h
  split at h
  · rename_i cs
    split at h
    · rename_i xs hx
      cases h
      obtain ⟨h1, h2, h3⟩ := constL_v hx w H
      have := V.agg (w := w) (F := H) xs cs.toList h1 h2 h3
      exact ⟨by simpa using this, rfl, by simpa [Value.cells, Tr.cells] using h1⟩
    · cases h
  · exact one h

/-- The tree of a type's zero value. -/
def zeroOf (P : Program) (t : TypeId) : Option Tr :=
  match P.info? t with
  | some i => match i.zero with
    | some v => constT v
    | none => none
  | none => none

theorem zeroOf_run {P : Program} {t : TypeId} {x : Tr} (h : zeroOf P t = some x) (w : World) (H : Nat → Prop) :
    ∃ v, (zeroValue t).run P w = .ok v w ∧ V w H x v ∧ x.noTup = true ∧ v.cells.size = x.cells.length := by
  unfold zeroOf at h
  split at h
  · rename_i i hi
    split at h
    · rename_i v hv
      refine ⟨v, ?_, constT_v h w H⟩
      simp only [zeroValue, Sem.run_bind, run_typeInfo' w hi, Result.andThen_ok, hv, Sem.run_pure]
    · cases h
  · cases h

variable {P : Program} {o : Oper} {D : St}

/-- The cells of a value that stands for x, as an object's one element. -/
theorem one_el {w : World} {H : Nat → Prop} {β : Nat → Option Nat} {σ : Sto} {x : AV} {v : Value} (h : VA w H β σ x v) (hn : x.noTup = true) :
    ∀ (i : Nat) y (j : Nat) z, [x][i]? = some y → y.cells[j]? = some z → z.one = true ∧ ∃ u, v.cells[i * x.cells.length + j]? = some u ∧ VA w H β σ z u := by
  intro i y j z hy hz
  obtain ⟨h1, h2, h3, h4⟩ := h.cells hn
  cases i with
  | zero =>
    simp at hy; subst hy
    have hj : j < x.cells.length := by
      rcases Nat.lt_or_ge j x.cells.length with h | h
      · exact h
      · rw [List.getElem?_eq_none h] at hz; cases hz
    have hu : v.cells[j]? = some (v.cells[j]'(by omega)) := Array.getElem?_eq_getElem (by omega)
    exact ⟨h2 j z hz, _, by rw [Nat.zero_mul, Nat.zero_add]; exact hu, h4 j z _ hz hu⟩
  | succ i => simp at hy

/-- A new variable that holds a value. -/
theorem eff_box {t : TypeId} {x : Operand} {v : AV} {id : Nat} (hd : dstOK D.n o.dst = true) (ho : o.op = .box t x) (hx : D.ev x = v) (hn : v.noTup = true)
    (hid : sget D.st id = none) : Eff P o D ⟨.ptr id 0 0 0, [(id, ⟨v.cells.length, t, 0, [v]⟩)]⟩ := by
  intro s hs hfresh F β a w hr next Q hnext
  have hva := hr.evA hs hx
  have hid' := hfresh id _ (List.mem_singleton.2 rfl) hid
  obtain ⟨β', hrel, hev⟩ := hr.new (id := id) (ob := ⟨v.cells.length, t, 0, [v]⟩) (c := (a.eval x).cells) (fun _ h => by rw [hid'] at h; cases h) (by rw [(hva.cells hn).1]; simp)
    (fun i y hy => by
      cases i with
      | zero => simp at hy; subst hy; exact ⟨hn, rfl⟩
      | succ i => simp at hy)
    (one_el hva hn) (d := o.dst) (by rw [hs.n]; exact hd) (x := .ptr id 0 0 0) (v := .pointer (some ⟨w.heap.size, 0, none⟩))
    (fun β' hb => by
      have := VA.ptr (w := w.alloc (.cells (a.eval x).cells t)) (H := G F β' (sput s.st id (some ⟨v.cells.length, t, 0, [v]⟩))) (β := β') (i := 0) (j := 0)
        (sget_sput_same s.st id (some ⟨v.cells.length, t, 0, [v]⟩)) rfl hb (by simp) (Nat.zero_le _)
      simpa using this)
  unfold Oper.wp
  have hrun : (execOp a.eval o).run P w = .ok (.value (.pointer (some ⟨w.heap.size, 0, none⟩))) (w.alloc (.cells (a.eval x).cells t)) := by
    simp only [execOp, ho, Instr.box, newVar, newRow, Sem.run_bind, run_newObj, Result.andThen_ok, Sem.run_pure, World.alloc_eq]
  rw [hrun]
  exact hnext β' _ _ hrel hev

/-- A new variable that holds a type's zero value. -/
theorem eff_alloc {t : TypeId} {x : Tr} {id : Nat} (hd : dstOK D.n o.dst = true) (ho : o.op = .alloc t) (hz : zeroOf P t = some x)
    (hid : sget D.st id = none) : Eff P o D ⟨.ptr id 0 0 0, [(id, ⟨x.cells.length, t, 0, [.t x]⟩)]⟩ := by
  intro s hs hfresh F β a w hr next Q hnext
  have hid' := hfresh id _ (List.mem_singleton.2 rfl) hid
  obtain ⟨v, hzr, hV, hn, hsz⟩ := zeroOf_run hz w (G F β s.st)
  have hva : VA w (G F β s.st) β s.st (.t x) v := .t hV
  have hlen : (AV.t x).cells.length = x.cells.length := by simp [AV.cells]
  obtain ⟨β', hrel, hev⟩ := hr.new (id := id) (ob := ⟨x.cells.length, t, 0, [.t x]⟩) (c := v.cells) (fun _ h => by rw [hid'] at h; cases h) (by rw [hsz]; simp)
    (fun i y hy => by
      cases i with
      | zero => simp at hy; subst hy; exact ⟨hn, hlen⟩
      | succ i => simp at hy)
    (by have := one_el hva hn; rw [hlen] at this; exact this) (d := o.dst) (by rw [hs.n]; exact hd) (x := .ptr id 0 0 0) (v := .pointer (some ⟨w.heap.size, 0, none⟩))
    (fun β' hb => by
      have := VA.ptr (w := w.alloc (.cells v.cells t)) (H := G F β' (sput s.st id (some ⟨x.cells.length, t, 0, [.t x]⟩))) (β := β') (i := 0) (j := 0)
        (sget_sput_same s.st id (some ⟨x.cells.length, t, 0, [.t x]⟩)) rfl hb (by simp) (Nat.zero_le _)
      simpa using this)
  unfold Oper.wp
  have hrun : (execOp a.eval o).run P w = .ok (.value (.pointer (some ⟨w.heap.size, 0, none⟩))) (w.alloc (.cells v.cells t)) := by
    simp only [execOp, ho, Instr.alloc, hzr, newVar, newRow, Sem.run_bind, run_newObj, Result.andThen_ok, Sem.run_pure, World.alloc_eq]
  rw [hrun]
  exact hnext β' _ _ hrel hev

/-! ### Stores -/

def splice (l : List AV) (j : Nat) (ys : List AV) : List AV := l.take j ++ ys ++ l.drop (j + ys.length)

theorem splice_length {l ys : List AV} {j : Nat} (h : j + ys.length ≤ l.length) : (splice l j ys).length = l.length := by
  simp [splice]; omega

theorem splice_get {l ys : List AV} {j : Nat} (h : j + ys.length ≤ l.length) (n : Nat) :
    (splice l j ys)[n]? = if j ≤ n ∧ n < j + ys.length then ys[n - j]? else l[n]? := by
  unfold splice
  have hj : (l.take j).length = j := by simp; omega
  by_cases h1 : n < j
  · rw [if_neg (by omega), List.append_assoc, List.getElem?_append_left (by omega), List.getElem?_take_of_lt h1]
  · by_cases h2 : n < j + ys.length
    · rw [if_pos ⟨by omega, h2⟩, List.append_assoc, List.getElem?_append_right (by omega), List.getElem?_append_left (by omega), hj]
    · rw [if_neg (by omega), List.getElem?_append_right (by simp [hj]; omega)]
      simp only [List.length_append, hj, List.getElem?_drop]
      congr 1; omega

/-- The element behind a store of v at cell j. -/
inductive StoreEl (el : AV) (j k : Nat) (v : AV) : AV → Prop
  | whole (hj : j = 0) (hk : el.cells.length = k) : StoreEl el j k v v
  | sub (h : j + k ≤ el.cells.length) : StoreEl el j k v (mkAgg (splice el.cells j v.cells))

theorem mkAgg_cells (ys : List AV) : (mkAgg ys).cells = ys := by
  unfold mkAgg
  split
  · rename_i xs hx
    rw [allT_eq _ _ hx]; rfl
  · rfl

theorem mkAgg_noTup (ys : List AV) : (mkAgg ys).noTup = true := by
  unfold mkAgg
  split <;> rfl

theorem mul_add_le {k i n j : Nat} (hi : i < n) (hj : j ≤ k) : i * k + j ≤ n * k := by
  have : (i + 1) * k ≤ n * k := Nat.mul_le_mul_right k hi
  rw [Nat.add_mul] at this; omega

theorem eff_store {t : TypeId} {x y : Operand} {k id g i j : Nat} {ag : Bool} {ob : Ob} {el v el' : AV} (hd : dstOK D.n o.dst = true) (ho : o.op = .store t x y) (ht : tinf P t = some (k, ag))
    (hx : D.ev x = .ptr id g i j) (hy : D.ev y = v) (hn : v.noTup = true) (hvk : v.cells.length = k) (hs : sget D.st id = some ob) (hg : ob.gen = g)
    (he : ob.els[i]? = some el) (hse : StoreEl el j k v el') :
    Eff P o D ⟨.junk, [(id, { ob with els := ob.els.set i el' })]⟩ := by
  intro s hs' _ F β a w hr next Q hnext
  have hst := hs'.st _ _ hs
  have hpv := hr.evA hs' hx
  have hvv := hr.evA hs' hy
  obtain ⟨b, c, hb, hh, hpe, heln, helk, hsz, hcell⟩ := hr.cellsAt hst hg he hpv
  obtain ⟨hvs, hv1, hvo, hvc⟩ := hvv.cells hn
  have hi : i < ob.els.length := by
    rcases Nat.lt_or_ge i ob.els.length with h | h
    · exact h
    · rw [List.getElem?_eq_none h] at he; cases he
  have hjk : j + k ≤ ob.k := by
    cases hse with
    | whole hj hk => rw [← helk]; omega
    | sub h => rw [← helk]; exact h
  have hbound : i * ob.k + j + k ≤ c.size := by
    have := mul_add_le (k := ob.k) hi hjk; omega
  -- what the new element's cells are
  have hel' : el'.noTup = true ∧ el'.cells.length = ob.k ∧ ∀ n, el'.cells[n]? = if j ≤ n ∧ n < j + k then v.cells[n - j]? else el.cells[n]? := by
    cases hse with
    | whole hj hk =>
      subst hj
      refine ⟨hn, by rw [hvk, ← hk, helk], fun n => ?_⟩
      by_cases h : n < k
      · rw [if_pos (by omega)]; rfl
      · rw [if_neg (by omega), List.getElem?_eq_none (by omega), List.getElem?_eq_none (by omega)]
    | sub h =>
      refine ⟨mkAgg_noTup _, ?_, fun n => ?_⟩
      · rw [mkAgg_cells, splice_length (by omega), helk]
      · rw [mkAgg_cells, splice_get (by omega), hvk]
  have hwr := writeAt_get (a.eval y).cells.toList c (i * ob.k + j)
  have hlen : (a.eval y).cells.toList.length = k := by simp [hvs, hvk]
  rcases hr.ob id ob hst with ⟨h0, _⟩ | ⟨b2, c2, hb2, hh2, hs2, hk2, hcell2⟩
  · rw [hb] at h0; cases h0
  rw [hb] at hb2; cases hb2
  rw [hh] at hh2; cases hh2
  obtain ⟨hrel, hev, hmono⟩ := hr.upd (g' := ob.gen) (els' := ob.els.set i el') (c' := writeAt c (i * ob.k + j) (a.eval y).cells.toList) hst hb hh (writeAt_size _ _ _) (.inl ⟨rfl, by simp⟩) (by simpa using hsz)
    (fun i' z hz => by
      by_cases e : i = i'
      · subst e
        rw [List.getElem?_set_self hi] at hz; cases hz
        exact ⟨hel'.1, hel'.2.1⟩
      · rw [List.getElem?_set_ne e] at hz
        exact hk2 i' z hz)
    (fun i' z j' q hz hq => by
      have hj'k : j' < ob.k := by
        have hzl : z.cells.length = ob.k := by
          by_cases e : i = i'
          · subst e
            rw [List.getElem?_set_self hi] at hz; cases hz; exact hel'.2.1
          · rw [List.getElem?_set_ne e] at hz; exact (hk2 i' z hz).2
        rcases Nat.lt_or_ge j' z.cells.length with h | h
        · omega
        · rw [List.getElem?_eq_none h] at hq; cases hq
      by_cases e : i = i'
      · subst e
        rw [List.getElem?_set_self hi] at hz; cases hz
        rw [hel'.2.2 j'] at hq
        rw [hwr (i * ob.k + j') (by rw [hlen]; omega), hlen]
        by_cases hin : j ≤ j' ∧ j' < j + k
        · rw [if_pos hin] at hq
          rw [if_pos (by omega), show i * ob.k + j' - (i * ob.k + j) = j' - j from by omega]
          have hlt : j' - j < (a.eval y).cells.size := by omega
          have hu : (a.eval y).cells[j' - j]? = some ((a.eval y).cells[j' - j]'hlt) := Array.getElem?_eq_getElem hlt
          exact ⟨hv1 _ q hq, _, by rw [Array.getElem?_toList]; exact hu, hvc _ q _ hq hu⟩
        · rw [if_neg hin] at hq
          rw [if_neg (by omega)]
          exact hcell j' q hq
      · rw [List.getElem?_set_ne e] at hz
        rw [hwr (i' * ob.k + j') (by rw [hlen]; omega), hlen]
        have hout : ¬ (i * ob.k + j ≤ i' * ob.k + j' ∧ i' * ob.k + j' < i * ob.k + j + k) := by
          intro ⟨h1, h2⟩
          have : i = i' := by
            rcases Nat.lt_trichotomy i i' with h | h | h
            · have := mul_add_le (k := ob.k) (j := ob.k) h (Nat.le_refl _)
              have h3 : i * ob.k + ob.k ≤ i' * ob.k := by have := Nat.mul_le_mul_right ob.k h; rw [Nat.succ_mul] at this; exact this
              omega
            · exact h
            · have h3 : i' * ob.k + ob.k ≤ i * ob.k := by have := Nat.mul_le_mul_right ob.k h; rw [Nat.succ_mul] at this; exact this
              omega
          exact e this
        rw [if_neg hout]
        exact hcell2 i' z j' q hz hq)
  have hrun : (execOp a.eval o).run P w = .ok .skip (setB w b (.cells (writeAt c (i * ob.k + j) (a.eval y).cells.toList) ob.ty (0, 0))) := by
    have := run_storeVar (P := P) ht (w := w) (b := b) (o := i * ob.k + j) hh (v := a.eval y) (by rw [hvs, hvk]) hvo hbound
    simp only [execOp, ho, hpe, Instr.storeAt, Instr.sureAddr, Sem.run_bind, Sem.run_pure, Result.andThen_ok, this]
  unfold Oper.wp
  rw [hrun]
  exact hnext β _ _ (hrel.put (by show dstOK s.n o.dst = true; rw [hs'.n]; exact hd) (.junk undef)) hev

end Go.Tv

end
section
namespace Go.Tv

/-! ### Rows of cells and what they stand for -/

def CR (w : World) (H : Nat → Prop) (β : Nat → Option Nat) (σ : Sto) (c : Array Value) (ys : List AV) : Prop :=
  c.size = ys.length ∧ ∀ (j : Nat) (y : AV), ys[j]? = some y → y.one = true ∧ ∃ u, c[j]? = some u ∧ VA w H β σ y u

theorem lt_of_get {α : Type} {l : List α} {i : Nat} {x : α} (h : l[i]? = some x) : i < l.length := by
  rcases Nat.lt_or_ge i l.length with h' | h'
  · exact h'
  · rw [List.getElem?_eq_none h'] at h; cases h

theorem lt_of_getA {α : Type} {l : Array α} {i : Nat} {x : α} (h : l[i]? = some x) : i < l.size := by
  rcases Nat.lt_or_ge i l.size with h' | h'
  · exact h'
  · rw [Array.getElem?_eq_none h'] at h; cases h

section
variable {w : World} {H : Nat → Prop} {β : Nat → Option Nat} {σ : Sto}

theorem VA.cr {x : AV} {v : Value} (h : VA w H β σ x v) (hn : x.noTup = true) : CR w H β σ v.cells x.cells := by
  obtain ⟨h1, h2, h3, h4⟩ := h.cells hn
  refine ⟨h1, fun j y hy => ?_⟩
  have hj := lt_of_get hy
  have hu : v.cells[j]? = some (v.cells[j]'(by omega)) := Array.getElem?_eq_getElem (by omega)
  exact ⟨h2 j y hy, _, hu, h4 j y _ hy hu⟩

theorem CR.write {c d : Array Value} {ys zs : List AV} (h : CR w H β σ c ys) (hd : CR w H β σ d zs) {off : Nat} (hl : off + zs.length ≤ ys.length) :
    CR w H β σ (writeAt c off d.toList) (splice ys off zs) := by
  refine ⟨by rw [writeAt_size, splice_length hl]; exact h.1, fun j y hy => ?_⟩
  have hlen : d.toList.length = zs.length := by simp [hd.1]
  rw [splice_get hl] at hy
  rw [writeAt_get _ _ _ _ (by rw [hlen, h.1]; exact hl), hlen]
  split at hy
  · rename_i hin
    rw [if_pos hin]
    obtain ⟨h1, u, hu, hva⟩ := hd.2 (j - off) y hy
    exact ⟨h1, u, by rw [Array.getElem?_toList]; exact hu, hva⟩
  · rename_i hout
    rw [if_neg hout]
    exact h.2 j y hy

theorem CR.agg {c : Array Value} {ys : List AV} (h : CR w H β σ c ys) : VA w H β σ (mkAgg ys) (.agg c) := by
  have := VA.mkAgg (w := w) (H := H) (β := β) (σ := σ) (ys := ys) (vs := c.toList) (by simp [h.1]) (fun j y hy => (h.2 j y hy).1) (fun j y u hy hu => by
    obtain ⟨_, u', hu', hva⟩ := h.2 j y hy
    rw [Array.getElem?_toList, hu'] at hu
    cases hu; exact hva)
  simpa using this

theorem zipIdx_foldl : ∀ (l : List Value) (off i : Nat) (c : Array Value),
    (l.zipIdx i).foldl (fun cs (x : Value × Nat) => cs.setIfInBounds (off + x.2) x.1) c = writeAt c (off + i) l
  | [], _, _, _ => rfl
  | v :: l, off, i, c => by
    rw [List.zipIdx_cons, List.foldl_cons, zipIdx_foldl l off (i + 1)]
    rfl

theorem fold_cells (v : Value) (off : Nat) (c : Array Value) :
    v.cells.zipIdx.foldl (fun cs (x : Value × Nat) => cs.setIfInBounds (off + x.2) x.1) c = writeAt c off v.cells.toList := by
  rw [← Array.foldl_toList, Array.toList_zipIdx, zipIdx_foldl]
  rfl

def fillA (place : Nat → Option (Nat × Nat)) : List AV → List (Nat × AV) → Option (List AV)
  | ys, [] => some ys
  | ys, p :: rest =>
    match place p.1 with
    | none => none
    | some q => if p.2.cells.length = q.2 ∧ q.1 + q.2 ≤ ys.length ∧ p.2.noTup = true then fillA place (splice ys q.1 p.2.cells) rest else none

theorem fill_run {place : Nat → Option (Nat × Nat)} : ∀ (ps : List (Nat × AV)) (vs : List (Nat × Value)) (c : Array Value) (ys zs : List AV), CR w H β σ c ys →
    vs.length = ps.length → (∀ (i : Nat) p q, ps[i]? = some p → vs[i]? = some q → q.1 = p.1 ∧ VA w H β σ p.2 q.2) → fillA place ys ps = some zs →
    ∃ c', Instr.fill place c vs = some c' ∧ CR w H β σ c' zs
  | [], [], c, ys, zs, h, _, _, hf => by simp [fillA] at hf; subst hf; exact ⟨c, rfl, h⟩
  | p :: ps, q :: vs, c, ys, zs, h, hl, hv, hf => by
    obtain ⟨hq, hva⟩ := hv 0 p q rfl rfl
    simp only [fillA] at hf
    split at hf
    · cases hf
    · rename_i pl hpl
      split at hf
      · rename_i hc
        obtain ⟨h1, h2, h3⟩ := hc
        have hcr := hva.cr h3
        have hw := h.write hcr (off := pl.1) (by rw [h1]; exact h2)
        obtain ⟨c', hc', hcr'⟩ := fill_run ps vs _ _ zs hw (by simpa using hl) (fun i p' q' hp hq => hv (i + 1) p' q' (by simpa using hp) (by simpa using hq)) hf
        refine ⟨c', ?_, hcr'⟩
        obtain ⟨i, v⟩ := q
        simp only at hq hva hcr hc'
        subst hq
        simp only [Instr.fill, hpl]
        have hs : ¬ (v.cells.size ≠ pl.2 ∨ pl.1 + v.cells.size > c.size) := by
          rw [hcr.1, h1, h.1]
          omega
        rw [if_neg (by simpa using hs)]
        have := fold_cells v pl.1 c
        rw [this]
        exact hc'
      · cases hf
  | [], _ :: _, _, _, _, _, hl, _, _ => by simp at hl
  | _ :: _, [], _, _, _, _, hl, _, _ => by simp at hl
end

variable {P : Program} {o : Oper} {D : St}

/-- Offsets and sizes of a struct's fields. -/
def fldsOf (P : Program) (t : TypeId) : Option (List (Nat × Nat)) :=
  match P.underlying t with
  | some (.struct fs) => fs.toList.mapM fun f => match tinf P f.type with
    | some (k, _) => some (f.offset, k)
    | none => none
  | _ => none

theorem flds_run {w : World} : ∀ (fs : List Field) (l : List (Nat × Nat)), (fs.mapM fun f => match tinf P f.type with
    | some (k, _) => some (f.offset, k)
    | none => none) = some l → (fs.mapM (m := Sem) fun f => do pure (f.offset, ← sizeOf f.type)).run P w = .ok l w
  | [], l, h => by simp at h; subst h; rfl
  | f :: fs, l, h => by
    rw [List.mapM_cons] at h
    simp only [Option.bind_eq_bind, Option.bind_eq_some_iff, Option.pure_def, Option.some.injEq] at h
    obtain ⟨p, hp, l', hl', rfl⟩ := h
    split at hp
    · rename_i k g ht
      cases hp
      rw [List.mapM_cons]
      simp only [Sem.run_bind, run_sizeOf' w ht, Result.andThen_ok, Sem.run_pure, flds_run fs l' hl']
    · cases hp

theorem map_parts {F : Nat → Prop} {β : Nat → Option Nat} {s : St} {a : Act} {w : World} (hr : Rel F β s a w) (hs : Le D s) (parts : Array (Nat × Operand)) :
    ∀ (i : Nat) p q, (parts.toList.map fun p => (p.1, D.ev p.2))[i]? = some p → (parts.toList.map fun (p : Nat × Operand) => (p.1, a.eval p.2))[i]? = some q →
      q.1 = p.1 ∧ VA w (G F β s.st) β s.st p.2 q.2 := by
  intro i p q hp hq
  rw [List.getElem?_map, Option.map_eq_some_iff] at hp hq
  obtain ⟨x, hx, rfl⟩ := hp
  obtain ⟨y, hy, rfl⟩ := hq
  rw [hx] at hy; cases hy
  exact ⟨rfl, hr.evA hs rfl⟩

theorem eff_build {t : TypeId} {parts : Array (Nat × Operand)} {zs : List Tr} {l : List (Nat × Nat)} {ys : List AV} (hd : dstOK D.n o.dst = true) (ho : o.op = .build t parts)
    (hz : zeroOf P t = some (.agg zs)) (hl : fldsOf P t = some l)
    (hf : fillA (l[·]?) (zs.map .t) (parts.toList.map fun p => (p.1, D.ev p.2)) = some ys) : Eff P o D ⟨mkAgg ys, []⟩ :=
  Eff.pure hd fun s hs F β a w hR => by
    obtain ⟨zv, hzr, hzV, _, _⟩ := zeroOf_run hz w (G F β s.st)
    have hzva : VA w (G F β s.st) β s.st (.t (.agg zs)) zv := .t hzV
    have hcr := hzva.cr rfl
    unfold fldsOf at hl
    split at hl
    · rename_i fs hu
      obtain ⟨c', hc', hcr'⟩ := fill_run _ _ zv.cells _ ys hcr (by simp) (map_parts hR hs parts) hf
      refine ⟨.agg c', ?_, hcr'.agg⟩
      have hm : (fs.mapM (m := Sem) fun f => do pure (f.offset, ← sizeOf f.type)).run P w = .ok l.toArray w := by
        rw [Array.mapM_eq_mapM_toList, Sem.run_map, flds_run _ _ hl]; rfl
      have hc'' : Instr.fill (fun i => l.toArray[i]?) zv.cells (Array.map (fun (x : Nat × Operand) => (x.1, a.eval x.2)) parts).toList = some c' := by
        rw [Array.toList_map]
        simpa using hc'
      simp only [execOp, ho, Instr.build, Sem.run_bind, hzr, Result.andThen_ok, run_underlying' w hu, hm, hc'', Sem.run_pure]
    · cases hl

/-! ### Elements and their cells in a row -/

theorem flat_get {k : Nat} : ∀ (els : List AV), (∀ (i : Nat) x, els[i]? = some x → x.cells.length = k) → ∀ (i : Nat) x (j : Nat) y, els[i]? = some x → x.cells[j]? = some y →
    (els.flatMap AV.cells)[i * k + j]? = some y
  | [], _, i, x, j, y, h, _ => by simp at h
  | e :: els, hk, i, x, j, y, h, hy => by
    have he := hk 0 e rfl
    rw [List.flatMap_cons]
    cases i with
    | zero =>
      simp at h; subst h
      have hj := lt_of_get hy
      rw [Nat.zero_mul, Nat.zero_add, List.getElem?_append_left hj]; exact hy
    | succ i =>
      have ih := flat_get els (fun i x hx => hk (i + 1) x (by simpa using hx)) i x j y (by simpa using h) hy
      rw [List.getElem?_append_right (by rw [he, Nat.succ_mul]; omega), he, Nat.succ_mul, show i * k + k + j - k = i * k + j from by omega]
      exact ih

theorem flat_length {k : Nat} : ∀ (els : List AV), (∀ (i : Nat) x, els[i]? = some x → x.cells.length = k) → (els.flatMap AV.cells).length = els.length * k
  | [], _ => by simp
  | e :: els, hk => by
    rw [List.flatMap_cons, List.length_append, hk 0 e rfl, flat_length els (fun i x hx => hk (i + 1) x (by simpa using hx)), List.length_cons, Nat.succ_mul, Nat.add_comm]

/-- The relation for a new object whose row stands for its elements' cells. -/
theorem new_cells {w : World} {H : Nat → Prop} {β : Nat → Option Nat} {σ : Sto} {els : List AV} {k : Nat} {c : Array Value} {zs : List AV}
    (hk : ∀ (i : Nat) x, els[i]? = some x → x.noTup = true ∧ x.cells.length = k) (hcr : CR w H β σ c (els.flatMap AV.cells ++ zs)) :
    ∀ (i : Nat) x (j : Nat) y, els[i]? = some x → x.cells[j]? = some y → y.one = true ∧ ∃ v, c[i * k + j]? = some v ∧ VA w H β σ y v := by
  intro i x j y hx hy
  have := flat_get els (fun i x hx => (hk i x hx).2) i x j y hx hy
  exact hcr.2 _ y (by rw [List.getElem?_append_left (lt_of_get this)]; exact this)

def zeroCellsA (z : Tr) (n : Nat) : List AV := (List.range n).map fun i => match z.cells[i % z.cells.length]? with | some c => .t c | none => .junk

theorem zero_cr {w : World} {H : Nat → Prop} {β : Nat → Option Nat} {σ : Sto} {z : Tr} {v : Value} (hV : V w H z v) (hn : z.noTup = true) (hk : z.cells.length ≠ 0) (n : Nat) :
    CR w H β σ ((Array.range n).map fun i => v.cells[i % v.cells.size]!) (zeroCellsA z n) := by
  obtain ⟨h1, h2, h3⟩ := hV.cells hn
  refine ⟨by simp [zeroCellsA], fun j y hy => ?_⟩
  have hj : j < n := by have := lt_of_get hy; simpa [zeroCellsA] using this
  unfold zeroCellsA at hy
  rw [List.getElem?_map, List.getElem?_range hj] at hy
  have hm : j % z.cells.length < z.cells.length := Nat.mod_lt _ (by omega)
  rw [Option.map_some, List.getElem?_eq_getElem hm] at hy
  simp only [Option.some.injEq] at hy
  subst hy
  have hm' : j % v.cells.size < v.cells.size := by rw [h1]; exact hm
  have hu : v.cells[j % v.cells.size]? = some (v.cells[j % v.cells.size]'hm') := Array.getElem?_eq_getElem hm'
  have hz := List.getElem?_eq_getElem hm
  refine ⟨h2 _ _ hz, v.cells[j % v.cells.size]'hm', ?_, .t (h3 _ _ _ hz (by rw [← h1]; exact hu))⟩
  simp [hj, getElem!_pos, hm']

/-- A slice literal. -/
theorem eff_buildSlice {t e : TypeId} {len k id : Nat} {ag : Bool} {parts : Array (Nat × Operand)} {z : Tr} {ys els : List AV} (hd : dstOK D.n o.dst = true) (ho : o.op = .buildSlice t len parts)
    (ht : elemOf P t = some (e, k, ag)) (hz : zeroOf P e = some z) (hzk : z.cells.length = k) (hk0 : k ≠ 0) (hlim : len * k ≤ 16777216)
    (hf : fillA (fun i => some (i * k, k)) (zeroCellsA z (len * k)) (parts.toList.map fun p => (p.1, D.ev p.2)) = some ys) (he : els.flatMap AV.cells = ys)
    (hek : ∀ x, x ∈ els → x.noTup = true ∧ x.cells.length = k) (hel : els.length = len) (hid : sget D.st id = none) :
    Eff P o D ⟨.own id 0 0 len, [(id, ⟨k, e, 0, els⟩)]⟩ := by
  intro s hs hfresh F β a w hR next Q hnext
  have hid' := hfresh id _ (List.mem_singleton.2 rfl) hid
  obtain ⟨hu, hte⟩ := elemOf_spec ht
  obtain ⟨zv, hzr, hzV, hzn, hzs⟩ := zeroOf_run hz w (G F β s.st)
  have hcr := zero_cr (β := β) (σ := s.st) hzV hzn (by rw [hzk]; exact hk0) (len * k)
  obtain ⟨c', hc', hcr'⟩ := fill_run _ _ _ _ ys hcr (by simp) (map_parts hR hs parts) hf
  subst he
  have hek' : ∀ (i : Nat) x, els[i]? = some x → x.noTup = true ∧ x.cells.length = k := fun i x hx => hek x (List.mem_of_getElem? hx)
  obtain ⟨β', hrel, hev⟩ := hR.new (id := id) (ob := ⟨k, e, 0, els⟩) (c := c') (fun _ h => by rw [hid'] at h; cases h) (by rw [hcr'.1, flat_length els (fun i x hx => (hek' i x hx).2)]; exact Nat.le_refl _) hek'
    (new_cells (zs := []) hek' (by simpa using hcr')) (d := o.dst) (by rw [hs.n]; exact hd) (x := .own id 0 0 len) (v := .slice (some ⟨w.heap.size, 0, none⟩) len len)
    (fun β' hb => by
      have := VA.own (w := w.alloc (.cells c' e)) (H := G F β' (sput s.st id (some ⟨k, e, 0, els⟩))) (β := β') (off := 0) (len := len) (cap := len) (c := c')
        (sget_sput_same s.st id (some ⟨k, e, 0, els⟩)) rfl hb (by simp [hel]) (by simp [hel]) (by show (w.heap.push _)[w.heap.size]? = _; simp)
        (by rw [hcr'.1, flat_length els (fun i x hx => (hek' i x hx).2), hel, Nat.zero_add]; exact Nat.le_refl _)
      simpa using this)
  have hrun : (execOp a.eval o).run P w = .ok (.value (.slice (some ⟨w.heap.size, 0, none⟩) len len)) (w.alloc (.cells c' e)) := by
    have hc'' : Instr.fill (fun i => some (i * k, k)) ((Array.range (len * k)).map fun i => zv.cells[i % zv.cells.size]!) (Array.map (fun (x : Nat × Operand) => (x.1, a.eval x.2)) parts).toList = some c' := by
      rw [Array.toList_map]; exact hc'
    by_cases h0 : len * k = 0
    · rw [h0] at hc''
      have hc3 : Instr.fill (fun i => some (i * k, k)) ((Array.range 0).map fun i => (#[] : Array Value)[i % (#[] : Array Value).size]!) (Array.map (fun (x : Nat × Operand) => (x.1, a.eval x.2)) parts).toList = some c' := by
        have he : ∀ f : Nat → Value, (Array.range 0).map f = #[] := fun f => by apply Array.ext'; simp [Array.toList_range]
        rw [← hc'', he, he]
      simp only [execOp, ho, Instr.buildSlice, Sem.run_bind, run_underlying' w hu, Result.andThen_ok, run_sizeOf' w hte, h0, show ¬ (0 > 2 ^ 24) from by omega, if_false, if_true, Sem.run_pure, hc3,
        newRow, run_newObj, World.alloc_eq]
    · simp only [execOp, ho, Instr.buildSlice, Sem.run_bind, run_underlying' w hu, Result.andThen_ok, run_sizeOf' w hte, show ¬ (len * k > 2 ^ 24) from by omega, if_false, h0, hzr, Sem.run_pure, hc'',
        newRow, run_newObj, World.alloc_eq]
  unfold Oper.wp
  rw [hrun]
  exact hnext β' _ _ hrel hev

end Go.Tv

end
section
namespace Go.Tv

variable {P : Program} {o : Oper} {D : St}

/-! ### make -/

theorem eff_makeSlice {t e : TypeId} {x y : Operand} {k id bytes : Nat} {ag : Bool} {kx ky : IntKind} {nl nc : Int} {l c : Nat} {z : Tr} (hd : dstOK D.n o.dst = true) (ho : o.op = .makeSlice t x y)
    (ht : elemOf P t = some (e, k, ag)) (hz : zeroOf P e = some z) (hzk : z.cells.length = k) (hk0 : k ≠ 0) (hb : (P.info? e).map (·.bytes) = some bytes)
    (hx : D.ev x = .t (.int kx nl)) (hy : D.ev y = .t (.int ky nc)) (hl : nl = (l : Int)) (hc : nc = (c : Int)) (hlc : l ≤ c) (hlim : bytes * c ≤ 281474976710656) (hci : c ≤ 4611686018427387904)
    (hid : sget D.st id = none) : Eff P o D ⟨.own id 0 0 l, [(id, ⟨k, e, 0, List.replicate l (.t z)⟩)]⟩ := by
  intro s hs hfresh F β a w hR next Q hnext
  subst hl; subst hc
  have hid' := hfresh id _ (List.mem_singleton.2 rfl) hid
  obtain ⟨hu, hte⟩ := elemOf_spec ht
  obtain ⟨zv, hzr, hzV, hzn, hzs⟩ := zeroOf_run hz w (G F β s.st)
  have hcr := zero_cr (β := β) (σ := s.st) hzV hzn (by rw [hzk]; exact hk0) (c * k)
  have hek : ∀ (i : Nat) x, (List.replicate l (AV.t z))[i]? = some x → x.noTup = true ∧ x.cells.length = k := by
    intro i x hx
    rw [List.getElem?_replicate] at hx
    split at hx
    · cases hx; exact ⟨hzn, by simp [AV.cells, hzk]⟩
    · cases hx
  obtain ⟨β', hrel, hev⟩ := hR.new (id := id) (ob := ⟨k, e, 0, List.replicate l (.t z)⟩) (c := (Array.range (c * k)).map fun i => zv.cells[i % zv.cells.size]!) (fun _ h => by rw [hid'] at h; cases h)
    (by simp only [List.length_replicate, Array.size_map, Array.size_range]; exact Nat.mul_le_mul_right k hlc) hek
    (fun i x' j y' hx' hy' => by
      have hi := lt_of_get hx'
      simp only [List.length_replicate] at hi
      rw [List.getElem?_replicate, if_pos hi] at hx'
      cases hx'
      have hj := lt_of_get hy'
      have hjk : j < k := by simpa [AV.cells, hzk] using hj
      have hin : i * k + j < c * k := by
        have := mul_add_le (k := k) (n := c) (i := i) (j := k) (by omega) (Nat.le_refl _); omega
      refine hcr.2 (i * k + j) y' ?_
      unfold zeroCellsA
      rw [List.getElem?_map, List.getElem?_range hin, Option.map_some, hzk, show (i * k + j) % k = j from by rw [Nat.mul_add_mod_self_right]; exact Nat.mod_eq_of_lt hjk]
      simp only [AV.cells, List.getElem?_map, Option.map_eq_some_iff] at hy'
      obtain ⟨q, hq, rfl⟩ := hy'
      rw [hq])
    (d := o.dst) (by rw [hs.n]; exact hd) (x := .own id 0 0 l) (v := .slice (some ⟨w.heap.size, 0, none⟩) l c)
    (fun β' hb => by
      have := VA.own (w := w.alloc (.cells ((Array.range (c * k)).map fun i => zv.cells[i % zv.cells.size]!) e)) (H := G F β' (sput s.st id (some ⟨k, e, 0, List.replicate l (.t z)⟩))) (β := β') (off := 0) (len := l) (cap := c)
        (c := (Array.range (c * k)).map fun i => zv.cells[i % zv.cells.size]!)
        (sget_sput_same s.st id (some ⟨k, e, 0, List.replicate l (.t z)⟩)) rfl hb (by simp) (by simp [hlc]) (by show (w.heap.push _)[w.heap.size]? = _; simp)
        (by simp)
      simpa using this)
  have hrun : (execOp a.eval o).run P w = .ok (.value (.slice (some ⟨w.heap.size, 0, none⟩) l c)) (w.alloc (.cells ((Array.range (c * k)).map fun i => zv.cells[i % zv.cells.size]!) e)) := by
    obtain ⟨inf, hinf, hby⟩ := Option.map_eq_some_iff.1 hb
    have h1 := hR.evInt hs hx
    have h2 := hR.evInt hs hy
    have wl : IntKind.i64.wrap (l : Int) = (l : Int) := by rw [IntKind.wrap_i64]; omega
    have wc : IntKind.i64.wrap (c : Int) = (c : Int) := by rw [IntKind.wrap_i64]; omega
    have hb1 : ((inf.bytes : Int) * (c : Int) > 2 ^ 48) = False := by
      refine eq_false ?_
      rw [hby]
      have h := Int.ofNat_le.2 hlim
      rw [Int.natCast_mul] at h
      have h2 : (2 : Int) ^ 48 = 281474976710656 := by decide
      rw [h2]
      exact Int.not_lt.2 h
    have hcond : ((decide ((c : Int) < 0) || decide ((inf.bytes : Int) * (c : Int) > 2 ^ 48) || decide ((l : Int) < 0) || decide ((l : Int) > (c : Int))) = true) = False := by
      simp only [hb1, show ((c : Int) < 0) = False from eq_false (by omega), show ((l : Int) < 0) = False from eq_false (by omega), show ((l : Int) > (c : Int)) = False from eq_false (by omega)]
      simp only [decide_false, Bool.or_self, Bool.false_eq_true]
    by_cases h0 : c * k = 0
    · have hc0 : c = 0 := by
        rcases Nat.mul_eq_zero.1 h0 with h | h
        · exact h
        · exact absurd h hk0
      have he : ∀ f : Nat → Value, (Array.range 0).map f = #[] := fun f => by apply Array.ext'; simp [Array.toList_range]
      simp only [execOp, ho, h1, h2, Instr.makeSlice, Sem.run_bind, run_underlying' w hu, Result.andThen_ok, asInt, asIntOf, Sem.run_pure, run_typeInfo' w hinf, wl, wc, hcond, if_false, run_askRoom,
        run_sizeOf' w hte, Int.toNat_natCast, h0, if_true, newRow, run_newObj, World.alloc_eq, he]
    · simp only [execOp, ho, h1, h2, Instr.makeSlice, Sem.run_bind, run_underlying' w hu, Result.andThen_ok, asInt, asIntOf, Sem.run_pure, run_typeInfo' w hinf, wl, wc, hcond, if_false, run_askRoom,
        run_sizeOf' w hte, Int.toNat_natCast, h0, newRow, run_newObj, World.alloc_eq, hzr]
  unfold Oper.wp
  rw [hrun]
  exact hnext β' _ _ hrel hev

end Go.Tv

end
section
namespace Go.Tv

variable {P : Program} {o : Oper} {D : St}

/-- A bound of a slice expression: absent, or a number. -/
inductive Bnd (D : St) : Option Operand → Option Nat → Prop
  | no : Bnd D none none
  | yes {x : Operand} {k : IntKind} {n : Int} {m : Nat} (h : D.ev x = .t (.int k n)) (hn : n = (m : Int)) : Bnd D (some x) (some m)

theorem Bnd.run {F : Nat → Prop} {β : Nat → Option Nat} {s : St} {a : Act} {w : World} (hr : Rel F β s a w) (hs : Le D s) {x : Option Operand} {m : Option Nat} (h : Bnd D x m) :
    (x = none ∧ m = none) ∨ ∃ op k n, x = some op ∧ m = some n ∧ a.eval op = .int k (n : Int) := by
  cases h with
  | no => exact .inl ⟨rfl, rfl⟩
  | yes h hn => subst hn; exact .inr ⟨_, _, _, rfl, rfl, hr.evInt hs h⟩

theorem run_sliceBound {w : World} {k : IntKind} {n y : Nat} (h : n ≤ y) (code : BoundsCode) : (Instr.sliceBound (.int k (n : Int)) y code).run P w = .ok n w := by
  have h1 : (0 : Int) ≤ (n : Int) ∧ (n : Int) ≤ (y : Int) := ⟨by omega, by omega⟩
  simp only [Instr.sliceBound, asIntOf, Sem.run_bind, Sem.run_pure, Result.andThen_ok, h1, and_self, if_true, Int.toNat_natCast]

/-- The bounds of x[lo:hi] of a slice of length len and capacity cap. -/
theorem run_sliceBounds {F : Nat → Prop} {β : Nat → Option Nat} {s : St} {a : Act} {w : World} (hr : Rel F β s a w) (hs : Le D s) {lo hi : Option Operand} {l h : Option Nat}
    (hlo : Bnd D lo l) (hhi : Bnd D hi h) {len cap : Nat} (h1 : l.getD 0 ≤ h.getD len) (h2 : h.getD len ≤ cap) (isS : Bool) :
    (Instr.sliceBounds isS len cap (lo.map a.eval) (hi.map a.eval) none).run P w = .ok (l.getD 0, h.getD len, cap) w := by
  rcases hlo.run hr hs with ⟨rfl, rfl⟩ | ⟨op, k, n, rfl, rfl, he⟩ <;> rcases hhi.run hr hs with ⟨rfl, rfl⟩ | ⟨op', k', n', rfl, rfl, he'⟩
  · simp [Instr.sliceBounds]
  · simp only [Option.getD_some, Option.getD_none] at h1 h2 ⊢
    simp [Instr.sliceBounds, he', run_sliceBound h2]
  · simp only [Option.getD_some, Option.getD_none] at h1 h2 ⊢
    simp [Instr.sliceBounds, he, run_sliceBound h1]
  · simp only [Option.getD_some] at h1 h2 ⊢
    simp [Instr.sliceBounds, he, he', run_sliceBound h1, run_sliceBound h2]

theorem run_sliceBounds3 {F : Nat → Prop} {β : Nat → Option Nat} {s : St} {a : Act} {w : World} (hr : Rel F β s a w) (hs : Le D s) {lo hi mx : Option Operand} {l : Option Nat} {h m : Nat}
    (hlo : Bnd D lo l) (hhi : Bnd D hi (some h)) (hmx : Bnd D mx (some m)) {len cap : Nat} (h1 : l.getD 0 ≤ h) (h2 : h ≤ m) (h3 : m ≤ cap) :
    (Instr.sliceBounds true len cap (lo.map a.eval) (hi.map a.eval) (mx.map a.eval)).run P w = .ok (l.getD 0, h, m) w := by
  rcases hhi.run hr hs with ⟨_, h0⟩ | ⟨op', k', n', rfl, hn', he'⟩
  · cases h0
  rcases hmx.run hr hs with ⟨_, h0⟩ | ⟨op2, k2, n2, rfl, hn2, he2⟩
  · cases h0
  cases hn'; cases hn2
  rcases hlo.run hr hs with ⟨rfl, rfl⟩ | ⟨op, k, n, rfl, rfl, he⟩
  · simp [Instr.sliceBounds, he', he2, run_sliceBound h2, run_sliceBound h3]
  · simp only [Option.getD_some] at h1 ⊢
    simp [Instr.sliceBounds, he, he', he2, run_sliceBound h1, run_sliceBound h2, run_sliceBound h3]

theorem run_sliceAt {t e : TypeId} (hu : P.underlying t = some (.slice e)) {w : World} (x : Value) (lo hi mx : Option Value) :
    (Instr.sliceAt t x lo hi mx).run P w = (Instr.slice t x lo hi mx).run P w := by
  simp only [Instr.sliceAt, Sem.run_bind, run_underlying' w hu, Result.andThen_ok]

/-- x[lo:hi] of a tree. -/
theorem eff_sliceT {t e : TypeId} {x : Operand} {lo hi : Option Operand} {k : Nat} {ag fl fl' : Bool} {l h : Option Nat} {xs : List Tr} (hd : dstOK D.n o.dst = true) (ho : o.op = .slice t x lo hi none)
    (ht : elemOf P t = some (e, k, ag)) (hx : D.ev x = .t (.sl xs fl)) (hk : ∀ y, y ∈ xs → y.cells.length = k) (hlo : Bnd D lo l) (hhi : Bnd D hi h) (h1 : l.getD 0 ≤ h.getD xs.length)
    (h2 : h.getD xs.length ≤ xs.length) (hfl : fl' = true → fl = true ∧ h.getD xs.length = xs.length) :
    Eff P o D ⟨.t (.sl ((xs.take (h.getD xs.length)).drop (l.getD 0)) fl'), []⟩ :=
  Eff.pure hd fun s hs' F β a w hR => by
    have hv0 := hR.evT hs' hx
    obtain ⟨hu, hte⟩ := elemOf_spec ht
    have hlen : ((xs.take (h.getD xs.length)).drop (l.getD 0)).length = h.getD xs.length - l.getD 0 := by simp; omega
    have hget : ∀ (i : Nat) y, ((xs.take (h.getD xs.length)).drop (l.getD 0))[i]? = some y → xs[l.getD 0 + i]? = some y := by
      intro i y hy
      have hi := lt_of_get hy
      rw [List.getElem?_drop, List.getElem?_take_of_lt (by omega)] at hy; exact hy
    generalize hv : a.eval x = v at hv0
    cases hv0 with
    | nils f =>
      have hb := run_sliceBounds (P := P) (w := w) hR hs' hlo hhi (len := 0) (cap := 0) h1 (by simpa using h2) true
      simp only [List.length_nil] at h1 h2
      have e1 : h.getD 0 = 0 := by omega
      have e2 : l.getD 0 = 0 := by omega
      refine ⟨.slice none 0 0, ?_, .t ?_⟩
      · simp only [execOp, ho, hv, Sem.run_bind, run_sliceAt hu, Instr.slice, run_underlying' w hu, Result.andThen_ok]
        simp only [Option.map_none] at hb ⊢
        rw [hb]
        simp [e1, e2, run_sizeOf' w hte]
      · simp; exact .nils _
    | nilsE f ad =>
      have hb := run_sliceBounds (P := P) (w := w) hR hs' hlo hhi (len := 0) (cap := 0) h1 (by simpa using h2) true
      simp only [List.length_nil] at h1 h2
      have e1 : h.getD 0 = 0 := by omega
      have e2 : l.getD 0 = 0 := by omega
      refine ⟨.slice (some ad) 0 0, ?_, .t ?_⟩
      · simp only [execOp, ho, hv, Sem.run_bind, run_sliceAt hu, Instr.slice, run_underlying' w hu, Result.andThen_ok]
        simp only [Option.map_none] at hb ⊢
        rw [hb]
        simp [e1, e2, run_sizeOf' w hte]
      · simp; exact .nilsE _ _
    | sl xs f k' b p cap vs hb hF hf hcap hkk h1' hc hva =>
      have hb' := run_sliceBounds (P := P) (w := w) hR hs' hlo hhi (len := xs.length) (cap := cap) h1 (by omega) true
      have hrun : (execOp a.eval o).run P w = .ok (.value (.slice (if cap = l.getD 0 then some ⟨b, p, none⟩ else some ⟨b, p + l.getD 0 * k, none⟩) (h.getD xs.length - l.getD 0) (cap - l.getD 0))) w := by
        simp only [execOp, ho, hv, Sem.run_bind, run_sliceAt hu, Instr.slice, run_underlying' w hu, Result.andThen_ok]
        simp only [Option.map_none] at hb' ⊢
        rw [hb']
        simp [run_sizeOf' w hte, Addr.add_none]
      refine ⟨_, hrun, .t ?_⟩
      by_cases hcl : cap = l.getD 0
      · have hnil : (xs.take (h.getD xs.length)).drop (l.getD 0) = [] := by
          apply List.eq_nil_of_length_eq_zero; rw [hlen]; omega
        rw [hnil, if_pos hcl, show h.getD xs.length - l.getD 0 = 0 from by omega, show cap - l.getD 0 = 0 from by omega]
        exact V.sl [] fl' 0 b p 0 (fun _ _ => undef) hb hF (fun _ => rfl) (Nat.le_refl _) (fun i x h => by simp at h) (fun i x j c h => by simp at h) (fun i x j c h => by simp at h) (fun i x j c h => by simp at h)
      · rw [if_neg hcl, ← hlen]
        have hkeq : ∀ (i : Nat) (y : Tr), xs[i]? = some y → k' = k := fun i y hy => by
          rw [← (hkk i y hy).2]; exact hk y (List.mem_of_getElem? hy)
        refine V.sl _ fl' k b (p + l.getD 0 * k) (cap - l.getD 0) (fun i j => vs (l.getD 0 + i) j) hb hF (fun hf' => ?_) (by rw [hlen]; omega) (fun i y hy => ?_) (fun i y j c hy hj => ?_) (fun i y j c hy hj => ?_) (fun i y j c hy hj => ?_)
        · obtain ⟨g1, g2⟩ := hfl hf'
          rw [hlen, g2, hf g1]
        · have := hkk _ y (hget i y hy)
          rw [← hkeq _ y (hget i y hy)]; exact this
        · exact h1' _ y j c (hget i y hy) hj
        · have := hc _ y j c (hget i y hy) hj
          have e := hkeq _ y (hget i y hy)
          rw [e] at this
          rw [show p + l.getD 0 * k + i * k + j = p + (l.getD 0 + i) * k + j from by rw [Nat.add_mul]; omega]
          exact this
        · exact hva _ y j c (hget i y hy) hj

/-- x[lo:hi:max] of a tree, max at most the length: the capacity is known. -/
theorem eff_sliceT3 {t e : TypeId} {x : Operand} {lo hi mx : Option Operand} {k : Nat} {ag fl : Bool} {l : Option Nat} {h m : Nat} {xs : List Tr} (hd : dstOK D.n o.dst = true) (ho : o.op = .slice t x lo hi mx)
    (ht : elemOf P t = some (e, k, ag)) (hx : D.ev x = .t (.sl xs fl)) (hk : ∀ y, y ∈ xs → y.cells.length = k) (hlo : Bnd D lo l) (hhi : Bnd D hi (some h)) (hmx : Bnd D mx (some m)) (h1 : l.getD 0 ≤ h)
    (h2 : h ≤ m) (h3 : m ≤ xs.length) : Eff P o D ⟨.t (.sl ((xs.take h).drop (l.getD 0)) (h == m)), []⟩ :=
  Eff.pure hd fun s hs' F β a w hR => by
    have hv0 := hR.evT hs' hx
    obtain ⟨hu, hte⟩ := elemOf_spec ht
    have hlen : ((xs.take h).drop (l.getD 0)).length = h - l.getD 0 := by simp; omega
    have hget : ∀ (i : Nat) y, ((xs.take h).drop (l.getD 0))[i]? = some y → xs[l.getD 0 + i]? = some y := by
      intro i y hy
      have hi := lt_of_get hy
      rw [List.getElem?_drop, List.getElem?_take_of_lt (by omega)] at hy; exact hy
    generalize hv : a.eval x = v at hv0
    cases hv0 with
    | nils f =>
      have e1 : m = 0 := by simpa using h3
      subst e1
      have e2 : h = 0 := by omega
      subst e2
      have e3 : l.getD 0 = 0 := by omega
      have hb := run_sliceBounds3 (P := P) (w := w) hR hs' hlo hhi hmx (len := 0) (cap := 0) h1 h2 (Nat.le_refl _)
      refine ⟨.slice none 0 0, ?_, .t ?_⟩
      · simp only [execOp, ho, hv, Sem.run_bind, run_sliceAt hu, Instr.slice, run_underlying' w hu, Result.andThen_ok]
        rw [hb]
        simp [e3, run_sizeOf' w hte]
      · simp; exact .nils _
    | nilsE f ad =>
      have e1 : m = 0 := by simpa using h3
      subst e1
      have e2 : h = 0 := by omega
      subst e2
      have e3 : l.getD 0 = 0 := by omega
      have hb := run_sliceBounds3 (P := P) (w := w) hR hs' hlo hhi hmx (len := 0) (cap := 0) h1 h2 (Nat.le_refl _)
      refine ⟨.slice (some ad) 0 0, ?_, .t ?_⟩
      · simp only [execOp, ho, hv, Sem.run_bind, run_sliceAt hu, Instr.slice, run_underlying' w hu, Result.andThen_ok]
        rw [hb]
        simp [e3, run_sizeOf' w hte]
      · simp; exact .nilsE _ _
    | sl xs f k' b p cap vs hb hF hf hcap hkk h1' hc hva =>
      have hb' := run_sliceBounds3 (P := P) (w := w) hR hs' hlo hhi hmx (len := xs.length) (cap := cap) h1 h2 (by omega)
      have hrun : (execOp a.eval o).run P w = .ok (.value (.slice (if m = l.getD 0 then some ⟨b, p, none⟩ else some ⟨b, p + l.getD 0 * k, none⟩) (h - l.getD 0) (m - l.getD 0))) w := by
        simp only [execOp, ho, hv, Sem.run_bind, run_sliceAt hu, Instr.slice, run_underlying' w hu, Result.andThen_ok]
        rw [hb']
        simp [run_sizeOf' w hte, Addr.add_none]
      refine ⟨_, hrun, .t ?_⟩
      by_cases hcl : m = l.getD 0
      · have hnil : (xs.take h).drop (l.getD 0) = [] := by
          apply List.eq_nil_of_length_eq_zero; rw [hlen]; omega
        rw [hnil, if_pos hcl, show h - l.getD 0 = 0 from by omega, show m - l.getD 0 = 0 from by omega]
        exact V.sl [] _ 0 b p 0 (fun _ _ => undef) hb hF (fun _ => rfl) (Nat.le_refl _) (fun i x h => by simp at h) (fun i x j c h => by simp at h) (fun i x j c h => by simp at h) (fun i x j c h => by simp at h)
      · rw [if_neg hcl, ← hlen]
        have hkeq : ∀ (i : Nat) (y : Tr), xs[i]? = some y → k' = k := fun i y hy => by
          rw [← (hkk i y hy).2]; exact hk y (List.mem_of_getElem? hy)
        refine V.sl _ _ k b (p + l.getD 0 * k) (m - l.getD 0) (fun i j => vs (l.getD 0 + i) j) hb hF (fun hf' => ?_) (by rw [hlen]; omega) (fun i y hy => ?_) (fun i y j c hy hj => ?_) (fun i y j c hy hj => ?_) (fun i y j c hy hj => ?_)
        · rw [hlen, beq_iff_eq.1 hf']
        · have := hkk _ y (hget i y hy)
          rw [← hkeq _ y (hget i y hy)]; exact this
        · exact h1' _ y j c (hget i y hy) hj
        · have := hc _ y j c (hget i y hy) hj
          have e := hkeq _ y (hget i y hy)
          rw [e] at this
          rw [show p + l.getD 0 * k + i * k + j = p + (l.getD 0 + i) * k + j from by rw [Nat.add_mul]; omega]
          exact this
        · exact hva _ y j c (hget i y hy) hj

/-- x[lo:hi] of an owned slice: within the elements that are known. -/
theorem eff_slice {t e : TypeId} {x : Operand} {lo hi : Option Operand} {k id g off len : Nat} {ag : Bool} {l h : Option Nat} {ob : Ob} (hd : dstOK D.n o.dst = true) (ho : o.op = .slice t x lo hi none)
    (ht : elemOf P t = some (e, k, ag)) (hx : D.ev x = .own id g off len) (hs : sget D.st id = some ob) (hg : ob.gen = g) (hk : ob.k = k) (hlo : Bnd D lo l) (hhi : Bnd D hi h)
    (h1 : l.getD 0 ≤ h.getD len) (h2 : off + h.getD len ≤ ob.els.length) : Eff P o D ⟨.own id g (off + l.getD 0) (h.getD len - l.getD 0), []⟩ :=
  Eff.pure hd fun s hs' F β a w hR => by
    have hv0 := hR.evA hs' hx
    have hst := hs'.st _ _ hs
    obtain ⟨hu, hte⟩ := elemOf_spec ht
    generalize hv : a.eval x = v at hv0
    have key : ∀ (p : Option Addr) (cap : Nat), v = .slice p len cap → h.getD len ≤ cap →
        (execOp a.eval o).run P w = .ok (.value (.slice (if cap = l.getD 0 then p else p.map (·.add (l.getD 0 * k))) (h.getD len - l.getD 0) (cap - l.getD 0))) w := by
      intro p cap hvv hcap
      have hb' := run_sliceBounds (P := P) (w := w) hR hs' hlo hhi (len := len) (cap := cap) h1 hcap true
      simp only [execOp, ho, hv, hvv, Sem.run_bind, run_sliceAt hu, Instr.slice, run_underlying' w hu, Result.andThen_ok]
      simp only [Option.map_none] at hb' ⊢
      rw [hb']
      simp [run_sizeOf' w hte]
    cases hv0 with
    | @own _ _ _ _ b cap ob' c g1 g2 g3 g4 g5 g6 g7 =>
      rw [hst] at g1; cases g1
      refine ⟨_, key _ _ rfl (by omega), ?_⟩
      by_cases hcl : cap = l.getD 0
      · rw [if_pos hcl, show h.getD len - l.getD 0 = 0 from by omega, show cap - l.getD 0 = 0 from by omega]
        exact .ownZ hst hg g3 (by omega) (lt_of_heap g6)
      · rw [if_neg hcl]
        simp only [Option.map_some, Addr.add_none, ← hk, ← Nat.add_mul]
        exact .own hst hg g3 (by omega) (by omega) g6 (by rw [show off + l.getD 0 + (cap - l.getD 0) = off + cap from by omega]; exact g7)
    | ownNil g1 g2 g3 g4 =>
      rw [hst] at g1; cases g1
      rw [g4] at h2; simp only [List.length_nil] at h2
      have e1 : h.getD 0 = 0 := by omega
      have e2 : l.getD 0 = 0 := by omega
      refine ⟨_, key none 0 rfl (by omega), ?_⟩
      rw [e1, e2]
      simpa using VA.ownNil hst hg g3 g4
    | @ownZ _ _ _ b o' ob' g1 g2 g3 g4 g5 =>
      rw [hst] at g1; cases g1
      have e1 : h.getD 0 = 0 := by omega
      have e2 : l.getD 0 = 0 := by omega
      refine ⟨_, key _ 0 rfl (by omega), ?_⟩
      rw [e1, e2]
      simpa using VA.ownZ hst hg g3 g4 g5
    | @ownE _ _ ad ob' g1 g2 g3 g4 =>
      rw [hst] at g1; cases g1
      have e1 : h.getD 0 = 0 := by rw [g4] at h2; simp only [List.length_nil] at h2; omega
      have e2 : l.getD 0 = 0 := by omega
      refine ⟨_, key _ 0 rfl (by omega), ?_⟩
      rw [e1, e2]
      simpa using VA.ownE hst hg g3 g4
    | stale g1 g2 => rw [hst] at g1; cases g1; omega

/-! ### What a slice's elements are -/

inductive Src (D : St) (k : Nat) : AV → List AV → Prop
  | t {xs : List Tr} {fl : Bool} (hk : ∀ y, y ∈ xs → y.cells.length = k) : Src D k (.t (.sl xs fl)) (xs.map .t)
  | own {id g off len : Nat} {ob : Ob} (hs : sget D.st id = some ob) (hg : ob.gen = g) (hk : ob.k = k) (hl : off + len ≤ ob.els.length) : Src D k (.own id g off len) ((ob.els.drop off).take len)

theorem Src.el {k : Nat} {x : AV} {ys : List AV} (h : Src D k x ys) {F : Nat → Prop} {β : Nat → Option Nat} {s : St} {a : Act} {w : World} (hr : Rel F β s a w) (hs : Le D s) {v : Value}
    (hv : VA w (G F β s.st) β s.st x v) : ∀ y, y ∈ ys → y.noTup = true ∧ y.cells.length = k := by
  intro y hy
  cases h with
  | t hk =>
    obtain ⟨z, hz, rfl⟩ := List.mem_map.1 hy
    cases hv with
    | t hv =>
      obtain ⟨i, hi, rfl⟩ := List.mem_iff_getElem.1 hz
      cases hv with
      | nils => simp at hi
      | nilsE => simp at hi
      | sl xs f k' b p cap vs hb hF hf hcap hkk h1 hc hva =>
        exact ⟨(hkk i _ (List.getElem?_eq_getElem hi)).1, by simp [AV.cells, hk _ hz]⟩
  | own hso hg hk hl =>
    have hst := hs.st _ _ hso
    obtain ⟨i, hi, he⟩ := List.mem_iff_getElem.1 (List.mem_of_mem_drop (List.mem_of_mem_take hy))
    rcases hr.ob _ _ hst with ⟨_, h0⟩ | ⟨b, c, hb, hh, hsz, hkk, hcell⟩
    · rw [h0] at hi; simp at hi
    · have := hkk i y (by rw [← he]; exact List.getElem?_eq_getElem hi)
      rw [← hk]; exact this

/-- The first m elements' cells, read. -/
theorem Src.run {k : Nat} {x : AV} {ys : List AV} (h : Src D k x ys) {F : Nat → Prop} {β : Nat → Option Nat} {s : St} {a : Act} {w : World} (hr : Rel F β s a w) (hs : Le D s) {v : Value}
    (hv : VA w (G F β s.st) β s.st x v) : ∃ p cap, v = .slice p ys.length cap ∧ ys.length ≤ cap ∧
      ∀ m, m ≤ ys.length → ∃ c, (Builtin.firstCells k m v).run P w = .ok c w ∧ CR w (G F β s.st) β s.st c ((ys.take m).flatMap AV.cells) := by
  have hel := h.el hr hs hv
  have mk : ∀ (b p cap : Nat), v = .slice (some ⟨b, p, none⟩) ys.length cap →
      (∀ (i : Nat) y (j : Nat) z, ys[i]? = some y → y.cells[j]? = some z → z.one = true ∧ ∃ u, w.cell? ⟨b, p + (i * k + j), none⟩ = some u ∧ VA w (G F β s.st) β s.st z u) →
      ∀ m, m ≤ ys.length → ∃ c, (Builtin.firstCells k m v).run P w = .ok c w ∧ CR w (G F β s.st) β s.st c ((ys.take m).flatMap AV.cells) := by
    intro b p cap hvv hcell m hm
    have hfl : ((ys.take m).flatMap AV.cells).length = m * k := by
      rw [flat_length (k := k) _ (fun i x hx => (hel x (List.mem_of_mem_take (List.mem_of_getElem? hx))).2)]
      rw [List.length_take, Nat.min_eq_left hm]
    -- cell n of the row is cell n % k of element n / k
    have hn : ∀ n, n < m * k → ∃ z u, ((ys.take m).flatMap AV.cells)[n]? = some z ∧ z.one = true ∧ w.cell? ⟨b, p + n, none⟩ = some u ∧ VA w (G F β s.st) β s.st z u := by
      intro n hnm
      have hk0 : 0 < k := by
        rcases Nat.eq_zero_or_pos k with h | h
        · subst h; simp at hnm
        · exact h
      have hdm : n / k * k + n % k = n := by rw [Nat.mul_comm]; exact Nat.div_add_mod n k
      have hi : n / k < m := (Nat.div_lt_iff_lt_mul hk0).2 hnm
      have hy : ys[n / k]? = some (ys[n / k]'(by omega)) := List.getElem?_eq_getElem (by omega)
      have hyk := (hel _ (List.mem_of_getElem? hy)).2
      have hz : (ys[n / k]'(by omega)).cells[n % k]? = some ((ys[n / k]'(by omega)).cells[n % k]'(by rw [hyk]; exact Nat.mod_lt _ hk0)) := List.getElem?_eq_getElem _
      obtain ⟨h1, u, hu, hva⟩ := hcell _ _ _ _ hy hz
      rw [hdm] at hu
      refine ⟨_, u, ?_, h1, hu, hva⟩
      have hty : (ys.take m)[n / k]? = some (ys[n / k]'(by omega)) := by rw [List.getElem?_take_of_lt hi]; exact hy
      have := flat_get (k := k) (ys.take m) (fun i x hx => (hel x (List.mem_of_mem_take (List.mem_of_getElem? hx))).2) (n / k) _ (n % k) _ hty hz
      rw [hdm] at this; exact this
    refine ⟨((List.range (m * k)).map fun n => (w.cell? ⟨b, p + n, none⟩).getD undef).toArray, ?_, ?_⟩
    · rw [hvv]
      simp only [Builtin.firstCells]
      exact run_loadCells (P := P) (w := w) (b := b) (o := p) _ (fun j hj => by obtain ⟨z, u, _, _, hu, _⟩ := hn j hj; rw [hu]; rfl)
    · refine ⟨by simp [hfl], fun j y hy => ?_⟩
      have hj : j < m * k := by rw [← hfl]; exact lt_of_get hy
      obtain ⟨z, u, hz, h1, hu, hva⟩ := hn j hj
      rw [hz] at hy; cases hy
      exact ⟨h1, u, by simp [hj, hu], hva⟩
  have mk0 : ys = [] → ∀ p cap, v = .slice p 0 cap → ∀ m, m ≤ ys.length → ∃ c, (Builtin.firstCells k m v).run P w = .ok c w ∧ CR w (G F β s.st) β s.st c ((ys.take m).flatMap AV.cells) := by
    intro h0 p cap hvv m hm
    subst h0
    have : m = 0 := by simpa using hm
    subst this
    refine ⟨#[], ?_, rfl, fun j y hy => by simp at hy⟩
    rw [hvv]
    cases p with
    | none => rfl
    | some ad => simp [Builtin.firstCells, loadCells, loadCellsFrom]
  cases h with
  | @t xs fl hk =>
    cases hv with
    | t hv =>
      cases hv with
      | nils => exact ⟨none, 0, rfl, Nat.le_refl _, mk0 rfl none 0 rfl⟩
      | nilsE fl ad => exact ⟨some ad, 0, rfl, Nat.le_refl _, mk0 rfl (some ad) 0 rfl⟩
      | sl xs f k' b p cap vs hb hF hf hcap hkk h1 hc hva =>
        refine ⟨some ⟨b, p, none⟩, cap, by simp, by simpa using hcap, mk b p cap (by simp) (fun i y j z hy hz => ?_)⟩
        rw [List.getElem?_map, Option.map_eq_some_iff] at hy
        obtain ⟨q, hq, rfl⟩ := hy
        simp only [AV.cells, List.getElem?_map, Option.map_eq_some_iff] at hz
        obtain ⟨r, hr', rfl⟩ := hz
        have hke : k' = k := by rw [← (hkk i q hq).2]; exact hk q (List.mem_of_getElem? hq)
        subst hke
        exact ⟨h1 i q j r hq hr', _, by rw [← Nat.add_assoc]; exact hc i q j r hq hr', .t (hva i q j r hq hr')⟩
  | @own id g off len ob hso hg hk hl =>
    have hst := hs.st _ _ hso
    have hyl : ((ob.els.drop off).take len).length = len := by simp; omega
    cases hv with
    | @own _ _ _ _ b cap ob' c g1 g2 g3 g4 g5 g6 g7 =>
      rw [hst] at g1; cases g1
      refine ⟨_, cap, by rw [hyl], by rw [hyl]; omega, mk b (off * ob.k) cap (by rw [hyl]) (fun i y j z hy hz => ?_)⟩
      rcases hr.ob _ _ hst with ⟨h0, _⟩ | ⟨b2, c2, hb2, hh2, hsz2, hkk2, hcell2⟩
      · rw [g3] at h0; cases h0
      rw [g3] at hb2; cases hb2
      have hi := lt_of_get hy
      rw [List.getElem?_take_of_lt (by omega), List.getElem?_drop] at hy
      obtain ⟨h1, u, hu, hva⟩ := hcell2 _ _ _ _ hy hz
      refine ⟨h1, u, ?_, hva⟩
      rw [cell_of_heap hh2, ← hk, ← Nat.add_assoc, ← Nat.add_mul]; exact hu
    | ownNil g1 g2 g3 g4 =>
      rw [hst] at g1; cases g1
      have h0 : (ob.els.drop 0).take 0 = [] := by simp
      exact ⟨none, 0, by simp, by simp, mk0 h0 none 0 rfl⟩
    | @ownZ _ _ _ b o' ob' g1 g2 g3 g4 g5 =>
      have h0 : (ob.els.drop off).take 0 = [] := by simp
      exact ⟨some ⟨b, o', none⟩, 0, by simp, by simp, mk0 h0 _ 0 rfl⟩
    | @ownE _ _ ad ob' g1 g2 g3 g4 =>
      have h0 : (ob.els.drop 0).take 0 = [] := by simp
      exact ⟨some ad, 0, by simp, by simp, mk0 h0 _ 0 rfl⟩
    | stale g1 g2 => rw [hst] at g1; cases g1; omega

end Go.Tv

end
section
namespace Go.Tv

variable {P : Program} {o : Oper} {D : St}

theorem CR.append {w : World} {H : Nat → Prop} {β : Nat → Option Nat} {σ : Sto} {c d : Array Value} {ys zs : List AV} (h : CR w H β σ c ys) (k : CR w H β σ d zs) : CR w H β σ (c ++ d) (ys ++ zs) := by
  refine ⟨by simp [h.1, k.1], fun j y hy => ?_⟩
  by_cases hj : j < ys.length
  · rw [List.getElem?_append_left hj] at hy
    obtain ⟨h1, u, hu, hva⟩ := h.2 j y hy
    exact ⟨h1, u, by rw [Array.getElem?_append_left (by rw [h.1]; exact hj)]; exact hu, hva⟩
  · rw [List.getElem?_append_right (by omega)] at hy
    obtain ⟨h1, u, hu, hva⟩ := k.2 _ y hy
    exact ⟨h1, u, by rw [Array.getElem?_append_right (by rw [h.1]; omega), h.1]; exact hu, hva⟩

/-- The cells of an object's row, told of its elements. -/
def RowOf (w : World) (H : Nat → Prop) (β : Nat → Option Nat) (σ : Sto) (c : Array Value) (els : List AV) (k : Nat) : Prop :=
  ∀ (i : Nat) x (j : Nat) y, els[i]? = some x → x.cells[j]? = some y → y.one = true ∧ ∃ v, c[i * k + j]? = some v ∧ VA w H β σ y v

theorem RowOf.of_cr {w : World} {H : Nat → Prop} {β : Nat → Option Nat} {σ : Sto} {c : Array Value} {els : List AV} {k : Nat} (hk : ∀ y, y ∈ els → y.noTup = true ∧ y.cells.length = k) {d : Array Value}
    (h : CR w H β σ c (els.flatMap AV.cells)) (hd : d = c ∨ ∃ r, d = c ++ r) : RowOf w H β σ d els k := by
  intro i x j y hx hy
  have hf := flat_get els (fun i x hx => (hk x (List.mem_of_getElem? hx)).2) i x j y hx hy
  obtain ⟨h1, u, hu, hva⟩ := h.2 _ y hf
  refine ⟨h1, u, ?_, hva⟩
  rcases hd with rfl | ⟨r, rfl⟩
  · exact hu
  · rw [Array.getElem?_append_left (lt_of_getA hu)]; exact hu

/-- Elements written over a row from element m on. -/
theorem RowOf.write {w : World} {H : Nat → Prop} {β : Nat → Option Nat} {σ : Sto} {c d : Array Value} {els ys : List AV} {k m : Nat} (hk : ∀ y, y ∈ els → y.noTup = true ∧ y.cells.length = k)
    (hy : ∀ y, y ∈ ys → y.noTup = true ∧ y.cells.length = k) (hm : m ≤ els.length) (h : RowOf w H β σ c els k) (hd : CR w H β σ d (ys.flatMap AV.cells)) (hc : (m + ys.length) * k ≤ c.size) :
    RowOf w H β σ (writeAt c (m * k) d.toList) (els.take m ++ ys ++ els.drop (m + ys.length)) k := by
  have hdl : d.toList.length = ys.length * k := by
    have := hd.1
    rw [flat_length (k := k) ys (fun i x hx => (hy x (List.mem_of_getElem? hx)).2)] at this
    simpa using this
  have hw := writeAt_get d.toList c (m * k)
  rw [hdl] at hw
  have hwj := fun j => hw j (by rw [← Nat.add_mul]; exact hc)
  intro i x j y hx hyy
  have hml : (els.take m).length = m := by simp; omega
  have hjk : ∀ (z : AV), z.cells.length = k → z.cells[j]? = some y → j < k := fun z hz h => by have := lt_of_get h; omega
  by_cases h1 : i < m
  · rw [List.append_assoc, List.getElem?_append_left (by omega), List.getElem?_take_of_lt h1] at hx
    have hj := hjk x (hk x (List.mem_of_getElem? hx)).2 hyy
    rw [hwj, if_neg (by have := mul_add_le (k := k) (j := k) h1 (Nat.le_refl _); omega)]
    exact h i x j y hx hyy
  · by_cases h2 : i < m + ys.length
    · rw [List.append_assoc, List.getElem?_append_right (by omega), List.getElem?_append_left (by omega), hml] at hx
      have hj := hjk x (hy x (List.mem_of_getElem? hx)).2 hyy
      have hf := flat_get ys (fun i x hx => (hy x (List.mem_of_getElem? hx)).2) (i - m) x j y hx hyy
      obtain ⟨g1, u, hu, hva⟩ := hd.2 _ y hf
      refine ⟨g1, u, ?_, hva⟩
      have e : i * k + j - m * k = (i - m) * k + j := by
        have : i * k = m * k + (i - m) * k := by rw [← Nat.add_mul]; congr 1; omega
        omega
      have hle : m * k ≤ i * k := Nat.mul_le_mul_right k (by omega)
      have hlt : (i - m) * k + j < ys.length * k := by
        have := mul_add_le (k := k) (n := ys.length) (i := i - m) (j := k) (by omega) (Nat.le_refl _); omega
      rw [hwj, if_pos (by omega), e, Array.getElem?_toList]; exact hu
    · rw [List.getElem?_append_right (by simp [hml]; omega)] at hx
      simp only [List.length_append, hml, List.getElem?_drop] at hx
      rw [show m + ys.length + (i - (m + ys.length)) = i from by omega] at hx
      have hj := hjk x (hk x (List.mem_of_getElem? hx)).2 hyy
      have hle : (m + ys.length) * k ≤ i * k := Nat.mul_le_mul_right k (by omega)
      rw [Nat.add_mul] at hle
      rw [hwj, if_neg (by omega)]
      exact h i x j y hx hyy

theorem Rel.row {F : Nat → Prop} {β : Nat → Option Nat} {s : St} {a : Act} {w : World} (hr : Rel F β s a w) {id b : Nat} {ob : Ob} (hs : sget s.st id = some ob) (hb : β id = some b) :
    ∃ c, w.heap[b]? = some (.cells c ob.ty (0, 0)) ∧ ob.els.length * ob.k ≤ c.size ∧ (∀ y, y ∈ ob.els → y.noTup = true ∧ y.cells.length = ob.k) ∧ RowOf w (G F β s.st) β s.st c ob.els ob.k := by
  rcases hr.ob id ob hs with ⟨h0, _⟩ | ⟨b2, c, hb2, hh, hsz, hk, hc⟩
  · rw [hb] at h0; cases h0
  · rw [hb] at hb2; cases hb2
    exact ⟨c, hh, hsz, fun y hy => by obtain ⟨i, hi, rfl⟩ := List.mem_iff_getElem.1 hy; exact hk i _ (List.getElem?_eq_getElem hi), hc⟩

/-- The run of append, up to its two ways. -/
theorem run_append {t t2 e e2 : TypeId} {k k2 bytes : Nat} {ag ag2 : Bool} {w : World} {p q : Option Addr} {sl sc n qc : Nat} (ht : elemOf P t = some (e, k, ag)) (ht2 : elemOf P t2 = some (e2, k2, ag2))
    (hb : (P.info? e).map (·.bytes) = some bytes) (hlim : (sl + n) * bytes ≤ 140737488355328) (hlim2 : sl + n ≤ 4611686018427387904) (cons : Array Bool) (ty : TypeId) :
    (sl + n ≤ sc → ∀ c1 w', (Builtin.firstCells k n (.slice q n qc)).run P w = .ok c1 w → ((match p with | some a => storeCells (a.add (sl * k)) c1.toList | none => pure () : Sem Unit)).run P w = .ok () w' →
      (invoke (.builtin .append #[t, t2] ty cons) #[.slice p sl sc, .slice q n qc]).run P w = .ok (.value (.slice p (sl + n) sc)) w') ∧
    (sc < sl + n → ∀ (z : Value) (c0 c1 : Array Value), (∀ w, (zeroValue e).run P w = .ok z w) → (Builtin.firstCells k sl (.slice p sl sc)).run P w.drew = .ok c0 w.drew →
      (Builtin.firstCells k n (.slice q n qc)).run P w.drew = .ok c1 w.drew →
      ∃ nc rest, sl + n ≤ nc ∧ rest.size = (nc - (sl + n)) * z.cells.size ∧ (invoke (.builtin .append #[t, t2] ty cons) #[.slice p sl sc, .slice q n qc]).run P w =
        .ok (.value (.slice (some ⟨w.heap.size, 0, none⟩) (sl + n) nc)) (w.drew.alloc (.cells (c0 ++ c1 ++ rest) e))) := by
  obtain ⟨hu, hte⟩ := elemOf_spec ht
  obtain ⟨hu2, _⟩ := elemOf_spec ht2
  obtain ⟨inf, hinf, hby⟩ := Option.map_eq_some_iff.1 hb
  constructor
  · intro hle c1 w' h1 hst
    cases p with
    | none =>
      cases hst
      simp [invoke, builtin, Builtin.append_, run_underlying' w hu, run_underlying' w hu2, run_sizeOf' w hte, Builtin.lenOf, hle, h1]
    | some ad =>
      simp only [] at hst
      simp [invoke, builtin, Builtin.append_, run_underlying' w hu, run_underlying' w hu2, run_sizeOf' w hte, Builtin.lenOf, hle, h1, hst]
  · intro hgt z c0 c1 hz hd0 hd1
    have hng : ¬ (sl + n ≤ sc) := by omega
    have hnext : ¬ (Builtin.nextslicecap (sl + n) sc * inf.bytes > 2 ^ 48) := by
      have := growslice_fits (bytes := inf.bytes) hgt (by rw [hby]; exact hlim)
      omega
    have hcut : ∀ q', sl + n ≤ (Question.appendCap (sl + n) sc e).cut q' := fun q' => by simp only [Question.cut]; omega
    refine ⟨(Question.appendCap (sl + n) sc e).cut (w.tape w.drawn (.appendCap (sl + n) sc e)), Builtin.zeroCells z.cells ((Question.appendCap (sl + n) sc e).cut (w.tape w.drawn (.appendCap (sl + n) sc e)) - (sl + n)),
      hcut _, by simp [Builtin.zeroCells], ?_⟩
    simp [invoke, builtin, Builtin.append_, run_underlying' w hu, run_underlying' w hu2, run_sizeOf' w hte, Builtin.lenOf, hng, run_typeInfo' w hinf, run_typeInfo' w.drew hinf, hnext, Question.forced, hd0, hd1, hz, newRow]
    intro h; omega

/-- The facts on an append statement's types. -/
structure AppT (P : Program) (t t2 e : TypeId) (k bytes : Nat) : Prop where
  t : ∃ ag, elemOf P t = some (e, k, ag)
  t2 : ∃ e2 k2 ag2, elemOf P t2 = some (e2, k2, ag2)
  b : (P.info? e).map (·.bytes) = some bytes
  z : ∃ z, zeroOf P e = some z ∧ z.cells.length = k

theorem execAppend {t t2 : TypeId} {x y : Operand} (ho : o.op = .call { callee := .builtin .append, args := #[x, y], argTypes := #[t, t2] }) (a : Act) :
    ∃ cons : Array Bool, execOp a.eval o = invoke (.builtin .append #[t, t2] o.type cons) #[a.eval x, a.eval y] := by
  refine ⟨(#[x, y] : Array Operand).map fun | .const _ => true | _ => false, ?_⟩
  simp only [execOp, ho, resolve, List.map_toArray, List.map_cons, List.map_nil]
  rfl

theorem Evo.of_drew {σ σ' : Sto} {β β' : Nat → Option Nat} {w w' : World} (h : Evo σ β w.drew σ' β' w') : Evo σ β w σ' β' w' :=
  ⟨h.os, ⟨h.tape.1, Nat.le_trans (Nat.le_succ _) h.tape.2⟩, h.output, h.size, h.keep, h.own, h.shp⟩

/-- A new block behind an append. -/
theorem app_new {F : Nat → Prop} {β : Nat → Option Nat} {s : St} {a : Act} {w : World} (hr : Rel F β s a w) {id g' k : Nat} {e : TypeId} {xs ys : List AV} {c0 c1 rest : Array Value} {nc kz : Nat}
    (hid : ∀ ob₀, sget s.st id = some ob₀ → ob₀.gen < g') (hx : ∀ y, y ∈ xs → y.noTup = true ∧ y.cells.length = k) (hy : ∀ y, y ∈ ys → y.noTup = true ∧ y.cells.length = k)
    (h0 : CR w.drew (G F β s.st) β s.st c0 (xs.flatMap AV.cells)) (h1 : CR w.drew (G F β s.st) β s.st c1 (ys.flatMap AV.cells)) (hnc : xs.length + ys.length ≤ nc)
    (hrest : rest.size = (nc - (xs.length + ys.length)) * kz) (hkz : kz = k) {d : Option Tmp} (hd : dstOK s.n d = true) :
    ∃ β', Rel F β' { n := s.n, fr := fputO s.fr d (.own id g' 0 (xs.length + ys.length)), st := sput s.st id (some ⟨k, e, g', xs ++ ys⟩) }
        (a.put d (.slice (some ⟨w.heap.size, 0, none⟩) (xs.length + ys.length) nc)) (w.drew.alloc (.cells (c0 ++ c1 ++ rest) e)) ∧
      Evo s.st β w (sput s.st id (some ⟨k, e, g', xs ++ ys⟩)) β' (w.drew.alloc (.cells (c0 ++ c1 ++ rest) e)) := by
  subst hkz
  have hall : ∀ y, y ∈ xs ++ ys → y.noTup = true ∧ y.cells.length = kz := fun y hm => (List.mem_append.1 hm).elim (hx y) (hy y)
  have hcr : CR w.drew (G F β s.st) β s.st (c0 ++ c1) ((xs ++ ys).flatMap AV.cells) := by rw [List.flatMap_append]; exact h0.append h1
  have hfl : ((xs ++ ys).flatMap AV.cells).length = (xs.length + ys.length) * kz := by
    rw [flat_length (k := kz) _ (fun i x hx => (hall x (List.mem_of_getElem? hx)).2), List.length_append]
  have hsz : (c0 ++ c1 ++ rest).size = nc * kz := by
    rw [Array.size_append, hcr.1, hfl, hrest, ← Nat.add_mul]
    congr 1; omega
  obtain ⟨β', hrel, hev⟩ := hr.drew.new (id := id) (ob := ⟨kz, e, g', xs ++ ys⟩) (c := c0 ++ c1 ++ rest) hid (by rw [hsz, List.length_append]; exact Nat.mul_le_mul_right _ hnc)
    (fun i x hx => hall x (List.mem_of_getElem? hx)) (RowOf.of_cr hall hcr (.inr ⟨rest, rfl⟩)) (d := d) hd (x := .own id g' 0 (xs.length + ys.length))
    (v := .slice (some ⟨w.heap.size, 0, none⟩) (xs.length + ys.length) nc)
    (fun β' hb => by
      have := VA.own (w := w.drew.alloc (.cells (c0 ++ c1 ++ rest) e)) (H := G F β' (sput s.st id (some ⟨kz, e, g', xs ++ ys⟩))) (β := β') (off := 0) (len := xs.length + ys.length) (cap := nc) (c := c0 ++ c1 ++ rest)
        (sget_sput_same s.st id (some ⟨kz, e, g', xs ++ ys⟩)) rfl hb (by simp) (by simp [hnc]) (by show (w.heap.push _)[w.heap.size]? = _; simp) (by rw [hsz, Nat.zero_add]; exact Nat.le_refl _)
      simpa using this)
  exact ⟨β', hrel, hev.of_drew⟩

theorem zero_all {e : TypeId} {z : Tr} (hz : zeroOf P e = some z) : ∃ zv, (∀ w, (zeroValue e).run P w = .ok zv w) ∧ zv.cells.size = z.cells.length := by
  unfold zeroOf at hz
  split at hz
  · rename_i i hi
    split at hz
    · rename_i v hv
      refine ⟨v, fun w => ?_, (constT_v hz default (fun _ => False)).2.2⟩
      simp only [zeroValue, Sem.run_bind, run_typeInfo' w hi, Result.andThen_ok, hv, Sem.run_pure]
    · cases hz
  · cases hz

theorem cr_one {w : World} {H : Nat → Prop} {β : Nat → Option Nat} {σ : Sto} {c : Array Value} {ys : List AV} (h : CR w H β σ c ys) : ∀ v, v ∈ c.toList → v.oneCell' = true := by
  intro v hv
  obtain ⟨j, hj, rfl⟩ := List.mem_iff_getElem.1 hv
  have hj' : j < c.size := by simpa using hj
  have hjy : j < ys.length := by rw [← h.1]; exact hj'
  obtain ⟨h1, u, hu, hva⟩ := h.2 j _ (List.getElem?_eq_getElem hjy)
  rw [Array.getElem?_eq_getElem hj'] at hu
  cases hu
  simpa using hva.one h1

/-- append of at least one element to an owned slice that holds all of its object's elements. -/
theorem eff_append {t t2 e : TypeId} {x y : Operand} {k bytes id g len : Nat} {ob : Ob} {ys : List AV} (hd : dstOK D.n o.dst = true)
    (ho : o.op = .call { callee := .builtin .append, args := #[x, y], argTypes := #[t, t2] }) (hT : AppT P t t2 e k bytes) (hx : D.ev x = .own id g 0 len) (hs : sget D.st id = some ob) (hg : ob.gen = g)
    (hlen : len = ob.els.length) (hk : ob.k = k) (hty : ob.ty = e) (hy : Src D k (D.ev y) ys) (hy0 : 0 < ys.length) (hlim : (len + ys.length) * bytes ≤ 140737488355328) (hlim2 : len + ys.length ≤ 4611686018427387904) :
    Eff P o D ⟨.own id (g + 1) 0 (len + ys.length), [(id, { ob with gen := g + 1, els := ob.els ++ ys })]⟩ := by
  intro s hs' _ F β a w hr next Q hnext
  subst hlen
  have hst := hs'.st _ _ hs
  obtain ⟨⟨ag, ht⟩, ⟨e2, k2, ag2, ht2⟩, hb, z, hz, hzk⟩ := hT
  have hxv := hr.evA hs' hx
  have hyv := hr.evA hs' (x := y) rfl
  have hyel := hy.el hr hs' hyv
  obtain ⟨q, qc, hyq, hqc, hyrun⟩ := hy.run (P := P) hr hs' hyv
  obtain ⟨cons, hexec⟩ := execAppend ho a
  have hdn : dstOK s.n o.dst = true := by rw [hs'.n]; exact hd
  have hsrc : Src D k (D.ev x) ((ob.els.drop 0).take ob.els.length) := by rw [hx]; exact .own hs hg hk (by omega)
  have hxel := hsrc.el hr hs' (hx ▸ hxv)
  rw [List.drop_zero, List.take_length] at hsrc hxel
  have hobe : ({ ob with gen := g + 1, els := ob.els ++ ys } : Ob) = ⟨k, e, g + 1, ob.els ++ ys⟩ := by rw [← hk, ← hty]
  -- what comes of a new block
  have viaNew : ∀ (p : Option Addr) (sc : Nat), a.eval x = .slice p ob.els.length sc → sc < ob.els.length + ys.length → o.wp P a w next Q := by
    intro p sc hp hlt
    have hrd := hr.drew
    obtain ⟨q', qc', hyq', _, hyrun'⟩ := hy.run (P := P) hrd hs' (hrd.evA hs' (x := y) rfl)
    obtain ⟨p', sc', hxq', _, hxrun'⟩ := hsrc.run (P := P) hrd hs' (hrd.evA hs' (x := x) rfl)
    obtain ⟨c1, hc1, hcr1⟩ := hyrun' ys.length (Nat.le_refl _)
    obtain ⟨c0, hc0, hcr0⟩ := hxrun' ob.els.length (Nat.le_refl _)
    rw [List.take_length] at hcr1 hcr0
    rw [hyq] at hc1
    rw [hp] at hc0
    obtain ⟨zv, hzall, hzs⟩ := zero_all hz
    obtain ⟨nc, rest, hnc, hrest, hrun⟩ := (run_append (w := w) (p := p) (q := q) (sl := ob.els.length) (sc := sc) (n := ys.length) (qc := qc) ht ht2 hb hlim hlim2 cons o.type).2 hlt zv c0 c1 hzall hc0 hc1
    unfold Oper.wp
    rw [hexec, hyq, hp, hrun]
    obtain ⟨β', hrel, hev⟩ := app_new hr (id := id) (g' := g + 1) (k := k) (e := e) (fun ob₀ h => by rw [hst] at h; cases h; omega) hxel hyel hcr0 hcr1 hnc hrest (by rw [hzs]; exact hzk) hdn
    refine hnext β' _ _ ?_ ?_
    · show Rel F β' { n := s.n, fr := fputO s.fr o.dst (.own id (g + 1) 0 (ob.els.length + ys.length)), st := sput s.st id (some { ob with gen := g + 1, els := ob.els ++ ys }) } _ _
      rw [hobe]; exact hrel
    · show Evo s.st β w (sput s.st id (some { ob with gen := g + 1, els := ob.els ++ ys })) β' _
      rw [hobe]; exact hev
  generalize hxe : a.eval x = xv at hxv
  obtain ⟨L, hL⟩ : ∃ L, L = ob.els.length := ⟨_, rfl⟩
  rw [← hL] at hxv
  cases hxv with
  | @own _ _ _ _ b cap ob' c g1 g2 g3 g4 g5 g6 g7 =>
    subst hL
    rw [hst] at g1; cases g1
    by_cases hle : ob.els.length + ys.length ≤ cap
    · obtain ⟨c1, hc1, hcr1⟩ := hyrun ys.length (Nat.le_refl _)
      rw [List.take_length] at hcr1
      rw [hyq] at hc1
      obtain ⟨c', hh, hsz, hel, hrow⟩ := hr.row hst g3
      rw [g6] at hh; cases hh
      have hc1l : c1.toList.length = ys.length * k := by
        have := hcr1.1
        rw [flat_length (k := k) ys (fun i x hx => (hyel x (List.mem_of_getElem? hx)).2)] at this
        simpa using this
      have hcapk : (ob.els.length + ys.length) * k ≤ c.size := by
        have h3 : (ob.els.length + ys.length) * k ≤ cap * k := Nat.mul_le_mul_right k hle
        rw [hk, Nat.zero_add] at g7
        omega
      have hst2 : (storeCells (Addr.add ⟨b, 0 * ob.k, none⟩ (ob.els.length * k)) c1.toList).run P w = .ok () (setB w b (.cells (writeAt c (ob.els.length * k) c1.toList) ob.ty (0, 0))) := by
        have := run_storeCells P c1.toList w c (ob.els.length * k) 0 g6 (cr_one hcr1) (by rw [hc1l]; rw [Nat.add_mul] at hcapk; omega)
        simpa [Addr.add_none] using this
      have hrun := (run_append (P := P) (w := w) (p := some ⟨b, 0 * ob.k, none⟩) (q := q) (sl := ob.els.length) (sc := cap) (n := ys.length) (qc := qc) ht ht2 hb hlim hlim2 cons o.type).1 hle c1 _ hc1 hst2
      have hrow' : RowOf w (G F β s.st) β s.st (writeAt c (ob.els.length * k) c1.toList) (ob.els ++ ys) k := by
        have := RowOf.write (m := ob.els.length) hxel hyel (Nat.le_refl _) (hk ▸ hrow) hcr1 hcapk
        rw [List.take_length, List.drop_eq_nil_of_le (by omega), List.append_nil] at this
        exact this
      have hall : ∀ y, y ∈ ob.els ++ ys → y.noTup = true ∧ y.cells.length = k := fun y hm => (List.mem_append.1 hm).elim (hxel y) (hyel y)
      obtain ⟨hrel, hev, hmono⟩ := hr.upd (g' := g + 1) (els' := ob.els ++ ys) (c' := writeAt c (ob.els.length * k) c1.toList) hst g3 g6 (writeAt_size _ _ _) (.inr (by omega))
        (by rw [List.length_append, hk]; exact hcapk) (fun i x hx => by rw [hk]; exact hall x (List.mem_of_getElem? hx)) (by rw [hk]; exact hrow')
      unfold Oper.wp
      rw [hexec, hyq, hxe, hrun]
      refine hnext β _ _ (hrel.put (d := o.dst) hdn (x := .own id (g + 1) 0 (ob.els.length + ys.length)) (v := .slice (some ⟨b, 0 * ob.k, none⟩) (ob.els.length + ys.length) cap) ?_) hev
      exact VA.own (ob := { ob with gen := g + 1, els := ob.els ++ ys }) (off := 0) (sget_sput_same _ _ _) rfl g3 (by simp) (by simp; omega) (setB_same _ (lt_of_heap g6)) (by rw [writeAt_size]; exact g7)
    · exact viaNew _ _ hxe (by omega)
  | ownNil g1 g2 g3 g4 => exact viaNew none 0 (by rw [hxe, ← hL]) (by omega)
  | ownZ g1 g2 g3 g4 => exact viaNew _ 0 (by rw [hxe, ← hL]) (by omega)
  | ownE g1 g2 g3 g4 => exact viaNew _ 0 (by rw [hxe, ← hL]) (by omega)
  | stale g1 g2 => rw [hst] at g1; cases g1; omega

/-- append of at least one element to a slice whose capacity is its length: a new object. -/
theorem eff_appendNew {t t2 e : TypeId} {x y : Operand} {k bytes id : Nat} {xs : List Tr} {ys : List AV} (hd : dstOK D.n o.dst = true)
    (ho : o.op = .call { callee := .builtin .append, args := #[x, y], argTypes := #[t, t2] }) (hT : AppT P t t2 e k bytes) (hx : D.ev x = .t (.sl xs true)) (hid : sget D.st id = none)
    (hxk : ∀ z, z ∈ xs → z.cells.length = k) (hy : Src D k (D.ev y) ys) (hy0 : 0 < ys.length) (hlim : (xs.length + ys.length) * bytes ≤ 140737488355328) (hlim2 : xs.length + ys.length ≤ 4611686018427387904) :
    Eff P o D ⟨.own id 0 0 (xs.length + ys.length), [(id, ⟨k, e, 0, xs.map .t ++ ys⟩)]⟩ := by
  intro s hs' hfresh F β a w hr next Q hnext
  have hid' := hfresh id _ (List.mem_singleton.2 rfl) hid
  obtain ⟨⟨ag, ht⟩, ⟨e2, k2, ag2, ht2⟩, hb, z, hz, hzk⟩ := hT
  have hxv := hr.evA hs' hx
  have hyv := hr.evA hs' (x := y) rfl
  have hyel := hy.el hr hs' hyv
  obtain ⟨q, qc, hyq, hqc, hyrun⟩ := hy.run (P := P) hr hs' hyv
  obtain ⟨cons, hexec⟩ := execAppend ho a
  have hdn : dstOK s.n o.dst = true := by rw [hs'.n]; exact hd
  have hsrc : Src D k (D.ev x) (xs.map .t) := by rw [hx]; exact .t hxk
  have hxel := hsrc.el hr hs' (hx ▸ hxv)
  obtain ⟨p, sc, hp, hsc⟩ : ∃ p sc, a.eval x = .slice p xs.length sc ∧ sc = xs.length := by
    generalize a.eval x = v at hxv
    cases hxv with
    | t h =>
      cases h with
      | nils => exact ⟨_, _, rfl, rfl⟩
      | nilsE => exact ⟨_, _, rfl, rfl⟩
      | sl xs f k b o cap vs hb hF hf hcap => exact ⟨_, _, rfl, hf rfl⟩
  have hrd := hr.drew
  obtain ⟨q', qc', hyq', _, hyrun'⟩ := hy.run (P := P) hrd hs' (hrd.evA hs' (x := y) rfl)
  obtain ⟨p', sc', hxq', _, hxrun'⟩ := hsrc.run (P := P) hrd hs' (hrd.evA hs' (x := x) rfl)
  obtain ⟨c1, hc1, hcr1⟩ := hyrun' ys.length (Nat.le_refl _)
  obtain ⟨c0, hc0, hcr0⟩ := hxrun' (xs.map AV.t).length (Nat.le_refl _)
  rw [List.take_length] at hcr1 hcr0
  rw [hyq] at hc1
  rw [hp, List.length_map] at hc0
  obtain ⟨zv, hzall, hzs⟩ := zero_all hz
  obtain ⟨nc, rest, hnc, hrest, hrun⟩ := (run_append (w := w) (p := p) (q := q) (sl := xs.length) (sc := sc) (n := ys.length) (qc := qc) ht ht2 hb hlim hlim2 cons o.type).2 (by omega) zv c0 c1 hzall hc0 hc1
  unfold Oper.wp
  rw [hexec, hyq, hp, hrun]
  have hml : (xs.map AV.t).length = xs.length := List.length_map _
  obtain ⟨β', hrel, hev⟩ := app_new hr (id := id) (g' := 0) (k := k) (e := e) (xs := xs.map .t) (fun ob₀ h => by rw [hid'] at h; cases h) hxel hyel hcr0 hcr1 (by rw [hml]; exact hnc) (by rw [hml]; exact hrest) (by rw [hzs]; exact hzk) hdn
  rw [hml] at hrel
  exact hnext β' _ _ hrel hev

/-- append of nothing. -/
theorem eff_appendNil {t t2 e : TypeId} {x y : Operand} {k bytes : Nat} {v : AV} (hd : dstOK D.n o.dst = true)
    (ho : o.op = .call { callee := .builtin .append, args := #[x, y], argTypes := #[t, t2] }) (hT : AppT P t t2 e k bytes) (hx : D.ev x = v)
    (hv : (∃ xs fl, v = .t (.sl xs fl)) ∨ ∃ id g off len ob, v = .own id g off len ∧ sget D.st id = some ob ∧ ob.gen = g) (hy : Src D k (D.ev y) []) : Eff P o D ⟨v, []⟩ :=
  Eff.pure hd fun s hs' F β a w hr => by
    obtain ⟨⟨ag, ht⟩, ⟨e2, k2, ag2, ht2⟩, hb, z, hz, hzk⟩ := hT
    have hxv := hr.evA hs' hx
    obtain ⟨q, qc, hyq, hqc, hyrun⟩ := hy.run (P := P) hr hs' (hr.evA hs' (x := y) rfl)
    obtain ⟨c1, hc1, hcr1⟩ := hyrun 0 (Nat.le_refl _)
    have hc1e : c1 = #[] := by
      have := hcr1.1
      simp at this; exact this
    subst hc1e
    rw [hyq] at hc1
    simp only [List.length_nil] at hc1
    obtain ⟨cons, hexec⟩ := execAppend ho a
    have key : ∀ p sl sc, a.eval x = .slice p sl sc → sl ≤ sc → (execOp a.eval o).run P w = .ok (.value (a.eval x)) w := by
      intro p sl sc hp hle
      obtain ⟨hu, hte⟩ := elemOf_spec ht
      obtain ⟨hu2, _⟩ := elemOf_spec ht2
      rw [hexec, hyq, hp]
      cases p with
      | none => simp [invoke, builtin, Builtin.append_, run_underlying' w hu, run_underlying' w hu2, run_sizeOf' w hte, Builtin.lenOf, hle, hc1]
      | some ad => simp [invoke, builtin, Builtin.append_, run_underlying' w hu, run_underlying' w hu2, run_sizeOf' w hte, Builtin.lenOf, hle, hc1, storeCells]
    refine ⟨a.eval x, ?_, hxv⟩
    rcases hv with ⟨xs, fl, rfl⟩ | ⟨id, g, off, len, ob, rfl, hso, hg⟩
    · generalize hxe : a.eval x = u at hxv
      cases hxv with
      | t h =>
        cases h with
        | nils => rw [← hxe]; exact key _ _ _ hxe (Nat.le_refl _)
        | nilsE => rw [← hxe]; exact key _ _ _ hxe (Nat.le_refl _)
        | sl xs f k b o cap vs hb hF hf hcap => rw [← hxe]; exact key _ _ _ hxe hcap
    · have hst := hs'.st _ _ hso
      generalize hxe : a.eval x = u at hxv
      cases hxv with
      | own g1 g2 g3 g4 g5 g6 g7 => rw [hst] at g1; cases g1; rw [← hxe]; exact key _ _ _ hxe (by omega)
      | ownNil => rw [← hxe]; exact key _ _ _ hxe (Nat.le_refl _)
      | ownZ => rw [← hxe]; exact key _ _ _ hxe (Nat.le_refl _)
      | ownE => rw [← hxe]; exact key _ _ _ hxe (Nat.le_refl _)
      | stale g1 g2 => rw [hst] at g1; cases g1; omega

end Go.Tv

end
section
namespace Go.Tv

variable {P : Program} {o : Oper} {D : St}

/-- Function f is entered by a call. -/
def callOK (P : Program) (f : FuncId) : Bool :=
  match P.funcs[f]? with
  | some fn => !(fn.name == "runtime.NumGoroutine") && fn.body.isSome
  | none => false

theorem run_callFunc {f : FuncId} (h : callOK P f = true) (w : World) (args : Array Value) : (callFunc f args).run P w = .ok (.enter f args) w := by
  unfold callOK at h
  split at h
  · rename_i fn hf
    simp only [Bool.and_eq_true, Bool.not_eq_true', Option.isSome_iff_exists] at h
    obtain ⟨h1, c, h2⟩ := h
    have h3 : (fn.name == "runtime.NumGoroutine") = false := h1
    simp [callFunc, hf, h2, beq_eq_false_iff_ne.1 h3]
  · cases h

theorem execCall {f : FuncId} {x : Operand} {args : Array Operand} {ats : Array TypeId} (ho : o.op = .call { callee := .value x, args := args, argTypes := ats }) {a : Act} {vs : List Value}
    (hx : a.eval x = .func (.func f) #[] vs.toArray) (hf : callOK P f = true) (w : World) :
    (execOp a.eval o).run P w = .ok (.enter f (args.map a.eval ++ vs.toArray)) w := by
  simp [execOp, ho, resolve, Deferred.ofValue, hx, invoke, run_callFunc hf]

/-- A list of arguments: what they stand for. -/
theorem args_vl {a : Act} {w : World} {H : Nat → Prop} {args : Array Operand} {xs caps : List Tr} {vs : List Value}
    (h : ∀ (i : Nat) (x : Operand) (t : Tr), args.toList[i]? = some x → xs[i]? = some t → V w H t (a.eval x)) (hl : args.size = xs.length) (hc : VL w H caps vs) :
    VL w H (xs ++ caps) ((args.toList.map a.eval) ++ vs) := by
  refine ⟨by simp [hl, hc.1], fun i x v hx hv => ?_⟩
  by_cases hi : i < xs.length
  · rw [List.getElem?_append_left hi] at hx
    rw [List.getElem?_append_left (by simp; omega), List.getElem?_map, Option.map_eq_some_iff] at hv
    obtain ⟨y, hy, rfl⟩ := hv
    exact h i y x hy hx
  · rw [List.getElem?_append_right (by omega)] at hx
    rw [List.getElem?_append_right (by simp; omega)] at hv
    simp only [List.length_map, Array.length_toList, hl] at hv
    exact hc.2 _ x v hx hv

/-- The state behind a call that leaves old memory. -/
theorem Rel.below {F : Nat → Prop} {β : Nat → Option Nat} {s : St} {a : Act} {w w' : World} (h : Rel F β s a w) (hb : BelowD w.heap.size w w') :
    Rel F β s a w' ∧ Evo s.st β w s.st β w' ∧ ∀ {y : AV} {v : Value}, VA w (G F β s.st) β s.st y v → VA w' (G F β s.st) β s.st y v := by
  have hheap : ∀ b, b < w.heap.size → w'.heap[b]? = w.heap[b]? := fun b hb' => hb.block b hb'
  have hmono : ∀ {y : AV} {v : Value}, VA w (G F β s.st) β s.st y v → VA w' (G F β s.st) β s.st y v := fun hv =>
    VA.mono hb.size (fun b hb' hn => ⟨hn, hheap b hb'⟩) (fun id ob ho => ⟨ob, ho, .inr ⟨rfl, rfl, rfl, rfl, rfl, fun b c _ hc => ⟨c, by rw [hheap b (lt_of_heap hc)]; exact hc, rfl⟩⟩⟩) hv
  refine ⟨⟨h.defers, h.size, fun i => hmono (h.fr i), fun id ob ho => ?_, h.inj, h.notF, fun b hF => Nat.lt_of_lt_of_le (h.ltF b hF) hb.size⟩,
    ⟨hb.os, hb.le, hb.output, hb.size, fun b hb' _ => hheap b hb', fun b ho => .inr ho, fun b c _ h => ⟨c, (hheap b (lt_of_heap h)).trans h, rfl⟩⟩, hmono⟩
  rcases h.ob id ob ho with h0 | ⟨b, c, h1, h2, h3, h4, h5⟩
  · exact .inl h0
  · refine .inr ⟨b, c, h1, by rw [hheap b (lt_of_heap h2)]; exact h2, h3, h4, fun i x j y hx hy => ?_⟩
    obtain ⟨g1, u, hu, hva⟩ := h5 i x j y hx hy
    exact ⟨g1, u, hu, hmono hva⟩

theorem Rel.ltG {F : Nat → Prop} {β : Nat → Option Nat} {s : St} {a : Act} {w : World} (h : Rel F β s a w) : ∀ b, G F β s.st b → b < w.heap.size := by
  rintro b (hF | ⟨id, ob, ho, hb⟩)
  · exact h.ltF b hF
  · rcases h.ob id ob ho with ⟨h0, _⟩ | ⟨b', c, h1, h2, _⟩
    · rw [hb] at h0; cases h0
    · rw [hb] at h1; cases h1; exact lt_of_heap h2

/-- Trees, each weaker than the one beside it. -/
def WkL (xs ys : List Tr) : Prop := xs.length = ys.length ∧ ∀ (i : Nat) (x y : Tr), xs[i]? = some x → ys[i]? = some y → Wk x y

theorem WkL.nil : WkL [] [] := ⟨rfl, fun i x y h => by simp at h⟩
theorem WkL.cons {x y : Tr} {xs ys : List Tr} (h : Wk x y) (hs : WkL xs ys) : WkL (x :: xs) (y :: ys) :=
  ⟨by simp [hs.1], fun i a b ha hb => by
    cases i with
    | zero => simp at ha hb; subst ha; subst hb; exact h
    | succ i => exact hs.2 i a b (by simpa using ha) (by simpa using hb)⟩

/-- A call of a function by its contract; the arguments are trees. -/
theorem eff_call {f : FuncId} {x : Operand} {args : Array Operand} {ats : Array TypeId} {xs ys caps : List Tr} {r : Tr} (hd : dstOK D.n o.dst = true)
    (ho : o.op = .call { callee := .value x, args := args, argTypes := ats }) (hx : D.ev x = .t (.fn f caps)) (hf : callOK P f = true)
    (hargs : args.toList.map D.ev = xs.map .t) (hw : WkL xs ys) (hret : Ret P f (ys ++ caps) r) : Eff P o D ⟨.t r, []⟩ := by
  intro s hs _ F β a w hr next Q hnext
  have hxv := hr.evT hs hx
  have hl : args.size = xs.length := by
    have := congrArg List.length hargs
    simpa using this
  have hva : ∀ (i : Nat) (y : Operand) (t : Tr), args.toList[i]? = some y → ys[i]? = some t → V w (G F β s.st) t (a.eval y) := by
    intro i y t hy ht
    have hi : i < xs.length := by rw [hw.1]; exact lt_of_get ht
    have hxi : xs[i]? = some xs[i] := List.getElem?_eq_getElem hi
    have h1 : (args.toList.map D.ev)[i]? = some (D.ev y) := by rw [List.getElem?_map, hy]; rfl
    rw [hargs, List.getElem?_map, hxi] at h1
    have h2 : D.ev y = .t xs[i] := by simpa using h1.symm
    exact (hw.2 i _ t hxi ht).v (hr.evT hs h2)
  generalize hxe : a.eval x = xv at hxv
  cases hxv with
  | fn f cs vs hl' hcv =>
    have hvl : VL w (G F β s.st) (ys ++ caps) (args.toList.map a.eval ++ vs) := args_vl hva (by rw [hl, hw.1]) ⟨hl', hcv⟩
    unfold Oper.wp
    rw [execCall ho hxe hf w, Oper.upon_enter]
    have := hret (G F β s.st) w _ hr.ltG hvl
    rw [show (args.toList.map a.eval ++ vs).toArray = args.map a.eval ++ vs.toArray from by apply Array.ext'; simp] at this
    refine Calls.mono this ?_
    rintro e w' ⟨v, rfl, hV, hbel⟩
    obtain ⟨hrel, hev, _⟩ := hr.below hbel
    exact hnext β _ _ (hrel.put (by rw [hs.n]; exact hd) (.t hV)) hev

/-- A tree that shares no memory. -/
def Tr.flat1 : Tr → Bool
  | .bool _ => true
  | .int _ _ => true
  | .str _ => true
  | .nilp => true
  | .nilf => true
  | _ => false

def Tr.flat : Tr → Bool
  | .agg cs => cs.all Tr.flat1
  | .tup cs => cs.all fun c => match c with | .agg ds => ds.all Tr.flat1 | c => c.flat1
  | c => c.flat1

theorem flat1_v {w : World} {H H' : Nat → Prop} {x : Tr} {v : Value} (h : x.flat1 = true) (hv : V w H x v) : V w H' x v := by
  cases hv with
  | bool b => exact .bool b
  | int k n => exact .int k n
  | str s => exact .str s
  | nilp => exact .nilp
  | nilf => exact .nilf
  | _ => simp [Tr.flat1] at h

theorem flat_agg {w : World} {H H' : Nat → Prop} {cs : List Tr} {v : Value} (h : cs.all Tr.flat1 = true) (hv : V w H (.agg cs) v) : V w H' (.agg cs) v := by
  cases hv with
  | agg cs vs hl h1 hva => exact .agg cs vs hl h1 (fun j c u hc hu => flat1_v (List.all_eq_true.1 h c (List.mem_of_getElem? hc)) (hva j c u hc hu))

theorem flat_v {w : World} {H H' : Nat → Prop} {x : Tr} {v : Value} (h : x.flat = true) (hv : V w H x v) : V w H' x v := by
  cases x with
  | agg cs => exact flat_agg h hv
  | tup cs =>
    cases hv with
    | tup cs vs hl hva =>
      refine .tup cs vs hl (fun j c u hc hu => ?_)
      have hcf := List.all_eq_true.1 h c (List.mem_of_getElem? hc)
      have := hva j c u hc hu
      cases c with
      | agg ds => exact flat_agg hcf this
      | _ => exact flat1_v hcf this
  | _ => exact flat1_v h hv

theorem Res.mono {σ σ' : Sto} (h : ∀ id ob, sget σ id = some ob → sget σ' id = some ob) {e : AV} {x : Tr} (hr : Res σ e x) : Res σ' e x := by
  induction hr with
  | t x => exact .t x
  | own id g off len ob xs hs hg hl hx _ ih => exact .own id g off len ob xs (h _ _ hs) hg hl hx ih
  | ptr id g i j ob el cs hs hg he hj _ ih => exact .ptr id g i j ob el cs (h _ _ hs) hg he hj ih
  | agg cs xs hx _ ih => exact .agg cs xs hx ih
  | tup cs xs hx _ ih => exact .tup cs xs hx ih
  | fn f cs xs hx _ ih => exact .fn f cs xs hx ih

/-- A list of abstract values and the trees that they stand for, for a while. -/
def ResL (σ : Sto) (es : List AV) (xs : List Tr) : Prop := es.length = xs.length ∧ ∀ (i : Nat) (e : AV) (x : Tr), es[i]? = some e → xs[i]? = some x → ∃ y, Res σ e y ∧ Wk y x

theorem ResL.nil {σ : Sto} : ResL σ [] [] := ⟨rfl, fun i x y h => by simp at h⟩
theorem ResL.cons {σ : Sto} {e : AV} {y x : Tr} {es : List AV} {xs : List Tr} (h : Res σ e y) (hw : Wk y x) (hs : ResL σ es xs) : ResL σ (e :: es) (x :: xs) :=
  ⟨by simp [hs.1], fun i a b ha hb => by
    cases i with
    | zero => simp at ha hb; subst ha; subst hb; exact ⟨y, h, hw⟩
    | succ i => exact hs.2 i a b (by simpa using ha) (by simpa using hb)⟩

/-- A call by contract whose arguments may lend what is owned; its result shares no memory. -/
theorem eff_callB {f : FuncId} {x : Operand} {args : Array Operand} {ats : Array TypeId} {ys caps : List Tr} {cx : AV} {r : Tr} (hd : dstOK D.n o.dst = true)
    (ho : o.op = .call { callee := .value x, args := args, argTypes := ats }) (hx : D.ev x = cx) (hcx : Res D.st cx (.fn f caps)) (hf : callOK P f = true)
    (hargs : ResL D.st (args.toList.map D.ev) ys) (hret : Ret P f (ys ++ caps) r) (hflat : r.flat = true) : Eff P o D ⟨.t r, []⟩ := by
  intro s hs _ F β a w hr next Q hnext
  have hxv : V w F (.fn f caps) (a.eval x) := hr.res (hcx.mono hs.st) (hr.evA hs hx)
  have hl : args.size = ys.length := by simpa using hargs.1
  have hva : ∀ (i : Nat) (y : Operand) (t : Tr), args.toList[i]? = some y → ys[i]? = some t → V w F t (a.eval y) := by
    intro i y t hy ht
    obtain ⟨q, hq, hw⟩ := hargs.2 i (D.ev y) t (by rw [List.getElem?_map, hy]; rfl) ht
    exact hw.v (hr.res (hq.mono hs.st) (hr.evA hs rfl))
  generalize hxe : a.eval x = xv at hxv
  cases hxv with
  | fn f cs vs hl' hcv =>
    have hvl : VL w F (ys ++ caps) (args.toList.map a.eval ++ vs) := args_vl hva hl ⟨hl', hcv⟩
    unfold Oper.wp
    rw [execCall ho hxe hf w, Oper.upon_enter]
    have := hret F w _ hr.ltF hvl
    rw [show (args.toList.map a.eval ++ vs).toArray = args.map a.eval ++ vs.toArray from by apply Array.ext'; simp] at this
    refine Calls.mono this ?_
    rintro e w' ⟨v, rfl, hV, hbel⟩
    obtain ⟨hrel, hev, _⟩ := hr.below hbel
    exact hnext β _ _ (hrel.put (by rw [hs.n]; exact hd) (.t (flat_v hflat hV))) hev

/-! ### Weaker states -/

/-- x may be taken for y: σf: the objects that are let go (they read as trees), σ': those that stay. -/
inductive Wa (σf σ' : Sto) : AV → AV → Prop
  | junk (x : AV) : Wa σf σ' x .junk
  | t (x : Tr) : Wa σf σ' (.t x) (.t x)
  | own (id g off len : Nat) {ob : Ob} (h : sget σ' id = some ob) : Wa σf σ' (.own id g off len) (.own id g off len)
  | ptr (id g i j : Nat) {ob : Ob} (h : sget σ' id = some ob) : Wa σf σ' (.ptr id g i j) (.ptr id g i j)
  | res {x : AV} {t u : Tr} (h : Res σf x t) (hw : Wk t u) : Wa σf σ' x (.t u)
  | agg {cs ds : List AV} (hl : cs.length = ds.length) (h : ∀ (i : Nat) (x y : AV), cs[i]? = some x → ds[i]? = some y → Wa σf σ' x y) (h1 : ∀ y, y ∈ ds → y.one = true) : Wa σf σ' (.agg cs) (mkAgg ds)
  | fn {f : FuncId} {cs ds : List AV} (hl : cs.length = ds.length) (h : ∀ (i : Nat) (x y : AV), cs[i]? = some x → ds[i]? = some y → Wa σf σ' x y) : Wa σf σ' (.fn f cs) (.fn f ds)

structure WeakSt (s : St) (σf : Sto) (s' : St) : Prop where
  n : s'.n = s.n
  free : ∀ id ob, sget σf id = some ob → sget s.st id = some ob
  fr : ∀ i, Wa σf s'.st (fget s.fr i) (fget s'.fr i)
  ob : ∀ id ob', sget s'.st id = some ob' → sget σf id = none ∧ ∃ ob, sget s.st id = some ob ∧ ob'.k = ob.k ∧ ob'.ty = ob.ty ∧ ob'.gen = ob.gen ∧ ob'.els.length = ob.els.length ∧
    ∀ (i : Nat) x y, ob.els[i]? = some x → ob'.els[i]? = some y → y.noTup = true ∧ y.cells.length = x.cells.length ∧ ∀ (j : Nat) c d, x.cells[j]? = some c → y.cells[j]? = some d → d.one = true ∧ Wa σf s'.st c d

theorem Weak.of {s s' : St} {σf : Sto} (h : WeakSt s σf s') : Weak s s' := by
  intro F β a w hr
  refine ⟨β, ?_, ?_⟩
  · have hown : ∀ b, Owned β s'.st b → Owned β s.st b := by
      rintro b ⟨id, ob, ho, hb⟩
      obtain ⟨_, ob0, ho0, _⟩ := h.ob id ob ho
      exact ⟨id, ob0, ho0, hb⟩
    have hGG : ∀ b, G F β s'.st b → G F β s.st b := fun b hb => hb.imp id (hown b)
    have hfree : ∀ i oi b, sget σf i = some oi → β i = some b → ¬ G F β s'.st b := by
      rintro i oi b hi hb (hF | ⟨id, ob, ho, hb'⟩)
      · exact hr.notF i oi b (h.free i oi hi) hb hF
      · obtain ⟨hn, ob0, ho0, _⟩ := h.ob id ob ho
        have := hr.inj i id oi ob0 b (h.free i oi hi) ho0 hb hb'
        subst this
        rw [hi] at hn; cases hn
    have hanti : ∀ {y : Tr} {v : Value}, V w (G F β s.st) y v → V w (G F β s'.st) y v := fun hv =>
      V.mono (w := w) (w' := w) (Nat.le_refl _) (fun b _ hn => ⟨fun hF => hn (hGG b hF), rfl⟩) hv
    have hva : ∀ {x y : AV}, Wa σf s'.st x y → ∀ v, VA w (G F β s.st) β s.st x v → VA w (G F β s'.st) β s'.st y v := by
      intro x y hxy
      induction hxy with
      | junk x => exact fun v _ => .junk v
      | t x => intro v hv; cases hv with | t hv => exact .t (hanti hv)
      | @own id g off len ob' h' =>
        intro v hv
        obtain ⟨_, ob, ho, hk, hty, hg, hle, _⟩ := h.ob id ob' h'
        cases hv with
        | own g1 g2 g3 g4 g5 g6 g7 =>
          rw [ho] at g1; cases g1
          rw [← hk]
          exact .own h' (hg.trans g2) g3 (by rw [hle]; exact g4) (by rw [hle]; exact g5) (by rw [hty]; exact g6) (by rw [hk]; exact g7)
        | ownNil g1 g2 g3 g4 => rw [ho] at g1; cases g1; exact .ownNil h' (hg.trans g2) g3 (List.length_eq_zero_iff.1 (by rw [hle, g4]; rfl))
        | ownZ g1 g2 g3 g4 g5 => rw [ho] at g1; cases g1; exact .ownZ h' (hg.trans g2) g3 (by rw [hle]; exact g4) g5
        | ownE g1 g2 g3 g4 => rw [ho] at g1; cases g1; exact .ownE h' (hg.trans g2) g3 (List.length_eq_zero_iff.1 (by rw [hle, g4]; rfl))
        | stale g1 g2 g3 => rw [ho] at g1; cases g1; exact .stale h' (by rw [hg]; exact g2) g3
      | @ptr id g i j ob' h' =>
        intro v hv
        obtain ⟨_, ob, ho, hk, hty, hg, hle, _⟩ := h.ob id ob' h'
        cases hv with
        | ptr g1 g2 g3 g4 g5 =>
          rw [ho] at g1; cases g1
          rw [← hk]
          exact .ptr h' (hg.trans g2) g3 (by rw [hle]; exact g4) (by rw [hk]; exact g5)
        | stalep g1 g2 g3 => rw [ho] at g1; cases g1; exact .stalep h' (by rw [hg]; exact g2) g3
      | res hres hw => exact fun v hv => .t (hw.v ((hres.v' hr.ob h.free hGG hfree).1 v hv))
      | @agg cs ds hl hcd h1 ih =>
        intro v hv
        cases hv with
        | @agg _ vs hl' h1' hva =>
          refine VA.mkAgg (by omega) (fun j c hc => h1 c (List.mem_of_getElem? hc)) (fun j c u hc hu => ?_)
          have hj := lt_of_get hc
          have hx : cs[j]? = some (cs[j]'(by omega)) := List.getElem?_eq_getElem (by omega)
          exact ih j _ c hx hc u (hva j _ u hx hu)
      | @fn f cs ds hl hcd ih =>
        intro v hv
        cases hv with
        | @fn _ _ vs hl' hva =>
          refine .fn (by omega) (fun j c u hc hu => ?_)
          have hj := lt_of_get hc
          have hx : cs[j]? = some (cs[j]'(by omega)) := List.getElem?_eq_getElem (by omega)
          exact ih j _ c hx hc u (hva j _ u hx hu)
    refine ⟨hr.defers, hr.size.trans h.n.symm, fun i => hva (h.fr i) _ (hr.fr i), fun id ob' ho' => ?_, fun i j oi oj b hi hj hbi hbj => ?_, fun i oi b hi hb => ?_, hr.ltF⟩
    · obtain ⟨_, ob, ho, hk, hty, hg, hle, hel⟩ := h.ob id ob' ho'
      rcases hr.ob id ob ho with ⟨h0, h1⟩ | ⟨b, c, g1, g2, g3, g4, g5⟩
      · exact .inl ⟨h0, List.length_eq_zero_iff.1 (by rw [hle, h1]; rfl)⟩
      · have hx : ∀ (i : Nat) (y : AV), ob'.els[i]? = some y → ∃ x, ob.els[i]? = some x := fun i y hy => ⟨_, List.getElem?_eq_getElem (by rw [← hle]; exact lt_of_get hy)⟩
        refine .inr ⟨b, c, g1, by rw [hty]; exact g2, by rw [hle, hk]; exact g3, fun i y hy => ?_, fun i y j d hy hd => ?_⟩
        · obtain ⟨x, hx'⟩ := hx i y hy
          obtain ⟨e1, e2, _⟩ := hel i x y hx' hy
          exact ⟨e1, by rw [e2, hk]; exact (g4 i x hx').2⟩
        · obtain ⟨x, hx'⟩ := hx i y hy
          obtain ⟨e1, e2, e3⟩ := hel i x y hx' hy
          have hj : x.cells[j]? = some (x.cells[j]'(by rw [← e2]; exact lt_of_get hd)) := List.getElem?_eq_getElem _
          obtain ⟨q1, q2⟩ := e3 j _ d hj hd
          obtain ⟨_, u, hu, hva'⟩ := g5 i x j _ hx' hj
          exact ⟨q1, u, by rw [hk]; exact hu, hva q2 u hva'⟩
    · obtain ⟨_, o1, h1, _⟩ := h.ob i oi hi
      obtain ⟨_, o2, h2, _⟩ := h.ob j oj hj
      exact hr.inj i j o1 o2 b h1 h2 hbi hbj
    · obtain ⟨_, o1, h1, _⟩ := h.ob i oi hi
      exact hr.notF i o1 b h1 hb
  · rintro b ⟨id, ob, ho, hb⟩
    obtain ⟨_, ob0, ho0, _⟩ := h.ob id ob ho
    exact ⟨id, ob0, ho0, hb⟩

end Go.Tv

end
section
namespace Go.Tv

variable {P : Program}

def predsOf (o : Oper) : List Nat := o.after.toList.filterMap fun e => if Region.binds .any e then some e.on else none

/-- The state behind those of the operations (told with their places) that p lets. -/
def foldP (p : Nat → Bool) : List (Nat × Option Tmp × Ef) → St → St
  | [], s => s
  | x :: l, s => foldP p l (if p x.1 then s.app x.2.1 x.2.2 else s)

def zipE : Nat → List Oper → List Ef → List (Nat × Option Tmp × Ef)
  | i, o :: os, e :: es => (i, o.dst, e) :: zipE (i + 1) os es
  | _, _, _ => []

def touches (x : Option Tmp × Ef) (t : Tmp) : Bool := x.1 == some t
def touchesId (x : Option Tmp × Ef) (id : Nat) : Bool := x.2.ups.any fun p => p.1 == id

theorem upAll_ne {id : Nat} : ∀ (ups : List (Nat × Ob)) (σ : Sto), (ups.any fun p => p.1 == id) = false → sget (upAll σ ups) id = sget σ id
  | [], _, _ => rfl
  | p :: l, σ, h => by
    simp only [List.any_cons, Bool.or_eq_false_iff, beq_eq_false_iff_ne] at h
    rw [upAll, upAll_ne l _ h.2, sget_sput_ne _ _ _ _ (Ne.symm h.1)]

theorem upAll_congr {id : Nat} : ∀ (ups : List (Nat × Ob)) (σ σ' : Sto), sget σ id = sget σ' id → sget (upAll σ ups) id = sget (upAll σ' ups) id
  | [], _, _, h => h
  | p :: l, σ, σ', h => by
    rw [upAll, upAll]
    refine upAll_congr l _ _ ?_
    rw [sget_sput, sget_sput, h]

theorem app_fr_ne {s : St} {d : Option Tmp} {e : Ef} {t : Tmp} (h : d ≠ some t) : fget (s.app d e).fr t = fget s.fr t := by
  cases d with
  | none => rfl
  | some d => exact fget_fput_ne _ _ _ _ (fun e => h (by rw [e]))

theorem app_fr_congr {s s' : St} {d : Option Tmp} {e : Ef} {t : Tmp} (h : fget s.fr t = fget s'.fr t) : fget (s.app d e).fr t = fget (s'.app d e).fr t := by
  cases d with
  | none => exact h
  | some d => simp only [St.app, fputO, fget_fput, h]

theorem foldP_n (p : Nat → Bool) : ∀ (l : List (Nat × Option Tmp × Ef)) (s : St), (foldP p l s).n = s.n
  | [], _ => rfl
  | x :: l, s => by
    rw [foldP, foldP_n p l]
    split <;> rfl

theorem foldP_fr {p q : Nat → Bool} {t : Tmp} : ∀ (l : List (Nat × Option Tmp × Ef)) (s s' : St), fget s.fr t = fget s'.fr t →
    (∀ x, x ∈ l → p x.1 ≠ q x.1 → x.2.1 ≠ some t) → fget (foldP p l s).fr t = fget (foldP q l s').fr t
  | [], _, _, h, _ => h
  | x :: l, s, s', h, hl => by
    refine foldP_fr l _ _ ?_ (fun y hy => hl y (List.mem_cons_of_mem _ hy))
    by_cases hpq : p x.1 = q x.1
    · rw [hpq]
      split
      · exact app_fr_congr h
      · exact h
    · have hne := hl x (List.mem_cons_self ..) hpq
      split <;> split
      · exact app_fr_congr h
      · rw [app_fr_ne hne]; exact h
      · rw [app_fr_ne hne]; exact h
      · exact h

theorem foldP_st {p q : Nat → Bool} {id : Nat} : ∀ (l : List (Nat × Option Tmp × Ef)) (s s' : St), sget s.st id = sget s'.st id →
    (∀ x, x ∈ l → p x.1 ≠ q x.1 → touchesId x.2 id = false) → sget (foldP p l s).st id = sget (foldP q l s').st id
  | [], _, _, h, _ => h
  | x :: l, s, s', h, hl => by
    refine foldP_st l _ _ ?_ (fun y hy => hl y (List.mem_cons_of_mem _ hy))
    have hc : sget (s.app x.2.1 x.2.2).st id = sget (s'.app x.2.1 x.2.2).st id := upAll_congr _ _ _ h
    by_cases hpq : p x.1 = q x.1
    · rw [hpq]
      split
      · exact hc
      · exact h
    · have hne := hl x (List.mem_cons_self ..) hpq
      have h1 : ∀ s : St, sget (s.app x.2.1 x.2.2).st id = sget s.st id := fun s => upAll_ne _ _ hne
      split <;> split
      · exact hc
      · rw [h1]; exact h
      · rw [h1]; exact h
      · exact h

/-- Putting one more operation to those that have run: at its place or at the end. -/
theorem foldP_put_fr {p : Nat → Bool} {i : Nat} {d : Option Tmp} {e : Ef} {t : Tmp} : ∀ (l : List (Nat × Option Tmp × Ef)) (s : St), (i, d, e) ∈ l → p i = false →
    (∀ x, x ∈ l → x.1 = i → x = (i, d, e)) → l.Pairwise (fun x y => x.1 < y.1) →
    (∀ x, x ∈ l → i < x.1 → p x.1 = true → x.2.1 = none ∨ x.2.1 ≠ d) →
    fget (foldP (fun n => p n || n == i) l s).fr t = fget ((foldP p l s).app d e).fr t
  | [], s, h, _, _, _, _ => by simp at h
  | x :: l, s, hm, hp, hu, ho, hd => by
    rw [List.pairwise_cons] at ho
    by_cases hx : x.1 = i
    · have hxe := hu x (List.mem_cons_self ..) hx
      subst hxe
      have hrest : ∀ y, y ∈ l → y.1 ≠ i := fun y hy e => by have := ho.1 y hy; simp at this; omega
      rw [foldP, foldP]
      simp only [hp, Bool.false_or, beq_self_eq_true, if_true, Bool.false_eq_true, if_false]
      -- behind place i both folds let the same operations
      have h1 : fget (foldP (fun n => p n || n == i) l (s.app d e)).fr t = fget (foldP p l (s.app d e)).fr t :=
        foldP_fr l _ _ rfl (fun y hy hne => absurd (by simp [hrest y hy]) hne)
      rw [h1]
      -- and the put goes to the end
      have h2 : ∀ (l : List (Nat × Option Tmp × Ef)) (s : St), (∀ y, y ∈ l → p y.1 = true → y.2.1 = none ∨ y.2.1 ≠ d) → fget (foldP p l (s.app d e)).fr t = fget ((foldP p l s).app d e).fr t := by
        intro l
        induction l with
        | nil => intro s _; rfl
        | cons y l ih =>
          intro s hl
          rw [foldP, foldP]
          by_cases hpy : p y.1 = true
          · rw [if_pos hpy, if_pos hpy, ← ih _ (fun z hz => hl z (List.mem_cons_of_mem _ hz))]
            refine foldP_fr l _ _ ?_ (fun _ _ h => absurd rfl h)
            rcases hl y (List.mem_cons_self ..) hpy with hn | hn
            · rw [hn]; cases d with
              | none => rfl
              | some d => simp [St.app, fputO]
            · cases hy1 : y.2.1 with
              | none => cases d <;> simp [St.app, fputO]
              | some u => cases d with
                | none => simp [St.app, fputO]
                | some d =>
                  have hud : u ≠ d := fun e => hn (by rw [hy1, e])
                  simp only [St.app, fputO, fget_fput]
                  by_cases h1 : t = u
                  · subst h1; rw [if_pos rfl, if_neg hud, if_pos rfl]
                  · rw [if_neg h1]
                    by_cases h2 : t = d
                    · rw [if_pos h2, if_pos h2]
                    · rw [if_neg h2, if_neg h2, if_neg h1]
          · rw [if_neg hpy, if_neg hpy]
            exact ih _ (fun z hz => hl z (List.mem_cons_of_mem _ hz))
      exact h2 l s (fun y hy hpy => hd y (List.mem_cons_of_mem _ hy) (by have := ho.1 y hy; simpa using this) hpy)
    · rw [foldP, foldP]
      have hm' : (i, d, e) ∈ l := by
        rcases List.mem_cons.1 hm with h | h
        · exact absurd (by rw [← h]) hx
        · exact h
      have : (p x.1 || x.1 == i) = p x.1 := by simp [hx]
      simp only [this]
      exact foldP_put_fr l _ hm' hp (fun y hy => hu y (List.mem_cons_of_mem _ hy)) ho.2 (fun y hy => hd y (List.mem_cons_of_mem _ hy))

theorem foldP_put_st {p : Nat → Bool} {i : Nat} {d : Option Tmp} {e : Ef} {id : Nat} : ∀ (l : List (Nat × Option Tmp × Ef)) (s : St), (i, d, e) ∈ l → p i = false →
    (∀ x, x ∈ l → x.1 = i → x = (i, d, e)) → l.Pairwise (fun x y => x.1 < y.1) →
    (∀ x, x ∈ l → i < x.1 → p x.1 = true → touchesId x.2 id = false ∨ touchesId (d, e) id = false) →
    sget (foldP (fun n => p n || n == i) l s).st id = sget ((foldP p l s).app d e).st id
  | [], s, h, _, _, _, _ => by simp at h
  | x :: l, s, hm, hp, hu, ho, hd => by
    rw [List.pairwise_cons] at ho
    by_cases hx : x.1 = i
    · have hxe := hu x (List.mem_cons_self ..) hx
      subst hxe
      have hrest : ∀ y, y ∈ l → y.1 ≠ i := fun y hy e => by have := ho.1 y hy; simp at this; omega
      rw [foldP, foldP]
      simp only [hp, Bool.false_or, beq_self_eq_true, if_true, Bool.false_eq_true, if_false]
      have h1 : sget (foldP (fun n => p n || n == i) l (s.app d e)).st id = sget (foldP p l (s.app d e)).st id :=
        foldP_st l _ _ rfl (fun y hy hne => absurd (by simp [hrest y hy]) hne)
      rw [h1]
      have h2 : ∀ (l : List (Nat × Option Tmp × Ef)) (s : St), (∀ y, y ∈ l → p y.1 = true → touchesId y.2 id = false ∨ touchesId (d, e) id = false) →
          sget (foldP p l (s.app d e)).st id = sget ((foldP p l s).app d e).st id := by
        intro l
        induction l with
        | nil => intro s _; rfl
        | cons y l ih =>
          intro s hl
          rw [foldP, foldP]
          by_cases hpy : p y.1 = true
          · rw [if_pos hpy, if_pos hpy, ← ih _ (fun z hz => hl z (List.mem_cons_of_mem _ hz))]
            refine foldP_st l _ _ ?_ (fun _ _ h => absurd rfl h)
            have e1 : ∀ s : St, sget (s.app d e).st id = sget (upAll s.st e.ups) id := fun _ => rfl
            have e2 : ∀ s : St, sget (s.app y.2.1 y.2.2).st id = sget (upAll s.st y.2.2.ups) id := fun _ => rfl
            rcases hl y (List.mem_cons_self ..) hpy with hn | hn
            · rw [e2, upAll_ne _ _ hn, e1, e1]
              exact upAll_congr _ _ _ (by rw [e2, upAll_ne _ _ hn])
            · have n1 : ∀ s : St, sget (s.app d e).st id = sget s.st id := fun s => upAll_ne _ _ hn
              rw [n1, e2, e2]
              exact upAll_congr _ _ _ (n1 s)
          · rw [if_neg hpy, if_neg hpy]
            exact ih _ (fun z hz => hl z (List.mem_cons_of_mem _ hz))
      exact h2 l s (fun y hy hpy => hd y (List.mem_cons_of_mem _ hy) (by have := ho.1 y hy; simpa using this) hpy)
    · rw [foldP, foldP]
      have hm' : (i, d, e) ∈ l := by
        rcases List.mem_cons.1 hm with h | h
        · exact absurd (by rw [← h]) hx
        · exact h
      have : (p x.1 || x.1 == i) = p x.1 := by simp [hx]
      simp only [this]
      exact foldP_put_st l _ hm' hp (fun y hy => hu y (List.mem_cons_of_mem _ hy)) ho.2 (fun y hy => hd y (List.mem_cons_of_mem _ hy))

end Go.Tv

end
section
namespace Go.Tv

theorem VA.same {w : World} {H H' : Nat → Prop} {β : Nat → Option Nat} {σ σ' : Sto} (hH : ∀ b, H' b → H b) (hs : ∀ id, sget σ' id = sget σ id) {x : AV} {v : Value} (h : VA w H β σ x v) : VA w H' β σ' x v :=
  VA.mono (w := w) (w' := w) (Nat.le_refl _) (fun b _ hn => ⟨fun h => hn (hH b h), rfl⟩)
    (fun id ob ho => ⟨ob, by rw [hs]; exact ho, .inr ⟨rfl, rfl, rfl, rfl, rfl, fun b c _ hc => ⟨c, hc, rfl⟩⟩⟩) h

theorem Rel.ext {F : Nat → Prop} {β : Nat → Option Nat} {s s' : St} {a : Act} {w : World} (h : Rel F β s a w) (hn : s'.n = s.n) (hf : ∀ t, fget s'.fr t = fget s.fr t) (hs : ∀ id, sget s'.st id = sget s.st id) :
    Rel F β s' a w where
  defers := h.defers
  size := h.size.trans hn.symm
  fr := fun i => by
    rw [hf]
    exact (h.fr i).same (fun b hb => hb.imp id fun ⟨i, o, ho, hb'⟩ => ⟨i, o, by rw [← hs]; exact ho, hb'⟩) hs
  ob := fun id ob ho => by
    rw [hs] at ho
    rcases h.ob id ob ho with h0 | ⟨b, c, h1, h2, h3, h4, h5⟩
    · exact .inl h0
    · refine .inr ⟨b, c, h1, h2, h3, h4, fun i x j y hx hy => ?_⟩
      obtain ⟨g1, u, hu, hva⟩ := h5 i x j y hx hy
      exact ⟨g1, u, hu, hva.same (fun b hb => hb.imp _root_.id fun ⟨i, o, ho, hb'⟩ => ⟨i, o, by rw [← hs]; exact ho, hb'⟩) hs⟩
  inj := fun i j oi oj b hi hj => h.inj i j oi oj b (by rw [← hs]; exact hi) (by rw [← hs]; exact hj)
  notF := fun i oi b hi => h.notF i oi b (by rw [← hs]; exact hi)
  ltF := h.ltF

theorem Evo.ext {σ₀ σ σ' : Sto} {β₀ β : Nat → Option Nat} {w₀ w : World} (h : Evo σ₀ β₀ w₀ σ β w) (hs : ∀ id, sget σ' id = sget σ id) : Evo σ₀ β₀ w₀ σ' β w :=
  ⟨h.os, h.tape, h.output, h.size, h.keep, fun b ⟨id, ob, ho, hb⟩ => h.own b ⟨id, ob, by rw [← hs]; exact ho, hb⟩, h.shp⟩

variable {P : Program}

/-! ### What must have run before -/

/-- cl: for each operation those that surely run before it. -/
def clOK : Nat → List Oper → List (List Nat) → Bool
  | _, [], _ => true
  | i, o :: os, cl => (predsOf o).all (fun p => p < i) && (cl.getD i []).all (fun x => (predsOf o).any fun p => x == p || (cl.getD p []).contains x) && clOK (i + 1) os cl

theorem clOK_get {cl : List (List Nat)} : ∀ (os : List Oper) (i : Nat), clOK i os cl = true → ∀ (j : Nat) (o : Oper), os[j]? = some o →
    (∀ p, p ∈ predsOf o → p < i + j) ∧ ∀ x, x ∈ cl.getD (i + j) [] → ∃ p, p ∈ predsOf o ∧ (x = p ∨ x ∈ cl.getD p [])
  | [], _, _, j, o, h => by simp at h
  | o' :: os, i, hc, j, o, h => by
    simp only [clOK, Bool.and_eq_true] at hc
    obtain ⟨⟨h1, h2⟩, h3⟩ := hc
    cases j with
    | zero =>
      simp at h; subst h
      refine ⟨fun p hp => by simpa using List.all_eq_true.1 h1 p hp, fun x hx => ?_⟩
      have := List.all_eq_true.1 h2 x hx
      obtain ⟨p, hp, he⟩ := List.any_eq_true.1 this
      refine ⟨p, hp, ?_⟩
      simp only [Bool.or_eq_true, beq_iff_eq, List.contains_iff_mem] at he
      exact he
    | succ j =>
      have := clOK_get os (i + 1) h3 j o (by simpa using h)
      rw [show i + 1 + j = i + (j + 1) from by omega] at this
      exact this

theorem cl_listed {ops : List Oper} {cl : List (List Nat)} (hc : clOK 0 ops cl = true) {p : Nat → Bool} (hp : ∀ i o, ops[i]? = some o → p i = true → ∀ q, q ∈ predsOf o → p q = true) :
    ∀ (i : Nat) (o : Oper), ops[i]? = some o → (∀ q, q ∈ predsOf o → p q = true) → ∀ x, x ∈ cl.getD i [] → p x = true := by
  intro i
  induction i using Nat.strongRecOn with
  | _ i ih =>
    intro o ho hpre x hx
    obtain ⟨h1, h2⟩ := clOK_get ops 0 hc i o ho
    rw [Nat.zero_add] at h1 h2
    obtain ⟨q, hq, rfl | hxq⟩ := h2 x hx
    · exact hpre x hq
    · have hlt := h1 q hq
      have hi : i < ops.length := lt_of_get ho
      have hoq : ops[q]? = some (ops[q]'(by omega)) := List.getElem?_eq_getElem (by omega)
      exact ih q hlt _ hoq (fun r hr => hp q _ hoq (hpre q hq) r hr) x hxq

def idsOf (e : Ef) : List Nat := e.ups.map (·.1)

/-- Two operations neither of which must run first write different slots and objects. -/
def apartE (x y : Option Tmp × List Nat) : Bool :=
  (match x.1, y.1 with | some a, some b => a != b | _, _ => true) && x.2.all fun i => !y.2.contains i

def apartAll (cl : List (List Nat)) : List (Nat × Option Tmp × List Nat) → Bool
  | [] => true
  | x :: l => l.all (fun y => (cl.getD y.1 []).contains x.1 || apartE x.2 y.2) && apartAll cl l

/-- Slots and objects that operations may touch unseen are forgotten. -/
def forget : List (Option Tmp × List Nat) → St → St
  | [], s => s
  | x :: l, s => forget l { n := s.n, fr := fputO s.fr x.1 .junk, st := x.2.foldl (fun σ i => sput σ i none) s.st }

theorem foldl_none : ∀ (ids : List Nat) (σ : Sto) (i : Nat), sget (ids.foldl (fun σ i => sput σ i none) σ) i = if i ∈ ids then none else sget σ i
  | [], σ, i => by simp
  | j :: ids, σ, i => by
    rw [List.foldl_cons, foldl_none ids, sget_sput]
    by_cases h : i ∈ ids
    · simp [h]
    · by_cases h2 : i = j
      · simp [h2]
      · simp [h, h2]

theorem forget_n : ∀ (l : List (Option Tmp × List Nat)) (s : St), (forget l s).n = s.n
  | [], _ => rfl
  | x :: l, s => by rw [forget, forget_n l]

theorem forget_fr {t : Tmp} : ∀ (l : List (Option Tmp × List Nat)) (s : St), fget (forget l s).fr t ≠ .junk → fget (forget l s).fr t = fget s.fr t ∧ ∀ x, x ∈ l → x.1 ≠ some t
  | [], s, _ => ⟨rfl, fun x h => by simp at h⟩
  | x :: l, s, h => by
    rw [forget] at h ⊢
    obtain ⟨h1, h2⟩ := forget_fr l _ h
    have hne : x.1 ≠ some t := by
      intro e
      rw [h1] at h
      apply h
      simp only [e, fputO]
      exact fget_fput_same _ _ _
    refine ⟨?_, fun y hy => ?_⟩
    · rw [h1]
      cases hx : x.1 with
      | none => rfl
      | some d => exact fget_fput_ne _ _ _ _ (fun e => hne (by rw [hx, e]))
    · rcases List.mem_cons.1 hy with rfl | hy
      · exact hne
      · exact h2 y hy

theorem forget_st {id : Nat} {ob : Ob} : ∀ (l : List (Option Tmp × List Nat)) (s : St), sget (forget l s).st id = some ob → sget s.st id = some ob ∧ ∀ x, x ∈ l → id ∉ x.2
  | [], s, h => ⟨h, fun x h => by simp at h⟩
  | x :: l, s, h => by
    rw [forget] at h
    obtain ⟨h1, h2⟩ := forget_st l _ h
    simp only [foldl_none] at h1
    split at h1
    · cases h1
    · rename_i hn
      refine ⟨h1, fun y hy => ?_⟩
      rcases List.mem_cons.1 hy with rfl | hy
      · exact hn
      · exact h2 y hy

/-- What is known where operation i may come up. -/
def dep (L : List (Nat × Option Tmp × Ef)) (cl : List (List Nat)) (s : St) (i : Nat) : St :=
  forget ((L.filter fun x => x.1 != i && !(cl.getD i []).contains x.1 && !(cl.getD x.1 []).contains i).map fun x => (x.2.1, idsOf x.2.2))
    (foldP (fun j => (cl.getD i []).contains j) L s)

/-- Operation i in its place. -/
def OpAt (P : Program) (ops : List Oper) (D : St) (o : Oper) (e : Ef) : Prop :=
  (o.guard = none ∧ Eff P o D e) ∨
  (∃ j want og d b, o.guard = some (j, want) ∧ ops[j]? = some og ∧ og.dst = some d ∧ fget D.fr d = .t (.bool b) ∧ ((b = want ∧ Eff P o D e) ∨ (b ≠ want ∧ e = ⟨.tup [], []⟩))) ∨
  ∃ j want og d, o.guard = some (j, want) ∧ ops[j]? = some og ∧ og.dst = some d ∧ fget D.fr d = .tup [] ∧ e = ⟨.tup [], []⟩

theorem zipE_get : ∀ (os : List Oper) (es : List Ef) (i : Nat), os.length = es.length → ∀ (x : Nat × Option Tmp × Ef), x ∈ zipE i os es →
    i ≤ x.1 ∧ ∃ o, os[x.1 - i]? = some o ∧ es[x.1 - i]? = some x.2.2 ∧ x.2.1 = o.dst
  | [], _, _, _, x, h => by simp [zipE] at h
  | o :: os, [], _, hl, _, _ => by simp at hl
  | o :: os, e :: es, i, hl, x, h => by
    rw [zipE] at h
    rcases List.mem_cons.1 h with rfl | h
    · exact ⟨Nat.le_refl _, o, by simp, by simp, rfl⟩
    · obtain ⟨h1, o', h2, h3, h4⟩ := zipE_get os es (i + 1) (by simpa using hl) x h
      refine ⟨by omega, o', ?_, ?_, h4⟩
      · rw [show x.1 - i = (x.1 - (i + 1)) + 1 from by omega]; simpa using h2
      · rw [show x.1 - i = (x.1 - (i + 1)) + 1 from by omega]; simpa using h3

theorem zipE_mem : ∀ (os : List Oper) (es : List Ef) (i j : Nat) (o : Oper) (e : Ef), os[j]? = some o → es[j]? = some e → (i + j, o.dst, e) ∈ zipE i os es
  | [], _, _, j, o, e, h, _ => by simp at h
  | _ :: _, [], _, j, o, e, _, h => by simp at h
  | o' :: os, e' :: es, i, j, o, e, ho, he => by
    rw [zipE]
    cases j with
    | zero => simp at ho he; subst ho; subst he; exact List.mem_cons_self ..
    | succ j =>
      refine List.mem_cons_of_mem _ ?_
      have := zipE_mem os es (i + 1) j o e (by simpa using ho) (by simpa using he)
      rw [show i + 1 + j = i + (j + 1) from by omega] at this
      exact this

theorem zipE_sorted : ∀ (os : List Oper) (es : List Ef) (i : Nat), (zipE i os es).Pairwise (fun x y => x.1 < y.1)
  | [], _, _ => by simp [zipE]
  | _ :: _, [], _ => by simp [zipE]
  | o :: os, e :: es, i => by
    rw [zipE, List.pairwise_cons]
    refine ⟨fun y hy => ?_, zipE_sorted os es (i + 1)⟩
    have : ∀ (os : List Oper) (es : List Ef) (i : Nat) (y : Nat × Option Tmp × Ef), y ∈ zipE i os es → i ≤ y.1 := by
      intro os
      induction os with
      | nil => intro es i y h; simp [zipE] at h
      | cons o os ih =>
        intro es i y h
        cases es with
        | nil => simp [zipE] at h
        | cons e es =>
          rw [zipE] at h
          rcases List.mem_cons.1 h with rfl | h
          · exact Nat.le_refl _
          · have := ih es (i + 1) y h; omega
    have := this os es (i + 1) y hy
    simp; omega

theorem touchesId_ids {x : Option Tmp × Ef} {id : Nat} : touchesId x id = true ↔ id ∈ idsOf x.2 := by
  unfold touchesId idsOf
  rw [List.any_eq_true, List.mem_map]
  constructor
  · rintro ⟨p, hp, he⟩; exact ⟨p, hp, by simpa using he⟩
  · rintro ⟨p, hp, he⟩; exact ⟨p, hp, by simpa using he⟩

theorem apartAll_get {cl : List (List Nat)} : ∀ (L : List (Nat × Option Tmp × List Nat)), apartAll cl L = true → L.Pairwise (fun x y => (cl.getD y.1 []).contains x.1 = true ∨ apartE x.2 y.2 = true)
  | [], _ => .nil
  | x :: l, h => by
    simp only [apartAll, Bool.and_eq_true] at h
    rw [List.pairwise_cons]
    refine ⟨fun y hy => ?_, apartAll_get l h.2⟩
    have := List.all_eq_true.1 h.1 y hy
    simpa using this

theorem pairwise_get {α : Type} {R : α → α → Prop} {key : α → Nat} {l : List α} (h : l.Pairwise R) (hk : l.Pairwise (fun x y => key x < key y)) {x y : α} (hx : x ∈ l) (hy : y ∈ l) (hlt : key x < key y) : R x y := by
  induction l with
  | nil => simp at hx
  | cons z l ih =>
    rw [List.pairwise_cons] at h hk
    rcases List.mem_cons.1 hx with rfl | hx'
    · rcases List.mem_cons.1 hy with rfl | hy'
      · omega
      · exact h.1 y hy'
    · rcases List.mem_cons.1 hy with rfl | hy'
      · have := hk.1 x hx'; omega
      · exact ih h.2 hk.2 hx' hy'

/-- How many operations have not run. -/
def unrun (n : Nat) (listed : Array Bool) : Nat := ((List.range n).filter fun i => !listed.getD i true).length

theorem filter_lt {α : Type} {p q : α → Bool} : ∀ (l : List α) (x : α), x ∈ l → p x = true → q x = false → (∀ y, q y = true → p y = true) → (l.filter q).length < (l.filter p).length
  | [], x, h, _, _, _ => by simp at h
  | y :: l, x, h, hp, hq, hqp => by
    have hle : (l.filter q).length ≤ (l.filter p).length := by
      clear h
      induction l with
      | nil => simp
      | cons z l ih =>
        rw [List.filter_cons, List.filter_cons]
        by_cases h1 : q z = true
        · rw [if_pos h1, if_pos (hqp z h1)]; simpa using ih
        · rw [if_neg h1]
          split
          · simp; omega
          · exact ih
    rw [List.filter_cons, List.filter_cons]
    by_cases hy : y = x
    · subst hy
      rw [if_pos hp, if_neg (by simp [hq])]
      simp; omega
    · have hx : x ∈ l := (List.mem_cons.1 h).resolve_left (fun e => hy e.symm)
      have ih := filter_lt l x hx hp hq hqp
      by_cases h1 : q y = true
      · rw [if_pos h1, if_pos (hqp y h1)]; simpa using ih
      · rw [if_neg h1]
        split
        · simp; omega
        · exact ih

section
variable {ops : Array Oper} {es : List Ef} {cl : List (List Nat)} {s₀ : St} {QQ : Exit → Act → World → Prop} {F : Nat → Prop} {β₀ : Nat → Option Nat} {w₀ : World}

theorem ready_mem {listed : Array Bool} {i : Nat} : i ∈ Region.ready .any ops listed ↔ i < ops.size ∧ listed.getD i true = false ∧ ∃ o, ops[i]? = some o ∧ ∀ e, e ∈ o.after → Region.binds .any e = true → listed.getD e.on false = true := by
  unfold Region.ready
  rw [List.mem_filter, List.mem_range]
  constructor
  · rintro ⟨h1, h2⟩
    simp only [Bool.and_eq_true, Bool.not_eq_true'] at h2
    obtain ⟨h2, h3⟩ := h2
    have ho : ops[i]? = some ops[i] := Array.getElem?_eq_getElem h1
    rw [ho] at h3
    refine ⟨h1, h2, _, ho, fun e he hb => ?_⟩
    simp only [Option.map_some, Option.getD_some] at h3
    have := Array.all_eq_true_iff_forall_mem.1 h3 e he
    simpa [hb] using this
  · rintro ⟨h1, h2, o, ho, h3⟩
    refine ⟨h1, ?_⟩
    simp only [Bool.and_eq_true, Bool.not_eq_true']
    refine ⟨h2, ?_⟩
    rw [ho]
    simp only [Option.map_some, Option.getD_some]
    refine Array.all_eq_true_iff_forall_mem.2 fun e he => ?_
    by_cases hb : Region.binds .any e = true
    · simp [h3 e he hb]
    · simp [hb]

theorem preds_mem {o : Oper} {p : Nat} : p ∈ predsOf o ↔ ∃ e, e ∈ o.after ∧ Region.binds .any e = true ∧ e.on = p := by
  unfold predsOf
  rw [List.mem_filterMap]
  constructor
  · rintro ⟨e, he, h⟩
    split at h
    · rename_i hb; cases h; exact ⟨e, by simpa using he, hb, rfl⟩
    · cases h
  · rintro ⟨e, he, hb, rfl⟩
    exact ⟨e, by simpa using he, by rw [if_pos hb]⟩

theorem draw_main (hlen : ops.toList.length = es.length) (hcl : clOK 0 ops.toList cl = true)
    (hap : apartAll cl ((zipE 0 ops.toList es).map fun x => (x.1, x.2.1, idsOf x.2.2)) = true) (hd : ∀ (i : Nat) (o : Oper), ops[i]? = some o → dstOK s₀.n o.dst = true)
    (hop : ∀ (i : Nat) (o : Oper) (e : Ef), ops.toList[i]? = some o → es[i]? = some e → OpAt P ops.toList (dep (zipE 0 ops.toList es) cl s₀ i) o e)
    (hQ : ∀ s β a w, Rel F β s a w → Evo s₀.st β₀ w₀ s.st β w → s = foldP (fun _ => true) (zipE 0 ops.toList es) s₀ → QQ .normal a w) :
    ∀ (fuel : Nat) (listed : Array Bool) (s : St) (β : Nat → Option Nat) (a : Act) (w : World), listed.size = ops.size →
      (∀ i o, ops.toList[i]? = some o → listed.getD i false = true → ∀ q, q ∈ predsOf o → listed.getD q false = true) → unrun ops.size listed ≤ fuel →
      Rel F β s a w → Evo s₀.st β₀ w₀ s.st β w → s.n = s₀.n → (∀ t, fget s.fr t = fget (foldP (fun n => listed.getD n false) (zipE 0 ops.toList es) s₀).fr t) →
      (∀ id, sget s.st id = sget (foldP (fun n => listed.getD n false) (zipE 0 ops.toList es) s₀).st id) → wpAny P .any ops QQ fuel listed a w := by
  have hsize : ops.toList.length = ops.size := by simp
  -- nothing may come up any more: all have run
  have done : ∀ (listed : Array Bool) (s : St) (β : Nat → Option Nat) (a : Act) (w : World), listed.size = ops.size → Region.ready .any ops listed = [] →
      Rel F β s a w → Evo s₀.st β₀ w₀ s.st β w → s.n = s₀.n → (∀ t, fget s.fr t = fget (foldP (fun n => listed.getD n false) (zipE 0 ops.toList es) s₀).fr t) →
      (∀ id, sget s.st id = sget (foldP (fun n => listed.getD n false) (zipE 0 ops.toList es) s₀).st id) → QQ .normal a w := by
    intro listed s β a w hls hready hr hev hn hfr hst
    have hall : ∀ i, i < ops.size → listed.getD i false = true := by
      intro i
      induction i using Nat.strongRecOn with
      | _ i ih =>
        intro hi
        have hli : i < listed.size := by omega
        cases hc : listed[i] with
        | true => simp [hli, hc]
        | false =>
          have ho : ops[i]? = some ops[i] := Array.getElem?_eq_getElem hi
          have : i ∈ Region.ready .any ops listed := by
            rw [ready_mem]
            refine ⟨hi, by simp [hli, hc], _, ho, fun e he hb => ?_⟩
            have hp : e.on ∈ predsOf ops[i] := preds_mem.2 ⟨e, he, hb, rfl⟩
            have hlt := (clOK_get ops.toList 0 hcl i ops[i] (by rw [Array.getElem?_toList]; exact ho)).1 _ hp
            exact ih e.on (by omega) (by omega)
          rw [hready] at this
          simp at this
    have hmem : ∀ x, x ∈ zipE 0 ops.toList es → listed.getD x.1 false = true := by
      intro x hx
      obtain ⟨_, o, ho, _⟩ := zipE_get ops.toList es 0 hlen x hx
      exact hall _ (by have := lt_of_get ho; omega)
    have e1 : ∀ t, fget (foldP (fun n => listed.getD n false) (zipE 0 ops.toList es) s₀).fr t = fget (foldP (fun _ => true) (zipE 0 ops.toList es) s₀).fr t := fun t =>
      foldP_fr _ _ _ rfl (fun x hx hne => absurd (hmem x hx) hne)
    have e2 : ∀ id, sget (foldP (fun n => listed.getD n false) (zipE 0 ops.toList es) s₀).st id = sget (foldP (fun _ => true) (zipE 0 ops.toList es) s₀).st id := fun id =>
      foldP_st _ _ _ rfl (fun x hx hne => absurd (hmem x hx) hne)
    refine hQ (foldP (fun _ => true) (zipE 0 ops.toList es) s₀) β a w (hr.ext ((foldP_n _ _ _).trans hn.symm) (fun t => ((hfr t).trans (e1 t)).symm) (fun id => ((hst id).trans (e2 id)).symm))
      (hev.ext (fun id => ((hst id).trans (e2 id)).symm)) rfl
  intro fuel
  induction fuel with
  | zero =>
    intro listed s β a w hls hclosed hun hr hev hn hfr hst
    have hready : Region.ready .any ops listed = [] := by
      refine List.eq_nil_iff_forall_not_mem.2 fun i hi => ?_
      obtain ⟨h1, h2, _⟩ := ready_mem.1 hi
      have : i ∈ (List.range ops.size).filter fun i => !listed.getD i true := List.mem_filter.2 ⟨List.mem_range.2 h1, by simp only [h2]; rfl⟩
      have hne := List.length_pos_of_mem this
      unfold unrun at hun
      omega
    exact ⟨hready, done listed s β a w hls hready hr hev hn hfr hst⟩
  | succ fuel ih =>
    intro listed s β a w hls hclosed hun hr hev hn hfr hst
    refine ⟨fun hready => done listed s β a w hls hready hr hev hn hfr hst, fun i hi => ?_⟩
    obtain ⟨hi1, hi2, o, ho, hpre⟩ := ready_mem.1 hi
    have hoL : ops.toList[i]? = some o := by rw [Array.getElem?_toList]; exact ho
    have hil : i < listed.size := by omega
    have hi3 : listed.getD i false = false := by simpa [hil] using hi2
    have hie : es[i]? = some (es[i]'(by omega)) := List.getElem?_eq_getElem (by omega)
    generalize he : (es[i]'(by omega)) = e at hie
    have hprel : ∀ q, q ∈ predsOf o → listed.getD q false = true := fun q hq => by
      obtain ⟨ed, h1, h2, rfl⟩ := preds_mem.1 hq
      exact hpre ed h1 h2
    have hcls := cl_listed hcl (p := fun n => listed.getD n false) hclosed
    have hcli : ∀ x, x ∈ cl.getD i [] → listed.getD x false = true := hcls i o hoL hprel
    have hmemi : (i, o.dst, e) ∈ zipE 0 ops.toList es := by have := zipE_mem ops.toList es 0 i o e hoL hie; rwa [Nat.zero_add] at this
    have huniq : ∀ x, x ∈ zipE 0 ops.toList es → x.1 = i → x = (i, o.dst, e) := by
      intro x hx hxi
      obtain ⟨_, o', h1, h2, h3⟩ := zipE_get ops.toList es 0 hlen x hx
      rw [hxi] at h1 h2
      simp only [Nat.sub_zero] at h1 h2
      rw [hoL] at h1; cases h1
      rw [hie] at h2; cases h2
      obtain ⟨x1, x2, x3⟩ := x
      simp only at hxi h3
      rw [hxi, h3]
    have hsorted := zipE_sorted ops.toList es 0
    have hpair := apartAll_get _ hap
    have hord : ((zipE 0 ops.toList es).map fun x => (x.1, x.2.1, idsOf x.2.2)).Pairwise (fun x y => x.1 < y.1) := by
      rw [List.pairwise_map]; exact hsorted
    have hapart : ∀ x y, x ∈ zipE 0 ops.toList es → y ∈ zipE 0 ops.toList es → x.1 < y.1 → (cl.getD y.1 []).contains x.1 = true ∨ apartE (x.2.1, idsOf x.2.2) (y.2.1, idsOf y.2.2) = true := by
      intro x y hx hy hlt
      exact pairwise_get (key := fun z => z.1) hpair hord (List.mem_map.2 ⟨x, hx, rfl⟩) (List.mem_map.2 ⟨y, hy, rfl⟩) hlt
    -- what has run and differs from what surely has run touches nothing that is known
    have hdiff : ∀ x, x ∈ zipE 0 ops.toList es → (cl.getD i []).contains x.1 ≠ listed.getD x.1 false →
        (x.1 != i && !(cl.getD i []).contains x.1 && !(cl.getD x.1 []).contains i) = true := by
      intro x hx hne
      have hnc : (cl.getD i []).contains x.1 = false := by
        cases hcc : (cl.getD i []).contains x.1 with
        | false => rfl
        | true => rw [hcc, hcli x.1 (by simpa using hcc)] at hne; exact absurd rfl hne
      have hlx : listed.getD x.1 false = true := by
        cases hl : listed.getD x.1 false with
        | true => rfl
        | false => rw [hnc, hl] at hne; exact absurd rfl hne
      have hxi : x.1 ≠ i := fun e => by rw [e, hi3] at hlx; cases hlx
      have hni : (cl.getD x.1 []).contains i = false := by
        cases hcc : (cl.getD x.1 []).contains i with
        | false => rfl
        | true =>
          obtain ⟨_, o', h1, h2, h3⟩ := zipE_get ops.toList es 0 hlen x hx
          simp only [Nat.sub_zero] at h1
          have := hcls x.1 o' h1 (hclosed x.1 o' h1 hlx) i (by simpa using hcc)
          rw [this] at hi3; cases hi3
      rw [hnc, hni]; simp [hxi]
    have hle : Le (dep (zipE 0 ops.toList es) cl s₀ i) s := by
      refine ⟨by rw [dep, forget_n, foldP_n]; exact hn, fun t => ?_, fun id ob hid => ?_⟩
      · by_cases hj : fget (dep (zipE 0 ops.toList es) cl s₀ i).fr t = .junk
        · exact .inl hj
        · right
          obtain ⟨h1, h2⟩ := forget_fr _ _ hj
          rw [dep, h1, hfr]
          exact (foldP_fr _ _ _ rfl (fun x hx hne => h2 _ (List.mem_map.2 ⟨x, List.mem_filter.2 ⟨hx, hdiff x hx hne⟩, rfl⟩))).symm
      · obtain ⟨h1, h2⟩ := forget_st _ _ hid
        rw [hst, ← h1]
        refine (foldP_st _ _ _ rfl (fun x hx hne => ?_)).symm
        have := h2 _ (List.mem_map.2 ⟨x, List.mem_filter.2 ⟨hx, hdiff x hx hne⟩, rfl⟩)
        cases htt : touchesId x.2 id with
        | false => rfl
        | true => exact absurd (touchesId_ids.1 htt) this
    have hfresh : ∀ id ob, (id, ob) ∈ e.ups → sget (dep (zipE 0 ops.toList es) cl s₀ i).st id = none → sget s.st id = none := by
      intro id ob hm hnone
      have hide : id ∈ idsOf e := List.mem_map.2 ⟨_, hm, rfl⟩
      have hnot : ∀ x, x ∈ zipE 0 ops.toList es → (x.1 != i && !(cl.getD i []).contains x.1 && !(cl.getD x.1 []).contains i) = true → id ∉ idsOf x.2.2 := by
        intro x hx hb hidx
        simp only [Bool.and_eq_true, bne_iff_ne, ne_eq, Bool.not_eq_true'] at hb
        obtain ⟨⟨hxi, hb1⟩, hb2⟩ := hb
        rcases Nat.lt_or_gt_of_ne hxi with hlt | hlt
        · rcases hapart x _ hx hmemi hlt with h | h
          · rw [hb1] at h; cases h
          · simp only [apartE, Bool.and_eq_true] at h
            have := List.all_eq_true.1 h.2 id hidx
            simp only [Bool.not_eq_true', ← Bool.not_eq_true] at this
            exact this (by simpa using hide)
        · rcases hapart _ x hmemi hx hlt with h | h
          · rw [hb2] at h; cases h
          · simp only [apartE, Bool.and_eq_true] at h
            have := List.all_eq_true.1 h.2 id hide
            simp only [Bool.not_eq_true', ← Bool.not_eq_true] at this
            exact this (by simpa using hidx)
      have h1 : sget s.st id = sget (foldP (fun j => (cl.getD i []).contains j) (zipE 0 ops.toList es) s₀).st id := by
        rw [hst]
        refine (foldP_st _ _ _ rfl (fun x hx hne => ?_)).symm
        cases htt : touchesId x.2 id with
        | false => rfl
        | true => exact absurd (touchesId_ids.1 htt) (hnot x hx (hdiff x hx hne))
      have h2 : sget (dep (zipE 0 ops.toList es) cl s₀ i).st id = sget (foldP (fun j => (cl.getD i []).contains j) (zipE 0 ops.toList es) s₀).st id := by
        unfold dep
        generalize foldP (fun j => (cl.getD i []).contains j) (zipE 0 ops.toList es) s₀ = σ
        have hall : ∀ y, y ∈ ((zipE 0 ops.toList es).filter fun x => x.1 != i && !(cl.getD i []).contains x.1 && !(cl.getD x.1 []).contains i).map (fun x => (x.2.1, idsOf x.2.2)) → id ∉ y.2 := by
          intro y hy
          obtain ⟨x, hx, rfl⟩ := List.mem_map.1 hy
          obtain ⟨hx1, hx2⟩ := List.mem_filter.1 hx
          exact hnot x hx1 hx2
        revert hall
        generalize ((zipE 0 ops.toList es).filter fun x => x.1 != i && !(cl.getD i []).contains x.1 && !(cl.getD x.1 []).contains i).map (fun x => (x.2.1, idsOf x.2.2)) = l
        intro hall
        induction l generalizing σ with
        | nil => rfl
        | cons y l ihl =>
          rw [forget, ihl _ (fun z hz => hall z (List.mem_cons_of_mem _ hz))]
          simp only [foldl_none, if_neg (hall y (List.mem_cons_self ..))]
      rw [h1, ← h2]; exact hnone
    -- the state behind it
    have hlt2 : ∀ n, (listed.setIfInBounds i true).getD n false = (listed.getD n false || n == i) := by
      intro n
      by_cases e : n = i
      · subst e; simp [hil]
      · have : (n == i) = false := by simpa using e
        simp [this, Array.getElem?_setIfInBounds_ne (Ne.symm e)]
    have hunrun : unrun ops.size (listed.setIfInBounds i true) ≤ fuel := by
      have : unrun ops.size (listed.setIfInBounds i true) < unrun ops.size listed := by
        unfold unrun
        refine filter_lt (List.range ops.size) i (List.mem_range.2 hi1) (by rw [hi2]; rfl) (by simp [hil]) (fun y hy => ?_)
        by_cases e : y = i
        · subst e; simp [hil] at hy
        · have : (listed.setIfInBounds i true).getD y true = listed.getD y true := by simp [Array.getElem?_setIfInBounds_ne (Ne.symm e)]
          rw [this] at hy; exact hy
      omega
    have hclosed' : ∀ j o', ops.toList[j]? = some o' → (listed.setIfInBounds i true).getD j false = true → ∀ q, q ∈ predsOf o' → (listed.setIfInBounds i true).getD q false = true := by
      intro j o' hj hlj q hq
      rw [hlt2] at hlj ⊢
      by_cases e : j = i
      · subst e
        rw [hoL] at hj; cases hj
        rw [hprel q hq]; rfl
      · have : (j == i) = false := by simpa using e
        rw [this, Bool.or_false] at hlj
        rw [hclosed j o' hj hlj q hq]; rfl
    have hp_i : (fun n => listed.getD n false) i = false := hi3
    have hgt : ∀ x, x ∈ zipE 0 ops.toList es → i < x.1 → listed.getD x.1 false = true → apartE (o.dst, idsOf e) (x.2.1, idsOf x.2.2) = true := by
      intro x hx hlt hlx
      rcases hapart _ x hmemi hx hlt with h | h
      · exfalso
        obtain ⟨_, o', h1, h2, h3⟩ := zipE_get ops.toList es 0 hlen x hx
        simp only [Nat.sub_zero] at h1
        have := hcls x.1 o' h1 (hclosed x.1 o' h1 hlx) i (by simpa using h)
        rw [this] at hi3; cases hi3
      · exact h
    have hnextS : ∀ β' a' w', Rel F β' (s.app o.dst e) a' w' → Evo s.st β w (s.app o.dst e).st β' w' → wpAny P .any ops QQ fuel (listed.setIfInBounds i true) a' w' := by
      intro β' a' w' hr' hev'
      refine ih (listed.setIfInBounds i true) (s.app o.dst e) β' a' w' (by simp [hls]) hclosed' hunrun hr' (hev.trans hev') hn (fun t => ?_) (fun id => ?_)
      · have h1 := foldP_put_fr (p := fun n => listed.getD n false) (t := t) (zipE 0 ops.toList es) s₀ hmemi hp_i huniq hsorted (fun x hx hlt hlx => by
          have := hgt x hx hlt hlx
          simp only [apartE, Bool.and_eq_true] at this
          cases hx2 : x.2.1 with
          | none => exact .inl rfl
          | some b =>
            right
            intro hb
            rw [hx2, ← hb] at this
            simp at this)
        have h2 : (fun n => (listed.setIfInBounds i true).getD n false) = (fun n => listed.getD n false || n == i) := funext hlt2
        rw [h2, h1]
        exact app_fr_congr (hfr t)
      · have h1 := foldP_put_st (p := fun n => listed.getD n false) (id := id) (zipE 0 ops.toList es) s₀ hmemi hp_i huniq hsorted (fun x hx hlt hlx => by
          have := hgt x hx hlt hlx
          simp only [apartE, Bool.and_eq_true] at this
          cases ht1 : touchesId x.2 id with
          | false => exact .inl rfl
          | true =>
            right
            cases ht2 : touchesId (o.dst, e) id with
            | false => rfl
            | true =>
              have h3 := List.all_eq_true.1 this.2 id (touchesId_ids.1 ht2)
              simp only [Bool.not_eq_true', ← Bool.not_eq_true] at h3
              exact absurd (by simpa using touchesId_ids.1 ht1) h3)
        have h2 : (fun n => (listed.setIfInBounds i true).getD n false) = (fun n => listed.getD n false || n == i) := funext hlt2
        rw [h2, h1]
        exact upAll_congr _ _ _ (hst id)
    have hdn : dstOK s.n o.dst = true := by rw [hn]; exact hd i o ho
    have skip : e = ⟨.tup [], []⟩ → wpAny P .any ops QQ fuel (listed.setIfInBounds i true) (a.put o.dst undef) w := fun hj => by
      subst hj
      exact hnextS β _ w (hr.put (d := o.dst) (x := .tup []) hdn (.tup (vs := []) rfl (fun j c v h => by simp at h))) (Evo.refl _ _ _)
    unfold wpOp
    simp only [ho]
    rcases hop i o e hoL hie with ⟨hg, heff⟩ | ⟨j, want, og, d, b, hg, hj, hdj, hb, hcase⟩ | ⟨j, want, og, d, hg, hj, hdj, hb, hcase⟩
    · rw [if_pos (wanted_none _ hg)]
      exact .inl (heff s hle hfresh F β a w hr _ _ hnextS)
    · have hbs : fget s.fr d = .t (.bool b) := by
        rcases hle.fr d with h | h
        · rw [hb] at h; cases h
        · exact h.trans hb
      have hjA : ops[j]? = some og := by rw [← Array.getElem?_toList]; exact hj
      have hval : a.tmps[d]? = some (.bool b) := by
        have hv := hr.fr d
        rw [hbs] at hv
        have hdn' : d < a.tmps.size := by have := hd j og hjA; rw [hdj] at this; rw [hr.size, hn]; simpa [dstOK] using this
        rw [vAt_lt hdn'] at hv
        cases hv with
        | t hv =>
          generalize hx : a.tmps.getD d undef = x at hv
          cases hv
          simpa [Array.getElem?_eq_getElem hdn', hdn'] using hx
      have hyd : yielded ops a.tmps j = some b := by
        unfold yielded
        simp only [hjA, Option.bind_some, hdj, hval]
      have hw : Region.wanted o (yielded ops a.tmps) = (b == want) := by
        unfold Region.wanted
        rw [hg]
        simp only [hyd]
        cases b <;> cases want <;> rfl
      rw [hw]
      rcases hcase with ⟨hbw, heff⟩ | ⟨hbw, hj⟩
      · rw [if_pos (by simpa using hbw)]
        exact .inl (heff s hle hfresh F β a w hr _ _ hnextS)
      · rw [if_neg (by simpa using hbw)]
        exact skip hj
    · have hbs : fget s.fr d = .tup [] := by
        rcases hle.fr d with h | h
        · rw [hb] at h; cases h
        · exact h.trans hb
      have hjA : ops[j]? = some og := by rw [← Array.getElem?_toList]; exact hj
      have hval : a.tmps.getD d undef = undef := by
        have hv := hr.fr d
        rw [hbs] at hv
        rcases Nat.lt_or_ge d a.tmps.size with hlt | hge
        · rw [vAt_lt hlt] at hv
          generalize a.tmps.getD d undef = x at hv
          cases hv with
          | @tup _ vs hl' hva =>
            have : vs = [] := List.length_eq_zero_iff.1 hl'
            subst this; rfl
        · rw [Array.getD_eq_getD_getElem?, Array.getElem?_eq_none hge]; rfl
      have hyd : yielded ops a.tmps j = none := by
        unfold yielded
        simp only [hjA, Option.bind_some, hdj]
        cases hx : a.tmps[d]? with
        | none => rfl
        | some x =>
          have : x = undef := by
            have hlt : d < a.tmps.size := by
              rcases Nat.lt_or_ge d a.tmps.size with h' | h'
              · exact h'
              · rw [Array.getElem?_eq_none h'] at hx; cases hx
            rw [Array.getElem?_eq_getElem hlt] at hx
            cases hx
            simpa [hlt] using hval
          rw [this]; rfl
      have hw : Region.wanted o (yielded ops a.tmps) = false := by
        unfold Region.wanted
        rw [hg]
        simp only [hyd]
        rfl
      rw [hw, if_neg (by decide)]
      exact skip hcase

end

theorem rep_false (n i : Nat) : (Array.replicate n false).getD i false = false := by
  by_cases h : i < n
  · simp [h]
  · simp [h]

/-- A region that draws its order: each operation's effect is told where only what surely has run before is known. -/
theorem draw_any {s : St} {ops : Array Oper} (es : List Ef) (cl : List (List Nat)) (hm : P.follows .mixedOrders = true) (hlen : ops.toList.length = es.length)
    (hcl : clOK 0 ops.toList cl = true) (hap : apartAll cl ((zipE 0 ops.toList es).map fun x => (x.1, x.2.1, idsOf x.2.2)) = true)
    (hd : ∀ (i : Nat) (o : Oper), ops[i]? = some o → dstOK s.n o.dst = true)
    (hop : ∀ (i : Nat) (o : Oper) (e : Ef), ops.toList[i]? = some o → es[i]? = some e → OpAt P ops.toList (dep (zipE 0 ops.toList es) cl s i) o e)
    {F : Nat → Prop} {β : Nat → Option Nat} {a : Act} {w : World} (hr : Rel F β s a w) {QQ : Exit → Act → World → Prop}
    (hQ : ∀ β' a' w', Rel F β' (foldP (fun _ => true) (zipE 0 ops.toList es) s) a' w' → Evo s.st β w.drew (foldP (fun _ => true) (zipE 0 ops.toList es) s).st β' w' → QQ .normal a' w') :
    wpAny P .any ops QQ ops.size (Array.replicate ops.size false) a w.drew := by
  have hr' : Rel F β s a w.drew := hr.drew
  refine draw_main (s₀ := s) (F := F) (β₀ := β) (w₀ := w.drew) hlen hcl hap hd hop (fun s' β' a' w' hr'' hev hs => ?_) ops.size (Array.replicate ops.size false) s β a w.drew (by simp) (fun i o _ h => by rw [rep_false] at h; cases h) ?_ hr' (Evo.refl _ _ _) rfl ?_ ?_
  · subst hs
    exact hQ β' a' w' hr'' hev
  · unfold unrun
    exact Nat.le_trans (List.length_filter_le _ _) (by simp)
  · have hfold : ∀ (l : List (Nat × Option Tmp × Ef)) (s : St), foldP (fun n => (Array.replicate ops.size false).getD n false) l s = s := by
      intro l
      induction l with
      | nil => intro s; rfl
      | cons x l ih => intro s; rw [foldP, rep_false, if_neg (by simp)]; exact ih s
    intro t; rw [hfold]
  · have hfold : ∀ (l : List (Nat × Option Tmp × Ef)) (s : St), foldP (fun n => (Array.replicate ops.size false).getD n false) l s = s := by
      intro l
      induction l with
      | nil => intro s; rfl
      | cons x l ih => intro s; rw [foldP, rep_false, if_neg (by simp)]; exact ih s
    intro id; rw [hfold]


end Go.Tv

end
section
namespace Go.Tv

variable {P : Program}

/-! ### Regions in the order of the text, by lists -/

def RL (P : Program) (all : List Oper) : List Oper → St → (St → Prop) → Prop
  | [], s, K => K s
  | o :: l, s, K =>
      (o.guard = none ∧ ∃ e, Eff P o s e ∧ RL P all l (s.app o.dst e) K) ∨
      (∃ j want og d b, o.guard = some (j, want) ∧ all[j]? = some og ∧ og.dst = some d ∧ fget s.fr d = .t (.bool b) ∧
          (b = want → ∃ e, Eff P o s e ∧ RL P all l (s.app o.dst e) K) ∧
          (b ≠ want → RL P all l (s.app o.dst ⟨.junk, []⟩) K))

section
variable {all l : List Oper} {o : Oper} {n : Nat} {fr : Fra} {st : Sto} {K : St → Prop}

theorem RL.op {v : AV} {d : Tmp} (hg : o.guard = none) (hd : o.dst = some d) (he : Eff P o ⟨n, fr, st⟩ ⟨v, []⟩) (h : RL P all l ⟨n, (d, v) :: fr, st⟩ K) : RL P all (o :: l) ⟨n, fr, st⟩ K :=
  .inl ⟨hg, _, he, by rw [hd]; exact h⟩

theorem RL.new {v : AV} {d : Tmp} {id : Nat} {ob : Ob} (hg : o.guard = none) (hd : o.dst = some d) (he : Eff P o ⟨n, fr, st⟩ ⟨v, [(id, ob)]⟩) (h : RL P all l ⟨n, (d, v) :: fr, (id, some ob) :: st⟩ K) : RL P all (o :: l) ⟨n, fr, st⟩ K :=
  .inl ⟨hg, _, he, by rw [hd]; exact h⟩

theorem RL.store {v : AV} {id : Nat} {ob : Ob} (hg : o.guard = none) (hd : o.dst = none) (he : Eff P o ⟨n, fr, st⟩ ⟨v, [(id, ob)]⟩) (h : RL P all l ⟨n, fr, (id, some ob) :: st⟩ K) : RL P all (o :: l) ⟨n, fr, st⟩ K :=
  .inl ⟨hg, _, he, by rw [hd]; exact h⟩

/-- A guarded operation: the guard is known. -/
theorem RL.gop {v : AV} {d gd : Tmp} {j : Nat} {want b : Bool} {og : Oper} (hg : o.guard = some (j, want)) (hd : o.dst = some d) (hj : all[j]? = some og) (hgd : og.dst = some gd) (hb : fget fr gd = .t (.bool b)) (hbw : b = want)
    (he : Eff P o ⟨n, fr, st⟩ ⟨v, []⟩) (h : RL P all l ⟨n, (d, v) :: fr, st⟩ K) : RL P all (o :: l) ⟨n, fr, st⟩ K :=
  .inr ⟨j, want, og, gd, b, hg, hj, hgd, hb, fun _ => ⟨_, he, by rw [hd]; exact h⟩, fun hn => absurd hbw hn⟩

theorem RL.gnew {v : AV} {d gd : Tmp} {j id : Nat} {ob : Ob} {want b : Bool} {og : Oper} (hg : o.guard = some (j, want)) (hd : o.dst = some d) (hj : all[j]? = some og) (hgd : og.dst = some gd) (hb : fget fr gd = .t (.bool b)) (hbw : b = want)
    (he : Eff P o ⟨n, fr, st⟩ ⟨v, [(id, ob)]⟩) (h : RL P all l ⟨n, (d, v) :: fr, (id, some ob) :: st⟩ K) : RL P all (o :: l) ⟨n, fr, st⟩ K :=
  .inr ⟨j, want, og, gd, b, hg, hj, hgd, hb, fun _ => ⟨_, he, by rw [hd]; exact h⟩, fun hn => absurd hbw hn⟩

theorem RL.gskip {d gd : Tmp} {j : Nat} {want b : Bool} {og : Oper} (hg : o.guard = some (j, want)) (hd : o.dst = some d) (hj : all[j]? = some og) (hgd : og.dst = some gd) (hb : fget fr gd = .t (.bool b)) (hbw : b ≠ want)
    (h : RL P all l ⟨n, (d, .junk) :: fr, st⟩ K) : RL P all (o :: l) ⟨n, fr, st⟩ K :=
  .inr ⟨j, want, og, gd, b, hg, hj, hgd, hb, fun hn => absurd hn hbw, fun _ => by rw [hd]; exact h⟩
end

/-! ### Regions that draw -/

def DOps (P : Program) (all : List Oper) (L : List (Nat × Option Tmp × Ef)) (cl : List (List Nat)) (s : St) : Nat → List Oper → List Ef → Prop
  | _, [], [] => True
  | i, o :: os, e :: es => OpAt P all (dep L cl s i) o e ∧ DOps P all L cl s (i + 1) os es
  | _, _, _ => False

theorem DOps.get {all : List Oper} {L : List (Nat × Option Tmp × Ef)} {cl : List (List Nat)} {s : St} : ∀ (os : List Oper) (es : List Ef) (i : Nat), DOps P all L cl s i os es →
    ∀ (j : Nat) (o : Oper) (e : Ef), os[j]? = some o → es[j]? = some e → OpAt P all (dep L cl s (i + j)) o e
  | [], _, _, _, j, o, e, h, _ => by simp at h
  | _ :: _, [], _, h, j, o, e, _, h' => by simp at h'
  | o' :: os, e' :: es, i, h, j, o, e, ho, he => by
    cases j with
    | zero => simp at ho he; subst ho; subst he; exact h.1
    | succ j =>
      have := DOps.get os es (i + 1) h.2 j o e (by simpa using ho) (by simpa using he)
      rw [show i + 1 + j = i + (j + 1) from by omega] at this
      exact this

def appL : St → List Oper → List Ef → St
  | s, o :: os, e :: es => appL (s.app o.dst e) os es
  | s, _, _ => s

theorem foldP_appL : ∀ (os : List Oper) (es : List Ef) (i : Nat) (s : St), foldP (fun _ => true) (zipE i os es) s = appL s os es
  | [], es, i, s => by cases es <;> rfl
  | _ :: _, [], i, s => rfl
  | o :: os, e :: es, i, s => by rw [zipE, foldP, if_pos rfl, foldP_appL os es (i + 1)]; rfl

/-! ### Joining: what is behind a piece of code, told once -/

theorem awp_seq_mid {x y : Code} {s : St} {Q : Exit → St → Prop} (Mid : St → Prop) (h : AWP P x s (thenA Mid Q)) (h2 : ∀ s', Mid s' → AWP P y s' Q) : AWP P (.seq x y) s Q :=
  awp_seq (h.mono fun e s' hq => by
    cases e with
    | normal => exact h2 s' hq
    | exit id => exact hq
    | goto l => exact hq
    | ret => exact hq
    | panic c => exact hq
    | outgrown => exact hq)

/-! ### Weaker states, by lists -/

/-- Each slot of the new frame is one of the old, weaker. -/
def WaF (σf σ' : Sto) (fr : Fra) : Fra → Prop
  | [] => True
  | x :: l => Wa σf σ' (fget fr x.1) x.2 ∧ WaF σf σ' fr l

theorem WaF.get {σf σ' : Sto} {fr : Fra} : ∀ (l : Fra), WaF σf σ' fr l → ∀ i, Wa σf σ' (fget fr i) (fget l i)
  | [], _, i => .junk _
  | x :: l, h, i => by
    rw [show x :: l = fput l x.1 x.2 from rfl, fget_fput]
    by_cases e : i = x.1
    · rw [if_pos e, e]; exact h.1
    · rw [if_neg e]; exact WaF.get l h.2 i

/-- The objects that stay. -/
def WaS (σ σf σ' : Sto) : Sto → Prop
  | [] => True
  | (id, none) :: l => WaS σ σf σ' l
  | (id, some ob') :: l => (sget σf id = none ∧ ∃ ob, sget σ id = some ob ∧ ob'.k = ob.k ∧ ob'.ty = ob.ty ∧ ob'.gen = ob.gen ∧ ob'.els.length = ob.els.length ∧
    ∀ (i : Nat) x y, ob.els[i]? = some x → ob'.els[i]? = some y → y.noTup = true ∧ y.cells.length = x.cells.length ∧ ∀ (j : Nat) c d, x.cells[j]? = some c → y.cells[j]? = some d → d.one = true ∧ Wa σf σ' c d) ∧ WaS σ σf σ' l

theorem WaS.get {σ σf σ' : Sto} : ∀ (l : Sto), WaS σ σf σ' l → ∀ id ob', sget l id = some ob' → sget σf id = none ∧ ∃ ob, sget σ id = some ob ∧ ob'.k = ob.k ∧ ob'.ty = ob.ty ∧ ob'.gen = ob.gen ∧ ob'.els.length = ob.els.length ∧
    ∀ (i : Nat) x y, ob.els[i]? = some x → ob'.els[i]? = some y → y.noTup = true ∧ y.cells.length = x.cells.length ∧ ∀ (j : Nat) c d, x.cells[j]? = some c → y.cells[j]? = some d → d.one = true ∧ Wa σf σ' c d
  | [], _, id, ob', h => by simp [sget] at h
  | (n, none) :: l, h, id, ob', hs => by
    rw [show (n, none) :: l = sput l n none from rfl, sget_sput] at hs
    split at hs
    · cases hs
    · exact WaS.get l h id ob' hs
  | (n, some o) :: l, h, id, ob', hs => by
    rw [show (n, some o) :: l = sput l n (some o) from rfl, sget_sput] at hs
    split at hs
    · rename_i e; cases hs; subst e; exact h.1
    · exact WaS.get l h.2 id ob' hs

end Go.Tv

end
section
namespace Go.Tv

variable {P : Program}

theorem Weak.refl (s : St) : Weak s s := fun _ β _ _ h => ⟨β, h, fun _ h => h⟩

theorem Weak.trans {s s1 s2 : St} (h : Weak s s1) (k : Weak s1 s2) : Weak s s2 := fun F β a w hr => by
  obtain ⟨β1, h1, o1⟩ := h F β a w hr
  obtain ⟨β2, h2, o2⟩ := k F β1 a w h1
  exact ⟨β2, h2, fun b hb => o1 b (o2 b hb)⟩

/-- An operation of which more than one effect is possible. -/
def EffS (P : Program) (o : Oper) (D : St) (S : Ef → Prop) : Prop :=
  ∀ s, Le D s → (∀ e, S e → ∀ id ob, (id, ob) ∈ e.ups → sget D.st id = none → sget s.st id = none) → ∀ F β a w, Rel F β s a w →
    ∀ (next : Act → World → Prop) (Q : Exit → Act → World → Prop),
      (∀ e, S e → ∀ β' a' w', Rel F β' (s.app o.dst e) a' w' → Evo s.st β w (s.app o.dst e).st β' w' → next a' w') → o.wp P a w next Q

/-- Operations in the order of the text; before each one the state may be weakened. -/
def RW (P : Program) (all : List Oper) : List Oper → St → (St → Prop) → Prop
  | [], s, K => ∃ s', Weak s s' ∧ K s'
  | o :: l, s, K => ∃ s', Weak s s' ∧ s'.n = s.n ∧
      ((o.guard = none ∧ ∃ e, Eff P o s' e ∧ RW P all l (s'.app o.dst e) K) ∨
      (∃ j want og d b, o.guard = some (j, want) ∧ all[j]? = some og ∧ og.dst = some d ∧ fget s'.fr d = .t (.bool b) ∧
          (b = want → ∃ e, Eff P o s' e ∧ RW P all l (s'.app o.dst e) K) ∧
          (b ≠ want → RW P all l (s'.app o.dst ⟨.tup [], []⟩) K)) ∨
      (o.guard = none ∧ ∃ S, EffS P o s' S ∧ ∀ e, S e → RW P all l (s'.app o.dst e) K) ∨
      (∃ j want og d, o.guard = some (j, want) ∧ all[j]? = some og ∧ og.dst = some d ∧ fget s'.fr d = .tup [] ∧ RW P all l (s'.app o.dst ⟨.tup [], []⟩) K))

theorem evo_weak {s s' : St} {β β' : Nat → Option Nat} {w w' : World} {σ2 : Sto} {β2 : Nat → Option Nat} (ho : ∀ b, Owned β' s'.st b → Owned β s.st b)
    (h : Evo s'.st β' w σ2 β2 w') : Evo s.st β w σ2 β2 w' :=
  ⟨h.os, h.tape, h.output, h.size, fun b hb hn => h.keep b hb (fun h => hn (ho b h)), fun b hb => (h.own b hb).imp id (ho b), h.shp⟩

theorem putUndef {F : Nat → Prop} {β : Nat → Option Nat} {s : St} {a : Act} {w : World} (h : Rel F β s a w) (d : Option Tmp) (hd : dstOK s.n d = true) : Rel F β (s.app d ⟨.tup [], []⟩) (a.put d undef) w where
  defers := by rw [(Act.put_tmps _ _ _).2]; exact h.defers
  size := by rw [(Act.put_tmps _ _ _).1]; exact h.size
  fr := put_fr h.size hd (.tup (cs := []) (vs := []) rfl (fun j c v hc => by simp at hc)) h.fr
  ob := h.ob
  inj := h.inj
  notF := h.notF
  ltF := h.ltF

theorem wpOps_of_rw {ops : Array Oper} (hall : ∀ (i : Nat) (o : Oper), ops[i]? = some o → True) : ∀ (l : List Oper) (i : Nat) (s : St) (K : St → Prop), (∀ j, l[j]? = ops.toList[i + j]?) →
    (∀ (i : Nat) (o : Oper), ops[i]? = some o → dstOK s.n o.dst = true) → RW P ops.toList l s K →
    ∀ F β a w (QQ : Exit → Act → World → Prop), Rel F β s a w →
      (∀ s' β' a' w', K s' → Rel F β' s' a' w' → Evo s.st β w s'.st β' w' → QQ .normal a' w') → wpOps P ops QQ (List.range' i l.length) a w
  | [], i, s, K, _, _, ⟨s1, hw, h⟩, F, β, a, w, QQ, hr, hq => by
    obtain ⟨β1, hr1, ho⟩ := hw F β a w hr
    exact hq s1 β1 a w h hr1 (evo_weak ho (Evo.refl _ _ _))
  | o :: l, i, s0, K, hl, hdst0, ⟨s, hw, hn0, h⟩, F, β0, a, w, QQ, hr0, hq0 => by
    obtain ⟨β, hr, hown⟩ := hw F β0 a w hr0
    have hdst : ∀ (i : Nat) (o : Oper), ops[i]? = some o → dstOK s.n o.dst = true := by rw [hn0]; exact hdst0
    have hq : ∀ s' β' a' w', K s' → Rel F β' s' a' w' → Evo s.st β w s'.st β' w' → QQ .normal a' w' := fun s' β' a' w' hk hr' he => hq0 s' β' a' w' hk hr' (evo_weak hown he)
    have ho : ops[i]? = some o := by have := hl 0; rw [Array.getElem?_toList] at this; simpa using this.symm
    have hl' : ∀ j, l[j]? = ops.toList[i + 1 + j]? := fun j => by have := hl (j + 1); rw [show i + 1 + j = i + (j + 1) from by omega]; simpa using this
    rw [List.length_cons, List.range'_succ]
    simp only [wpOps, ho]
    have hn : ∀ (d : Option Tmp) (e : Ef), (s.app d e).n = s.n := fun _ _ => rfl
    have step : ∀ e, Eff P o s e → RW P ops.toList l (s.app o.dst e) K → o.wp P a w (wpOps P ops QQ (List.range' (i + 1) l.length)) QQ := fun e he hrest =>
      he s (Le.refl s) (fun _ _ _ h => h) F β a w hr _ _ (fun β' a' w' hr' hev =>
        wpOps_of_rw hall l (i + 1) (s.app o.dst e) K hl' (by simpa [hn] using hdst) hrest F β' a' w' QQ hr' (fun s'' β'' a'' w'' hk hr'' hev' => hq s'' β'' a'' w'' hk hr'' (hev.trans hev')))
    have skip : RW P ops.toList l (s.app o.dst ⟨.tup [], []⟩) K → wpOps P ops QQ (List.range' (i + 1) l.length) (a.put o.dst undef) w := fun hrest =>
      wpOps_of_rw hall l (i + 1) (s.app o.dst ⟨.tup [], []⟩) K hl' (by simpa [hn] using hdst) hrest F β _ w QQ (putUndef hr _ (hdst i o ho)) (fun s'' β'' a'' w'' hk hr'' hev' => hq s'' β'' a'' w'' hk hr'' hev')
    rcases h with ⟨hg, e, he, hrest⟩ | ⟨j, want, og, d, b, hg, hj, hd, hb, hyes, hno⟩ | ⟨hg, S, hS, hrest⟩ | ⟨j, want, og, d, hg, hj, hd, hb, hrest⟩
    rotate_left 3
    · rw [Array.getElem?_toList] at hj
      have hval : a.tmps.getD d undef = undef := by
        have hv := hr.fr d
        rw [hb] at hv
        rcases Nat.lt_or_ge d a.tmps.size with hlt | hge
        · rw [vAt_lt hlt] at hv
          generalize a.tmps.getD d undef = x at hv
          cases hv with
          | @tup _ vs hl' hva =>
            have : vs = [] := List.length_eq_zero_iff.1 hl'
            subst this; rfl
        · rw [Array.getD_eq_getD_getElem?, Array.getElem?_eq_none hge]; rfl
      have hyd : yielded ops a.tmps j = none := by
        unfold yielded
        simp only [hj, Option.bind_some, hd]
        cases hx : a.tmps[d]? with
        | none => rfl
        | some x =>
          have : x = undef := by
            have hlt : d < a.tmps.size := by
              rcases Nat.lt_or_ge d a.tmps.size with h' | h'
              · exact h'
              · rw [Array.getElem?_eq_none h'] at hx; cases hx
            rw [Array.getElem?_eq_getElem hlt] at hx
            cases hx
            simpa [hlt] using hval
          rw [this]; rfl
      have hw : Region.wanted o (yielded ops a.tmps) = false := by
        unfold Region.wanted
        rw [hg]
        simp only [hyd]
        rfl
      rw [hw, if_neg (by decide)]
      exact skip hrest
    rotate_left 2
    · rw [if_pos (wanted_none _ hg)]
      exact .inl (hS s (Le.refl s) (fun _ _ _ _ _ h => h) F β a w hr _ _ (fun e he β' a' w' hr' hev =>
        wpOps_of_rw hall l (i + 1) (s.app o.dst e) K hl' (by simpa [hn] using hdst) (hrest e he) F β' a' w' QQ hr' (fun s'' β'' a'' w'' hk hr'' hev' => hq s'' β'' a'' w'' hk hr'' (hev.trans hev'))))
    · rw [if_pos (wanted_none _ hg)]
      exact .inl (step e he hrest)
    · rw [Array.getElem?_toList] at hj
      have hval : a.tmps[d]? = some (.bool b) := by
        have hv := hr.fr d
        rw [hb] at hv
        have hdn : d < a.tmps.size := by have := hdst j og hj; rw [hd] at this; rw [hr.size]; simpa [dstOK] using this
        rw [vAt_lt hdn] at hv
        cases hv with
        | t hv =>
          generalize hx : a.tmps.getD d undef = x at hv
          cases hv
          simpa [Array.getElem?_eq_getElem hdn, hdn] using hx
      have hyd : yielded ops a.tmps j = some b := by
        unfold yielded
        simp only [hj, Option.bind_some, hd, hval]
      have hw : Region.wanted o (yielded ops a.tmps) = (b == want) := by
        unfold Region.wanted
        rw [hg]
        simp only [hyd]
        cases b <;> cases want <;> rfl
      rw [hw]
      by_cases hbw : b = want
      · rw [if_pos (by simpa using hbw)]
        obtain ⟨e, he, hrest⟩ := hyes hbw
        exact .inl (step e he hrest)
      · rw [if_neg (by simpa using hbw)]
        exact skip (hno hbw)

theorem awp_rw {s : St} {Q : Exit → St → Prop} {id : Nat} {ops : Array Oper} (hd : (ops.toList.all fun o => dstOK s.n o.dst) = true) (h : RW P ops.toList ops.toList s (Q .normal)) :
    AWP P (.region id ops false) s Q := by
  intro F β a w hr
  have hdd : ∀ (i : Nat) (o : Oper), ops[i]? = some o → dstOK s.n o.dst = true := fun i o ho => List.all_eq_true.1 hd o (List.mem_of_getElem? (by rw [Array.getElem?_toList]; exact ho))
  have := wpOps_of_rw (P := P) (ops := ops) (fun _ _ _ => trivial) ops.toList 0 s _ (fun j => by rw [Nat.zero_add]) hdd h F β a w
    (fun e a' w' => ∃ s' β', Q e s' ∧ Rel F β' s' a' w' ∧ Evo s.st β w s'.st β' w') hr (fun s' β' a' w' hk hr' hev => ⟨s', β', hk, hr', hev⟩)
  refine wp_region ?_
  rw [List.range_eq_range']
  simpa using this

section
variable {all l : List Oper} {o : Oper} {n : Nat} {fr : Fra} {st : Sto} {K : St → Prop}

theorem RW.nil {s : St} (h : K s) : RW P all [] s K := ⟨s, Weak.refl s, h⟩

theorem RW.op {v : AV} {d : Tmp} (hg : o.guard = none) (hd : o.dst = some d) (he : Eff P o ⟨n, fr, st⟩ ⟨v, []⟩) (h : RW P all l ⟨n, (d, v) :: fr, st⟩ K) : RW P all (o :: l) ⟨n, fr, st⟩ K :=
  ⟨_, Weak.refl _, rfl, .inl ⟨hg, _, he, by rw [hd]; exact h⟩⟩

theorem RW.new {v : AV} {d : Tmp} {id : Nat} {ob : Ob} (hg : o.guard = none) (hd : o.dst = some d) (he : Eff P o ⟨n, fr, st⟩ ⟨v, [(id, ob)]⟩) (h : RW P all l ⟨n, (d, v) :: fr, (id, some ob) :: st⟩ K) : RW P all (o :: l) ⟨n, fr, st⟩ K :=
  ⟨_, Weak.refl _, rfl, .inl ⟨hg, _, he, by rw [hd]; exact h⟩⟩

theorem RW.store {v : AV} {id : Nat} {ob : Ob} (hg : o.guard = none) (hd : o.dst = none) (he : Eff P o ⟨n, fr, st⟩ ⟨v, [(id, ob)]⟩) (h : RW P all l ⟨n, fr, (id, some ob) :: st⟩ K) : RW P all (o :: l) ⟨n, fr, st⟩ K :=
  ⟨_, Weak.refl _, rfl, .inl ⟨hg, _, he, by rw [hd]; exact h⟩⟩

/-- A guarded operation: the guard is known. -/
theorem RW.gop {v : AV} {d gd : Tmp} {j : Nat} {want b : Bool} {og : Oper} (hg : o.guard = some (j, want)) (hd : o.dst = some d) (hj : all[j]? = some og) (hgd : og.dst = some gd) (hb : fget fr gd = .t (.bool b)) (hbw : b = want)
    (he : Eff P o ⟨n, fr, st⟩ ⟨v, []⟩) (h : RW P all l ⟨n, (d, v) :: fr, st⟩ K) : RW P all (o :: l) ⟨n, fr, st⟩ K :=
  ⟨_, Weak.refl _, rfl, .inr (.inl ⟨j, want, og, gd, b, hg, hj, hgd, hb, fun _ => ⟨_, he, by rw [hd]; exact h⟩, fun hn => absurd hbw hn⟩)⟩

theorem RW.gnew {v : AV} {d gd : Tmp} {j id : Nat} {ob : Ob} {want b : Bool} {og : Oper} (hg : o.guard = some (j, want)) (hd : o.dst = some d) (hj : all[j]? = some og) (hgd : og.dst = some gd) (hb : fget fr gd = .t (.bool b)) (hbw : b = want)
    (he : Eff P o ⟨n, fr, st⟩ ⟨v, [(id, ob)]⟩) (h : RW P all l ⟨n, (d, v) :: fr, (id, some ob) :: st⟩ K) : RW P all (o :: l) ⟨n, fr, st⟩ K :=
  ⟨_, Weak.refl _, rfl, .inr (.inl ⟨j, want, og, gd, b, hg, hj, hgd, hb, fun _ => ⟨_, he, by rw [hd]; exact h⟩, fun hn => absurd hbw hn⟩)⟩

theorem RW.gskip {d gd : Tmp} {j : Nat} {want b : Bool} {og : Oper} (hg : o.guard = some (j, want)) (hd : o.dst = some d) (hj : all[j]? = some og) (hgd : og.dst = some gd) (hb : fget fr gd = .t (.bool b)) (hbw : b ≠ want)
    (h : RW P all l ⟨n, (d, .tup []) :: fr, st⟩ K) : RW P all (o :: l) ⟨n, fr, st⟩ K :=
  ⟨_, Weak.refl _, rfl, .inr (.inl ⟨j, want, og, gd, b, hg, hj, hgd, hb, fun hn => absurd hn hbw, fun _ => by rw [hd]; exact h⟩)⟩

theorem RW.weak {s s' : St} (hw : Weak s s') (hn : s'.n = s.n) (h : RW P all l s' K) : RW P all l s K := by
  cases l with
  | nil => obtain ⟨s1, h1, h2⟩ := h; exact ⟨s1, hw.trans h1, h2⟩
  | cons o l => obtain ⟨s1, h1, h2, h3⟩ := h; exact ⟨s1, hw.trans h1, h2.trans hn, h3⟩
end

/-! ### Keeping a part of the state -/

def okA1 (σ : Sto) : AV → Bool
  | .t _ => true
  | .own id .. => (sget σ id).isSome
  | .ptr id .. => (sget σ id).isSome
  | .junk => true
  | _ => false

def okA (σ : Sto) : AV → Bool
  | .agg cs => cs.all (okA1 σ) && (allT cs).isNone
  | .fn _ cs => cs.all (okA1 σ)
  | x => okA1 σ x

def okE (σ : Sto) (els : List AV) : Prop := ∀ x, x ∈ els → okA σ x = true

theorem okE_one {σ : Sto} {x : AV} (h : okA σ x = true) : okE σ [x] := fun y hy => by simp at hy; subst hy; exact h
theorem okE_t {σ : Sto} {xs : List Tr} : okE σ (xs.map .t) := fun y hy => by
  simp only [List.mem_map] at hy
  obtain ⟨x, _, rfl⟩ := hy; rfl
theorem okE_nil {σ : Sto} : okE σ [] := fun y hy => by simp at hy
theorem wa_okA1 {σ : Sto} {x : AV} (h : okA1 σ x = true) : Wa [] σ x x := by
  cases x with
  | t x => exact .t x
  | own id g off len =>
    obtain ⟨ob, ho⟩ := Option.isSome_iff_exists.1 (show (sget σ id).isSome = true from h)
    exact .own id g off len ho
  | ptr id g i j =>
    obtain ⟨ob, ho⟩ := Option.isSome_iff_exists.1 (show (sget σ id).isSome = true from h)
    exact .ptr id g i j ho
  | junk => exact .junk _
  | _ => simp [okA1] at h

theorem wa_okA {σ : Sto} {x : AV} (h : okA σ x = true) (h1 : ∀ cs, x = .agg cs → ∀ y, y ∈ cs → y.one = true) : Wa [] σ x x := by
  cases x with
  | agg cs =>
    simp only [okA, Bool.and_eq_true] at h
    have e : mkAgg cs = .agg cs := by unfold mkAgg; rw [Option.isNone_iff_eq_none.1 h.2]
    have := Wa.agg (σf := []) (σ' := σ) (cs := cs) (ds := cs) rfl (fun i x y hx hy => by
      rw [hx] at hy; cases hy
      exact wa_okA1 (List.all_eq_true.1 h.1 x (List.mem_of_getElem? hx))) (h1 cs rfl)
    rwa [e] at this
  | fn f cs =>
    exact .fn rfl (fun i x y hx hy => by
      rw [hx] at hy; cases hy
      exact wa_okA1 (List.all_eq_true.1 (show cs.all (okA1 σ) = true from h) x (List.mem_of_getElem? hx)))
  | tup cs => simp [okA, okA1] at h
  | t x => exact wa_okA1 h
  | own id g off len => exact wa_okA1 h
  | ptr id g i j => exact wa_okA1 h
  | junk => exact wa_okA1 h

/-- Slots that are kept. -/
def KeF (σ' : Sto) (fr : Fra) : Fra → Prop
  | [] => True
  | x :: l => fget fr x.1 = x.2 ∧ okA σ' x.2 = true ∧ KeF σ' fr l

/-- Objects that are kept. -/
def KeS (σ σ' : Sto) : Sto → Prop
  | [] => True
  | (_, none) :: l => KeS σ σ' l
  | (id, some ob) :: l => sget σ id = some ob ∧ okE σ' ob.els ∧ KeS σ σ' l

theorem KeF.get {σ' : Sto} {fr : Fra} : ∀ (l : Fra), KeF σ' fr l → ∀ i, fget l i = .junk ∨ (fget fr i = fget l i ∧ okA σ' (fget l i) = true)
  | [], _, i => .inl rfl
  | x :: l, h, i => by
    rw [show x :: l = fput l x.1 x.2 from rfl, fget_fput]
    by_cases e : i = x.1
    · rw [if_pos e, e]; exact .inr ⟨h.1, h.2.1⟩
    · rw [if_neg e]; exact KeF.get l h.2.2 i

theorem KeS.get {σ σ' : Sto} : ∀ (l : Sto), KeS σ σ' l → ∀ id ob, sget l id = some ob → sget σ id = some ob ∧ okE σ' ob.els
  | [], _, id, ob, h => by simp [sget] at h
  | (n, none) :: l, h, id, ob, hs => by
    rw [show (n, none) :: l = sput l n none from rfl, sget_sput] at hs
    split at hs
    · cases hs
    · exact KeS.get l h id ob hs
  | (n, some o) :: l, h, id, ob, hs => by
    rw [show (n, some o) :: l = sput l n (some o) from rfl, sget_sput] at hs
    split at hs
    · rename_i e; cases hs; subst e; exact ⟨h.1, h.2.1⟩
    · exact KeS.get l h.2.2 id ob hs

theorem VA.aggOne {w : World} {H : Nat → Prop} {β : Nat → Option Nat} {σ : Sto} {cs : List AV} {v : Value} (h : VA w H β σ (.agg cs) v) : ∀ y, y ∈ cs → y.one = true := by
  cases h with
  | agg hl h1 hv => intro y hy; obtain ⟨j, hj⟩ := List.getElem?_of_mem hy; exact h1 j y hj

theorem weak_keep {n : Nat} {fr fr' : Fra} {st st' : Sto} (hf : KeF st' fr fr') (hs : KeS st st' st') : Weak ⟨n, fr, st⟩ ⟨n, fr', st'⟩ := by
  intro F β a w hr
  refine Weak.of (s := ⟨n, fr, st⟩) (s' := ⟨n, fr', st'⟩) (σf := []) ⟨rfl, fun id ob h => by simp [sget] at h, fun i => ?_, fun id ob hob => ?_⟩ F β a w hr
  · rcases hf.get _ i with h | ⟨h1, h2⟩
    · show Wa [] st' (fget fr i) (fget fr' i)
      rw [h]; exact .junk _
    · show Wa [] st' (fget fr i) (fget fr' i)
      rw [h1]
      refine wa_okA h2 (fun cs hcs => ?_)
      have := hr.fr i
      rw [show fget (St.mk n fr st).fr i = fget fr i from rfl, h1, hcs] at this
      exact this.aggOne
  · obtain ⟨h1, h2⟩ := hs.get _ id ob hob
    refine ⟨rfl, ob, h1, rfl, rfl, rfl, rfl, fun i x y hx hy => ?_⟩
    rw [hx] at hy; cases hy
    rcases hr.ob id ob h1 with ⟨_, h0⟩ | ⟨b, c, g1, g2, g3, g4, g5⟩
    · rw [h0] at hx; simp at hx
    · refine ⟨(g4 i x hx).1, rfl, fun j c' d hc hd => ?_⟩
      rw [hc] at hd; cases hd
      obtain ⟨q1, _⟩ := g5 i x j c' hx hc
      refine ⟨q1, ?_⟩
      have hx2 := h2 x (List.mem_of_getElem? hx)
      have hmem := List.mem_of_getElem? hc
      cases x with
      | t x =>
        simp only [AV.cells, List.mem_map] at hmem
        obtain ⟨y, _, rfl⟩ := hmem
        exact .t y
      | agg cs =>
        simp only [okA, Bool.and_eq_true] at hx2
        exact wa_okA1 (List.all_eq_true.1 hx2.1 c' hmem)
      | _ =>
        simp only [AV.cells, List.mem_singleton] at hmem
        subst hmem
        refine wa_okA hx2 (fun cs hcs => ?_)
        cases hcs

/-! ### Loops -/

theorem awp_loopW {c : Code} {s : St} {Q : Exit → St → Prop} (I : Nat → St → Prop) (n₀ : Nat) (h₀ : ∃ s1, Weak s s1 ∧ I n₀ s1)
    (round : ∀ n s, I n s → AWP P c s (thenA (fun s' => ∃ m, m < n ∧ ∃ s1, Weak s' s1 ∧ I m s1) Q)) : AWP P (.loop c) s Q := by
  refine awp_loop (fun n s => ∃ s1, Weak s s1 ∧ I n s1) n₀ h₀ ?_
  rintro n s ⟨s1, hw, hI⟩
  exact awp_weak hw (round n s1 hI)

/-! ### Integers -/

theorem wrap64 {n : Int} (h : -9223372036854775808 ≤ n) (h2 : n ≤ 9223372036854775807) : IntKind.i64.wrap n = n := by
  have h : ∀ k : IntKind, k = .i64 → k.wrap n = n := fun k hk => by
    subst hk
    show (if (true && decide (n % 2 ^ 64 ≥ 2 ^ (64 - 1))) = true then n % 2 ^ 64 - 2 ^ 64 else n % 2 ^ 64) = n
    by_cases hc : n % 2 ^ 64 ≥ 2 ^ (64 - 1)
    · rw [if_pos (by simpa using hc)]; omega
    · rw [if_neg (by simpa using hc)]; omega
  exact h _ rfl

theorem iadd {a b : Int} (h : -9223372036854775808 ≤ a + b ∧ a + b ≤ 9223372036854775807) : iop .add .i64 a b = some (.int .i64 (a + b)) := by
  simp only [iop, wrap64 h.1 h.2]
theorem isub {a b : Int} (h : -9223372036854775808 ≤ a - b ∧ a - b ≤ 9223372036854775807) : iop .sub .i64 a b = some (.int .i64 (a - b)) := by
  simp only [iop, wrap64 h.1 h.2]
/-! ### Operations at mapped lists -/

section
variable {o : Oper} {D : St}

theorem eff_lenM {α : Type} {t : TypeId} {x : Operand} {e : TypeId} {k : Nat} {ag fl : Bool} {g : α → Tr} {xs : List α} (hd : dstOK D.n o.dst = true)
    (ho : o.op = .call { callee := .builtin .len, args := #[x], argTypes := #[t] }) (ht : elemOf P t = some (e, k, ag)) (hx : D.ev x = .t (.sl (xs.map g) fl)) :
    Eff P o D ⟨.t (.int .i64 xs.length), []⟩ := by
  have := eff_lenT (P := P) hd ho ht hx
  rwa [List.length_map] at this

theorem eff_indexM {α : Type} {t e : TypeId} {x ix : Operand} {k : Nat} {ag fl : Bool} {ik : IntKind} {n : Int} {i : Nat} {g : α → Tr} {xs : List α} {y : α} (hd : dstOK D.n o.dst = true)
    (ho : o.op = .indexAddr t x ix) (ht : elemOf P t = some (e, k, ag)) (hx : D.ev x = .t (.sl (xs.map g) fl)) (hi : D.ev ix = .t (.int ik n)) (hn : n = (i : Int))
    (hy : xs[i]? = some y) (hk : (g y).cells.length = k) (hk0 : k ≠ 0) : Eff P o D ⟨.t (.ptr (g y).cells), []⟩ :=
  eff_indexAddrT hd ho ht hx hi hn (by rw [List.getElem?_map, hy]; rfl) hk hk0

/-- The load of a whole aggregate behind a pointer into frozen memory. -/
theorem eff_loadW {t : TypeId} {x : Operand} {k : Nat} {y : Tr} (hd : dstOK D.n o.dst = true) (ho : o.op = .load t x) (ht : tinf P t = some (k, true))
    (hx : D.ev x = .t (.ptr y.cells)) (ha : y.isAgg = true) (hk : y.cells.length = k) : Eff P o D ⟨.t y, []⟩ := by
  cases y with
  | agg cs => exact eff_loadT hd ho ht hx (by rw [← hk]; exact List.take_length) hk
  | _ => simp [Tr.isAgg] at ha

/-- The load of a whole scalar behind a pointer into frozen memory. -/
theorem eff_loadW1 {t : TypeId} {x : Operand} {k : Nat} {y : Tr} (hd : dstOK D.n o.dst = true) (ho : o.op = .load t x) (ht : tinf P t = some (k, false))
    (hx : D.ev x = .t (.ptr y.cells)) (ha : y.cells = [y]) : Eff P o D ⟨.t y, []⟩ :=
  eff_loadT1 hd ho ht hx (by rw [ha]; rfl)

/-- A call whose arguments are the contract's. -/
theorem eff_callT {f : FuncId} {x : Operand} {args : Array Operand} {ats : Array TypeId} {ys : List Tr} {r : Tr} (hret : Ret P f ys r) (hf : callOK P f = true) (hd : dstOK D.n o.dst = true)
    (ho : o.op = .call { callee := .value x, args := args, argTypes := ats }) (hx : D.ev x = .t (.fn f []))
    (hargs : args.toList.map D.ev = ys.map .t) : Eff P o D ⟨.t r, []⟩ :=
  eff_call hd ho hx hf hargs ⟨rfl, fun i x y hx hy => by rw [hx] at hy; cases hy; exact .refl _⟩ (by rw [List.append_nil]; exact hret)

def WkP : List Tr → List Tr → Prop
  | [], [] => True
  | x :: xs, y :: ys => Wk x y ∧ WkP xs ys
  | _, _ => False

theorem WkP.wkl : ∀ (xs ys : List Tr), WkP xs ys → WkL xs ys
  | [], [], _ => .nil
  | _ :: xs, _ :: ys, h => .cons h.1 (WkP.wkl xs ys h.2)
  | [], _ :: _, h => h.elim
  | _ :: _, [], h => h.elim

theorem Wk.aggP {xs ys : List Tr} (h : WkP xs ys) : Wk (.agg xs) (.agg ys) := .agg _ _ (WkP.wkl _ _ h).1 (WkP.wkl _ _ h).2
theorem Wk.tupP {xs ys : List Tr} (h : WkP xs ys) : Wk (.tup xs) (.tup ys) := .tup _ _ (WkP.wkl _ _ h).1 (WkP.wkl _ _ h).2

/-- A call whose arguments are weakened to the contract's. -/
theorem eff_callW {f : FuncId} {x : Operand} {args : Array Operand} {ats : Array TypeId} {xs ys : List Tr} {r : Tr} (hret : Ret P f ys r) (hf : callOK P f = true) (hd : dstOK D.n o.dst = true)
    (ho : o.op = .call { callee := .value x, args := args, argTypes := ats }) (hx : D.ev x = .t (.fn f []))
    (hargs : args.toList.map D.ev = xs.map .t) (hw : WkP xs ys) : Eff P o D ⟨.t r, []⟩ :=
  eff_call hd ho hx hf hargs (WkP.wkl _ _ hw) (by rw [List.append_nil]; exact hret)

theorem Res.ownT {σ : Sto} {id g len : Nat} {ob : Ob} {xs : List Tr} (hs : sget σ id = some ob) (hg : ob.gen = g) (he : ob.els = xs.map .t) (hl : len = xs.length) : Res σ (.own id g 0 len) (.sl xs false) :=
  .own id g 0 len ob xs hs hg (by rw [he, hl]; simp) hl.symm (fun i e x h1 h2 => by
    rw [he, Nat.zero_add, List.getElem?_map, h2] at h1
    cases h1; exact .t x)
end

end Go.Tv

end
